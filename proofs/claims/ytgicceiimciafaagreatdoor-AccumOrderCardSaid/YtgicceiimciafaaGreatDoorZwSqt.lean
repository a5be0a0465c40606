/-
  Walks: package dyad, round.go: Root, Sqrt.
-/
import Derived.Test.YtgicceiimciafaaGreatDoorZwBh
import Derived.Test.YtgicceiimciafaaGreatDoorZwRa
import Derived.Test.YtgicceiimciafaaGreatDoorZwBg
import Derived.Test.YtgicceiimciafaaGreatDoorZwBf
import Derived.Test.YtgicceiimciafaaGreatDoorZwRatQ
import Derived.Test.YtgicceiimciafaaGreatDoorZwBL
namespace Go.Proofs.YtgicceiimciafaaGreatDoor
open Go.RowKit Sp
structure ReV (W : World) (b : Nat) : Prop where
 c0 : W.cell? ⟨b, 0, none⟩ = some (.bool false)
 c1 : W.cell? ⟨b, 1, none⟩ = some (.bool false)
 c2 : W.cell? ⟨b, 2, none⟩ = some (.slice none 0 0)
 c3 : W.cell? ⟨b, 3, none⟩ = some (.int .i64 0)
 c4 : W.cell? ⟨b, 4, none⟩ = some (.bool false)
 z : ∀ i, W.frozen? ⟨b, i, none⟩ = false
 lt : b < W.heap.size
theorem ReV.below {W W' : World} {b : Nat} (h : ReV W b) (hb : Below W.heap.size W W') : ReV W' b := by
 obtain ⟨h1, h2⟩ := bcell hb
 exact ⟨(h1 _ _ h.lt).trans h.c0, (h1 _ _ h.lt).trans h.c1, (h1 _ _ h.lt).trans h.c2, (h1 _ _ h.lt).trans h.c3, (h1 _ _ h.lt).trans h.c4, fun i => (h2 _ _ h.lt).trans (h.z i), Nat.lt_of_lt_of_le h.lt hb.size⟩
theorem ReV.alloc {W : World} {b : Nat} (h : ReV W b) (o : Obj) : ReV (W.alloc o) b := h.below ((Below.refl _ _).alloc (Nat.le_refl _) _)
theorem ReV.made (W : World) (t : TypeId) {n : Nat} (hn : n = W.heap.size) : ReV (W.alloc (.cells #[.bool false, .bool false, .slice none 0 0, .int .i64 0, .bool false] t)) n := by
 subst hn
 refine ⟨by rw [World.cell?_alloc_new]; rfl, by rw [World.cell?_alloc_new]; rfl, by rw [World.cell?_alloc_new]; rfl, by rw [World.cell?_alloc_new]; rfl, by rw [World.cell?_alloc_new]; rfl, fun i => by simp [go_sem], by rw [World.size_alloc]; omega⟩
theorem ReV.drew {W : World} {b : Nat} (h : ReV W b) : ReV W.drew b := ⟨h.c0, h.c1, h.c2, h.c3, h.c4, h.z, h.lt⟩
theorem ReV.drewN {W : World} {b : Nat} (h : ReV W b) (q : Nat) : ReV (W.drewN q) b := ⟨h.c0, h.c1, h.c2, h.c3, h.c4, h.z, h.lt⟩
end Go.Proofs.YtgicceiimciafaaGreatDoor
