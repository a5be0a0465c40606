/-
  Walks: package dyad, round.go: Ratio.
  Walks: package dyad, round.go: Quo.
-/
import Derived.Test.YtgicceiimciafaaGreatDoorZwRa
import Derived.Test.YtgicceiimciafaaGreatDoorZwBh
namespace Go.Proofs.YtgicceiimciafaaGreatDoor
open Go.RowKit Sp
structure RatSt (m : Nat) (s t : Bool) (sl sl' : Value) (f f' : Int) (W : World) : Prop where
 a1 : W.cell? ⟨m, 1, none⟩ = some (.bool s)
 a2 : W.cell? ⟨m, 2, none⟩ = some sl
 a3 : W.cell? ⟨m, 3, none⟩ = some (.int .i64 f)
 b1 : W.cell? ⟨m + 1, 1, none⟩ = some (.bool t)
 b2 : W.cell? ⟨m + 1, 2, none⟩ = some sl'
 b3 : W.cell? ⟨m + 1, 3, none⟩ = some (.int .i64 f')
 r0 : W.cell? ⟨m + 1 + 1, 0, none⟩ = some (.bool false)
 r1 : W.cell? ⟨m + 1 + 1, 1, none⟩ = some (.bool false)
 r2 : W.cell? ⟨m + 1 + 1, 2, none⟩ = some (.slice none 0 0)
 r3 : W.cell? ⟨m + 1 + 1, 3, none⟩ = some (.int .i64 0)
 r4 : W.cell? ⟨m + 1 + 1, 4, none⟩ = some (.bool false)
 z : ∀ i, W.frozen? ⟨m + 1 + 1, i, none⟩ = false
theorem RatSt.below {m : Nat} {s t : Bool} {sl sl' : Value} {f f' : Int} {W W' : World} (h : RatSt m s t sl sl' f f' W) (hb : Below (m + 3) W W') : RatSt m s t sl sl' f f' W' := by
 obtain ⟨h1, h2⟩ := bcell hb
 exact ⟨(h1 _ _ (by omega)).trans h.a1, (h1 _ _ (by omega)).trans h.a2, (h1 _ _ (by omega)).trans h.a3, (h1 _ _ (by omega)).trans h.b1, (h1 _ _ (by omega)).trans h.b2, (h1 _ _ (by omega)).trans h.b3,
  (h1 _ _ (by omega)).trans h.r0, (h1 _ _ (by omega)).trans h.r1, (h1 _ _ (by omega)).trans h.r2, (h1 _ _ (by omega)).trans h.r3, (h1 _ _ (by omega)).trans h.r4, fun i => (h2 _ _ (by omega)).trans (h.z i)⟩
structure Big0 (W : World) (b : Nat) : Prop where
 c0 : W.cell? ⟨b, 0, none⟩ = some (.bool false)
 c1 : W.cell? ⟨b, 1, none⟩ = some (.slice none 0 0)
 z : ∀ i, W.frozen? ⟨b, i, none⟩ = false
 lt : b < W.heap.size
theorem Big0.below {W W' : World} {b : Nat} (h : Big0 W b) (hb : Below W.heap.size W W') : Big0 W' b := by
 obtain ⟨h1, h2⟩ := bcell hb
 exact ⟨(h1 _ _ h.lt).trans h.c0, (h1 _ _ h.lt).trans h.c1, fun i => (h2 _ _ h.lt).trans (h.z i), Nat.lt_of_lt_of_le h.lt hb.size⟩
theorem Big0.drew {W : World} {b : Nat} (h : Big0 W b) : Big0 W.drew b := ⟨h.c0, h.c1, h.z, h.lt⟩
theorem Big0.alloc {W : World} {b : Nat} (h : Big0 W b) (o : Obj) : Big0 (W.alloc o) b := h.below ((Below.refl _ _).alloc (Nat.le_refl _) _)
theorem Big0.made (W : World) (t : TypeId) (n : Nat) (hn : n = W.heap.size) : Big0 (W.alloc (.cells #[.bool false, .slice none 0 0] t)) n := by
 subst hn
 refine ⟨by rw [World.cell?_alloc_new]; rfl, by rw [World.cell?_alloc_new]; rfl, fun i => by simp [go_sem], by rw [World.size_alloc]; omega⟩
end Go.Proofs.YtgicceiimciafaaGreatDoor
