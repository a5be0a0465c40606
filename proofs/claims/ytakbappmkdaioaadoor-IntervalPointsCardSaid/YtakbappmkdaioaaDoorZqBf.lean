/-
  Walks: the reference's package sparseref01: trim, make1, Norm, Abs, Neg.
  Walks: the reference's package sparseref01: shl, shr, Shift.
  Walks: the reference's Shift (to the left; to the right, a number that is not negative), sparseref02.down.
  Variables in memory: one that holds a dyad, one that holds an integer; they stay where nothing of theirs is stored.
-/
import Derived.Test.YtakbappmkdaioaaDoorZqBd
import Derived.Test.YtakbappmkdaioaaDoorZqBe
namespace Go.Proofs.YtakbappmkdaioaaDoor
open Go.RowKit Sp

end Go.Proofs.YtakbappmkdaioaaDoor

namespace Go.Proofs.YtakbappmkdaioaaDoor
open Go.RowKit Sp

end Go.Proofs.YtakbappmkdaioaaDoor

namespace Go.Proofs.YtakbappmkdaioaaDoor
open Go.RowKit Sp

end Go.Proofs.YtakbappmkdaioaaDoor

namespace Go.Proofs.YtakbappmkdaioaaDoor
open Go.RowKit Sp

theorem cell_set_ne {W : World} {b g : Nat} (h : b ≠ g) (i j : Nat) (v : Value) : (W.setCell ⟨g, j, none⟩ v).cell? ⟨b, i, none⟩ = W.cell? ⟨b, i, none⟩ :=
  World.cell?_of_block (a := ⟨b, i, none⟩) (Below.heap_setCell _ _ _ _ h)
theorem frozen_set_ne {W : World} {b g : Nat} (i j : Nat) (v : Value) : (W.setCell ⟨g, j, none⟩ v).frozen? ⟨b, i, none⟩ = W.frozen? ⟨b, i, none⟩ := by simp [go_sem]

/-- a variable that holds an integer -/
structure BgV (W : World) (b : Nat) (s : Bool) (sl : Value) : Prop where
  c0 : W.cell? ⟨b, 0, none⟩ = some (.bool s)
  c1 : W.cell? ⟨b, 1, none⟩ = some sl
  z : ∀ i, W.frozen? ⟨b, i, none⟩ = false
  lt : b < W.heap.size
theorem BgV.below {W W' : World} {b : Nat} {s : Bool} {sl : Value} (h : BgV W b s sl) (hb : Below W.heap.size W W') : BgV W' b s sl := by
  obtain ⟨h1, h2⟩ := bcell hb
  exact ⟨(h1 _ _ h.lt).trans h.c0, (h1 _ _ h.lt).trans h.c1, fun i => (h2 _ _ h.lt).trans (h.z i), Nat.lt_of_lt_of_le h.lt hb.size⟩
theorem BgV.alloc {W : World} {b : Nat} {s : Bool} {sl : Value} (h : BgV W b s sl) (o : Obj) : BgV (W.alloc o) b s sl := h.below ((Below.refl _ _).alloc (Nat.le_refl _) _)
theorem BgV.drew {W : World} {b : Nat} {s : Bool} {sl : Value} (h : BgV W b s sl) : BgV W.drew b s sl := ⟨h.c0, h.c1, h.z, h.lt⟩
theorem BgV.set {W : World} {b g : Nat} {s : Bool} {sl : Value} (h : BgV W b s sl) (hne : b ≠ g) (j : Nat) (v : Value) : BgV (W.setCell ⟨g, j, none⟩ v) b s sl :=
  ⟨(cell_set_ne hne _ _ _).trans h.c0, (cell_set_ne hne _ _ _).trans h.c1, fun i => (frozen_set_ne i _ _).trans (h.z i), by rw [World.size_setCell]; exact h.lt⟩
theorem BgV.made (W : World) (t : TypeId) (s : Bool) (sl : Value) : BgV (W.alloc (.cells #[.bool s, sl] t)) W.heap.size s sl :=
  ⟨by rw [World.cell?_alloc_new]; rfl, by rw [World.cell?_alloc_new]; rfl, fun i => by simp [go_sem], by rw [World.size_alloc]; omega⟩

/-- a variable that holds a dyad -/
structure DyV (W : World) (b : Nat) (v s : Bool) (sl : Value) (f : Int) : Prop where
  c0 : W.cell? ⟨b, 0, none⟩ = some (.bool v)
  c1 : W.cell? ⟨b, 1, none⟩ = some (.bool s)
  c2 : W.cell? ⟨b, 2, none⟩ = some sl
  c3 : W.cell? ⟨b, 3, none⟩ = some (.int .i64 f)
  z : ∀ i, W.frozen? ⟨b, i, none⟩ = false
  lt : b < W.heap.size
theorem DyV.below {W W' : World} {b : Nat} {v s : Bool} {sl : Value} {f : Int} (h : DyV W b v s sl f) (hb : Below W.heap.size W W') : DyV W' b v s sl f := by
  obtain ⟨h1, h2⟩ := bcell hb
  exact ⟨(h1 _ _ h.lt).trans h.c0, (h1 _ _ h.lt).trans h.c1, (h1 _ _ h.lt).trans h.c2, (h1 _ _ h.lt).trans h.c3, fun i => (h2 _ _ h.lt).trans (h.z i), Nat.lt_of_lt_of_le h.lt hb.size⟩
theorem DyV.alloc {W : World} {b : Nat} {v s : Bool} {sl : Value} {f : Int} (h : DyV W b v s sl f) (o : Obj) : DyV (W.alloc o) b v s sl f := h.below ((Below.refl _ _).alloc (Nat.le_refl _) _)
theorem DyV.drew {W : World} {b : Nat} {v s : Bool} {sl : Value} {f : Int} (h : DyV W b v s sl f) : DyV W.drew b v s sl f := ⟨h.c0, h.c1, h.c2, h.c3, h.z, h.lt⟩
theorem DyV.set {W : World} {b g : Nat} {v s : Bool} {sl : Value} {f : Int} (h : DyV W b v s sl f) (hne : b ≠ g) (j : Nat) (u : Value) : DyV (W.setCell ⟨g, j, none⟩ u) b v s sl f :=
  ⟨(cell_set_ne hne _ _ _).trans h.c0, (cell_set_ne hne _ _ _).trans h.c1, (cell_set_ne hne _ _ _).trans h.c2, (cell_set_ne hne _ _ _).trans h.c3, fun i => (frozen_set_ne i _ _).trans (h.z i), by rw [World.size_setCell]; exact h.lt⟩
theorem DyV.made (W : World) (t : TypeId) (v s : Bool) (sl : Value) (f : Int) : DyV (W.alloc (.cells #[.bool v, .bool s, sl, .int .i64 f] t)) W.heap.size v s sl f :=
  ⟨by rw [World.cell?_alloc_new]; rfl, by rw [World.cell?_alloc_new]; rfl, by rw [World.cell?_alloc_new]; rfl, by rw [World.cell?_alloc_new]; rfl, fun i => by simp [go_sem], by rw [World.size_alloc]; omega⟩
theorem DyV.made' (W : World) (t : TypeId) (v s : Bool) (sl : Value) (f : Int) {n : Nat} (hn : n = W.heap.size) : DyV (W.alloc (.cells #[.bool v, .bool s, sl, .int .i64 f] t)) n v s sl f := by subst hn; exact DyV.made ..
theorem BgV.made' (W : World) (t : TypeId) (s : Bool) (sl : Value) {n : Nat} (hn : n = W.heap.size) : BgV (W.alloc (.cells #[.bool s, sl] t)) n s sl := by subst hn; exact BgV.made ..

theorem BgV.drewN {W : World} {b : Nat} {s : Bool} {sl : Value} (h : BgV W b s sl) (q : Nat) : BgV (W.drewN q) b s sl := ⟨h.c0, h.c1, h.z, h.lt⟩
theorem DyV.drewN {W : World} {b : Nat} {v s : Bool} {sl : Value} {f : Int} (h : DyV W b v s sl f) (q : Nat) : DyV (W.drewN q) b v s sl f := ⟨h.c0, h.c1, h.c2, h.c3, h.z, h.lt⟩
end Go.Proofs.YtakbappmkdaioaaDoor

