/-
  Whether a cell is there is not changed by a store: one law for the walk. No program in sight.
-/
import Derived.Test.YtjhngehajahbnaaDoorMem
namespace Sp
open Go Go.RowKit
theorem heap_setCell_at (w : World) (p : Addr) (x : Value) : (w.setCell p x).heap[p.block]? = (w.heap[p.block]?).map fun | .cells c elem frozen => .cells (if p.spot.isSome then c else c.setIfInBounds p.off x) elem frozen | o => o := by
  unfold World.setCell
  simp only [Array.getElem?_modify, if_true]
  cases w.heap[p.block]? with
  | none => rfl
  | some o => cases o <;> rfl
@[go_sem] theorem isSome_setCell (w : World) (p q : Addr) (x : Value) : ((w.setCell p x).cell? q).isSome = (w.cell? q).isSome := by
  cases h : w.cell? q with
  | some v => obtain ⟨v', hv⟩ := cell?_setCell_some (p := p) (x := x) h; rw [hv]; rfl
  | none =>
    by_cases e : p = q
    · subst e
      unfold World.cell? at h ⊢
      rw [heap_setCell_at]
      cases hb : w.heap[p.block]? with
      | none => rfl
      | some o =>
        rw [hb] at h
        cases o with
        | cells c e f =>
          simp only [Option.map_some] at h ⊢
          by_cases hs : p.spot.isSome
          · simp [hs]
          · simp only [hs, if_false, Bool.false_eq_true] at h ⊢
            rw [Array.getElem?_setIfInBounds]
            simp at h ⊢
            omega
        | _ => rfl
    · rw [World.cell?_setCell_other w p q x e, h]
theorem Mag.drew {w : World} {a : Option Addr} {n cap x : Nat} (h : Mag w a n cap x) : Mag w.drew a n cap x := h.below (Below.drew (Below.refl _ _))
theorem Mag.alloc {w : World} {a : Option Addr} {n cap x : Nat} (h : Mag w a n cap x) (o : Obj) : Mag (w.alloc o) a n cap x := h.below ((Below.refl _ _).alloc (Nat.le_refl _) _)
end Sp
