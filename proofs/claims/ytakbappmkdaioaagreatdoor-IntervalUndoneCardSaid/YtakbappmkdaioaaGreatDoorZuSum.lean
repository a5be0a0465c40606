/-
  Walks: package dyad: Sum.
-/
import Derived.Test.YtakbappmkdaioaaGreatDoorZuDys
import Derived.Test.YtakbappmkdaioaaGreatDoorZuBL
import Derived.Test.YtakbappmkdaioaaGreatDoorZuBg
namespace Go.Proofs.YtakbappmkdaioaaGreatDoor
open Go.RowKit Sp

/-- the cells of a normal form in memory -/
def ncell (d : Nat → Option (Int × Int)) (A : Nat → Option Addr) (C : Nat → Nat) (i : Nat) : Value × Value × Value × Value :=
  (.bool false, .bool (decide (dman (d i) < 0)), .slice (A i) (nl (dman (d i)).natAbs) (C i), .int .i64 (dexp (d i)))
/-- what the call has appended: normal forms, in memory of its own -/
structure Nms (w : World) (base : Nat) (v : Value) (k : Nat) (d : Nat → Option (Int × Int)) (A : Nat → Option Addr) (C : Nat → Nat) : Prop where
  own : w.ownsRow base 26 4 v k (dcells (ncell d A C) k)
  m : ∀ i, i < k → Mag w (A i) (nl (dman (d i)).natAbs) (C i) (dman (d i)).natAbs
  ap : ∀ i, i < k → 0 < nl (dman (d i)).natAbs → some (ab (A i)) ≠ v.ownBlock
theorem ownsRow_below {w w' : World} {base : Nat} {e : TypeId} {size : Nat} {v : Value} {n : Nat} {xs : List Value} (h : w.ownsRow base e size v n xs) (hb : Below w.heap.size w w') : w'.ownsRow base e size v n xs := by
  refine h.kept (row := none) ⟨hb.os, hb.tape, hb.output, hb.size, fun k hk _ => hb.block k hk⟩ ?_
  cases ho : v.ownBlock with
  | none => exact .inl rfl
  | some g => exact .inr (by simp)
theorem Nms.below {w w' : World} {base : Nat} {v : Value} {k : Nat} {d : Nat → Option (Int × Int)} {A : Nat → Option Addr} {C : Nat → Nat} (h : Nms w base v k d A C) (hb : Below w.heap.size w w') : Nms w' base v k d A C :=
  ⟨ownsRow_below h.own hb, fun i hi => (h.m i hi).below hb, h.ap⟩
theorem DyV.grown {w w' : World} {b : Nat} {v s : Bool} {sl : Value} {f : Int} {row : Option Nat} (h : DyV w b v s sl f) (hg : w.grownBy w' row) (hne : some b ≠ row) : DyV w' b v s sl f := by
  have hbk := hg.block b h.lt hne
  have e1 : ∀ i, w'.cell? ⟨b, i, none⟩ = w.cell? ⟨b, i, none⟩ := fun i => World.cell?_of_block (a := ⟨b, i, none⟩) hbk
  have e2 : ∀ i, w'.frozen? ⟨b, i, none⟩ = w.frozen? ⟨b, i, none⟩ := fun i => World.frozen?_of_block (a := ⟨b, i, none⟩) hbk
  exact ⟨(e1 _).trans h.c0, (e1 _).trans h.c1, (e1 _).trans h.c2, (e1 _).trans h.c3, fun i => (e2 _).trans (h.z i), Nat.lt_of_lt_of_le h.lt hg.size⟩

end Go.Proofs.YtakbappmkdaioaaGreatDoor

