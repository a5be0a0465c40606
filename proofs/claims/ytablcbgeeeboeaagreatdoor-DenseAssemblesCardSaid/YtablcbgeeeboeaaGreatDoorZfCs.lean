/-
  Facts about worlds as classes: dyads of the reference. No function of the program in sight.
-/
import Derived.Test.YtablcbgeeeboeaaGreatDoorZfCm
import Derived.Test.YtablcbgeeeboeaaGreatDoorZfRm
namespace Go.Proofs.YtablcbgeeeboeaaGreatDoor
open Go.RowKit Sp
class N5 (W : World) (b : Nat) (x0 x1 x2 x3 x4 : outParam Value) : Prop where
 c0 : W.cell? ⟨b, 0, none⟩ = some x0
 c1 : W.cell? ⟨b, 1, none⟩ = some x1
 c2 : W.cell? ⟨b, 2, none⟩ = some x2
 c3 : W.cell? ⟨b, 3, none⟩ = some x3
 c4 : W.cell? ⟨b, 4, none⟩ = some x4
 z : ∀ i, W.frozen? ⟨b, i, none⟩ = false
 lt : b < W.heap.size
theorem N5.below {W W' : World} {b : Nat} {x0 x1 x2 x3 x4 : Value} (h : N5 W b x0 x1 x2 x3 x4) (hb : Below W.heap.size W W') : N5 W' b x0 x1 x2 x3 x4 := by
 obtain ⟨h1, h2⟩ := bcell hb
 exact ⟨(h1 _ _ h.lt).trans h.c0, (h1 _ _ h.lt).trans h.c1, (h1 _ _ h.lt).trans h.c2, (h1 _ _ h.lt).trans h.c3, (h1 _ _ h.lt).trans h.c4, fun i => (h2 _ _ h.lt).trans (h.z i), Nat.lt_of_lt_of_le h.lt hb.size⟩
instance N5.dr (W : World) (b : Nat) (x0 x1 x2 x3 x4 : Value) [h : N5 W b x0 x1 x2 x3 x4] : N5 W.drew b x0 x1 x2 x3 x4 := ⟨h.c0, h.c1, h.c2, h.c3, h.c4, h.z, h.lt⟩
instance N5.dn (W : World) (b : Nat) (x0 x1 x2 x3 x4 : Value) (q : Nat) [h : N5 W b x0 x1 x2 x3 x4] : N5 (W.drewN q) b x0 x1 x2 x3 x4 := ⟨h.c0, h.c1, h.c2, h.c3, h.c4, h.z, h.lt⟩
instance N5.al (W : World) (b : Nat) (x0 x1 x2 x3 x4 : Value) (o : Obj) [h : N5 W b x0 x1 x2 x3 x4] : N5 (W.alloc o) b x0 x1 x2 x3 x4 := N5.below h ((Below.refl _ _).alloc (Nat.le_refl _) _)
instance N5.fr (L w' : World) (b : Nat) (x0 x1 x2 x3 x4 : Value) [f : From L w'] [h : N5 L b x0 x1 x2 x3 x4] : N5 w' b x0 x1 x2 x3 x4 := N5.below h f.out
theorem N5.made (W : World) (t : TypeId) (x0 x1 x2 x3 x4 : Value) {n : Nat} (hn : n = W.heap.size) : N5 (W.alloc (.cells #[x0, x1, x2, x3, x4] t)) n x0 x1 x2 x3 x4 := by
 subst hn
 exact ⟨by rw [World.cell?_alloc_new]; rfl, by rw [World.cell?_alloc_new]; rfl, by rw [World.cell?_alloc_new]; rfl, by rw [World.cell?_alloc_new]; rfl, by rw [World.cell?_alloc_new]; rfl, fun i => by simp [go_sem], by rw [World.size_alloc]; omega⟩
instance N5.mk' (W : World) (t : TypeId) (x0 x1 x2 x3 x4 : Value) (n : Nat) [h : Sz W n] : N5 (W.alloc (.cells #[x0, x1, x2, x3, x4] t)) n x0 x1 x2 x3 x4 := N5.made W t x0 x1 x2 x3 x4 h.out
@[go_sem] theorem N5.r0 (W : World) (b : Nat) {x0 x1 x2 x3 x4 : Value} [h : N5 W b x0 x1 x2 x3 x4] : W.cell? ⟨b, 0, none⟩ = some x0 := h.c0
@[go_sem] theorem N5.r1 (W : World) (b : Nat) {x0 x1 x2 x3 x4 : Value} [h : N5 W b x0 x1 x2 x3 x4] : W.cell? ⟨b, 1, none⟩ = some x1 := h.c1
@[go_sem] theorem N5.r2 (W : World) (b : Nat) {x0 x1 x2 x3 x4 : Value} [h : N5 W b x0 x1 x2 x3 x4] : W.cell? ⟨b, 2, none⟩ = some x2 := h.c2
@[go_sem] theorem N5.r3 (W : World) (b : Nat) {x0 x1 x2 x3 x4 : Value} [h : N5 W b x0 x1 x2 x3 x4] : W.cell? ⟨b, 3, none⟩ = some x3 := h.c3
@[go_sem] theorem N5.r4 (W : World) (b : Nat) {x0 x1 x2 x3 x4 : Value} [h : N5 W b x0 x1 x2 x3 x4] : W.cell? ⟨b, 4, none⟩ = some x4 := h.c4
@[go_sem] theorem N5.rz (W : World) (b i : Nat) {x0 x1 x2 x3 x4 : Value} [h : N5 W b x0 x1 x2 x3 x4] : W.frozen? ⟨b, i, none⟩ = false := h.z i
class DS (w : World) (v s : Bool) (a : Option Addr) (n cap : Nat) (e : Int) (d : outParam (Option (Int × Int))) : Prop where out : DyIs w v s a n cap e d
theorem DyIn.set {W : World} {v s : Bool} {a : Option Addr} {n cap g : Nat} {e : Int} {d : Option (Int × Int)} (h : DyIn W v s a n cap e d) (k : 0 < n → ab a ≠ g) (i : Nat) (u : Value) : DyIn (W.setCell ⟨g, i, none⟩ u) v s a n cap e d := by
 obtain ⟨x, h1, h2⟩ := h; exact ⟨x, h1.set k i u, h2⟩
section
variable {W : World} {v s : Bool} {a : Option Addr} {n cap : Nat} {e : Int} {d : Option (Int × Int)}
instance DS.dr [h : DS W v s a n cap e d] : DS W.drew v s a n cap e d := ⟨h.out.below (Below.refl _ _).drew⟩
instance DS.dn (q : Nat) [h : DS W v s a n cap e d] : DS (W.drewN q) v s a n cap e d := ⟨h.out.below (below_drewN (Below.refl _ _) _)⟩
instance DS.al (o : Obj) [h : DS W v s a n cap e d] : DS (W.alloc o) v s a n cap e d := ⟨h.out.below ((Below.refl _ _).alloc (Nat.le_refl _) _)⟩
instance DS.fr (L : World) [k : From L W] [h : DS L v s a n cap e d] : DS W v s a n cap e d := ⟨h.out.below k.out⟩
instance DS.se {g : Nat} (i : Nat) (u : Value) [h : DS W v s a n cap e d] [k : NA a n g] : DS (W.setCell ⟨g, i, none⟩ u) v s a n cap e d := ⟨h.out.1.set k.out i u, h.out.2⟩
instance DI.se {g : Nat} (i : Nat) (u : Value) [h : DI W v s a n cap e d] [k : NA a n g] : DI (W.setCell ⟨g, i, none⟩ u) v s a n cap e d := ⟨h.out.set k.out i u⟩
end
theorem dys_of {w : World} {d : Option (Int × Int)} {a : Option Addr} {c : Nat} (hd : IsN d) (hm : Mag w a (nl (dman d).natAbs) c (dman d).natAbs) : DyIs w (dbad d) (decide (dman d < 0)) a (nl (dman d).natAbs) c (dexp d) d :=
 ⟨dyin_of hd hm, Nat.le_trans (nl_le_blen _) (Nat.le_trans (isN_bounds hd).1 (by decide))⟩
theorem frs {P : Program} {f : FuncId} {args : Array Value} {W : World} {d : Option (Int × Int)} (hd : IsN d) (h : Calls P f args W (RetDy W d)) :
 Calls P f args W fun e w' => ∃ a c, e = .returned (.agg #[.bool (dbad d), .bool (decide (dman d < 0)), .slice a (nl (dman d).natAbs) c, .int .i64 (dexp d)]) ∧
  DS w' (dbad d) (decide (dman d < 0)) a (nl (dman d).natAbs) c (dexp d) d ∧ From W w' :=
 h.mono fun _ _ ⟨a, c, he, hm, hb, _⟩ => ⟨a, c, he, ⟨dys_of hd hm⟩, ⟨hb⟩⟩
theorem frsF {P : Program} {f : FuncId} {args : Array Value} {W : World} {d : Option (Int × Int)} (hd : IsN d) (h : Calls P f args W (RetDy W d)) :
 Calls P f args W fun e w' => ∃ a c, e = .returned (.agg #[.bool (dbad d), .bool (decide (dman d < 0)), .slice a (nl (dman d).natAbs) c, .int .i64 (dexp d)]) ∧
  DS w' (dbad d) (decide (dman d < 0)) a (nl (dman d).natAbs) c (dexp d) d ∧ From W w' ∧ BI w' a (nl (dman d).natAbs) c (dman d).natAbs ∧ (0 < nl (dman d).natAbs → W.heap.size ≤ ab a) :=
 h.mono fun _ _ ⟨a, c, he, hm, hb, hf⟩ => ⟨a, c, he, ⟨dys_of hd hm⟩, ⟨hb⟩, ⟨hm⟩, hf⟩
theorem DyV.st4 {W : World} {b : Nat} {v s : Bool} {sl : Value} {f : Int} (h : DyV W b v s sl f) (v' s' : Bool) (sl' : Value) (f' : Int) :
 DyV ((((W.setCell ⟨b, 0, none⟩ (.bool v')).setCell ⟨b, 1, none⟩ (.bool s')).setCell ⟨b, 2, none⟩ sl').setCell ⟨b, 3, none⟩ (.int .i64 f')) b v' s' sl' f' := (DB.pt4 ⟨h⟩ v' s' sl' f').out
instance DB.se4 {W : World} {b : Nat} {v s v' s' : Bool} {sl sl' : Value} {f f' : Int} [h : DB W b v s sl f] :
 DB ((((W.setCell ⟨b, 0, none⟩ (.bool v')).setCell ⟨b, 1, none⟩ (.bool s')).setCell ⟨b, 2, none⟩ sl').setCell ⟨b, 3, none⟩ (.int .i64 f')) b v' s' sl' f' := h.pt4 _ _ _ _
theorem dsome {d : Option (Int × Int)} (hb : dbad d = false) : d = some (dman d, dexp d) := by cases d with | none => cases hb | some p => rfl
instance N5.sen {W : World} {b g i : Nat} {v x0 x1 x2 x3 x4 : Value} [h : N5 W b x0 x1 x2 x3 x4] [k : NB b g] : N5 (W.setCell ⟨g, i, none⟩ v) b x0 x1 x2 x3 x4 :=
 ⟨(cell_set_ne k.out _ _ _).trans h.c0, (cell_set_ne k.out _ _ _).trans h.c1, (cell_set_ne k.out _ _ _).trans h.c2, (cell_set_ne k.out _ _ _).trans h.c3, (cell_set_ne k.out _ _ _).trans h.c4, fun j => (frozen_set_ne j _ _).trans (h.z j), by rw [World.size_setCell]; exact h.lt⟩
instance NB.n1 (W : World) (b : Nat) {L : World} {x0 x1 x2 x3 x4 : Value} [f : From L W] [h : N5 L b x0 x1 x2 x3 x4] : NB b W.heap.size := ⟨fun e => by have := f.out.size; have := h.lt; omega⟩
instance NB.n0 (W : World) (b : Nat) {x0 x1 x2 x3 x4 : Value} [h : N5 W b x0 x1 x2 x3 x4] : NB b W.heap.size := ⟨fun e => by have := h.lt; omega⟩
end Go.Proofs.YtablcbgeeeboeaaGreatDoor
