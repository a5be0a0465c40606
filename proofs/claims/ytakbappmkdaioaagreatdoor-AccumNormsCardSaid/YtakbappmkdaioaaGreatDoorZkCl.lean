/-
  Facts about worlds as classes: what a call leaves as it was is found by instances. No function of the program in sight.
-/
import Derived.Test.YtakbappmkdaioaaGreatDoorZkBf
import Derived.Test.YtakbappmkdaioaaGreatDoorZkBd
import Derived.Test.YtakbappmkdaioaaGreatDoorZkBe
namespace Go.Proofs.YtakbappmkdaioaaGreatDoor
open Go.RowKit Sp

/-- the world w' comes behind the world L: one call's work -/
class From (L : outParam World) (w' : World) : Prop where out : Below L.heap.size L w'
instance Beh.fr (w L w' : World) [f : From L w'] [h : Beh w L] : Beh w w' := ⟨h.out.trans (f.out.mono h.out.size)⟩

/-- the table of the package bits lies where it lay -/
class Tb (w : World) : Prop where out : Tab w
instance Tb.dr (w : World) [h : Tb w] : Tb w.drew := ⟨h.out⟩
instance Tb.dn (w : World) (q : Nat) [h : Tb w] : Tb (w.drewN q) := ⟨h.out⟩
instance Tb.al (w : World) (o : Obj) [h : Tb w] : Tb (w.alloc o) := ⟨h.out.below ((Below.refl _ _).alloc (Nat.le_refl _) _)⟩
instance Tb.fr (L w' : World) [f : From L w'] [h : Tb L] : Tb w' := ⟨h.out.below f.out⟩
theorem tb {w : World} [h : Tb w] : Tab w := h.out

/-- a variable of two words -/
class FV (W : World) (b : Nat) (x y : outParam Value) : Prop where
  c0 : W.cell? ⟨b, 0, none⟩ = some x
  c1 : W.cell? ⟨b, 1, none⟩ = some y
  z : ∀ i, W.frozen? ⟨b, i, none⟩ = false
  lt : b < W.heap.size
theorem FV.below {W W' : World} {b : Nat} {x y : Value} (h : FV W b x y) (hb : Below W.heap.size W W') : FV W' b x y := by
  obtain ⟨h1, h2⟩ := bcell hb
  exact ⟨(h1 _ _ h.lt).trans h.c0, (h1 _ _ h.lt).trans h.c1, fun i => (h2 _ _ h.lt).trans (h.z i), Nat.lt_of_lt_of_le h.lt hb.size⟩
instance FV.dr (W : World) (b : Nat) (x y : Value) [h : FV W b x y] : FV W.drew b x y := ⟨h.c0, h.c1, h.z, h.lt⟩
instance FV.dn (W : World) (b : Nat) (x y : Value) (q : Nat) [h : FV W b x y] : FV (W.drewN q) b x y := ⟨h.c0, h.c1, h.z, h.lt⟩
instance FV.al (W : World) (b : Nat) (x y : Value) (o : Obj) [h : FV W b x y] : FV (W.alloc o) b x y := FV.below h ((Below.refl _ _).alloc (Nat.le_refl _) _)
instance FV.fr (L w' : World) (b : Nat) (x y : Value) [f : From L w'] [h : FV L b x y] : FV w' b x y := FV.below h f.out
theorem FV.made (W : World) (t : TypeId) (x y : Value) {n : Nat} (hn : n = W.heap.size) : FV (W.alloc (.cells #[x, y] t)) n x y := by
  subst hn
  exact ⟨by rw [World.cell?_alloc_new]; rfl, by rw [World.cell?_alloc_new]; rfl, fun i => by simp [go_sem], by rw [World.size_alloc]; omega⟩
/-- the next block's number -/
class Sz (W : World) (n : Nat) : Prop where out : n = W.heap.size
instance Sz.rf (W : World) : Sz W W.heap.size := ⟨rfl⟩
instance Sz.dr (W : World) (n : Nat) [h : Sz W n] : Sz W.drew n := ⟨h.out⟩
instance Sz.dn (W : World) (n q : Nat) [h : Sz W n] : Sz (W.drewN q) n := ⟨h.out⟩
instance Sz.al (W : World) (n : Nat) (o : Obj) [h : Sz W n] : Sz (W.alloc o) (n + 1) := ⟨by rw [World.size_alloc, ← h.out]⟩
instance Sz.se (W : World) (n : Nat) (p : Addr) (v : Value) [h : Sz W n] : Sz (W.setCell p v) n := ⟨by rw [World.size_setCell]; exact h.out⟩
instance FV.mk' (W : World) (t : TypeId) (x y : Value) (n : Nat) [h : Sz W n] : FV (W.alloc (.cells #[x, y] t)) n x y := FV.made W t x y h.out
@[go_sem] theorem FV.r0 (W : World) (b : Nat) {x y : Value} [h : FV W b x y] : W.cell? ⟨b, 0, none⟩ = some x := h.c0
@[go_sem] theorem FV.r1 (W : World) (b : Nat) {x y : Value} [h : FV W b x y] : W.cell? ⟨b, 1, none⟩ = some y := h.c1
@[go_sem] theorem FV.rz (W : World) (b i : Nat) {x y : Value} [h : FV W b x y] : W.frozen? ⟨b, i, none⟩ = false := h.z i
@[go_sem] theorem FV.rs (W : World) (b : Nat) {x y : Value} [h : FV W b x y] : b < W.heap.size := h.lt

/-- a variable that holds a dyad -/
class DB (W : World) (b : Nat) (v s : outParam Bool) (sl : outParam Value) (f : outParam Int) : Prop where out : DyV W b v s sl f
instance DB.dr (W : World) (b : Nat) (v s : Bool) (sl : Value) (f : Int) [h : DB W b v s sl f] : DB W.drew b v s sl f := ⟨h.out.drew⟩
instance DB.dn (W : World) (b : Nat) (v s : Bool) (sl : Value) (f : Int) (q : Nat) [h : DB W b v s sl f] : DB (W.drewN q) b v s sl f := ⟨h.out.drewN q⟩
instance DB.al (W : World) (b : Nat) (v s : Bool) (sl : Value) (f : Int) (o : Obj) [h : DB W b v s sl f] : DB (W.alloc o) b v s sl f := ⟨h.out.alloc o⟩
instance DB.fr (L w' : World) (b : Nat) (v s : Bool) (sl : Value) (f : Int) [k : From L w'] [h : DB L b v s sl f] : DB w' b v s sl f := ⟨h.out.below k.out⟩
instance DB.mk' (W : World) (t : TypeId) (v s : Bool) (sl : Value) (f : Int) (n : Nat) [h : Sz W n] : DB (W.alloc (.cells #[.bool v, .bool s, sl, .int .i64 f] t)) n v s sl f := ⟨DyV.made' W t v s sl f h.out⟩
@[go_sem] theorem DB.r0 (W : World) (b : Nat) {v s : Bool} {sl : Value} {f : Int} [h : DB W b v s sl f] : W.cell? ⟨b, 0, none⟩ = some (.bool v) := h.out.c0
@[go_sem] theorem DB.r1 (W : World) (b : Nat) {v s : Bool} {sl : Value} {f : Int} [h : DB W b v s sl f] : W.cell? ⟨b, 1, none⟩ = some (.bool s) := h.out.c1
@[go_sem] theorem DB.r2 (W : World) (b : Nat) {v s : Bool} {sl : Value} {f : Int} [h : DB W b v s sl f] : W.cell? ⟨b, 2, none⟩ = some sl := h.out.c2
@[go_sem] theorem DB.r3 (W : World) (b : Nat) {v s : Bool} {sl : Value} {f : Int} [h : DB W b v s sl f] : W.cell? ⟨b, 3, none⟩ = some (.int .i64 f) := h.out.c3
@[go_sem] theorem DB.rz (W : World) (b i : Nat) {v s : Bool} {sl : Value} {f : Int} [h : DB W b v s sl f] : W.frozen? ⟨b, i, none⟩ = false := h.out.z i

/-- a dyad among the arguments -/
class DI (w : World) (v s : Bool) (a : Option Addr) (n cap : Nat) (e : Int) (d : outParam (Option (Int × Int))) : Prop where out : DyIn w v s a n cap e d
section
variable {W : World} {v s : Bool} {a : Option Addr} {n cap : Nat} {e : Int} {d : Option (Int × Int)}
instance DI.dr [h : DI W v s a n cap e d] : DI W.drew v s a n cap e d := ⟨h.out.below (Below.refl _ _).drew⟩
instance DI.dn (q : Nat) [h : DI W v s a n cap e d] : DI (W.drewN q) v s a n cap e d := ⟨h.out.below (below_drewN (Below.refl _ _) _)⟩
instance DI.al (o : Obj) [h : DI W v s a n cap e d] : DI (W.alloc o) v s a n cap e d := ⟨h.out.below ((Below.refl _ _).alloc (Nat.le_refl _) _)⟩
instance DI.fr (L : World) [k : From L W] [h : DI L v s a n cap e d] : DI W v s a n cap e d := ⟨h.out.below k.out⟩
end

/-- the value that a dyad reads as -/
theorem frd {P : Program} {f : FuncId} {args : Array Value} {W : World} {d : Option (Int × Int)} (hd : IsN d) (h : Calls P f args W (RetDy W d)) :
    Calls P f args W fun e w' => ∃ a c, e = .returned (.agg #[.bool (dbad d), .bool (decide (dman d < 0)), .slice a (nl (dman d).natAbs) c, .int .i64 (dexp d)]) ∧
      DI w' (dbad d) (decide (dman d < 0)) a (nl (dman d).natAbs) c (dexp d) d ∧ From W w' :=
  h.mono fun _ _ ⟨a, c, he, hm, hb, _⟩ => ⟨a, c, he, ⟨dyin_of hd hm⟩, ⟨hb⟩⟩

/-- a contract's post, as the classes want it -/
theorem frm {P : Program} {f : FuncId} {args : Array Value} {W : World} {v : Value} (h : Calls P f args W fun e w' => e = .returned v ∧ Below W.heap.size W w') :
    Calls P f args W fun e w' => e = .returned v ∧ From W w' := h.mono fun _ _ ⟨he, hb⟩ => ⟨he, ⟨hb⟩⟩

end Go.Proofs.YtakbappmkdaioaaGreatDoor

