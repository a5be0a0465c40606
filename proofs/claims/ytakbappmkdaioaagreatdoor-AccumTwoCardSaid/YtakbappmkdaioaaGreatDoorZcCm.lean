/-
  Facts about worlds as classes: integers, single cells, stores. No function of the program in sight.
-/
import Derived.Test.YtakbappmkdaioaaGreatDoorZcJA
namespace Go.Proofs.YtakbappmkdaioaaGreatDoor
open Go.RowKit Sp

/-- limbs that read as a number -/
class BI (W : World) (a : Option Addr) (n c : Nat) (x : outParam Nat) : Prop where out : Mag W a n c x
section
variable {W : World} {a : Option Addr} {n c x : Nat}
instance BI.dr [h : BI W a n c x] : BI W.drew a n c x := ⟨h.out.drew⟩
instance BI.dn (q : Nat) [h : BI W a n c x] : BI (W.drewN q) a n c x := ⟨h.out.below (below_drewN (Below.refl _ _) _)⟩
instance BI.al (o : Obj) [h : BI W a n c x] : BI (W.alloc o) a n c x := ⟨h.out.below ((Below.refl _ _).alloc (Nat.le_refl _) _)⟩
instance BI.fr (L : World) [k : From L W] [h : BI L a n c x] : BI W a n c x := ⟨h.out.below k.out⟩
end
/-- a variable that holds an integer -/
class BB (W : World) (b : Nat) (s : outParam Bool) (sl : outParam Value) : Prop where out : BgV W b s sl
section
variable {W : World} {b : Nat} {s : Bool} {sl : Value}
instance BB.dr [h : BB W b s sl] : BB W.drew b s sl := ⟨h.out.below (Below.refl _ _).drew⟩
instance BB.dn (q : Nat) [h : BB W b s sl] : BB (W.drewN q) b s sl := ⟨h.out.below (below_drewN (Below.refl _ _) _)⟩
instance BB.al (o : Obj) [h : BB W b s sl] : BB (W.alloc o) b s sl := ⟨h.out.below ((Below.refl _ _).alloc (Nat.le_refl _) _)⟩
instance BB.fr (L : World) [k : From L W] [h : BB L b s sl] : BB W b s sl := ⟨h.out.below k.out⟩
end
instance BB.mk' (W : World) (t : TypeId) (s : Bool) (sl : Value) (n : Nat) [h : Sz W n] : BB (W.alloc (.cells #[.bool s, sl] t)) n s sl := ⟨BgV.made' W t s sl h.out⟩
@[go_sem] theorem BB.r0 (W : World) (b : Nat) {s : Bool} {sl : Value} [h : BB W b s sl] : W.cell? ⟨b, 0, none⟩ = some (.bool s) := h.out.c0
@[go_sem] theorem BB.r1 (W : World) (b : Nat) {s : Bool} {sl : Value} [h : BB W b s sl] : W.cell? ⟨b, 1, none⟩ = some sl := h.out.c1
@[go_sem] theorem BB.rz (W : World) (b i : Nat) {s : Bool} {sl : Value} [h : BB W b s sl] : W.frozen? ⟨b, i, none⟩ = false := h.out.z i
/-- a single cell -/
class CE (W : World) (b i : Nat) (v : outParam Value) : Prop where
  out : W.cell? ⟨b, i, none⟩ = some v
  lt : b < W.heap.size
theorem CE.below {W W' : World} {b i : Nat} {v : Value} (h : CE W b i v) (hb : Below W.heap.size W W') : CE W' b i v :=
  ⟨((bcell hb).1 _ _ h.lt).trans h.out, Nat.lt_of_lt_of_le h.lt hb.size⟩
section
variable {W : World} {b i : Nat} {v : Value}
instance CE.dr [h : CE W b i v] : CE W.drew b i v := h.below (Below.refl _ _).drew
instance CE.dn (q : Nat) [h : CE W b i v] : CE (W.drewN q) b i v := h.below (below_drewN (Below.refl _ _) _)
instance CE.al (o : Obj) [h : CE W b i v] : CE (W.alloc o) b i v := h.below ((Below.refl _ _).alloc (Nat.le_refl _) _)
instance CE.fr (L : World) [k : From L W] [h : CE L b i v] : CE W b i v := h.below k.out
end
@[go_sem] theorem CE.rd (W : World) (b i : Nat) {v : Value} [h : CE W b i v] : W.cell? ⟨b, i, none⟩ = some v := h.out
/-- an integer that is returned -/
theorem frb {P : Program} {f : FuncId} {args : Array Value} {W : World} {z : Int} (h : Calls P f args W (RetBig W z)) :
    Calls P f args W fun e w' => ∃ a c, e = .returned (.agg #[.bool (decide (z < 0)), .slice a (nl z.natAbs) c]) ∧ BI w' a (nl z.natAbs) c z.natAbs ∧ From W w' ∧ (0 < nl z.natAbs → W.heap.size ≤ ab a) :=
  h.mono fun _ _ ⟨a, c, he, hm, hb, hf⟩ => ⟨a, c, he, ⟨hm⟩, ⟨hb⟩, hf⟩
theorem fresh_of {wr L w' : World} [h : Beh wr L] (_b : From L w') {n : Nat} {a : Option Addr} (f : 0 < n → L.heap.size ≤ ab a) : 0 < n → wr.heap.size ≤ ab a := fun k => Nat.le_trans h.out.size (f k)
theorem BI.on {W L : World} {a : Option Addr} {n c x : Nat} (h : Mag L a n c x) [b : Beh L W] : BI W a n c x := ⟨h.on⟩
end Go.Proofs.YtakbappmkdaioaaGreatDoor

