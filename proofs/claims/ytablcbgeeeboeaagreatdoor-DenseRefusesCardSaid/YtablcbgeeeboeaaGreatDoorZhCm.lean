/-
  Facts about worlds as classes: what a call leaves as it was is found by instances. No function of the program in sight.
-/
import Derived.Test.YtablcbgeeeboeaaGreatDoorZhBf
import Derived.Test.YtablcbgeeeboeaaGreatDoorZhBd
import Derived.Test.YtablcbgeeeboeaaGreatDoorZhBe
namespace Go.Proofs.YtablcbgeeeboeaaGreatDoor
open Go.RowKit Sp
class From (L : outParam World) (w' : World) : Prop where out : Below L.heap.size L w'
instance Beh.fr (w L w' : World) [f : From L w'] [h : Beh w L] : Beh w w' := ⟨h.out.trans (f.out.mono h.out.size)⟩
class Tb (w : World) : Prop where out : Tab w
instance Tb.dr (w : World) [h : Tb w] : Tb w.drew := ⟨h.out⟩
instance Tb.dn (w : World) (q : Nat) [h : Tb w] : Tb (w.drewN q) := ⟨h.out⟩
instance Tb.al (w : World) (o : Obj) [h : Tb w] : Tb (w.alloc o) := ⟨h.out.below ((Below.refl _ _).alloc (Nat.le_refl _) _)⟩
instance Tb.fr (L w' : World) [f : From L w'] [h : Tb L] : Tb w' := ⟨h.out.below f.out⟩
theorem tb {w : World} [h : Tb w] : Tab w := h.out
class FV (W : World) (b : Nat) (x y : outParam Value) : Prop where
 c0 : W.cell? ⟨b, 0, none⟩ = some x
 c1 : W.cell? ⟨b, 1, none⟩ = some y
 z : ∀ i, W.frozen? ⟨b, i, none⟩ = false
 lt : b < W.heap.size
theorem FV.below {W W' : World} {b : Nat} {x y : Value} (h : FV W b x y) (hb : Below W.heap.size W W') : FV W' b x y := by
 obtain ⟨h1, h2⟩ := zA8 hb
 exact ⟨(h1 _ _ h.lt).trans h.c0, (h1 _ _ h.lt).trans h.c1, fun i => (h2 _ _ h.lt).trans (h.z i), Nat.lt_of_lt_of_le h.lt hb.size⟩
instance FV.dr (W : World) (b : Nat) (x y : Value) [h : FV W b x y] : FV W.drew b x y := ⟨h.c0, h.c1, h.z, h.lt⟩
instance FV.dn (W : World) (b : Nat) (x y : Value) (q : Nat) [h : FV W b x y] : FV (W.drewN q) b x y := ⟨h.c0, h.c1, h.z, h.lt⟩
instance FV.al (W : World) (b : Nat) (x y : Value) (o : Obj) [h : FV W b x y] : FV (W.alloc o) b x y := FV.below h ((Below.refl _ _).alloc (Nat.le_refl _) _)
instance FV.fr (L w' : World) (b : Nat) (x y : Value) [f : From L w'] [h : FV L b x y] : FV w' b x y := FV.below h f.out
theorem FV.made (W : World) (t : TypeId) (x y : Value) {n : Nat} (hn : n = W.heap.size) : FV (W.alloc (.cells #[x, y] t)) n x y := by
 subst hn
 exact ⟨by rw [World.cell?_alloc_new]; rfl, by rw [World.cell?_alloc_new]; rfl, fun i => by simp [go_sem], by rw [World.size_alloc]; omega⟩
class Sz (W : World) (n : Nat) : Prop where out : n = W.heap.size
instance Sz.rf (W : World) : Sz W W.heap.size := ⟨rfl⟩
instance Sz.dr (W : World) (n : Nat) [h : Sz W n] : Sz W.drew n := ⟨h.out⟩
instance Sz.dn (W : World) (n q : Nat) [h : Sz W n] : Sz (W.drewN q) n := ⟨h.out⟩
instance Sz.al (W : World) (n : Nat) (o : Obj) [h : Sz W n] : Sz (W.alloc o) (n + 1) := ⟨by rw [World.size_alloc, ← h.out]⟩
instance Sz.se (W : World) (n : Nat) (p : Addr) (v : Value) [h : Sz W n] : Sz (W.setCell p v) n := ⟨by rw [World.size_setCell]; exact h.out⟩
instance FV.mk' (W : World) (t : TypeId) (x y : Value) (n : Nat) [h : Sz W n] : FV (W.alloc (.cells #[x, y] t)) n x y := FV.made W t x y h.out
@[go_sem] theorem FV.r0 (W : World) (b : Nat) {x y : Value} [h : FV W b x y] : W.cell? ⟨b, 0, none⟩ = some x := h.c0
@[go_sem] theorem FV.r1 (W : World) (b : Nat) {x y : Value} [h : FV W b x y] : W.cell? ⟨b, 1, none⟩ = some y := h.c1
@[go_sem] theorem FV.rz (W : World) (b i : Nat) {x y : Value} [h : FV W b x y] : W.frozen? ⟨b, i, none⟩ = false := h.z i
@[go_sem] theorem FV.rs (W : World) (b : Nat) {x y : Value} [h : FV W b x y] : b < W.heap.size := h.lt
class DB (W : World) (b : Nat) (v s : outParam Bool) (sl : outParam Value) (f : outParam Int) : Prop where out : DyV W b v s sl f
instance DB.dr (W : World) (b : Nat) (v s : Bool) (sl : Value) (f : Int) [h : DB W b v s sl f] : DB W.drew b v s sl f := ⟨h.out.drew⟩
instance DB.dn (W : World) (b : Nat) (v s : Bool) (sl : Value) (f : Int) (q : Nat) [h : DB W b v s sl f] : DB (W.drewN q) b v s sl f := ⟨h.out.drewN q⟩
instance DB.al (W : World) (b : Nat) (v s : Bool) (sl : Value) (f : Int) (o : Obj) [h : DB W b v s sl f] : DB (W.alloc o) b v s sl f := ⟨h.out.alloc o⟩
instance DB.fr (L w' : World) (b : Nat) (v s : Bool) (sl : Value) (f : Int) [k : From L w'] [h : DB L b v s sl f] : DB w' b v s sl f := ⟨h.out.below k.out⟩
instance DB.mk' (W : World) (t : TypeId) (v s : Bool) (sl : Value) (f : Int) (n : Nat) [h : Sz W n] : DB (W.alloc (.cells #[.bool v, .bool s, sl, .int .i64 f] t)) n v s sl f := ⟨DyV.made' W t v s sl f h.out⟩
@[go_sem] theorem DB.r0 (W : World) (b : Nat) {v s : Bool} {sl : Value} {f : Int} [h : DB W b v s sl f] : W.cell? ⟨b, 0, none⟩ = some (.bool v) := h.out.c0
@[go_sem] theorem DB.r1 (W : World) (b : Nat) {v s : Bool} {sl : Value} {f : Int} [h : DB W b v s sl f] : W.cell? ⟨b, 1, none⟩ = some (.bool s) := h.out.c1
@[go_sem] theorem DB.r2 (W : World) (b : Nat) {v s : Bool} {sl : Value} {f : Int} [h : DB W b v s sl f] : W.cell? ⟨b, 2, none⟩ = some sl := h.out.c2
@[go_sem] theorem DB.r3 (W : World) (b : Nat) {v s : Bool} {sl : Value} {f : Int} [h : DB W b v s sl f] : W.cell? ⟨b, 3, none⟩ = some (.int .i64 f) := h.out.c3
@[go_sem] theorem DB.rz (W : World) (b i : Nat) {v s : Bool} {sl : Value} {f : Int} [h : DB W b v s sl f] : W.frozen? ⟨b, i, none⟩ = false := h.out.z i
class DI (w : World) (v s : Bool) (a : Option Addr) (n cap : Nat) (e : Int) (d : outParam (Option (Int × Int))) : Prop where out : DyIn w v s a n cap e d
section
variable {W : World} {v s : Bool} {a : Option Addr} {n cap : Nat} {e : Int} {d : Option (Int × Int)}
instance DI.dr [h : DI W v s a n cap e d] : DI W.drew v s a n cap e d := ⟨h.out.below (Below.refl _ _).drew⟩
instance DI.dn (q : Nat) [h : DI W v s a n cap e d] : DI (W.drewN q) v s a n cap e d := ⟨h.out.below (below_drewN (Below.refl _ _) _)⟩
instance DI.al (o : Obj) [h : DI W v s a n cap e d] : DI (W.alloc o) v s a n cap e d := ⟨h.out.below ((Below.refl _ _).alloc (Nat.le_refl _) _)⟩
instance DI.fr (L : World) [k : From L W] [h : DI L v s a n cap e d] : DI W v s a n cap e d := ⟨h.out.below k.out⟩
end
theorem frd {P : Program} {f : FuncId} {args : Array Value} {W : World} {d : Option (Int × Int)} (hd : IsN d) (h : Calls P f args W (zAy W d)) :
 Calls P f args W fun e w' => ∃ a c, e = .returned (.agg #[.bool (zA3 d), .bool (decide (zA1 d < 0)), .slice a (nl (zA1 d).natAbs) c, .int .i64 (zA2 d)]) ∧
  DI w' (zA3 d) (decide (zA1 d < 0)) a (nl (zA1 d).natAbs) c (zA2 d) d ∧ From W w' :=
 h.mono fun _ _ ⟨a, c, he, hm, hb, _⟩ => ⟨a, c, he, ⟨zAI hd hm⟩, ⟨hb⟩⟩
theorem frm {P : Program} {f : FuncId} {args : Array Value} {W : World} {v : Value} (h : Calls P f args W fun e w' => e = .returned v ∧ Below W.heap.size W w') :
 Calls P f args W fun e w' => e = .returned v ∧ From W w' := h.mono fun _ _ ⟨he, hb⟩ => ⟨he, ⟨hb⟩⟩
end Go.Proofs.YtablcbgeeeboeaaGreatDoor
namespace Go.Proofs.YtablcbgeeeboeaaGreatDoor
open Go.RowKit Sp
class BI (W : World) (a : Option Addr) (n c : Nat) (x : outParam Nat) : Prop where out : Mag W a n c x
section
variable {W : World} {a : Option Addr} {n c x : Nat}
instance BI.dr [h : BI W a n c x] : BI W.drew a n c x := ⟨h.out.drew⟩
instance BI.dn (q : Nat) [h : BI W a n c x] : BI (W.drewN q) a n c x := ⟨h.out.below (below_drewN (Below.refl _ _) _)⟩
instance BI.al (o : Obj) [h : BI W a n c x] : BI (W.alloc o) a n c x := ⟨h.out.below ((Below.refl _ _).alloc (Nat.le_refl _) _)⟩
instance BI.fr (L : World) [k : From L W] [h : BI L a n c x] : BI W a n c x := ⟨h.out.below k.out⟩
end
class BB (W : World) (b : Nat) (s : outParam Bool) (sl : outParam Value) : Prop where out : BgV W b s sl
section
variable {W : World} {b : Nat} {s : Bool} {sl : Value}
instance BB.dr [h : BB W b s sl] : BB W.drew b s sl := ⟨h.out.below (Below.refl _ _).drew⟩
instance BB.dn (q : Nat) [h : BB W b s sl] : BB (W.drewN q) b s sl := ⟨h.out.below (below_drewN (Below.refl _ _) _)⟩
instance BB.al (o : Obj) [h : BB W b s sl] : BB (W.alloc o) b s sl := ⟨h.out.below ((Below.refl _ _).alloc (Nat.le_refl _) _)⟩
instance BB.fr (L : World) [k : From L W] [h : BB L b s sl] : BB W b s sl := ⟨h.out.below k.out⟩
end
instance BB.mk' (W : World) (t : TypeId) (s : Bool) (sl : Value) (n : Nat) [h : Sz W n] : BB (W.alloc (.cells #[.bool s, sl] t)) n s sl := ⟨BgV.made' W t s sl h.out⟩
@[go_sem] theorem BB.r0 (W : World) (b : Nat) {s : Bool} {sl : Value} [h : BB W b s sl] : W.cell? ⟨b, 0, none⟩ = some (.bool s) := h.out.c0
@[go_sem] theorem BB.r1 (W : World) (b : Nat) {s : Bool} {sl : Value} [h : BB W b s sl] : W.cell? ⟨b, 1, none⟩ = some sl := h.out.c1
@[go_sem] theorem BB.rz (W : World) (b i : Nat) {s : Bool} {sl : Value} [h : BB W b s sl] : W.frozen? ⟨b, i, none⟩ = false := h.out.z i
class NA (a : Option Addr) (n g : Nat) : Prop where out : 0 < n → ab a ≠ g
instance BI.se {W : World} {a : Option Addr} {n c x g : Nat} (i : Nat) (v : Value) [h : BI W a n c x] [k : NA a n g] : BI (W.setCell ⟨g, i, none⟩ v) a n c x := ⟨h.out.set k.out i v⟩
class FA (L : outParam World) (a : Option Addr) (n : Nat) : Prop where out : 0 < n → L.heap.size ≤ ab a
instance NA.fb {L : World} {a : Option Addr} {n b : Nat} {s : Bool} {sl : Value} [k : FA L a n] [h : BB L b s sl] : NA a n b := ⟨fun q e => by have := k.out q; have := h.out.lt; omega⟩
instance NA.fd {L : World} {a : Option Addr} {n b : Nat} {v s : Bool} {sl : Value} {e : Int} [k : FA L a n] [h : DB L b v s sl e] : NA a n b := ⟨fun q e => by have := k.out q; have := h.out.lt; omega⟩
instance NA.fv {L : World} {a : Option Addr} {n b : Nat} {x y : Value} [k : FA L a n] [h : FV L b x y] : NA a n b := ⟨fun q e => by have := k.out q; have := h.lt; omega⟩
class NB (b g : Nat) : Prop where out : b ≠ g
instance NB.f1 (W : World) (b : Nat) {L : World} {s : Bool} {sl : Value} [f : From L W] [h : BB L b s sl] : NB W.heap.size b := ⟨fun e => by have := f.out.size; have := h.out.lt; omega⟩
instance NB.f2 (W : World) (b : Nat) {L : World} {s : Bool} {sl : Value} [f : From L W] [h : BB L b s sl] : NB b W.heap.size := ⟨fun e => by have := f.out.size; have := h.out.lt; omega⟩
instance NB.d1 (W : World) (b : Nat) {L : World} {v s : Bool} {sl : Value} {e : Int} [f : From L W] [h : DB L b v s sl e] : NB W.heap.size b := ⟨fun e => by have := f.out.size; have := h.out.lt; omega⟩
instance NB.d2 (W : World) (b : Nat) {L : World} {v s : Bool} {sl : Value} {e : Int} [f : From L W] [h : DB L b v s sl e] : NB b W.heap.size := ⟨fun e => by have := f.out.size; have := h.out.lt; omega⟩
instance NB.v1 (W : World) (b : Nat) {L : World} {x y : Value} [f : From L W] [h : FV L b x y] : NB W.heap.size b := ⟨fun e => by have := f.out.size; have := h.lt; omega⟩
instance NB.v2 (W : World) (b : Nat) {L : World} {x y : Value} [f : From L W] [h : FV L b x y] : NB b W.heap.size := ⟨fun e => by have := f.out.size; have := h.lt; omega⟩
instance NB.f3 (W : World) (b : Nat) {L : World} {s : Bool} {sl : Value} [f : From L W] [h : BB L b s sl] : NB b (W.heap.size + 1) := ⟨fun e => by have := f.out.size; have := h.out.lt; omega⟩
instance NB.f4 (W : World) (b : Nat) {L : World} {s : Bool} {sl : Value} [f : From L W] [h : BB L b s sl] : NB (W.heap.size + 1) b := ⟨fun e => by have := f.out.size; have := h.out.lt; omega⟩
instance NB.d3 (W : World) (b : Nat) {L : World} {v s : Bool} {sl : Value} {e : Int} [f : From L W] [h : DB L b v s sl e] : NB b (W.heap.size + 1) := ⟨fun e => by have := f.out.size; have := h.out.lt; omega⟩
instance NB.d4 (W : World) (b : Nat) {L : World} {v s : Bool} {sl : Value} {e : Int} [f : From L W] [h : DB L b v s sl e] : NB (W.heap.size + 1) b := ⟨fun e => by have := f.out.size; have := h.out.lt; omega⟩
instance NB.v3 (W : World) (b : Nat) {L : World} {x y : Value} [f : From L W] [h : FV L b x y] : NB b (W.heap.size + 1) := ⟨fun e => by have := f.out.size; have := h.lt; omega⟩
instance NB.v4 (W : World) (b : Nat) {L : World} {x y : Value} [f : From L W] [h : FV L b x y] : NB (W.heap.size + 1) b := ⟨fun e => by have := f.out.size; have := h.lt; omega⟩
instance NB.s1 (n : Nat) : NB n (n + 1) := ⟨by omega⟩
instance NB.s2 (n : Nat) : NB (n + 1) n := ⟨by omega⟩
instance NB.s3 (n : Nat) : NB n (n + 1 + 1) := ⟨by omega⟩
instance NB.s4 (n : Nat) : NB (n + 1 + 1) n := ⟨by omega⟩
instance NB.s5 (n : Nat) : NB n (n + 1 + 1 + 1) := ⟨by omega⟩
instance NB.s6 (n : Nat) : NB (n + 1 + 1 + 1) n := ⟨by omega⟩
theorem BgV.st0 {W : World} {b : Nat} {s : Bool} {sl : Value} (h : BgV W b s sl) (s' : Bool) : BgV (W.setCell ⟨b, 0, none⟩ (.bool s')) b s' sl := by
 obtain ⟨c0, c1, c2, c3⟩ := h
 exact ⟨by go_simp, by go_simp, fun i => by go_simp, by simpa using c3⟩
theorem BgV.st1 {W : World} {b : Nat} {s : Bool} {sl : Value} (h : BgV W b s sl) (sl' : Value) : BgV (W.setCell ⟨b, 1, none⟩ sl') b s sl' := by
 obtain ⟨c0, c1, c2, c3⟩ := h
 exact ⟨by go_simp, by go_simp, fun i => by go_simp, by simpa using c3⟩
section
variable {W : World} {b g i : Nat} {s : Bool} {sl : Value} {v : Value}
instance BB.se0 (s' : Bool) [h : BB W b s sl] : BB (W.setCell ⟨b, 0, none⟩ (.bool s')) b s' sl := ⟨h.out.st0 s'⟩
instance BB.se1 [h : BB W b s sl] : BB (W.setCell ⟨b, 1, none⟩ v) b s v := ⟨h.out.st1 v⟩
instance BB.sen [h : BB W b s sl] [k : NB b g] : BB (W.setCell ⟨g, i, none⟩ v) b s sl := ⟨h.out.set k.out i v⟩
instance DB.sen {u : Bool} {e : Int} [h : DB W b u s sl e] [k : NB b g] : DB (W.setCell ⟨g, i, none⟩ v) b u s sl e := ⟨h.out.set k.out i v⟩
instance FV.sen {x y : Value} [h : FV W b x y] [k : NB b g] : FV (W.setCell ⟨g, i, none⟩ v) b x y :=
 ⟨(zAk k.out _ _ _).trans h.c0, (zAk k.out _ _ _).trans h.c1, fun j => (zAn j _ _).trans (h.z j), by rw [World.size_setCell]; exact h.lt⟩
instance FV.se2 {x y x' y' : Value} [h : FV W b x y] : FV ((W.setCell ⟨b, 0, none⟩ x').setCell ⟨b, 1, none⟩ y') b x' y' := by
 obtain ⟨c0, c1, c2, c3⟩ := h
 exact ⟨by go_simp, by go_simp, fun i => by go_simp, by simpa using c3⟩
end
class CE (W : World) (b i : Nat) (v : outParam Value) : Prop where
 out : W.cell? ⟨b, i, none⟩ = some v
 lt : b < W.heap.size
theorem CE.below {W W' : World} {b i : Nat} {v : Value} (h : CE W b i v) (hb : Below W.heap.size W W') : CE W' b i v :=
 ⟨((zA8 hb).1 _ _ h.lt).trans h.out, Nat.lt_of_lt_of_le h.lt hb.size⟩
section
variable {W : World} {b i : Nat} {v : Value}
instance CE.dr [h : CE W b i v] : CE W.drew b i v := h.below (Below.refl _ _).drew
instance CE.dn (q : Nat) [h : CE W b i v] : CE (W.drewN q) b i v := h.below (below_drewN (Below.refl _ _) _)
instance CE.al (o : Obj) [h : CE W b i v] : CE (W.alloc o) b i v := h.below ((Below.refl _ _).alloc (Nat.le_refl _) _)
instance CE.fr (L : World) [k : From L W] [h : CE L b i v] : CE W b i v := h.below k.out
end
@[go_sem] theorem CE.rd (W : World) (b i : Nat) {v : Value} [h : CE W b i v] : W.cell? ⟨b, i, none⟩ = some v := h.out
theorem frb {P : Program} {f : FuncId} {args : Array Value} {W : World} {z : Int} (h : Calls P f args W (zAj W z)) :
 Calls P f args W fun e w' => ∃ a c, e = .returned (.agg #[.bool (decide (z < 0)), .slice a (nl z.natAbs) c]) ∧ BI w' a (nl z.natAbs) c z.natAbs ∧ From W w' ∧ (0 < nl z.natAbs → W.heap.size ≤ ab a) :=
 h.mono fun _ _ ⟨a, c, he, hm, hb, hf⟩ => ⟨a, c, he, ⟨hm⟩, ⟨hb⟩, hf⟩
theorem zLf {P : Program} {f : FuncId} {args : Array Value} {W : World} {z : Nat} (h : Calls P f args W (zAj W (z : Int))) :
 Calls P f args W fun e w' => ∃ a c, e = .returned (.agg #[.bool false, .slice a (nl z) c]) ∧ BI w' a (nl z) c z ∧ From W w' ∧ (0 < nl z → W.heap.size ≤ ab a) := by
 refine h.mono fun _ _ h => ?_
 obtain ⟨a, c, he, hm, hb, hf⟩ := h
 rw [Int.natAbs_natCast] at hm hf
 exact ⟨a, c, by rw [he, Int.natAbs_natCast, decide_eq_false (show ¬ (z : Int) < 0 by omega)], ⟨hm⟩, ⟨hb⟩, hf⟩
theorem frw {P : Program} {f : FuncId} {args : Array Value} {W : World} {v : Value} (h : Calls P f args W fun e w' => e = .returned v ∧ W = w') : Calls P f args W fun e w' => e = .returned v ∧ From W w' :=
 h.mono fun _ _ ⟨he, hw⟩ => ⟨he, ⟨hw ▸ Below.refl _ _⟩⟩
theorem frI {P : Program} {f : FuncId} {args : Array Value} {W : World} {d : Option (Int × Int)} (h : Calls P f args W (zAy W d)) :
 Calls P f args W fun e w' => ∃ a c, e = .returned (.agg #[.bool (zA3 d), .bool (decide (zA1 d < 0)), .slice a (nl (zA1 d).natAbs) c, .int .i64 (zA2 d)]) ∧ BI w' a (nl (zA1 d).natAbs) c (zA1 d).natAbs ∧ From W w' :=
 h.mono fun _ _ ⟨a, c, he, hm, hb, _⟩ => ⟨a, c, he, ⟨hm⟩, ⟨hb⟩⟩
theorem DB.pt4 {W : World} {b : Nat} {v s : Bool} {sl : Value} {f : Int} (h : DB W b v s sl f) (v' s' : Bool) (sl' : Value) (f' : Int) :
 DB ((((W.setCell ⟨b, 0, none⟩ (.bool v')).setCell ⟨b, 1, none⟩ (.bool s')).setCell ⟨b, 2, none⟩ sl').setCell ⟨b, 3, none⟩ (.int .i64 f')) b v' s' sl' f' := by
 obtain ⟨c0, c1, c2, c3, c4, c5⟩ := h.out
 exact ⟨⟨by go_simp, by go_simp, by go_simp, by go_simp, fun i => by go_simp, by simpa using c5⟩⟩
theorem DB.st4 {W : World} {b g : Nat} {v s : Bool} {sl : Value} {f : Int} (h : DB W b v s sl f) (ne : b ≠ g) (x0 x1 x2 x3 : Value) :
 DB ((((W.setCell ⟨g, 0, none⟩ x0).setCell ⟨g, 1, none⟩ x1).setCell ⟨g, 2, none⟩ x2).setCell ⟨g, 3, none⟩ x3) b v s sl f :=
 ⟨(((h.out.set ne 0 x0).set ne 1 x1).set ne 2 x2).set ne 3 x3⟩
theorem BB.pt2 {W : World} {b : Nat} {s : Bool} {sl : Value} (h : BB W b s sl) (s' : Bool) (sl' : Value) : BB ((W.setCell ⟨b, 0, none⟩ (.bool s')).setCell ⟨b, 1, none⟩ sl') b s' sl' := by
 obtain ⟨c0, c1, c2, c3⟩ := h.out
 exact ⟨⟨by go_simp, by go_simp, fun i => by go_simp, by simpa using c3⟩⟩
theorem BB.st2 {W : World} {b g : Nat} {s : Bool} {sl : Value} (h : BB W b s sl) (ne : b ≠ g) (x0 x1 : Value) : BB ((W.setCell ⟨g, 0, none⟩ x0).setCell ⟨g, 1, none⟩ x1) b s sl :=
 ⟨(h.out.set ne 0 x0).set ne 1 x1⟩
theorem Mag.st4 {W : World} {a : Option Addr} {n c x g : Nat} (h : Mag W a n c x) (ne : 0 < n → ab a ≠ g) (x0 x1 x2 x3 : Value) :
 Mag ((((W.setCell ⟨g, 0, none⟩ x0).setCell ⟨g, 1, none⟩ x1).setCell ⟨g, 2, none⟩ x2).setCell ⟨g, 3, none⟩ x3) a n c x := (((h.set ne 0 x0).set ne 1 x1).set ne 2 x2).set ne 3 x3
theorem Mag.st2 {W : World} {a : Option Addr} {n c x g : Nat} (h : Mag W a n c x) (ne : 0 < n → ab a ≠ g) (x0 x1 : Value) :
 Mag ((W.setCell ⟨g, 0, none⟩ x0).setCell ⟨g, 1, none⟩ x1) a n c x := (h.set ne 0 x0).set ne 1 x1
theorem zBN {wr L w' : World} [h : Beh wr L] (_b : From L w') {n : Nat} {a : Option Addr} (f : 0 < n → L.heap.size ≤ ab a) : 0 < n → wr.heap.size ≤ ab a := fun k => Nat.le_trans h.out.size (f k)
theorem BI.on {W L : World} {a : Option Addr} {n c x : Nat} (h : Mag L a n c x) [b : Beh L W] : BI W a n c x := ⟨h.on⟩
end Go.Proofs.YtablcbgeeeboeaaGreatDoor
