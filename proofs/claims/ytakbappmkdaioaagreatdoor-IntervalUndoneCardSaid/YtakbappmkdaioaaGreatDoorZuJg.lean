/-
  Walks: package sparseref05: Valid, of, less, Subset, Contains; sparselaw05.within.
-/
import Derived.Test.YtakbappmkdaioaaGreatDoorZuJc
import Derived.Test.YtakbappmkdaioaaGreatDoorZuS3
import Derived.Test.YtakbappmkdaioaaGreatDoorZuRq
import Derived.Test.YtakbappmkdaioaaGreatDoorZuRm
import Derived.Test.YtakbappmkdaioaaGreatDoorZuBg
import Derived.Test.YtakbappmkdaioaaGreatDoorZuBf
import Derived.Test.YtakbappmkdaioaaGreatDoorZuIP
namespace Go.Proofs.YtakbappmkdaioaaGreatDoor
open Go.RowKit Sp
set_option linter.unusedSimpArgs false

/-- a dyad among the arguments of the reference -/
class DS (w : World) (v s : Bool) (a : Option Addr) (n cap : Nat) (e : Int) (d : outParam (Option (Int × Int))) : Prop where out : DyIs w v s a n cap e d
section
variable {W : World} {v s : Bool} {a : Option Addr} {n cap : Nat} {e : Int} {d : Option (Int × Int)}
instance DS.dr [h : DS W v s a n cap e d] : DS W.drew v s a n cap e d := ⟨h.out.below (Below.refl _ _).drew⟩
instance DS.dn (q : Nat) [h : DS W v s a n cap e d] : DS (W.drewN q) v s a n cap e d := ⟨h.out.below (below_drewN (Below.refl _ _) _)⟩
instance DS.al (o : Obj) [h : DS W v s a n cap e d] : DS (W.alloc o) v s a n cap e d := ⟨h.out.below ((Below.refl _ _).alloc (Nat.le_refl _) _)⟩
instance DS.fr (L : World) [k : From L W] [h : DS L v s a n cap e d] : DS W v s a n cap e d := ⟨h.out.below k.out⟩
end
/-- a variable of five words -/
class N5 (W : World) (b : Nat) (x0 x1 x2 x3 x4 : outParam Value) : Prop where
  c0 : W.cell? ⟨b, 0, none⟩ = some x0
  c1 : W.cell? ⟨b, 1, none⟩ = some x1
  c2 : W.cell? ⟨b, 2, none⟩ = some x2
  c3 : W.cell? ⟨b, 3, none⟩ = some x3
  c4 : W.cell? ⟨b, 4, none⟩ = some x4
  z : ∀ i, W.frozen? ⟨b, i, none⟩ = false
  lt : b < W.heap.size
theorem N5.below {W W' : World} {b : Nat} {x0 x1 x2 x3 x4 : Value} (h : N5 W b x0 x1 x2 x3 x4) (hb : Below W.heap.size W W') : N5 W' b x0 x1 x2 x3 x4 := by
  obtain ⟨h1, h2⟩ := bcell hb
  exact ⟨(h1 _ _ h.lt).trans h.c0, (h1 _ _ h.lt).trans h.c1, (h1 _ _ h.lt).trans h.c2, (h1 _ _ h.lt).trans h.c3, (h1 _ _ h.lt).trans h.c4, fun i => (h2 _ _ h.lt).trans (h.z i), Nat.lt_of_lt_of_le h.lt hb.size⟩
instance N5.dr (W : World) (b : Nat) (x0 x1 x2 x3 x4 : Value) [h : N5 W b x0 x1 x2 x3 x4] : N5 W.drew b x0 x1 x2 x3 x4 := ⟨h.c0, h.c1, h.c2, h.c3, h.c4, h.z, h.lt⟩
instance N5.dn (W : World) (b : Nat) (x0 x1 x2 x3 x4 : Value) (q : Nat) [h : N5 W b x0 x1 x2 x3 x4] : N5 (W.drewN q) b x0 x1 x2 x3 x4 := ⟨h.c0, h.c1, h.c2, h.c3, h.c4, h.z, h.lt⟩
instance N5.al (W : World) (b : Nat) (x0 x1 x2 x3 x4 : Value) (o : Obj) [h : N5 W b x0 x1 x2 x3 x4] : N5 (W.alloc o) b x0 x1 x2 x3 x4 := N5.below h ((Below.refl _ _).alloc (Nat.le_refl _) _)
instance N5.fr (L w' : World) (b : Nat) (x0 x1 x2 x3 x4 : Value) [f : From L w'] [h : N5 L b x0 x1 x2 x3 x4] : N5 w' b x0 x1 x2 x3 x4 := N5.below h f.out
theorem N5.made (W : World) (t : TypeId) (x0 x1 x2 x3 x4 : Value) {n : Nat} (hn : n = W.heap.size) : N5 (W.alloc (.cells #[x0, x1, x2, x3, x4] t)) n x0 x1 x2 x3 x4 := by
  subst hn
  exact ⟨by rw [World.cell?_alloc_new]; rfl, by rw [World.cell?_alloc_new]; rfl, by rw [World.cell?_alloc_new]; rfl, by rw [World.cell?_alloc_new]; rfl, by rw [World.cell?_alloc_new]; rfl, fun i => by simp [go_sem], by rw [World.size_alloc]; omega⟩
instance N5.mk' (W : World) (t : TypeId) (x0 x1 x2 x3 x4 : Value) (n : Nat) [h : Sz W n] : N5 (W.alloc (.cells #[x0, x1, x2, x3, x4] t)) n x0 x1 x2 x3 x4 := N5.made W t x0 x1 x2 x3 x4 h.out
@[go_sem] theorem N5.r0 (W : World) (b : Nat) {x0 x1 x2 x3 x4 : Value} [h : N5 W b x0 x1 x2 x3 x4] : W.cell? ⟨b, 0, none⟩ = some x0 := h.c0
@[go_sem] theorem N5.r1 (W : World) (b : Nat) {x0 x1 x2 x3 x4 : Value} [h : N5 W b x0 x1 x2 x3 x4] : W.cell? ⟨b, 1, none⟩ = some x1 := h.c1
@[go_sem] theorem N5.r2 (W : World) (b : Nat) {x0 x1 x2 x3 x4 : Value} [h : N5 W b x0 x1 x2 x3 x4] : W.cell? ⟨b, 2, none⟩ = some x2 := h.c2
@[go_sem] theorem N5.r3 (W : World) (b : Nat) {x0 x1 x2 x3 x4 : Value} [h : N5 W b x0 x1 x2 x3 x4] : W.cell? ⟨b, 3, none⟩ = some x3 := h.c3
@[go_sem] theorem N5.r4 (W : World) (b : Nat) {x0 x1 x2 x3 x4 : Value} [h : N5 W b x0 x1 x2 x3 x4] : W.cell? ⟨b, 4, none⟩ = some x4 := h.c4
@[go_sem] theorem N5.rz (W : World) (b i : Nat) {x0 x1 x2 x3 x4 : Value} [h : N5 W b x0 x1 x2 x3 x4] : W.frozen? ⟨b, i, none⟩ = false := h.z i

attribute [local irreducible] Calls

set_option maxRecDepth 100000 in
set_option maxHeartbeats 8000000 in
theorem r5valid_any (w : World) (a b : Nat) (ha : a < 18446744073709551616) (hb : b < 18446744073709551616) : Calls Tryz.prog 106 #[.agg #[.int .u64 (a : Nat), .int .u64 (b : Nat)]] w fun e w' => e = .returned (.bool (iok (a, b))) ∧ Below w.heap.size w w' := by
  have H1 := fun W => Lib.hid (r3cmp_any W a b ha hb)
  have e1 := beq_nat a fInf 9218868437227405312 (by decide)
  have e2 := beq_nat b fNInf 18442240474082181120 (by decide)
  have hv : iok (a, b) = (fcmpok a b && decide (fcmpv a b ≤ 0) && !(((a : Nat) : Int) == 9218868437227405312) && !(((b : Nat) : Int) == 18442240474082181120)) := by
    rw [e1, e2]; unfold iok; simp only [ne_eq, decide_not]
  rw [hv]
  clear hv e1 e2
  generalize fcmpv a b = c at *
  generalize fcmpok a b = k at *
  generalize ((a : Nat) : Int) = p at *
  generalize ((b : Nat) : Int) = q at *
  rcases two_ways k with rfl | rfl <;> rcases two_ways (decide (c ≤ 0)) with hc | hc <;> rcases two_ways (p == 9218868437227405312) with hp | hp
  all_goals (
    rw [hc, hp]
    simp only [decide_eq_true_eq, decide_eq_false_iff_not, beq_iff_eq, beq_eq_false_iff_ne, ne_eq] at hc hp
    (try subst hp)
    go_enter Tryz.func106, Tryz.ntmps106
    go_wp2_with fail
    refine (H1 _).out.mono ?_
    rintro e w1 ⟨rfl, rfl⟩
    go_wp2_with fail
    go_ret
    first | exact ⟨rfl, zbh⟩ | (refine ⟨?_, zbh⟩; simp [bne, hp]; done) | (refine ⟨?_, zbh⟩; simp [bne]; done))

section
variable {P : Program} {md : Region.Mode} {ops : Array Oper} {Q : Exit → Act → World → Prop} {S : World → Prop} {fuel : Nat} {listed : Array Bool} {a : Act} {w : World}
/-- an operation that yields its value, taken first -/
theorem tkv (i : Nat) (d : Option Tmp) {o : Oper} (v : Value) (hi : ops[i]? = some o) (hd : o.dst = d) (hs : Region.noSelect ops = true) (hf : Region.free md ops listed i = true) (hr : (Region.ready md ops listed).contains i = true)
    (hQ : ∀ c a w, Q (.panic c) (a.put o.dst v) w → Q (.panic c) a w) (hw : Region.wanted o (yielded ops a.tmps) = true) (hy : ∀ w, S w → (execOp a.eval o).run P w = .ok (.value v) w) (hS : S w)
    (h : wpAnyH P md ops Q S fuel (listed.setIfInBounds i true) (a.put d v) w) : wpAnyH P md ops Q S (fuel + 1) listed a w := by
  subst hd; exact wpAnyH_take hi hs hf hr hQ (Or.inl ⟨hw, hy⟩) hS h
/-- an operation that its guard passes over -/
theorem tku (i : Nat) (d : Option Tmp) {o : Oper} (hi : ops[i]? = some o) (hd : o.dst = d) (hs : Region.noSelect ops = true) (hf : Region.free md ops listed i = true) (hr : (Region.ready md ops listed).contains i = true)
    (hQ : ∀ c a w, Q (.panic c) (a.put o.dst undef) w → Q (.panic c) a w) (hw : Region.wanted o (yielded ops a.tmps) = false) (hS : S w)
    (h : wpAnyH P md ops Q S fuel (listed.setIfInBounds i true) (a.put d undef) w) : wpAnyH P md ops Q S (fuel + 1) listed a w := by
  subst hd; exact wpAnyH_take hi hs hf hr hQ (Or.inr ⟨hw, rfl⟩) hS h
end

end Go.Proofs.YtakbappmkdaioaaGreatDoor

