/-
  Walks: package sparsegen: Block.
-/
import Derived.Test.YtablcbgeeeboeaaGreatDoorZfPb
import Derived.Test.YtablcbgeeeboeaaGreatDoorZfPd
import Derived.Test.YtablcbgeeeboeaaGreatDoorZfTj
import Derived.Test.YtablcbgeeeboeaaGreatDoorZfS3
import Derived.Test.YtablcbgeeeboeaaGreatDoorZfGt
import Derived.Test.YtablcbgeeeboeaaGreatDoorZfGq
namespace Go.Proofs.YtablcbgeeeboeaaGreatDoor
open Go.RowKit Sp
class DM (w : World) (base : Nat) (v : Value) (k : Nat) (d : outParam (Nat → Option (Int × Int))) (A : outParam (Nat → Option Addr)) (C : outParam (Nat → Nat)) : Prop where
 out : Dms w base v k d A C
 fr : ∀ i, i < k → 0 < nl (dman (d i)).natAbs → base ≤ ab (A i)
section
variable {w w' : World} {base : Nat} {v v' : Value} {k : Nat} {d : Nat → Option (Int × Int)} {A : Nat → Option Addr} {C : Nat → Nat}
instance DM.dr [h : DM w base v k d A C] : DM w.drew base v k d A C := ⟨h.out.below (Below.refl _ _).drew, h.fr⟩
instance DM.dn (q : Nat) [h : DM w base v k d A C] : DM (w.drewN q) base v k d A C := ⟨h.out.below (below_drewN (Below.refl _ _) _), h.fr⟩
instance DM.al (o : Obj) [h : DM w base v k d A C] : DM (w.alloc o) base v k d A C := ⟨h.out.below ((Below.refl _ _).alloc (Nat.le_refl _) _), h.fr⟩
instance DM.fr' (L : World) [f : From L w] [h : DM L base v k d A C] : DM w base v k d A C := ⟨h.out.below f.out, h.fr⟩
theorem DM.nil (w : World) (base : Nat) (d : Nat → Option (Int × Int)) : DM w base (.slice none 0 0) 0 d (fun _ => none) (fun _ => 0) :=
 ⟨⟨World.ownsRow_nil _ _ _ _, fun i hi => by omega, fun i hi => by omega⟩, fun i hi => by omega⟩
theorem DM.sen (h : DM w base v k d A C) {b : Nat} (hb : b < base) (i : Nat) (u : Value) : DM (w.setCell ⟨b, i, none⟩ u) base v k d A C := by
 have hg : w.grownBy (w.setCell ⟨b, i, none⟩ u) (some b) := only_set (only_refl w b) i u
 refine ⟨h.out.kept hg ?_ (fun j hj hp e => ?_), h.fr⟩
 · rcases hv : v.ownBlock with _ | g
   · exact Or.inl rfl
   · refine Or.inr fun e => ?_
     have := (h.out.own.lt g hv).1
     injection e with e; omega
 · have := h.fr j hj hp
   injection e with e; omega
theorem DM.app (h : DM w base v k d A C) {dk : Option (Int × Int)} {a1 : Option Addr} {c1 : Nat}
 (ho : w'.ownsRow base 46 4 v' (k + 1) (dcells (mcell d A C) k ++ [.bool (dbad dk), .bool (decide (dman dk < 0)), .slice a1 (nl (dman dk).natAbs) c1, .int .i64 (dexp dk)]))
 (hg : w.grownBy w' v.ownBlock) (hv : v'.ownBlock = v.ownBlock ∨ v'.ownBlock = some w.heap.size) (hm : Mag w a1 (nl (dman dk).natAbs) c1 (dman dk).natAbs) (hf : 0 < nl (dman dk).natAbs → base ≤ ab a1) (hne : 0 < nl (dman dk).natAbs → some (ab a1) ≠ v.ownBlock) :
 DM w' base v' (k + 1) (fun i => if i = k then dk else d i) (fun i => if i = k then a1 else A i) (fun i => if i = k then c1 else C i) := by
 have h2 := h.out.congr (d' := fun i => if i = k then dk else d i) (fun i hi => (if_neg (by omega)).symm)
 have e2 : dcells (mcell d A C) k = dcells (mcell (fun i => if i = k then dk else d i) A C) k := dcells_congr fun i hi => by unfold mcell; simp only [if_neg (show ¬ i = k by omega)]
 rw [e2] at ho
 refine ⟨h2.app (by simp only [if_true]; exact ho) hg hv (by simp only [if_true]; exact hm) (by simp only [if_true]; exact hne), fun i hi => ?_⟩
 by_cases hk : i = k
 · simp only [if_pos hk]; exact hf
 · simp only [if_neg hk]; exact h.fr i (by omega)
end
theorem DM.dz {a : Option Addr} {c n base k : Nat} {w : World} {d : Nat → Option (Int × Int)} {A : Nat → Option Addr} {C : Nat → Nat} (h : DM w base (.slice a n c) k d A C) (hd : ∀ i, IsN (d i)) : n = k ∧ Dz w a k c d := by
 obtain ⟨a', c', e, hz⟩ := h.out.dz hd
 injection e with e1 e2 e3
 subst e1 e3
 exact ⟨e2, hz⟩
theorem DM.mono {w : World} {base base' k : Nat} {v : Value} {d : Nat → Option (Int × Int)} {A : Nat → Option Addr} {C : Nat → Nat} (h : DM w base v k d A C) (hb : base' ≤ base) : DM w base' v k d A C :=
 ⟨⟨⟨h.out.own.1, h.out.own.2.imp id fun ⟨g, c, cur, e, hbg, r⟩ => ⟨g, c, cur, e, Nat.le_trans hb hbg, r⟩⟩, h.out.m, h.out.ap⟩, fun i hi hp => Nat.le_trans hb (h.fr i hi hp)⟩
def DN (w w' : World) (a : Option Addr) (n c : Nat) (d : Nat → Option (Int × Int)) : Prop := ∃ A C, DM w' w.heap.size (.slice a n c) n d A C
theorem DN.dz {w w' : World} {a : Option Addr} {n c : Nat} {d : Nat → Option (Int × Int)} (h : DN w w' a n c d) (hd : ∀ i, IsN (d i)) : Dz w' a n c d := by obtain ⟨A, C, h1⟩ := h; exact (h1.dz hd).2
theorem N3.own {W W' : World} {b base : Nat} {x0 x1 x2 : Value} {v : Value} {k : Nat} {d : Nat → Option (Int × Int)} {A : Nat → Option Addr} {C : Nat → Nat} (h : N3 W b x0 x1 x2) (hd : DM W base v k d A C) (hb : b < base) (hg : W.grownBy W' v.ownBlock) : N3 W' b x0 x1 x2 := by
 have hne : some b ≠ v.ownBlock := fun e => by have := (hd.out.own.lt b e.symm).1; omega
 have hblk := hg.block b h.lt hne
 have hc : ∀ i, W'.cell? ⟨b, i, none⟩ = W.cell? ⟨b, i, none⟩ := fun i => World.cell?_of_block (a := ⟨b, i, none⟩) hblk
 exact ⟨(hc 0).trans h.c0, (hc 1).trans h.c1, (hc 2).trans h.c2, fun i => (World.frozen?_of_block (a := ⟨b, i, none⟩) hblk).trans (h.z i), Nat.lt_of_lt_of_le h.lt hg.size⟩
theorem N3.se2 {W : World} {b : Nat} {x0 x1 x2 : Value} (h : N3 W b x0 x1 x2) (y : Value) : N3 (W.setCell ⟨b, 2, none⟩ y) b x0 x1 y := by
 obtain ⟨c0, c1, c2, c3, c4⟩ := h
 exact ⟨by go_simp, by go_simp, by go_simp, fun i => by go_simp, by simpa using c4⟩
theorem N3.sen {W : World} {b g : Nat} {x0 x1 x2 : Value} (h : N3 W b x0 x1 x2) (ne : b ≠ g) (i : Nat) (y : Value) : N3 (W.setCell ⟨g, i, none⟩ y) b x0 x1 x2 :=
 ⟨(cell_set_ne ne _ _ _).trans h.c0, (cell_set_ne ne _ _ _).trans h.c1, (cell_set_ne ne _ _ _).trans h.c2, fun j => (frozen_set_ne j _ _).trans (h.z j), by rw [World.size_setCell]; exact h.lt⟩
def Fin' (X : Nat → Nat) : Prop := ∀ i, X i < 18446744073709551616 ∧ ffin (X i) = true
theorem Fin'.up {X : Nat → Nat} (h : Fin' X) {k y : Nat} (h1 : y < 18446744073709551616) (h2 : ffin y = true) : Fin' (fun i => if i = k then y else X i) := fun i => by
 by_cases e : i = k
 · simp only [if_pos e]; exact ⟨h1, h2⟩
 · simp only [if_neg e]; exact h i
theorem frWd {P : Program} {f : FuncId} {args : Array Value} {W : World} (h : Calls P f args W fun o w' => ∃ x : Nat, x < 18446744073709551616 ∧ o = .returned (.int .u64 ((x : Nat) : Int)) ∧ W = w') :
 Calls P f args W fun o w' => ∃ x : Nat, x < 18446744073709551616 ∧ o = .returned (.int .u64 ((x : Nat) : Int)) ∧ From W w' :=
 h.mono fun _ _ ⟨x, h1, h2, h3⟩ => ⟨x, h1, h2, ⟨by subst h3; exact Below.refl _ _⟩⟩
theorem frNu {P : Program} {f : FuncId} {args : Array Value} {W : World} {R : Nat → Prop} (h : Calls P f args W fun o w' => ∃ y : Nat, R y ∧ o = .returned (.int .u64 ((y : Nat) : Int)) ∧ Below W.heap.size W w') :
 Calls P f args W fun o w' => ∃ y : Nat, R y ∧ o = .returned (.int .u64 ((y : Nat) : Int)) ∧ From W w' :=
 h.mono fun _ _ ⟨y, h1, h3, h4⟩ => ⟨y, h1, h3, ⟨h4⟩⟩
attribute [local irreducible] Calls
end Go.Proofs.YtablcbgeeeboeaaGreatDoor
namespace Go.Proofs.YtablcbgeeeboeaaGreatDoor
open Go.RowKit Sp
structure Val (r c q : Nat) (S I F : Nat → Nat) : Prop where
 z : S 0 = 0
 e : S c = q
 m : ∀ t, t < c → S t ≤ S (t + 1)
 a : ∀ t x, t < c → S t ≤ x → x < S (t + 1) → I x < r ∧ (S t < x → I (x - 1) < I x)
 f : ∀ x, F x < 18446744073709551616 ∧ ffin (F x) = true
theorem Val.mono {r c q : Nat} {S I F : Nat → Nat} (h : Val r c q S I F) : ∀ d t, t + d ≤ c → S t ≤ S (t + d) := by
 intro d
 induction d with
 | zero => intro t _; exact Nat.le_refl _
 | succ d ih => intro t ht; exact Nat.le_trans (ih t (by omega)) (h.m (t + d) (by omega))
theorem Val.le {r c q : Nat} {S I F : Nat → Nat} (h : Val r c q S I F) {t : Nat} (ht : t ≤ c) : S t ≤ q := by
 have := h.mono (c - t) t (by omega)
 rwa [show t + (c - t) = c by omega, h.e] at this
def lk (I F : Nat → Nat) (i a : Nat) : Nat → Option Nat
 | 0 => none
 | n + 1 => match lk I F i a n with
  | some y => some y
  | none => if I (a + n) = i then some (F (a + n)) else none
theorem lk_congr {I F I' F' : Nat → Nat} {i a : Nat} : ∀ n, (∀ x, a ≤ x → x < a + n → I x = I' x ∧ F x = F' x) → lk I F i a n = lk I' F' i a n := by
 intro n
 induction n with
 | zero => intro _; rfl
 | succ n ih =>
  intro h
  simp only [lk]
  rw [ih fun x h1 h2 => h x h1 (by omega), (h (a + n) (by omega) (by omega)).1, (h (a + n) (by omega) (by omega)).2]
theorem getD_lt {l : List Nat} {x t : Nat} (h : t < l.length) : (l ++ [x]).getD t 0 = l.getD t 0 := by
 rw [List.getD_eq_getElem?_getD, List.getD_eq_getElem?_getD, List.getElem?_append_left h]
theorem getD_eq {l : List Nat} {x n : Nat} (h : l.length = n) : (l ++ [x]).getD n 0 = x := by
 subst h
 rw [List.getD_eq_getElem?_getD, List.getElem?_append_right (Nat.le_refl _), Nat.sub_self]; rfl
structure GV (r j k : Nat) (S I : List Nat) (q : Nat) : Prop where
 sl : S.length = j + 1
 il : I.length = q
 z : S.getD 0 0 = 0
 m : ∀ t, t < j → S.getD t 0 ≤ S.getD (t + 1) 0
 l : S.getD j 0 ≤ q
 a : ∀ t x, t < j → S.getD t 0 ≤ x → x < S.getD (t + 1) 0 → I.getD x 0 < r ∧ (S.getD t 0 < x → I.getD (x - 1) 0 < I.getD x 0)
 b : ∀ x, S.getD j 0 ≤ x → x < q → I.getD x 0 < k ∧ (S.getD j 0 < x → I.getD (x - 1) 0 < I.getD x 0)
section
variable {r j k q : Nat} {S I : List Nat}
theorem GV.start (r : Nat) : GV r 0 0 [0] [] 0 := ⟨rfl, rfl, rfl, fun t h => by omega, Nat.le_refl _, fun t x h => by omega, fun x _ h => by omega⟩
theorem GV.mono (h : GV r j k S I q) : ∀ d t, t + d ≤ j → S.getD t 0 ≤ S.getD (t + d) 0 := by
 intro d
 induction d with
 | zero => intro t _; exact Nat.le_refl _
 | succ d ih => intro t ht; exact Nat.le_trans (ih t (by omega)) (h.m (t + d) (by omega))
theorem GV.le (h : GV r j k S I q) {t : Nat} (ht : t ≤ j) : S.getD t 0 ≤ q := by
 have h1 := h.mono (j - t) t (by omega)
 rw [show t + (j - t) = j by omega] at h1
 exact Nat.le_trans h1 h.l
theorem GV.put (h : GV r j k S I q) : GV r j (k + 1) S (I ++ [k]) (q + 1) := by
 have e : ∀ x, x < q → (I ++ [k]).getD x 0 = I.getD x 0 := fun x hx => getD_lt (by rw [h.il]; exact hx)
 refine ⟨h.sl, by rw [List.length_append, h.il]; rfl, h.z, h.m, by have := h.l; omega, fun t x h0 h1 h2 => ?_, fun x h1 h2 => ?_⟩
 · have hq : x < q := Nat.lt_of_lt_of_le h2 (h.le (t := t + 1) (by omega))
   rw [e x hq, e (x - 1) (by omega)]
   exact h.a t x h0 h1 h2
 · by_cases hx : x = q
   · subst hx
     rw [getD_eq h.il]
     refine ⟨by omega, fun h3 => ?_⟩
     rw [e (x - 1) (by omega)]
     exact (h.b (x - 1) (by omega) (by omega)).1
   · rw [e x (by omega), e (x - 1) (by omega)]
     have := h.b x h1 (by omega)
     exact ⟨by omega, this.2⟩
theorem GV.val {c : Nat} {F : Nat → Nat} (h : GV r c 0 S I q) (hF : ∀ x, F x < 18446744073709551616 ∧ ffin (F x) = true) : Val r c q (fun t => S.getD t 0) (fun t => I.getD t 0) F := by
 refine ⟨h.z, ?_, h.m, h.a, hF⟩
 show S.getD c 0 = q
 have h1 := h.l
 by_cases h2 : S.getD c 0 < q
 · exact absurd (h.b _ (Nat.le_refl _) h2).1 (Nat.not_lt_zero _)
 · omega
end
structure Con (r j k : Nat) (S I : List Nat) (X : Nat → Nat) (q : Nat) (E : Nat → Nat → Option Nat) : Prop where
 c : ∀ t i, t < j → i < r → lk (fun t => I.getD t 0) X i (S.getD t 0) (S.getD (t + 1) 0 - S.getD t 0) = E i t
 o : ∀ i, lk (fun t => I.getD t 0) X i (S.getD j 0) (q - S.getD j 0) = if i < k then E i j else none
section
variable {r j k q : Nat} {S I : List Nat} {X : Nat → Nat} {E : Nat → Nat → Option Nat}
theorem Con.start (r : Nat) (X : Nat → Nat) (E : Nat → Nat → Option Nat) : Con r 0 0 [0] [] X 0 E := ⟨fun t i h => by omega, fun i => by rw [if_neg (by omega)]; rfl⟩
theorem Con.put (h : Con r j k S I X q E) (g : GV r j k S I q) {y : Nat} (hE : E k j = some y) : Con r j (k + 1) S (I ++ [k]) (fun t => if t = q then y else X t) (q + 1) E := by
 have e : ∀ x, x < q → (I ++ [k]).getD x 0 = I.getD x 0 := fun x hx => getD_lt (by rw [g.il]; exact hx)
 have c1 : ∀ i a n, a + n ≤ q → lk (fun t => (I ++ [k]).getD t 0) (fun t => if t = q then y else X t) i a n = lk (fun t => I.getD t 0) X i a n := fun i a n ha => lk_congr n fun x h1 h2 => ⟨e x (by omega), if_neg (by omega)⟩
 refine ⟨fun t i h0 h1 => ?_, fun i => ?_⟩
 · have h2 := g.m t h0
   have h3 := g.le (t := t + 1) (by omega)
   rw [c1 i _ _ (by omega)]; exact h.c t i h0 h1
 · have h3 := g.l
   rw [show q + 1 - S.getD j 0 = q - S.getD j 0 + 1 by omega]
   simp only [lk]
   rw [c1 i _ _ (by omega), h.o i]
   have e3 : S.getD j 0 + (q - S.getD j 0) = q := by omega
   simp only [e3, getD_eq g.il, if_true]
   by_cases hi : i = k
   · subst hi; rw [if_neg (Nat.lt_irrefl i), if_pos (Nat.lt_succ_self i), hE]; simp
   · by_cases h2 : i < k
     · rw [if_pos h2, if_pos (show i < k + 1 by omega)]
       cases E i j with
       | none => simp only; rw [if_neg (show ¬ k = i by omega)]
       | some z => rfl
     · rw [if_neg h2, if_neg (show ¬ i < k + 1 by omega)]
       simp only; rw [if_neg (show ¬ k = i by omega)]
end
end Go.Proofs.YtablcbgeeeboeaaGreatDoor
namespace Go.Proofs.YtablcbgeeeboeaaGreatDoor
open Go.RowKit Sp
theorem own_sen {w : World} {base : Nat} {e : TypeId} {s n : Nat} {xs : List Value} {v : Value} (h : w.ownsRow base e s v n xs) {b : Nat} (hb : b < base) (i : Nat) (u : Value) : (w.setCell ⟨b, i, none⟩ u).ownsRow base e s v n xs := by
 refine h.kept (only_set (only_refl w b) i u) ?_
 rcases hv : v.ownBlock with _ | g
 · exact Or.inl rfl
 · refine Or.inr fun q => ?_
   have := (h.lt g hv).1
   injection q with q; omega
theorem own_ne {w : World} {base : Nat} {e : TypeId} {s n : Nat} {xs : List Value} {v : Value} (h : w.ownsRow base e s v n xs) {b : Nat} (hb : b < base) : some b ≠ v.ownBlock := fun q => by have := (h.lt b q.symm).1; omega
theorem own_sen2 {w : World} {base : Nat} {e : TypeId} {s n : Nat} {xs : List Value} {v : Value} (h : w.ownsRow base e s v n xs) {b : Nat} (hb : some b ≠ v.ownBlock) (i : Nat) (u : Value) : (w.setCell ⟨b, i, none⟩ u).ownsRow base e s v n xs :=
 h.kept (only_set (only_refl w b) i u) (Or.inr hb.symm)
theorem N5.grown {W W' : World} {b : Nat} {x0 x1 x2 x3 x4 : Value} (h : N5 W b x0 x1 x2 x3 x4) {row : Option Nat} (hg : W.grownBy W' row) (hne : some b ≠ row) : N5 W' b x0 x1 x2 x3 x4 := by
 have hblk := hg.block b h.lt hne
 have hc : ∀ i, W'.cell? ⟨b, i, none⟩ = W.cell? ⟨b, i, none⟩ := fun i => World.cell?_of_block (a := ⟨b, i, none⟩) hblk
 exact ⟨(hc 0).trans h.c0, (hc 1).trans h.c1, (hc 2).trans h.c2, (hc 3).trans h.c3, (hc 4).trans h.c4, fun i => (World.frozen?_of_block (a := ⟨b, i, none⟩) hblk).trans (h.z i), Nat.lt_of_lt_of_le h.lt hg.size⟩
section
variable {W : World} {b : Nat} {x0 x1 x2 x3 x4 : Value}
theorem N5.se2 (h : N5 W b x0 x1 x2 x3 x4) (y : Value) : N5 (W.setCell ⟨b, 2, none⟩ y) b x0 x1 y x3 x4 := by
 obtain ⟨c0, c1, c2, c3, c4, c5, c6⟩ := h
 exact ⟨by go_simp, by go_simp, by go_simp, by go_simp, by go_simp, fun i => by go_simp, by simpa using c6⟩
theorem N5.se4 (h : N5 W b x0 x1 x2 x3 x4) (y : Value) : N5 (W.setCell ⟨b, 4, none⟩ y) b x0 x1 x2 x3 y := by
 obtain ⟨c0, c1, c2, c3, c4, c5, c6⟩ := h
 exact ⟨by go_simp, by go_simp, by go_simp, by go_simp, by go_simp, fun i => by go_simp, by simpa using c6⟩
end
class R3 (w : World) (base b : Nat) (vS vI vV : Value) (S I : outParam (List Nat)) (F : outParam (Nat → Nat)) (q : outParam Nat) : Prop where
 os : w.ownsRow base 3 1 vS S.length (icells S)
 oi : w.ownsRow base 3 1 vI I.length (icells I)
 ov : w.ownsRow base 40 1 vV q (flist F q)
 n1 : vS.ownBlock = none ∨ vS.ownBlock ≠ vI.ownBlock
 n2 : vS.ownBlock = none ∨ vS.ownBlock ≠ vV.ownBlock
 n3 : vI.ownBlock = none ∨ vI.ownBlock ≠ vV.ownBlock
 bS : some b ≠ vS.ownBlock
 bI : some b ≠ vI.ownBlock
 bV : some b ≠ vV.ownBlock
 lt : b < w.heap.size
section
variable {w w' : World} {base b : Nat} {vS vI vV u : Value} {S I : List Nat} {F : Nat → Nat} {q : Nat}
theorem R3.below (h : R3 w base b vS vI vV S I F q) (hb : Below w.heap.size w w') : R3 w' base b vS vI vV S I F q := ⟨ownsRow_below h.os hb, ownsRow_below h.oi hb, ownsRow_below h.ov hb, h.n1, h.n2, h.n3, h.bS, h.bI, h.bV, Nat.lt_of_lt_of_le h.lt hb.size⟩
instance R3.dr [h : R3 w base b vS vI vV S I F q] : R3 w.drew base b vS vI vV S I F q := h.below (Below.refl _ _).drew
instance R3.dn (k : Nat) [h : R3 w base b vS vI vV S I F q] : R3 (w.drewN k) base b vS vI vV S I F q := h.below (below_drewN (Below.refl _ _) _)
instance R3.al (o : Obj) [h : R3 w base b vS vI vV S I F q] : R3 (w.alloc o) base b vS vI vV S I F q := h.below ((Below.refl _ _).alloc (Nat.le_refl _) _)
instance R3.fr (L : World) [f : From L w] [h : R3 L base b vS vI vV S I F q] : R3 w base b vS vI vV S I F q := h.below f.out
theorem R3.sen (h : R3 w base b vS vI vV S I F q) {g : Nat} (hb : g = b ∨ g < base) (i : Nat) (y : Value) : R3 (w.setCell ⟨g, i, none⟩ y) base b vS vI vV S I F q :=
 ⟨own_sen2 h.os (by rcases hb with rfl | hb; exact h.bS; exact own_ne h.os hb) i y, own_sen2 h.oi (by rcases hb with rfl | hb; exact h.bI; exact own_ne h.oi hb) i y, own_sen2 h.ov (by rcases hb with rfl | hb; exact h.bV; exact own_ne h.ov hb) i y, h.n1, h.n2, h.n3, h.bS, h.bI, h.bV, by rw [World.size_setCell]; exact h.lt⟩
end
theorem R3.start (w : World) (base : Nat) (hb : base ≤ w.heap.size) (o : Obj) (X : Nat → Nat) {n n1 : Nat} (hn : n = w.heap.size) (hn1 : n1 = w.heap.size + 1) : R3 ((w.alloc (.cells #[.int .i64 0] 3)).alloc o) base n1 (.slice (some ⟨n, 0, none⟩) 1 1) (.slice none 0 0) (.slice none 0 0) [0] [] X 0 := by
 subst hn hn1
 exact ⟨(World.ownsRow_lit w #[.int .i64 0] 1 hb (by unfold maxLen; omega) rfl).alloc o, World.ownsRow_nil _ _ _ _, World.ownsRow_nil _ _ _ _, Or.inr (by simp [Value.ownBlock]), Or.inr (by simp [Value.ownBlock]), Or.inl rfl, by simp [Value.ownBlock], by simp [Value.ownBlock], by simp [Value.ownBlock], by simp⟩
theorem w3 {P k : Nat} (hP : P ≤ 4096) (hk : k ≤ 64) : 0 ≤ wrap64 (wrap64 (100 + wrap64 (P : Int)) + (k : Int)) ∧ wrap64 (wrap64 (100 + wrap64 (P : Int)) + (k : Int)) ≤ 1000000 := by unfold wrap64; omega
def SX (s : Int) (X : Nat → Nat) : Prop := ∀ i, Sty s (X i)
theorem SX.up {s : Int} {X : Nat → Nat} (h : SX s X) {k y : Nat} (h1 : Sty s y) : SX s (fun i => if i = k then y else X i) := fun i => by
 show Sty s (if i = k then y else X i)
 split
 · exact h1
 · exact h i
theorem Sty.zero (s : Int) : Sty s 0 := ⟨by decide, by decide, fun _ => by decide⟩
theorem SX.zero (s : Int) : SX s fun _ => 0 := fun _ => Sty.zero s
class MX (w : World) (r c : Nat) (aS : Option Addr) (cS : Nat) (aI : Option Addr) (q cI : Nat) (aV : Option Addr) (cV : Nat) (S I F : outParam (Nat → Nat)) : Prop where
 s : Ils w aS (c + 1) cS (fun t => ((S t : Nat) : Int))
 i : Ils w aI q cI (fun t => ((I t : Nat) : Int))
 v : Fls w aV q cV F
 ok : Val r c q S I F
section
variable {w w' : World} {r c q cS cI cV : Nat} {aS aI aV : Option Addr} {S I F : Nat → Nat}
theorem MX.below (h : MX w r c aS cS aI q cI aV cV S I F) (hb : Below w.heap.size w w') : MX w' r c aS cS aI q cI aV cV S I F := ⟨h.s.below hb, h.i.below hb, h.v.below hb, h.ok⟩
instance MX.dr [h : MX w r c aS cS aI q cI aV cV S I F] : MX w.drew r c aS cS aI q cI aV cV S I F := h.below (Below.refl _ _).drew
instance MX.dn (k : Nat) [h : MX w r c aS cS aI q cI aV cV S I F] : MX (w.drewN k) r c aS cS aI q cI aV cV S I F := h.below (below_drewN (Below.refl _ _) _)
instance MX.al (o : Obj) [h : MX w r c aS cS aI q cI aV cV S I F] : MX (w.alloc o) r c aS cS aI q cI aV cV S I F := h.below ((Below.refl _ _).alloc (Nat.le_refl _) _)
instance MX.fr (L : World) [f : From L w] [h : MX L r c aS cS aI q cI aV cV S I F] : MX w r c aS cS aI q cI aV cV S I F := h.below f.out
end
theorem app_floatT {ops : Array Oper} {rest : List Oper} {o : Oper} {a : Act} {Q : Exit → Act → World → Prop} {w : World} (hgd : o.guard = none) (s x : Operand)
 (ho : o.op = .call { callee := .builtin .append, args := #[s, x], argTypes := #[28, 28] }) (base : Nat) (v : Value) (n : Nat) (xs : List Value) (hs : a.eval s = v) (g : Nat) (d : Int)
 (hx : a.eval x = .slice (some ⟨g, 0, none⟩) 1 1) (hown : w.ownsRow base 40 1 v n xs) (hcell : w.cell? ⟨g, 0, none⟩ = some (.int .u64 d)) (hn : n ≤ 4398046511104)
 (hbase : base ≤ w.heap.size) (h : ∀ v' w', w'.ownsRow base 40 1 v' (n + 1) (xs ++ [.int .u64 d]) → w.grownBy w' v.ownBlock → (v'.ownBlock = v.ownBlock ∨ v'.ownBlock = some w.heap.size) → wpList Tryz.prog ops Q rest (a.put o.dst v') w') : wpList Tryz.prog ops Q (o :: rest) a w := by
 obtain ⟨i0, hi, hz0, hz1, hz2⟩ := info_parts infF
 refine wpList_append_own_at w hgd s x _ ho base _ i0 (.int .u64 0) 1 8 undFe hi hz0 hz1 hz2 rfl (by decide) v n _ hs hown ⟨g, 0, none⟩ 1 1 [.int .u64 d] hx rfl ?_ ?_ ?_ ?_ hbase ?_
 · intro j u hu
   have : j = 0 := by
    rcases Nat.eq_zero_or_pos j with h | h
    · exact h
    · rw [List.getElem?_eq_none (by simp; omega)] at hu; cases hu
   subst this
   simp at hu; subst hu
   rw [Addr.add_zero']; exact hcell
 · intro u hu; simp at hu; subst hu; rfl
 · unfold maxLen; omega
 · omega
 · intro v' w' h1 h2 _ h4
   exact h v' w' h1 h2 h4
theorem step_app_float {ops : Array Oper} {o : Oper} {a : Act} {K : Act → World → Prop} {Q : Exit → Act → World → Prop} {w : World} {E : Prop} (hgd : o.guard = none) (s x : Operand)
 (ho : o.op = .call { callee := .builtin .append, args := #[s, x], argTypes := #[28, 28] }) (base : Nat) (v : Value) (n : Nat) (xs : List Value) (hs : a.eval s = v) (g : Nat) (d : Int)
 (hx : a.eval x = .slice (some ⟨g, 0, none⟩) 1 1) (hown : w.ownsRow base 40 1 v n xs) (hcell : w.cell? ⟨g, 0, none⟩ = some (.int .u64 d)) (hn : n ≤ 1048576)
 (hbase : base ≤ w.heap.size) (h : ∀ g' cap' w', w'.ownsRow base 40 1 (.slice (some ⟨g', 0, none⟩) (n + 1) cap') (n + 1) (xs ++ [.int .u64 d]) → w.grownBy w' v.ownBlock → ((Value.slice (some ⟨g', 0, none⟩) (n + 1) cap').ownBlock = v.ownBlock ∨ (Value.slice (some ⟨g', 0, none⟩) (n + 1) cap').ownBlock = some w.heap.size) → K (a.put o.dst (.slice (some ⟨g', 0, none⟩) (n + 1) cap')) w') :
 if Region.wanted o (yielded ops a.tmps) = true then Oper.wp Tryz.prog o a w K Q else E := by
 obtain ⟨i0, hi, hz0, hz1, hz2⟩ := info_parts infF
 refine step_append_lies w hgd s x _ ho base _ i0 _ 1 8 undFe hi hz0 hz1 hz2 rfl (by decide) v n xs hs hown ⟨g, 0, none⟩ 1 1 [.int .u64 d] hx rfl ?_ ?_ (by decide) (by unfold maxLen; omega) (by omega) hbase _ rfl (fun g' cap' w' h1 h2 h3 _ => h g' cap' w' h1 h2 ?_)
 · intro j u hu
   have : j = 0 := by
    rcases Nat.eq_zero_or_pos j with h | h
    · exact h
    · rw [List.getElem?_eq_none (by simp; omega)] at hu; cases hu
   subst this
   simp at hu; subst hu
   rw [Addr.add_zero']; exact hcell
 · intro u hu; simp at hu; subst hu; rfl
 · have e : (Value.slice (some ⟨g', 0, none⟩) (n + 1) cap').ownBlock = some g' := rfl
   rw [e]
   rcases h3 with h3 | h3
   · exact Or.inl h3.symm
   · exact Or.inr (by rw [h3])
end Go.Proofs.YtablcbgeeeboeaaGreatDoor
