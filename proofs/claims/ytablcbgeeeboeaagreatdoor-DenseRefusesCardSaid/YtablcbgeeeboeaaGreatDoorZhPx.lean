/-
  Walks: three lists in a struct; package sparsegen: General.
-/
import Derived.Test.YtablcbgeeeboeaaGreatDoorZhPz
import Derived.Test.YtablcbgeeeboeaaGreatDoorZhGq
namespace Go.Proofs.YtablcbgeeeboeaaGreatDoor
open Go.RowKit Sp
theorem zBt {w : World} {base : Nat} {e : TypeId} {s n : Nat} {xs : List Value} {v : Value} (h : w.ownsRow base e s v n xs) {b : Nat} (hb : b < base) (i : Nat) (u : Value) : (w.setCell ⟨b, i, none⟩ u).ownsRow base e s v n xs := by
 refine h.kept (zAY (zBk w b) i u) ?_
 rcases hv : v.ownBlock with _ | g
 · exact Or.inl rfl
 · refine Or.inr fun q => ?_
   have := (h.lt g hv).1
   injection q with q; omega
theorem zDF {w : World} {base : Nat} {e : TypeId} {s n : Nat} {xs : List Value} {v : Value} (h : w.ownsRow base e s v n xs) {b : Nat} (hb : b < base) : some b ≠ v.ownBlock := fun q => by have := (h.lt b q.symm).1; omega
theorem zFj {w : World} {base : Nat} {e : TypeId} {s n : Nat} {xs : List Value} {v : Value} (h : w.ownsRow base e s v n xs) {b : Nat} (hb : some b ≠ v.ownBlock) (i : Nat) (u : Value) : (w.setCell ⟨b, i, none⟩ u).ownsRow base e s v n xs :=
 h.kept (zAY (zBk w b) i u) (Or.inr hb.symm)
theorem N5.grown {W W' : World} {b : Nat} {x0 x1 x2 x3 x4 : Value} (h : N5 W b x0 x1 x2 x3 x4) {row : Option Nat} (hg : W.grownBy W' row) (hne : some b ≠ row) : N5 W' b x0 x1 x2 x3 x4 := by
 have hblk := hg.block b h.lt hne
 have hc : ∀ i, W'.cell? ⟨b, i, none⟩ = W.cell? ⟨b, i, none⟩ := fun i => World.cell?_of_block (a := ⟨b, i, none⟩) hblk
 exact ⟨(hc 0).trans h.c0, (hc 1).trans h.c1, (hc 2).trans h.c2, (hc 3).trans h.c3, (hc 4).trans h.c4, fun i => (World.frozen?_of_block (a := ⟨b, i, none⟩) hblk).trans (h.z i), Nat.lt_of_lt_of_le h.lt hg.size⟩
section
variable {W : World} {b : Nat} {x0 x1 x2 x3 x4 : Value}
theorem N5.se2 (h : N5 W b x0 x1 x2 x3 x4) (y : Value) : N5 (W.setCell ⟨b, 2, none⟩ y) b x0 x1 y x3 x4 := by
 obtain ⟨c0, c1, c2, c3, c4, c5, c6⟩ := h
 exact ⟨by go_simp, by go_simp, by go_simp, by go_simp, by go_simp, fun i => by go_simp, by simpa using c6⟩
theorem N5.se4 (h : N5 W b x0 x1 x2 x3 x4) (y : Value) : N5 (W.setCell ⟨b, 4, none⟩ y) b x0 x1 x2 x3 y := by
 obtain ⟨c0, c1, c2, c3, c4, c5, c6⟩ := h
 exact ⟨by go_simp, by go_simp, by go_simp, by go_simp, by go_simp, fun i => by go_simp, by simpa using c6⟩
end
class R3 (w : World) (base b : Nat) (vS vI vV : Value) (S I : outParam (List Nat)) (F : outParam (Nat → Nat)) (q : outParam Nat) : Prop where
 os : w.ownsRow base 3 1 vS S.length (zMP S)
 oi : w.ownsRow base 3 1 vI I.length (zMP I)
 ov : w.ownsRow base 40 1 vV q (zAX F q)
 n1 : vS.ownBlock = none ∨ vS.ownBlock ≠ vI.ownBlock
 n2 : vS.ownBlock = none ∨ vS.ownBlock ≠ vV.ownBlock
 n3 : vI.ownBlock = none ∨ vI.ownBlock ≠ vV.ownBlock
 bS : some b ≠ vS.ownBlock
 bI : some b ≠ vI.ownBlock
 bV : some b ≠ vV.ownBlock
 lt : b < w.heap.size
section
variable {w w' : World} {base b : Nat} {vS vI vV u : Value} {S I : List Nat} {F : Nat → Nat} {q : Nat}
theorem R3.below (h : R3 w base b vS vI vV S I F q) (hb : Below w.heap.size w w') : R3 w' base b vS vI vV S I F q := ⟨zAx h.os hb, zAx h.oi hb, zAx h.ov hb, h.n1, h.n2, h.n3, h.bS, h.bI, h.bV, Nat.lt_of_lt_of_le h.lt hb.size⟩
instance R3.dr [h : R3 w base b vS vI vV S I F q] : R3 w.drew base b vS vI vV S I F q := h.below (Below.refl _ _).drew
instance R3.dn (k : Nat) [h : R3 w base b vS vI vV S I F q] : R3 (w.drewN k) base b vS vI vV S I F q := h.below (below_drewN (Below.refl _ _) _)
instance R3.al (o : Obj) [h : R3 w base b vS vI vV S I F q] : R3 (w.alloc o) base b vS vI vV S I F q := h.below ((Below.refl _ _).alloc (Nat.le_refl _) _)
instance R3.fr (L : World) [f : From L w] [h : R3 L base b vS vI vV S I F q] : R3 w base b vS vI vV S I F q := h.below f.out
theorem R3.sen (h : R3 w base b vS vI vV S I F q) {g : Nat} (hb : g = b ∨ g < base) (i : Nat) (y : Value) : R3 (w.setCell ⟨g, i, none⟩ y) base b vS vI vV S I F q :=
 ⟨zFj h.os (by rcases hb with rfl | hb; exact h.bS; exact zDF h.os hb) i y, zFj h.oi (by rcases hb with rfl | hb; exact h.bI; exact zDF h.oi hb) i y, zFj h.ov (by rcases hb with rfl | hb; exact h.bV; exact zDF h.ov hb) i y, h.n1, h.n2, h.n3, h.bS, h.bI, h.bV, by rw [World.size_setCell]; exact h.lt⟩
end
theorem w3 {P k : Nat} (hP : P ≤ 4096) (hk : k ≤ 64) : 0 ≤ wrap64 (wrap64 (100 + wrap64 (P : Int)) + (k : Int)) ∧ wrap64 (wrap64 (100 + wrap64 (P : Int)) + (k : Int)) ≤ 1000000 := by unfold wrap64; omega
def SX (s : Int) (X : Nat → Nat) : Prop := ∀ i, Sty s (X i)
theorem SX.up {s : Int} {X : Nat → Nat} (h : SX s X) {k y : Nat} (h1 : Sty s y) : SX s (fun i => if i = k then y else X i) := fun i => by
 show Sty s (if i = k then y else X i)
 split
 · exact h1
 · exact h i
theorem Sty.zero (s : Int) : Sty s 0 := ⟨by decide, by decide, fun _ => by decide⟩
theorem SX.zero (s : Int) : SX s fun _ => 0 := fun _ => Sty.zero s
class MX (w : World) (r c : Nat) (aS : Option Addr) (cS : Nat) (aI : Option Addr) (q cI : Nat) (aV : Option Addr) (cV : Nat) (S I F : outParam (Nat → Nat)) : Prop where
 s : Ils w aS (c + 1) cS (fun t => ((S t : Nat) : Int))
 i : Ils w aI q cI (fun t => ((I t : Nat) : Int))
 v : Fls w aV q cV F
 ok : Val r c q S I F
section
variable {w w' : World} {r c q cS cI cV : Nat} {aS aI aV : Option Addr} {S I F : Nat → Nat}
theorem MX.below (h : MX w r c aS cS aI q cI aV cV S I F) (hb : Below w.heap.size w w') : MX w' r c aS cS aI q cI aV cV S I F := ⟨h.s.below hb, h.i.below hb, h.v.below hb, h.ok⟩
instance MX.dr [h : MX w r c aS cS aI q cI aV cV S I F] : MX w.drew r c aS cS aI q cI aV cV S I F := h.below (Below.refl _ _).drew
instance MX.dn (k : Nat) [h : MX w r c aS cS aI q cI aV cV S I F] : MX (w.drewN k) r c aS cS aI q cI aV cV S I F := h.below (below_drewN (Below.refl _ _) _)
instance MX.al (o : Obj) [h : MX w r c aS cS aI q cI aV cV S I F] : MX (w.alloc o) r c aS cS aI q cI aV cV S I F := h.below ((Below.refl _ _).alloc (Nat.le_refl _) _)
instance MX.fr (L : World) [f : From L w] [h : MX L r c aS cS aI q cI aV cV S I F] : MX w r c aS cS aI q cI aV cV S I F := h.below f.out
end
theorem zF0 {ops : Array Oper} {rest : List Oper} {o : Oper} {a : Act} {Q : Exit → Act → World → Prop} {w : World} (hgd : o.guard = none) (s x : Operand)
 (ho : o.op = .call { callee := .builtin .append, args := #[s, x], argTypes := #[28, 28] }) (base : Nat) (v : Value) (n : Nat) (xs : List Value) (hs : a.eval s = v) (g : Nat) (d : Int)
 (hx : a.eval x = .slice (some ⟨g, 0, none⟩) 1 1) (hown : w.ownsRow base 40 1 v n xs) (hcell : w.cell? ⟨g, 0, none⟩ = some (.int .u64 d)) (hn : n ≤ 4398046511104)
 (hbase : base ≤ w.heap.size) (h : ∀ v' w', w'.ownsRow base 40 1 v' (n + 1) (xs ++ [.int .u64 d]) → w.grownBy w' v.ownBlock → (v'.ownBlock = v.ownBlock ∨ v'.ownBlock = some w.heap.size) → wpList Tryz.prog ops Q rest (a.put o.dst v') w') : wpList Tryz.prog ops Q (o :: rest) a w := by
 obtain ⟨i0, hi, hz0, hz1, hz2⟩ := info_parts zPq
 refine wpList_append_own_at w hgd s x _ ho base _ i0 (.int .u64 0) 1 8 zN0 hi hz0 hz1 hz2 rfl (by decide) v n _ hs hown ⟨g, 0, none⟩ 1 1 [.int .u64 d] hx rfl ?_ ?_ ?_ ?_ hbase ?_
 · intro j u hu
   have : j = 0 := by
    rcases Nat.eq_zero_or_pos j with h | h
    · exact h
    · rw [List.getElem?_eq_none (by simp; omega)] at hu; cases hu
   subst this
   simp at hu; subst hu
   rw [Addr.add_zero']; exact hcell
 · intro u hu; simp at hu; subst hu; rfl
 · unfold maxLen; omega
 · omega
 · intro v' w' h1 h2 _ h4
   exact h v' w' h1 h2 h4
theorem zEz {ops : Array Oper} {o : Oper} {a : Act} {K : Act → World → Prop} {Q : Exit → Act → World → Prop} {w : World} {E : Prop} (hgd : o.guard = none) (s x : Operand)
 (ho : o.op = .call { callee := .builtin .append, args := #[s, x], argTypes := #[28, 28] }) (base : Nat) (v : Value) (n : Nat) (xs : List Value) (hs : a.eval s = v) (g : Nat) (d : Int)
 (hx : a.eval x = .slice (some ⟨g, 0, none⟩) 1 1) (hown : w.ownsRow base 40 1 v n xs) (hcell : w.cell? ⟨g, 0, none⟩ = some (.int .u64 d)) (hn : n ≤ 1048576)
 (hbase : base ≤ w.heap.size) (h : ∀ g' cap' w', w'.ownsRow base 40 1 (.slice (some ⟨g', 0, none⟩) (n + 1) cap') (n + 1) (xs ++ [.int .u64 d]) → w.grownBy w' v.ownBlock → ((Value.slice (some ⟨g', 0, none⟩) (n + 1) cap').ownBlock = v.ownBlock ∨ (Value.slice (some ⟨g', 0, none⟩) (n + 1) cap').ownBlock = some w.heap.size) → K (a.put o.dst (.slice (some ⟨g', 0, none⟩) (n + 1) cap')) w') :
 if Region.wanted o (yielded ops a.tmps) = true then Oper.wp Tryz.prog o a w K Q else E := by
 obtain ⟨i0, hi, hz0, hz1, hz2⟩ := info_parts zPq
 refine step_append_lies w hgd s x _ ho base _ i0 _ 1 8 zN0 hi hz0 hz1 hz2 rfl (by decide) v n xs hs hown ⟨g, 0, none⟩ 1 1 [.int .u64 d] hx rfl ?_ ?_ (by decide) (by unfold maxLen; omega) (by omega) hbase _ rfl (fun g' cap' w' h1 h2 h3 _ => h g' cap' w' h1 h2 ?_)
 · intro j u hu
   have : j = 0 := by
    rcases Nat.eq_zero_or_pos j with h | h
    · exact h
    · rw [List.getElem?_eq_none (by simp; omega)] at hu; cases hu
   subst this
   simp at hu; subst hu
   rw [Addr.add_zero']; exact hcell
 · intro u hu; simp at hu; subst hu; rfl
 · have e : (Value.slice (some ⟨g', 0, none⟩) (n + 1) cap').ownBlock = some g' := rfl
   rw [e]
   rcases h3 with h3 | h3
   · exact Or.inl h3.symm
   · exact Or.inr (by rw [h3])
end Go.Proofs.YtablcbgeeeboeaaGreatDoor
namespace Go.Proofs.YtablcbgeeeboeaaGreatDoor
open Go.RowKit Sp
def zFA (B : Nat → Option (Int × Int)) (n : Nat) (V : Nat → Nat) (i j : Nat) : Nat → Option (Int × Int)
 | 0 => B (j * n + i)
 | c + 1 => zIV (zCZ (fof (V (c * n + i))) (fof (V (c * n + j))))
def zAQ (B : Nat → Option (Int × Int)) (n : Nat) (V : Nat → Nat) (i j m : Nat) : Option (Int × Int) := zBv (zFA B n V i j) (m + 1)
noncomputable def zE8 (B : Nat → Option (Int × Int)) (n : Nat) (V : Nat → Nat) (j i : Nat) : Nat :=
 if i = j then zBE (zAQ B n V j j j) 0 else zH0 (zAQ B n V i j j) (fof (zBE (zAQ B n V j j j) 0)) 0
noncomputable def pan (B : Nat → Option (Int × Int)) (n : Nat) : Nat → Nat → Nat
 | 0, _ => 0
 | j + 1, t => if t / n = j then (if t % n < j then 0 else zE8 B n (pan B n j) j (t % n)) else pan B n j t
noncomputable def zCE (B : Nat → Option (Int × Int)) (n j i : Nat) (t : Nat) : Nat :=
 if t / n = j ∧ j ≤ t % n ∧ t % n < i then zE8 B n (pan B n j) j (t % n) else pan B n j t
noncomputable def zD4 (B : Nat → Option (Int × Int)) (n j i : Nat) : Int :=
 if zA3 (zAQ B n (pan B n j) i j j) then 233
 else if i = j ∧ (zA1 (zAQ B n (pan B n j) i j j) ≤ 0 ∨ zCY (zE8 B n (pan B n j) j i) = true) then 231
 else if zB0 (zE8 B n (pan B n j) j i) then 0 else 233
def zAA (f : Nat → Int) (a : Nat) : Nat → Int
 | 0 => 0
 | q + 1 => if f a = 0 then zAA f (a + 1) q else f a
def zBJ (f : Nat → Int) (a : Nat) : Nat → Nat
 | 0 => a
 | q + 1 => if f a = 0 then zBJ f (a + 1) q else a
noncomputable def zCQ (B : Nat → Option (Int × Int)) (n j : Nat) : Int := zAA (zD4 B n j) j (n - j)
noncomputable def zGD (B : Nat → Option (Int × Int)) (n k : Nat) : Int := zAA (zCQ B n) 0 k
noncomputable def zH2 (B : Nat → Option (Int × Int)) (n k : Nat) : Nat := zBJ (zCQ B n) 0 k
noncomputable def zFd (B : Nat → Option (Int × Int)) (n k j i : Nat) : Int := if zA3 (zAQ B n (pan B n k) i j k) then 233 else 0
noncomputable def zFG (B : Nat → Option (Int × Int)) (n k j : Nat) : Int := zAA (zFd B n k j) j (n - j)
noncomputable def zEy (B : Nat → Option (Int × Int)) (n k : Nat) : Int := zAA (zFG B n k) k (n - k)
noncomputable def zBh (B : Nat → Option (Int × Int)) (n k : Nat) : Int := if zGD B n k = 0 then zEy B n k else zGD B n k
noncomputable def zBo (B : Nat → Option (Int × Int)) (n k : Nat) : Nat := if zBh B n k = 0 then k else if zGD B n k = 231 then zH2 B n k else 0
noncomputable def rest (B : Nat → Option (Int × Int)) (n k t : Nat) : Option (Int × Int) :=
 zAQ B n (pan B n k) (k + max (t / (n - k)) (t % (n - k))) (k + min (t / (n - k)) (t % (n - k))) k
theorem zBa {f : Nat → Int} {a q : Nat} (h : f a = 0) (hq : 0 < q) : zAA f a q = zAA f (a + 1) (q - 1) := by
 obtain ⟨p, rfl⟩ : ∃ p, q = p + 1 := ⟨q - 1, by omega⟩
 simp only [zAA, h, if_true, Nat.add_sub_cancel]
theorem zAu {f : Nat → Int} {a q : Nat} (h : f a ≠ 0) (hq : 0 < q) : zAA f a q = f a := by
 obtain ⟨p, rfl⟩ : ∃ p, q = p + 1 := ⟨q - 1, by omega⟩
 simp only [zAA, if_neg h]
theorem zET {f : Nat → Int} {a q : Nat} (h : f a = 0) (hq : 0 < q) : zBJ f a q = zBJ f (a + 1) (q - 1) := by
 obtain ⟨p, rfl⟩ : ∃ p, q = p + 1 := ⟨q - 1, by omega⟩
 simp only [zBJ, h, if_true, Nat.add_sub_cancel]
theorem zEU {f : Nat → Int} {a q : Nat} (h : f a ≠ 0) (hq : 0 < q) : zBJ f a q = a := by
 obtain ⟨p, rfl⟩ : ∃ p, q = p + 1 := ⟨q - 1, by omega⟩
 simp only [zBJ, if_neg h]
theorem zCI {f : Nat → Int} : ∀ (q a : Nat), (∀ i, a ≤ i → i < a + q → f i = 0) → zAA f a q = 0 := by
 intro q
 induction q with
 | zero => intro a _; rfl
 | succ q ih =>
  intro a h
  simp only [zAA, h a (Nat.le_refl _) (by omega), if_true]
  exact ih (a + 1) fun i h1 h2 => h i (by omega) (by omega)
theorem zCz {n j i : Nat} (hi : i < n) : (j * n + i) / n = j := by
 rw [Nat.mul_comm, Nat.mul_add_div (by omega), Nat.div_eq_of_lt hi, Nat.add_zero]
theorem zDw {n j i : Nat} (hi : i < n) : (j * n + i) % n = i := by
 rw [Nat.mul_comm, Nat.mul_add_mod, Nat.mod_eq_of_lt hi]
theorem zCc {n k j i : Nat} (hi : i < n) (hj : j < k) : j * n + i < n * k := by
 have h1 : (j + 1) * n ≤ k * n := Nat.mul_le_mul_right n hj
 rw [Nat.add_mul, Nat.one_mul] at h1
 rw [Nat.mul_comm n k]; omega
theorem zMO {n t : Nat} : t / n * n + t % n = t := by rw [Nat.mul_comm]; exact Nat.div_add_mod t n
theorem zH3 {B : Nat → Option (Int × Int)} {n : Nat} {V V' : Nat → Nat} {i j m : Nat} (h : ∀ c, c < m → V (c * n + i) = V' (c * n + i) ∧ V (c * n + j) = V' (c * n + j)) :
 ∀ q, q < m + 1 → zFA B n V i j q = zFA B n V' i j q := by
 intro q hq
 cases q with
 | zero => rfl
 | succ c => simp only [zFA, (h c (by omega)).1, (h c (by omega)).2]
theorem zK9 {d d' : Nat → Option (Int × Int)} {n : Nat} (h : ∀ i, i < n → d i = d' i) : mnE d n = mnE d' n := by
 induction n with
 | zero => rfl
 | succ n ih => simp only [mnE]; rw [ih fun i hi => h i (by omega), h n (by omega)]
theorem zAJ {d d' : Nat → Option (Int × Int)} {n : Nat} (h : ∀ i, i < n → d i = d' i) : zA5 d n = zA5 d' n := by
 induction n with
 | zero => rfl
 | succ n ih => simp only [zA5]; rw [ih fun i hi => h i (by omega), h n (by omega)]
theorem zIM {d d' : Nat → Option (Int × Int)} {n : Nat} (h : ∀ i, i < n → d i = d' i) : zBv d n = zBv d' n := by
 unfold zBv; rw [zAJ h, zK9 h, zJh h]
theorem zD0 {B : Nat → Option (Int × Int)} {n : Nat} {V V' : Nat → Nat} {i j m : Nat} (h : ∀ c, c < m → V (c * n + i) = V' (c * n + i) ∧ V (c * n + j) = V' (c * n + j)) :
 zAQ B n V i j m = zAQ B n V' i j m := zIM (zH3 h)
theorem zCb (B : Nat → Option (Int × Int)) (n : Nat) (V : Nat → Nat) (i j m : Nat) : IsN (zAQ B n V i j m) := by
 unfold zAQ zBv
 split
 · exact zBM
 · exact zB7 _ _
theorem zGl {B : Nat → Option (Int × Int)} (hB : ∀ t, IsN (B t)) (n : Nat) (V : Nat → Nat) (i j q : Nat) : IsN (zFA B n V i j q) := by
 cases q with
 | zero => exact hB _
 | succ c => exact zNy (zDv _ _)
theorem zEV {B : Nat → Option (Int × Int)} {n j r i m : Nat} (hi : i < n) (hj : j < n) : zAQ B n (zCE B n m r) i j m = zAQ B n (pan B n m) i j m :=
 zD0 fun c hc => by
  unfold zCE
  rw [if_neg (by rw [zCz hi]; omega), if_neg (by rw [zCz hj]; omega)]
  exact ⟨rfl, rfl⟩
theorem zOv {B : Nat → Option (Int × Int)} {n : Nat} : ∀ (j t : Nat), j ≤ t / n → pan B n j t = 0 := by
 intro j
 induction j with
 | zero => intro t _; rfl
 | succ j ih => intro t h; simp only [pan]; rw [if_neg (by omega)]; exact ih t (by omega)
theorem zEL {B : Nat → Option (Int × Int)} {n j i : Nat} (h : i ≤ j) : zCE B n j i = pan B n j := by
 funext t; unfold zCE; rw [if_neg (by omega)]
theorem zGf {B : Nat → Option (Int × Int)} {n j : Nat} (hn : 0 < n) : zCE B n j n = pan B n (j + 1) := by
 funext t
 unfold zCE
 simp only [pan]
 have := Nat.mod_lt t hn
 by_cases h1 : t / n = j
 · by_cases h2 : j ≤ t % n
   · rw [if_pos ⟨h1, h2, this⟩, if_pos h1, if_neg (by omega)]
   · rw [if_neg (by omega), if_pos h1, if_pos (by omega)]; exact zOv j t (by omega)
 · rw [if_neg (by omega), if_neg h1]
theorem zE9 {B : Nat → Option (Int × Int)} {n j i : Nat} (hi : i < n) (hj : j ≤ i) :
 (fun t => if t = j * n + i then zE8 B n (pan B n j) j i else zCE B n j i t) = zCE B n j (i + 1) := by
 funext t
 have e := @zMO n t
 unfold zCE
 by_cases h : t = j * n + i
 · subst h; rw [if_pos rfl, zCz hi, zDw hi, if_pos (by omega)]
 · rw [if_neg h]
   by_cases h1 : t / n = j ∧ t % n = i
   · exact absurd (by rw [← e, h1.1, h1.2]) h
   · by_cases h2 : t / n = j ∧ j ≤ t % n ∧ t % n < i
     · rw [if_pos h2, if_pos ⟨h2.1, h2.2.1, by omega⟩]
     · rw [if_neg h2, if_neg (fun h3 => h2 ⟨h3.1, h3.2.1, by omega⟩)]
theorem zLL {B : Nat → Option (Int × Int)} {n j i : Nat} (hj : j < n) (hi : j < i) : zCE B n j i (j * n + j) = zBE (zAQ B n (pan B n j) j j j) 0 := by
 unfold zCE
 rw [zCz hj, zDw hj, if_pos ⟨rfl, by omega, by omega⟩]
 unfold zE8; rw [if_pos rfl]
theorem zM3 (d : Option (Int × Int)) (m : Int) : zB0 (zH0 none d m) = false := by
 have : zH0 none d m = zIU := by cases d <;> rfl
 rw [this]; decide
end Go.Proofs.YtablcbgeeeboeaaGreatDoor
