/-
  A region that draws its order, shown by an invariant over the operations that are left. No function of the program in sight.
-/
import Derived.Deep.RegionHeld3
import Derived.WalkKit
import Derived.Test.YtablcbgeeeboeaaGreatDoorZhCs
import Derived.Test.YtablcbgeeeboeaaGreatDoorZhPz
import Derived.Test.YtablcbgeeeboeaaGreatDoorZhTk
import Derived.Test.YtablcbgeeeboeaaGreatDoorZhPx
namespace Go.Proofs.YtablcbgeeeboeaaGreatDoor
def left (l : Array Bool) : Nat := l.toList.count false
end Go.Proofs.YtablcbgeeeboeaaGreatDoor
namespace Go.Proofs.YtablcbgeeeboeaaGreatDoor
open Go.RowKit Sp
def up1 {α : Type} (f : Nat → α) (i : Nat) (v : α) : Nat → α := fun j => if j = i then v else f j
theorem zBR {α : Type} (f : Nat → α) (i : Nat) (v : α) : up1 f i v i = v := if_pos rfl
theorem zAP {α : Type} (f : Nat → α) {i j : Nat} (h : j ≠ i) (v : α) : up1 f i v j = f j := if_neg h
theorem zC0 {f : Nat → Bool} {i j : Nat} (h : up1 f i true j = true) : j = i ∨ (j ≠ i ∧ f j = true) := by
 by_cases hj : j = i
 · exact Or.inl hj
 · rw [zAP _ hj] at h; exact Or.inr ⟨hj, h⟩
def Box (w : World) (b : Nat) : Prop := ∃ x0 x1 x2 x3 x4, N5 w b x0 x1 x2 x3 x4
theorem N5.set5 {W : World} {b : Nat} {x0 x1 x2 x3 x4 : Value} (h : N5 W b x0 x1 x2 x3 x4) (y0 y1 y2 y3 y4 : Value) :
 N5 (((((W.setCell ⟨b, 0, none⟩ y0).setCell ⟨b, 1, none⟩ y1).setCell ⟨b, 2, none⟩ y2).setCell ⟨b, 3, none⟩ y3).setCell ⟨b, 4, none⟩ y4) b y0 y1 y2 y3 y4 := by
 obtain ⟨c0, c1, c2, c3, c4, c5, c6⟩ := h
 exact ⟨by go_simp, by go_simp, by go_simp, by go_simp, by go_simp, fun i => by go_simp, by simpa using c6⟩
theorem N5.st5 {W : World} {b g : Nat} {x0 x1 x2 x3 x4 : Value} (h : N5 W b x0 x1 x2 x3 x4) (ne : b ≠ g) (y0 y1 y2 y3 y4 : Value) :
 N5 (((((W.setCell ⟨g, 0, none⟩ y0).setCell ⟨g, 1, none⟩ y1).setCell ⟨g, 2, none⟩ y2).setCell ⟨g, 3, none⟩ y3).setCell ⟨g, 4, none⟩ y4) b x0 x1 x2 x3 x4 := by
 obtain ⟨c0, c1, c2, c3, c4, c5, c6⟩ := h
 have k : ∀ (V : World) (i j : Nat) (y : Value), (V.setCell ⟨g, i, none⟩ y).cell? ⟨b, j, none⟩ = V.cell? ⟨b, j, none⟩ := fun V i j y => zAk ne _ _ _
 refine ⟨?_, ?_, ?_, ?_, ?_, fun i => ?_, by simpa using c6⟩
 · rw [k, k, k, k, k]; exact c0
 · rw [k, k, k, k, k]; exact c1
 · rw [k, k, k, k, k]; exact c2
 · rw [k, k, k, k, k]; exact c3
 · rw [k, k, k, k, k]; exact c4
 · rw [zAn, zAn, zAn, zAn, zAn]; exact c5 i
theorem Mag.st5 {W : World} {a : Option Addr} {n c x g : Nat} (h : Mag W a n c x) (ne : 0 < n → ab a ≠ g) (y0 y1 y2 y3 y4 : Value) :
 Mag (((((W.setCell ⟨g, 0, none⟩ y0).setCell ⟨g, 1, none⟩ y1).setCell ⟨g, 2, none⟩ y2).setCell ⟨g, 3, none⟩ y3).setCell ⟨g, 4, none⟩ y4) a n c x := ((((h.set ne 0 y0).set ne 1 y1).set ne 2 y2).set ne 3 y3).set ne 4 y4
structure NS (w0 : World) (I : Nat → Int) (d : Nat → Option (Int × Int)) (al ca st : Nat → Bool) (B : Nat → Nat) (A : Nat → Option Addr) (C : Nat → Nat) (w : World) : Prop where
 beh : Below w0.heap.size w0 w
 bx : ∀ i, al i = true → w0.heap.size ≤ B i ∧ Box w (B i)
 ne : ∀ i j, i ≠ j → al i = true → al j = true → B i ≠ B j
 nu : ∀ i, ca i = true → Mag w (A i) (nl (zA1 (d i)).natAbs) (C i) (zA1 (d i)).natAbs
 fr : ∀ i j, al i = true → ca j = true → 0 < nl (zA1 (d j)).natAbs → ab (A j) ≠ B i
 se : ∀ i, st i = true → al i = true ∧ ca i = true ∧ N5 w (B i) (.int .i64 (I i)) (.bool (zA3 (d i))) (.bool (decide (zA1 (d i) < 0))) (.slice (A i) (nl (zA1 (d i)).natAbs) (C i)) (.int .i64 (zA2 (d i)))
section
variable {w0 w : World} {I : Nat → Int} {d : Nat → Option (Int × Int)} {al ca st : Nat → Bool} {B : Nat → Nat} {A : Nat → Option Addr} {C : Nat → Nat}
theorem NS.alloc (h : NS w0 I d al ca st B A C w) (i : Nat) (hi : al i = false) (x0 x1 x2 x3 x4 : Value) (t : TypeId) :
 NS w0 I d (up1 al i true) ca st (up1 B i w.heap.size) A C (w.alloc (.cells #[x0, x1, x2, x3, x4] t)) := by
 have B0 : Below w.heap.size w (w.alloc (.cells #[x0, x1, x2, x3, x4] t)) := (Below.refl _ _).alloc (Nat.le_refl _) _
 have hsz := h.beh.size
 refine ⟨h.beh.alloc hsz _, fun j hj => ?_, fun j l hne hj hl => ?_, fun j hj => (h.nu j hj).below B0, fun j l hj hl hp => ?_, fun j hj => ?_⟩
 · rcases zC0 hj with rfl | ⟨hji, hj⟩
   · rw [zBR]; exact ⟨hsz, _, _, _, _, _, N5.made w t x0 x1 x2 x3 x4 rfl⟩
   · rw [zAP _ hji]
     obtain ⟨h1, y0, y1, y2, y3, y4, h2⟩ := h.bx j hj
     exact ⟨h1, _, _, _, _, _, h2.below B0⟩
 · rcases zC0 hj with hji | ⟨hji, hj'⟩ <;> rcases zC0 hl with hli | ⟨hli, hl'⟩
   · exact absurd (hji.trans hli.symm) hne
   · rw [hji, zBR, zAP _ hli]
     obtain ⟨_, y0, y1, y2, y3, y4, h2⟩ := h.bx l hl'
     have := h2.lt; omega
   · rw [hli, zBR, zAP _ hji]
     obtain ⟨_, y0, y1, y2, y3, y4, h2⟩ := h.bx j hj'
     have := h2.lt; omega
   · rw [zAP _ hji, zAP _ hli]; exact h.ne j l hne hj' hl'
 · rcases zC0 hj with rfl | ⟨hji, hj⟩
   · rw [zBR]
     have := (h.nu l hl).old hp; omega
   · rw [zAP _ hji]; exact h.fr j l hj hl hp
 · obtain ⟨h1, h2, h3⟩ := h.se j hj
   have hji : j ≠ i := fun e => by rw [e, hi] at h1; cases h1
   rw [zAP _ hji, zAP _ hji]
   exact ⟨h1, h2, h3.below B0⟩
theorem NS.on (h : NS w0 I d al ca st B A C w) {w' : World} (hb : From w w') : NS w0 I d al ca st B A C w' := by
 have B0 := hb.out
 refine ⟨h.beh.trans (B0.mono h.beh.size), fun j hj => ?_, h.ne, fun j hj => (h.nu j hj).below B0, h.fr, fun j hj => ?_⟩
 · obtain ⟨h1, y0, y1, y2, y3, y4, h2⟩ := h.bx j hj
   exact ⟨h1, _, _, _, _, _, h2.below B0⟩
 · obtain ⟨h1, h2, h3⟩ := h.se j hj
   exact ⟨h1, h2, h3.below B0⟩
theorem NS.num (h : NS w0 I d al ca st B A C w) (j : Nat) (hj : ca j = false) (a : Option Addr) (c : Nat) (hm : Mag w a (nl (zA1 (d j)).natAbs) c (zA1 (d j)).natAbs)
 (hf : ∀ i, al i = true → 0 < nl (zA1 (d j)).natAbs → ab a ≠ B i) : NS w0 I d al (up1 ca j true) st B (up1 A j a) (up1 C j c) w := by
 refine ⟨h.beh, h.bx, h.ne, fun i hi => ?_, fun i l hi hl hp => ?_, fun i hi => ?_⟩
 · rcases zC0 hi with rfl | ⟨hij, hi⟩
   · rw [zBR, zBR]; exact hm
   · rw [zAP _ hij, zAP _ hij]; exact h.nu i hi
 · rcases zC0 hl with rfl | ⟨hlj, hl⟩
   · rw [zBR]; exact hf i hi hp
   · rw [zAP _ hlj]; exact h.fr i l hi hl hp
 · obtain ⟨h1, h2, h3⟩ := h.se i hi
   have hij : i ≠ j := fun e => by rw [e, hj] at h2; cases h2
   rw [zAP _ hij, zAP _ hij, zAP _ hij]
   exact ⟨h1, h2, h3⟩
theorem NS.call (h : NS w0 I d al ca st B A C w) (j : Nat) (hj : ca j = false) {w' : World} (hb : From w w') (a : Option Addr) (c : Nat) (hm : Mag w' a (nl (zA1 (d j)).natAbs) c (zA1 (d j)).natAbs)
 (hf : 0 < nl (zA1 (d j)).natAbs → w.heap.size ≤ ab a) : NS w0 I d al (up1 ca j true) st B (up1 A j a) (up1 C j c) w' :=
 (h.on hb).num j hj a c hm fun i hi hp => by
  obtain ⟨_, y0, y1, y2, y3, y4, h2⟩ := h.bx i hi
  have := h2.lt; have := hf hp; omega
theorem NS.store (h : NS w0 I d al ca st B A C w) (i : Nat) (hal : al i = true) (hca : ca i = true) :
 NS w0 I d al ca (up1 st i true) B A C (((((w.setCell ⟨B i, 0, none⟩ (.int .i64 (I i))).setCell ⟨B i, 1, none⟩ (.bool (zA3 (d i)))).setCell ⟨B i, 2, none⟩ (.bool (decide (zA1 (d i) < 0)))).setCell ⟨B i, 3, none⟩ (.slice (A i) (nl (zA1 (d i)).natAbs) (C i))).setCell ⟨B i, 4, none⟩ (.int .i64 (zA2 (d i)))) := by
 obtain ⟨hb, z0, z1, z2, z3, z4, hz⟩ := h.bx i hal
 refine ⟨((((h.beh.setCell hb _).setCell hb _).setCell hb _).setCell hb _).setCell hb _, fun j hj => ?_, h.ne, fun j hj => Mag.st5 (h.nu j hj) (h.fr i j hal hj) _ _ _ _ _, h.fr, fun j hj => ?_⟩
 · obtain ⟨h1, y0, y1, y2, y3, y4, h2⟩ := h.bx j hj
   refine ⟨h1, ?_⟩
   by_cases e : j = i
   · subst e; exact ⟨_, _, _, _, _, h2.set5 _ _ _ _ _⟩
   · exact ⟨_, _, _, _, _, h2.st5 (h.ne j i e hj hal) _ _ _ _ _⟩
 · rcases zC0 hj with rfl | ⟨hji, hj⟩
   · exact ⟨hal, hca, hz.set5 _ _ _ _ _⟩
   · obtain ⟨h1, h2, h3⟩ := h.se j hj
     exact ⟨h1, h2, h3.st5 (h.ne j i hji h1 hal) _ _ _ _ _⟩
end
def AllI (F : Nat → Oper → Prop) : Nat → List Oper → Prop
 | _, [] => True
 | k, o :: r => F k o ∧ AllI F (k + 1) r
theorem AllI.nil {F : Nat → Oper → Prop} {k : Nat} : AllI F k [] := trivial
end Go.Proofs.YtablcbgeeeboeaaGreatDoor
namespace Go.Proofs.YtablcbgeeeboeaaGreatDoor
open Go.RowKit Sp
structure Stab (Φ : World → Prop) (lo hi : Nat) : Prop where
 mono : ∀ {w w' : World}, Below w.heap.size w w' → Φ w → Φ w'
 kept : ∀ {w w' : World} {b : Nat}, w.grownBy w' (some b) → (b < lo ∨ hi ≤ b) → Φ w → Φ w'
theorem Stab.and {Φ Ψ : World → Prop} {lo hi : Nat} (h : Stab Φ lo hi) (k : Stab Ψ lo hi) : Stab (fun w => Φ w ∧ Ψ w) lo hi :=
 ⟨fun b h1 => ⟨h.mono b h1.1, k.mono b h1.2⟩, fun g hb h1 => ⟨h.kept g hb h1.1, k.kept g hb h1.2⟩⟩
theorem Stab.ex {α : Sort _} {Φ : α → World → Prop} {lo hi : Nat} (h : ∀ x, Stab (Φ x) lo hi) : Stab (fun w => ∃ x, Φ x w) lo hi :=
 ⟨fun b ⟨x, h1⟩ => ⟨x, (h x).mono b h1⟩, fun g hb ⟨x, h1⟩ => ⟨x, (h x).kept g hb h1⟩⟩
theorem Stab.imp {p : Prop} {Φ : World → Prop} {lo hi : Nat} (h : p → Stab Φ lo hi) : Stab (fun w => p ∧ Φ w) lo hi :=
 ⟨fun b h1 => ⟨h1.1, (h h1.1).mono b h1.2⟩, fun g hb h1 => ⟨h1.1, (h h1.1).kept g hb h1.2⟩⟩
def zMD (w : World) (b : Nat) : Nat → List Value → World
 | _, [] => w
 | i, v :: r => zMD (w.setCell ⟨b, i, none⟩ v) b (i + 1) r
theorem zFS (b : Nat) : ∀ (l : List Value) (i : Nat) (a w : World), a.grownBy w (some b) → a.grownBy (zMD w b i l) (some b) := by
 intro l
 induction l with
 | nil => intro i a w h; exact h
 | cons v r ih => intro i a w h; exact ih (i + 1) a _ (zAY h i v)
theorem zIi (b : Nat) {m : Nat} (hb : m ≤ b) : ∀ (l : List Value) (i : Nat) (a w : World), Below m a w → Below m a (zMD w b i l) := by
 intro l
 induction l with
 | nil => intro i a w h; exact h
 | cons v r ih => intro i a w h; exact ih (i + 1) a _ (h.setCell (p := ⟨b, i, none⟩) hb v)
structure BoxA (w : World) (b k : Nat) : Prop where
 c : ∀ i, i < k → w.cell? ⟨b, i, none⟩ = some ((w.cell? ⟨b, i, none⟩).getD undef)
 z : ∀ i, w.frozen? ⟨b, i, none⟩ = false
 lt : b < w.heap.size
structure BoxV (w : World) (b : Nat) (l : List Value) : Prop where
 c : ∀ i v, l[i]? = some v → w.cell? ⟨b, i, none⟩ = some v
 z : ∀ i, w.frozen? ⟨b, i, none⟩ = false
 lt : b < w.heap.size
section
variable {w w' : World} {b k : Nat} {l : List Value}
theorem BoxA.below (h : BoxA w b k) (hb : Below w.heap.size w w') : BoxA w' b k := by
 obtain ⟨h1, h2⟩ := zA8 hb
 exact ⟨fun i hi => by rw [h1 _ _ h.lt]; exact h.c i hi, fun i => (h2 _ _ h.lt).trans (h.z i), Nat.lt_of_lt_of_le h.lt hb.size⟩
theorem BoxV.below (h : BoxV w b l) (hb : Below w.heap.size w w') : BoxV w' b l := by
 obtain ⟨h1, h2⟩ := zA8 hb
 exact ⟨fun i v hi => (h1 _ _ h.lt).trans (h.c i v hi), fun i => (h2 _ _ h.lt).trans (h.z i), Nat.lt_of_lt_of_le h.lt hb.size⟩
theorem BoxA.grown (h : BoxA w b k) {g : Nat} (hg : w.grownBy w' (some g)) (ne : b ≠ g) : BoxA w' b k := by
 have hblk := hg.block b h.lt (fun e => ne (Option.some.inj e))
 have hc : ∀ i, w'.cell? ⟨b, i, none⟩ = w.cell? ⟨b, i, none⟩ := fun i => World.cell?_of_block (a := ⟨b, i, none⟩) hblk
 exact ⟨fun i hi => by rw [hc i]; exact h.c i hi, fun i => (World.frozen?_of_block (a := ⟨b, i, none⟩) hblk).trans (h.z i), Nat.lt_of_lt_of_le h.lt hg.size⟩
theorem BoxV.grown (h : BoxV w b l) {g : Nat} (hg : w.grownBy w' (some g)) (ne : b ≠ g) : BoxV w' b l := by
 have hblk := hg.block b h.lt (fun e => ne (Option.some.inj e))
 have hc : ∀ i, w'.cell? ⟨b, i, none⟩ = w.cell? ⟨b, i, none⟩ := fun i => World.cell?_of_block (a := ⟨b, i, none⟩) hblk
 exact ⟨fun i v hi => (hc i).trans (h.c i v hi), fun i => (World.frozen?_of_block (a := ⟨b, i, none⟩) hblk).trans (h.z i), Nat.lt_of_lt_of_le h.lt hg.size⟩
theorem BoxV.a (h : BoxV w b l) : BoxA w b l.length :=
 ⟨fun i hi => by have := h.c i l[i] (by simp [hi]); rw [this]; rfl, h.z, h.lt⟩
theorem BoxA.made (w : World) (cs : Array Value) (t : TypeId) : BoxA (w.alloc (.cells cs t)) w.heap.size cs.size :=
 ⟨fun i hi => by rw [World.cell?_alloc_new]; simp [hi], fun i => by simp [go_sem], by rw [World.size_alloc]; omega⟩
theorem zOi (w : World) (b i : Nat) (v : Value) (h : (w.cell? ⟨b, i, none⟩).isSome = true) : (w.setCell ⟨b, i, none⟩ v).cell? ⟨b, i, none⟩ = some v := by simp [go_sem, h]
theorem zME (w : World) (b i j : Nat) (v : Value) (h : j ≠ i) : (w.setCell ⟨b, i, none⟩ v).cell? ⟨b, j, none⟩ = w.cell? ⟨b, j, none⟩ := by
 simp [go_sem]
theorem zJn : ∀ (l : List Value) (i : Nat) (w : World), (∀ j, j < l.length → (w.cell? ⟨b, i + j, none⟩).isSome = true) →
 (∀ j v, l[j]? = some v → (zMD w b i l).cell? ⟨b, i + j, none⟩ = some v) ∧ (∀ j, j < i → (zMD w b i l).cell? ⟨b, j, none⟩ = w.cell? ⟨b, j, none⟩) := by
 intro l
 induction l with
 | nil => intro i w _; exact ⟨fun j v h => (by simp at h), fun j _ => rfl⟩
 | cons x r ih =>
  intro i w hs
  have hs0 := hs 0 (by simp)
  rw [Nat.add_zero] at hs0
  obtain ⟨h1, h2⟩ := ih (i + 1) (w.setCell ⟨b, i, none⟩ x) fun j hj => by
   rw [zME _ _ _ _ _ (by omega)]
   have := hs (j + 1) (by simp; omega)
   rwa [show i + 1 + j = i + (j + 1) by omega]
  refine ⟨fun j v hv => ?_, fun j hj => ?_⟩
  · cases j with
    | zero =>
     simp at hv; subst hv
     rw [Nat.add_zero]
     exact (h2 i (by omega)).trans (zOi _ _ _ _ hs0)
    | succ j =>
     have := h1 j v (by simpa using hv)
     rwa [show i + 1 + j = i + (j + 1) by omega] at this
  · exact (h2 j (by omega)).trans (zME _ _ _ _ _ (by omega))
theorem zGJ : ∀ (l : List Value) (i : Nat) (w : World) (j : Nat), (zMD w b i l).frozen? ⟨b, j, none⟩ = w.frozen? ⟨b, j, none⟩ := by
 intro l
 induction l with
 | nil => intro i w j; rfl
 | cons x r ih => intro i w j; exact (ih (i + 1) _ j).trans (zAn j i x)
theorem BoxA.put (h : BoxA w b k) (hl : l.length = k) : BoxV (zMD w b 0 l) b l := by
 obtain ⟨h1, _⟩ := zJn (b := b) l 0 w fun j hj => by rw [Nat.zero_add, h.c j (by omega)]; rfl
 refine ⟨fun i v hi => ?_, fun i => (zGJ l 0 w i).trans (h.z i), Nat.lt_of_lt_of_le h.lt (zFS b l 0 w w (zBk w b)).size⟩
 have := h1 i v hi
 rwa [Nat.zero_add] at this
end
theorem zO8 {f : Nat → Bool} {i j : Nat} (h : f j = true) : up1 f i true j = true := by
 unfold up1; split
 · rfl
 · exact h
structure BX (w0 : World) (sz src par : Nat → Nat) (Φ : Nat → Value → Nat → Nat → World → Prop) (Y : Nat → Value → List Value) (al ca st ex : Nat → Bool) (B lo hi : Nat → Nat) (V : Nat → Value) (w : World) : Prop where
 beh : Below w0.heap.size w0 w
 bx : ∀ i, al i = true → w0.heap.size ≤ B i ∧ BoxA w (B i) (sz i)
 ne : ∀ i j, i ≠ j → al i = true → al j = true → B i ≠ B j
 ph : ∀ j, ca j = true → lo j ≤ hi j ∧ hi j ≤ w.heap.size ∧ Φ j (V j) (lo j) (hi j) w
 ap : ∀ i j, al i = true → ca j = true → B i < lo j ∨ hi j ≤ B i
 se : ∀ i, st i = true → al i = true ∧ ca (src i) = true ∧ BoxV w (B i) (Y i (V (src i)))
 xc : ∀ e, ex e = true → ca (par e) = true
section
variable {w0 w w' : World} {sz src par : Nat → Nat} {Φ : Nat → Value → Nat → Nat → World → Prop} {Y : Nat → Value → List Value} {al ca st ex : Nat → Bool} {B lo hi : Nat → Nat} {V : Nat → Value}
theorem BX.on (hΦ : ∀ j v a b, Stab (Φ j v a b) a b) (h : BX w0 sz src par Φ Y al ca st ex B lo hi V w) (B0 : Below w.heap.size w w') : BX w0 sz src par Φ Y al ca st ex B lo hi V w' :=
 ⟨h.beh.trans (B0.mono h.beh.size), fun i hi => ⟨(h.bx i hi).1, (h.bx i hi).2.below B0⟩, h.ne, fun j hj => ⟨(h.ph j hj).1, Nat.le_trans (h.ph j hj).2.1 B0.size, (hΦ _ _ _ _).mono B0 (h.ph j hj).2.2⟩, h.ap, fun i hi => ⟨(h.se i hi).1, (h.se i hi).2.1, (h.se i hi).2.2.below B0⟩, h.xc⟩
theorem BX.alloc (hΦ : ∀ j v a b, Stab (Φ j v a b) a b) (h : BX w0 sz src par Φ Y al ca st ex B lo hi V w) (i : Nat) (h0 : al i = false) (cs : Array Value) (t : TypeId) (hs : cs.size = sz i) :
 BX w0 sz src par Φ Y (up1 al i true) ca st ex (up1 B i w.heap.size) lo hi V (w.alloc (.cells cs t)) := by
 have B0 : Below w.heap.size w (w.alloc (.cells cs t)) := (Below.refl _ _).alloc (Nat.le_refl _) _
 have h' := h.on hΦ B0
 have hsz := h.beh.size
 refine ⟨h'.beh, fun j hj => ?_, fun j l hne hj hl => ?_, h'.ph, fun j l hj hl => ?_, fun j hj => ?_, h.xc⟩
 · rcases zC0 hj with rfl | ⟨hji, hj⟩
   · rw [zBR, ← hs]; exact ⟨hsz, BoxA.made w cs t⟩
   · rw [zAP _ hji]; exact h'.bx j hj
 · rcases zC0 hj with hji | ⟨hji, hj'⟩ <;> rcases zC0 hl with hli | ⟨hli, hl'⟩
   · exact absurd (hji.trans hli.symm) hne
   · rw [hji, zBR, zAP _ hli]
     have := (h.bx l hl').2.lt; omega
   · rw [hli, zBR, zAP _ hji]
     have := (h.bx j hj').2.lt; omega
   · rw [zAP _ hji, zAP _ hli]; exact h.ne j l hne hj' hl'
 · rcases zC0 hj with rfl | ⟨hji, hj⟩
   · rw [zBR]; exact Or.inr (h.ph l hl).2.1
   · rw [zAP _ hji]; exact h.ap j l hj hl
 · obtain ⟨h1, h2, h3⟩ := h'.se j hj
   have hji : j ≠ i := fun e => by rw [e, h0] at h1; cases h1
   rw [zAP _ hji, zAP _ hji]
   exact ⟨h1, h2, h3⟩
theorem BX.call (hΦ : ∀ j v a b, Stab (Φ j v a b) a b) (h : BX w0 sz src par Φ Y al ca st ex B lo hi V w) (j : Nat) (hj : ca j = false) (hb : Below w.heap.size w w') (v : Value) (hp : Φ j v w.heap.size w'.heap.size w') :
 BX w0 sz src par Φ Y al (up1 ca j true) st ex B (up1 lo j w.heap.size) (up1 hi j w'.heap.size) (up1 V j v) w' := by
 have h' := h.on hΦ hb
 refine ⟨h'.beh, h'.bx, h'.ne, fun l hl => ?_, fun i l hi hl => ?_, fun i hi => ?_, fun e he => zO8 (h.xc e he)⟩
 · rcases zC0 hl with rfl | ⟨hlj, hl⟩
   · rw [zBR, zBR, zBR]; exact ⟨hb.size, Nat.le_refl _, hp⟩
   · rw [zAP _ hlj, zAP _ hlj, zAP _ hlj]; exact h'.ph l hl
 · rcases zC0 hl with rfl | ⟨hlj, hl⟩
   · rw [zBR]; exact Or.inl (h.bx i hi).2.lt
   · rw [zAP _ hlj, zAP _ hlj]; exact h.ap i l hi hl
 · obtain ⟨h1, h2, h3⟩ := h'.se i hi
   have hij : src i ≠ j := fun e => by rw [e, hj] at h2; cases h2
   rw [zAP _ hij, zAP _ hij]
   exact ⟨h1, h2, h3⟩
theorem BX.store (hΦ : ∀ j v a b, Stab (Φ j v a b) a b) (h : BX w0 sz src par Φ Y al ca st ex B lo hi V w) (i : Nat) (hal : al i = true) (hca : ca (src i) = true) (hl : (Y i (V (src i))).length = sz i) :
 BX w0 sz src par Φ Y al ca (up1 st i true) ex B lo hi V (zMD w (B i) 0 (Y i (V (src i)))) := by
 have hg := zFS (B i) (Y i (V (src i))) 0 w w (zBk w (B i))
 obtain ⟨hb, hx⟩ := h.bx i hal
 have hv := hx.put hl
 refine ⟨zIi (B i) hb _ 0 w0 w h.beh, fun j hj => ?_, h.ne, fun j hj => ?_, h.ap, fun j hj => ?_, h.xc⟩
 · refine ⟨(h.bx j hj).1, ?_⟩
   by_cases e : j = i
   · subst e; rw [← hl]; exact hv.a
   · exact (h.bx j hj).2.grown hg (h.ne j i e hj hal)
 · obtain ⟨h1, h2, h3⟩ := h.ph j hj
   exact ⟨h1, Nat.le_trans h2 hg.size, (hΦ _ _ _ _).kept hg (h.ap i j hal hj) h3⟩
 · rcases zC0 hj with rfl | ⟨hji, hj⟩
   · exact ⟨hal, hca, hv⟩
   · obtain ⟨h1, h2, h3⟩ := h.se j hj
     exact ⟨h1, h2, h3.grown hg (h.ne j i hji h1 hal)⟩
end
def zPF : Value → List Value
 | .agg a => a.toList
 | v => [v]
end Go.Proofs.YtablcbgeeeboeaaGreatDoor
namespace Go.Proofs.YtablcbgeeeboeaaGreatDoor
open Go.RowKit Sp
def FW (a : Option Addr) (n c : Nat) (X : Nat → Nat) (lo hi : Nat) (w : World) : Prop := (0 < n → lo ≤ ab a ∧ ab a < hi) ∧ Fls w a n c X
def DW (a : Option Addr) (n c : Nat) (d : Nat → Option (Int × Int)) (lo hi : Nat) (w : World) : Prop :=
 ∃ A C, (DM w lo (.slice a n c) n d A C ∧ (∀ g, (Value.slice a n c).ownBlock = some g → g < hi) ∧ ∀ i, i < n → 0 < nl (zA1 (d i)).natAbs → ab (A i) < hi)
theorem FW.of {w w' : World} {a : Option Addr} {n c : Nat} {X : Nat → Nat} (h : Fls w' a n c X) (hf : 0 < n → w.heap.size ≤ ab a) : FW a n c X w.heap.size w'.heap.size w' := ⟨fun hn => ⟨hf hn, h.old hn⟩, h⟩
theorem DW.of {w w' : World} {a : Option Addr} {n c : Nat} {d : Nat → Option (Int × Int)} (h : DN w w' a n c d) : DW a n c d w.heap.size w'.heap.size w' := by
 obtain ⟨A, C, h1⟩ := h
 exact ⟨A, C, h1, fun g hg => (h1.out.own.lt g hg).2, fun i hi hp => (h1.out.m i hi).old hp⟩
theorem DW.dz {w : World} {a : Option Addr} {n c lo hi : Nat} {d : Nat → Option (Int × Int)} (h : DW a n c d lo hi w) (hd : ∀ i, IsN (d i)) : Dz w a n c d := by
 obtain ⟨A, C, h1, _⟩ := h; exact (h1.dz hd).2
theorem BoxV.n3 {w : World} {b : Nat} {x0 x1 x2 : Value} (h : BoxV w b [x0, x1, x2]) : N3 w b x0 x1 x2 := ⟨h.c 0 _ rfl, h.c 1 _ rfl, h.c 2 _ rfl, h.z, h.lt⟩
theorem BoxA.n3 {w : World} {b : Nat} (h : BoxA w b 3) : N3 w b ((w.cell? ⟨b, 0, none⟩).getD undef) ((w.cell? ⟨b, 1, none⟩).getD undef) ((w.cell? ⟨b, 2, none⟩).getD undef) := ⟨h.c 0 (by omega), h.c 1 (by omega), h.c 2 (by omega), h.z, h.lt⟩
end Go.Proofs.YtablcbgeeeboeaaGreatDoor
set_option maxRecDepth 100000
set_option maxHeartbeats 20000000
namespace Go.Proofs.YtablcbgeeeboeaaGreatDoor
open Go.RowKit Sp
class FO (w : World) (base : Nat) (v : Value) (k : Nat) (X : outParam (Nat → Nat)) : Prop where out : w.ownsRow base 40 1 v k (zAX X k)
theorem zGP {w : World} {base : Nat} {a : Option Addr} {n c : Nat} {xs : List Value} (h : w.ownsRow base 40 1 (.slice a n c) n xs) : n = 0 ∨ ∃ g, a = some ⟨g, 0, none⟩ ∧ base ≤ g := by
 rcases h.2 with ⟨hv, hk⟩ | ⟨g, cap, cur, hv, hbg, _⟩
 · exact Or.inl hk
 · injection hv with e1 _ _; exact Or.inr ⟨g, e1, hbg⟩
section
variable {w w' w0 wr : World} {base k : Nat} {v v' : Value} {X Y : Nat → Nat}
theorem FO.below (h : FO w base v k X) (hb : Below w.heap.size w w') : FO w' base v k X := ⟨zAx h.out hb⟩
instance FO.dr [h : FO w base v k X] : FO w.drew base v k X := h.below (Below.refl _ _).drew
instance FO.dn (q : Nat) [h : FO w base v k X] : FO (w.drewN q) base v k X := h.below (below_drewN (Below.refl _ _) _)
instance FO.al (o : Obj) [h : FO w base v k X] : FO (w.alloc o) base v k X := h.below ((Below.refl _ _).alloc (Nat.le_refl _) _)
instance FO.fr' (W : World) [f : From W w] [h : FO W base v k X] : FO w base v k X := h.below f.out
theorem FO.nil (w : World) (base : Nat) (X : Nat → Nat) : FO w base (.slice none 0 0) 0 X := ⟨World.ownsRow_nil _ _ _ _⟩
theorem FO.sen (h : FO w base v k X) {b : Nat} (hb : b < base) (i : Nat) (u : Value) : FO (w.setCell ⟨b, i, none⟩ u) base v k X := ⟨zBt h.out hb i u⟩
theorem FO.to (h : FO w base v k X) (e : ∀ i, i < k → X i = Y i) : FO w base v k Y := ⟨by rw [← zH1 e]; exact h.out⟩
theorem FO.step (h : FO w base v k X) [hb : Beh w0 w] [hs : BG w base] [hl : BL base wr w] {y : Nat} (h0 : w0.heap.size ≤ base) (hy : X k = y) (ho : w'.ownsRow base 40 1 v' (k + 1) (zAX X k ++ [.int .u64 ((y : Nat) : Int)])) (hg : w.grownBy w' v.ownBlock) :
 FO w' base v' (k + 1) X ∧ From w0 w' ∧ BG w' base ∧ BL base wr w' :=
 ⟨⟨by subst hy; exact ho⟩, ⟨hb.out.trans ((zB3 h.out hg hs.out).mono h0)⟩, ⟨Nat.le_trans hs.out hg.size⟩, ⟨hl.out.trans (zB3 h.out hg hs.out)⟩⟩
theorem FO.fw {a : Option Addr} {n c : Nat} (h : FO w base (.slice a n c) n X) (hb : w0.heap.size ≤ base) (hX : ∀ i, i < n → X i < 18446744073709551616) : FW a n c X w0.heap.size w.heap.size w := by
 obtain ⟨a', c', e, h1⟩ := zJU h.out hX
 injection e with e1 e2 e3
 subst e1 e3
 refine FW.of h1 fun hn => ?_
 rcases zGP h.out with hz | ⟨g, hv, hbg⟩
 · omega
 · rw [hv]; exact Nat.le_trans hb hbg
end
theorem zEA {i j r c : Nat} (hi : i < r) (hj : j < c) : j * r + i < r * c := by
 have h : (j + 1) * r ≤ c * r := Nat.mul_le_mul_right r hj
 rw [Nat.add_mul, Nat.one_mul] at h
 rw [Nat.mul_comm r c]; omega
theorem zCA {r c : Nat} (hr : r ≤ 64) (hc : c ≤ 64) {X : Nat → Nat} (hX : ∀ t, t < r * c → zB0 (X t) = true) : zD3 r c (r * c) (!zAp X (r * c)) = 0 := by
 have hsz : szE r c (r * c) = 0 := by unfold szE; rw [if_neg (by omega), if_neg (by omega), if_pos (Int.natCast_mul r c)]
 unfold zD3
 rw [if_pos hsz, (zAD X (r * c)).2 hX]; rfl
attribute [local irreducible] Calls
theorem zEQ (w : World) [Tb w] (a : Option Addr) (n cap : Nat) (L : Nat → Nat) [hL : FZ w a n cap L] (r c : Nat) (hr : r ≤ 64) (hc : c ≤ 64) (s : Int) :
 Calls Tryz.prog 36 #[.slice a n cap, .int .i64 r, .int .i64 c, .int .i64 s] w fun o w' => ∃ oa oc X, o = .returned (.agg #[.int .i64 r, .int .i64 c, .slice oa (r * c) oc]) ∧ FW oa (r * c) oc X w.heap.size w'.heap.size w' ∧ SX s X ∧ From w w' := by
 have HW := fun W k (h0 : 0 ≤ k) (hk : k ≤ 1000000) [i : FZ W a n cap L] => Lib.hid (zPB (zGm W a n cap L i.out k h0 hk))
 have HN := fun W x (hx : x < 18446744073709551616) [Tb W] => Lib.hid (zPC (zHO W x hx s tb))
 have hN : ((r : Nat) : Int) * (c : Nat) = ((r * c : Nat) : Int) := (Int.natCast_mul r c).symm
 have hN2 : r * c ≤ 4096 := Nat.mul_le_mul hr hc
 obtain ⟨N, hNe⟩ : ∃ N, N = r * c := ⟨_, rfl⟩
 rw [← hNe] at hN hN2 ⊢
 clear hNe
 go_enter Tryz.func36, Tryz.ntmps36
 go_wp2_with fail
 go_loopw [10] (fun i wr => ∃ (k : Nat) (v : Value) (X : Nat → Nat), k ≤ N ∧ i = .int .i64 k ∧ SX s X ∧ FO wr (w.heap.size + 2) v k X ∧ N3 wr (w.heap.size + 1) (.int .i64 r) (.int .i64 c) v ∧ N3 wr w.heap.size (.int .i64 0) (.int .i64 0) (.slice none 0 0) ∧ Below w.heap.size w wr ∧ w.heap.size + 2 ≤ wr.heap.size) (fun i _ => N - (intOf i).toNat)
 case atStart => exact ⟨0, _, fun _ => 0, by omega, rfl, SX.zero s, FO.nil _ _ _, inferInstance, inferInstance, zbh, by simp⟩
 case round =>
  obtain ⟨k, v, X, hk, rfl, hF, iM, iB, iR, hbr, hsz⟩ := hrel
  haveI bw : From w wr := ⟨hbr⟩
  haveI G0 : BG wr (w.heap.size + 2) := ⟨hsz⟩
  obtain ⟨ea, ec, hv⟩ := zBs iM.out
  subst hv
  by_cases hlt : k < N
  · have hw3 : IntKind.i64.wrap (500 + (k : Int)) = 500 + (k : Int) := by rw [IntKind.wrap_i64]; omega
    go_wp2_with fail
    refine bgj (fun w' => Below (w.heap.size + 2) wr w') [11] (by kernel_rfl) ((by exact BL.out)) (fun hHeld => ?_)
    simp only [List.size_toArray, List.length_cons, List.length_nil, Nat.reduceAdd, Array.replicate_succ, Array.replicate_zero, List.push_toArray, List.nil_append, List.cons_append]
    refine tkj 0 21 ?_ [1, 9, 10, 11] (hy := ?_) (hS := (by exact BL.out)) (h := ?_)
    rotate_left
    · intro w hSw; haveI := N3.lo iB hSw (by omega); go_simp; (try with_reducible rfl)
    refine tkj 1 22 ?_ [9, 10, 11] (hy := ?_) (hS := (by exact BL.out)) (h := ?_)
    rotate_left
    · intro w hSw; haveI := N3.lo iB hSw (by omega); go_simp; (try with_reducible rfl)
    refine tkj 2 23 ?_ [5, 7, 8, 9, 10, 11] (hy := ?_) (hS := (by exact BL.out)) (h := ?_)
    rotate_left
    · intro w hSw; haveI := N3.lo iB hSw (by omega); go_simp; (try with_reducible rfl)
    refine tkj 3 24 ?_ [4, 5, 7, 8, 9, 10, 11] (hy := ?_) (hS := (by exact BL.out)) (h := ?_)
    rotate_left
    · intro w hSw; haveI := N3.lo iB hSw (by omega); go_simp; (try with_reducible rfl)
    refine tkj 4 25 ?_ [5, 7, 8, 9, 10, 11] (hy := ?_) (hS := (by exact BL.out)) (h := ?_)
    rotate_left
    · intro w hSw; haveI := N3.lo iB hSw (by omega); go_simp; (try with_reducible rfl)
    refine tkj 6 27 ?_ [7, 8, 9, 10, 11] (hy := ?_) (hS := (by exact BL.out)) (h := ?_)
    rotate_left
    · intro w hSw; haveI := N3.lo iB hSw (by omega); go_simp; (try with_reducible rfl)
    refine stj 5 (h := fun K hK => ?_)
    go_simp
    go_at_call 26; refine (HW _ (500 + (k : Int)) (by omega) (by omega)).out.mono ?_; rintro o w1 ⟨x, hx, rfl, b1⟩
    go_simp
    refine hK.out _ _ (Or.inr (by exact BL.out)) ?_
    clear hK K
    try simp only [List.setIfInBounds_toArray, List.set_cons_zero, List.set_cons_succ]
    refine stj 7 (h := fun K hK => ?_)
    go_simp
    go_at_call 25; refine (HN _ x hx).out.mono ?_; rintro o w2 ⟨y, hy, rfl, b2⟩
    haveI MU : FO wr (w.heap.size + 2) (.slice ea k ec) k (fun t => if t = k then y else X t) := iM.to fun i hi => (if_neg (by omega)).symm
    go_simp
    refine hK.out _ _ (Or.inr (by exact BL.out)) ?_
    clear hK K
    try simp only [List.setIfInBounds_toArray, List.set_cons_zero, List.set_cons_succ]
    refine stj 8 (h := fun K hK => ?_)
    go_simp
    refine hK.out _ _ (Or.inr (by exact BL.out)) ?_
    clear hK K
    try simp only [List.setIfInBounds_toArray, List.set_cons_zero, List.set_cons_succ]
    refine stj 9 (h := fun K hK => ?_)
    refine zEz (by rfl) _ _ (by rfl) (w.heap.size + 2) (.slice ea k ec) k (zAX (fun t => if t = k then y else X t) k) (by rfl) _ (y : Int) (by rfl) (by exact @FO.out _ (w.heap.size + 2) (.slice ea k ec) k (fun t => if t = k then y else X t) inferInstance) (by go_simp) (by omega) (by exact BG.out) ?_
    intro g6 cap6 w6 hown6 hg6 hob6
    obtain ⟨M6, f6, G6, L6⟩ := FO.step (v := (.slice ea k ec)) (X := (fun t => if t = k then y else X t)) (w0 := w) (wr := wr) inferInstance (by omega) (if_pos rfl) hown6 hg6
    clear hown6 hg6 hob6
    haveI iB6 := N3.lo iB L6.out (by omega)
    refine hK.out _ _ (Or.inr (by exact BL.out)) ?_
    clear hK K
    try simp only [Act.put, List.setIfInBounds_toArray, List.set_cons_zero, List.set_cons_succ]
    refine tkj 10 31 ?_ [11] (hy := ?_) (hS := (by exact BL.out)) (h := ?_)
    rotate_left
    · intro w hSw; haveI := N3.lo iB hSw (by omega); go_simp; (try with_reducible rfl)
    refine stj 11 (h := fun K hK => ?_)
    go_simp
    refine hK.out _ _ (Or.inl (by decide)) ?_
    clear hK K
    try simp only [List.setIfInBounds_toArray, List.set_cons_zero, List.set_cons_succ]
    refine enj (by kernel_rfl) ?_ _
    have C9 := M6.sen (show w.heap.size + 1 < w.heap.size + 2 by omega) 2 (.slice (some ⟨g6, 0, none⟩) (k + 1) cap6)
    have E1 := N3.se2 (N3.lo iB L6.out (by omega)) (.slice (some ⟨g6, 0, none⟩) (k + 1) cap6)
    have E2 := N3.sen (N3.lo iR L6.out (by omega)) (show w.heap.size ≠ w.heap.size + 1 by omega) 2 (.slice (some ⟨g6, 0, none⟩) (k + 1) cap6)
    have B9 : Below w.heap.size w (w6.setCell ⟨w.heap.size + 1, 2, none⟩ (.slice (some ⟨g6, 0, none⟩) (k + 1) cap6)) := f6.out.setCell (Nat.le_succ _) _
    have S9 : w.heap.size + 2 ≤ (w6.setCell ⟨w.heap.size + 1, 2, none⟩ (.slice (some ⟨g6, 0, none⟩) (k + 1) cap6)).heap.size := by rw [World.size_setCell]; exact G6.out
    generalize (w6.setCell ⟨w.heap.size + 1, 2, none⟩ (.slice (some ⟨g6, 0, none⟩) (k + 1) cap6)) = w9 at *
    clear M6 f6 G6 L6
    go_wp2_with fail
    go_roundw
    case rel => exact ⟨k + 1, _, _, by omega, by go_num, hF.up hy, C9, E1, E2, B9, S9⟩
    case measure => simp [intOf]; omega
  · obtain rfl : k = N := by omega
    have hl : w.heap.size < w.heap.size + 2 := by omega
    have M6 := ((iM.sen hl 0 (.int .i64 r)).sen hl 1 (.int .i64 c)).sen hl 2 (.slice ea k ec)
    have L6 : From w (((wr.setCell ⟨w.heap.size, 0, none⟩ (.int .i64 r)).setCell ⟨w.heap.size, 1, none⟩ (.int .i64 c)).setCell ⟨w.heap.size, 2, none⟩ (.slice ea k ec)) := ⟨((hbr.setCell (Nat.le_refl _) _).setCell (Nat.le_refl _) _).setCell (Nat.le_refl _) _⟩
    clear HW HN
    go_wp2_with fail
    refine bodyPost_ret (v := .agg #[.int .i64 r, .int .i64 c, .slice ea k ec]) (by simp only [results, Tryz.results36]; go_simp) rfl ?_
    exact ⟨_, _, X, rfl, M6.fw (by omega) (fun i _ => (hF i).1), hF, L6⟩
end Go.Proofs.YtablcbgeeeboeaaGreatDoor
