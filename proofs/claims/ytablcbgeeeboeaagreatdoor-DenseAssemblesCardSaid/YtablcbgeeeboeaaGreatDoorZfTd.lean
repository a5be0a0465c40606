/-
  Variables of any width that a drawn region makes and fills from calls: how far it has come. No function of the program in sight.
-/
import Derived.Test.YtablcbgeeeboeaaGreatDoorZfNs
import Derived.Test.YtablcbgeeeboeaaGreatDoorZfPf
namespace Go.Proofs.YtablcbgeeeboeaaGreatDoor
open Go.RowKit Sp
structure Stab (Φ : World → Prop) (lo hi : Nat) : Prop where
 mono : ∀ {w w' : World}, Below w.heap.size w w' → Φ w → Φ w'
 kept : ∀ {w w' : World} {b : Nat}, w.grownBy w' (some b) → (b < lo ∨ hi ≤ b) → Φ w → Φ w'
theorem Stab.const (p : Prop) (lo hi : Nat) : Stab (fun _ => p) lo hi := ⟨fun _ h => h, fun _ _ h => h⟩
theorem Stab.and {Φ Ψ : World → Prop} {lo hi : Nat} (h : Stab Φ lo hi) (k : Stab Ψ lo hi) : Stab (fun w => Φ w ∧ Ψ w) lo hi :=
 ⟨fun b h1 => ⟨h.mono b h1.1, k.mono b h1.2⟩, fun g hb h1 => ⟨h.kept g hb h1.1, k.kept g hb h1.2⟩⟩
theorem Stab.ex {α : Sort _} {Φ : α → World → Prop} {lo hi : Nat} (h : ∀ x, Stab (Φ x) lo hi) : Stab (fun w => ∃ x, Φ x w) lo hi :=
 ⟨fun b ⟨x, h1⟩ => ⟨x, (h x).mono b h1⟩, fun g hb ⟨x, h1⟩ => ⟨x, (h x).kept g hb h1⟩⟩
theorem Stab.imp {p : Prop} {Φ : World → Prop} {lo hi : Nat} (h : p → Stab Φ lo hi) : Stab (fun w => p ∧ Φ w) lo hi :=
 ⟨fun b h1 => ⟨h1.1, (h h1.1).mono b h1.2⟩, fun g hb h1 => ⟨h1.1, (h h1.1).kept g hb h1.2⟩⟩
def sets (w : World) (b : Nat) : Nat → List Value → World
 | _, [] => w
 | i, v :: r => sets (w.setCell ⟨b, i, none⟩ v) b (i + 1) r
theorem sets_only (b : Nat) : ∀ (l : List Value) (i : Nat) (a w : World), a.grownBy w (some b) → a.grownBy (sets w b i l) (some b) := by
 intro l
 induction l with
 | nil => intro i a w h; exact h
 | cons v r ih => intro i a w h; exact ih (i + 1) a _ (only_set h i v)
theorem sets_below (b : Nat) {m : Nat} (hb : m ≤ b) : ∀ (l : List Value) (i : Nat) (a w : World), Below m a w → Below m a (sets w b i l) := by
 intro l
 induction l with
 | nil => intro i a w h; exact h
 | cons v r ih => intro i a w h; exact ih (i + 1) a _ (h.setCell (p := ⟨b, i, none⟩) hb v)
structure BoxA (w : World) (b k : Nat) : Prop where
 c : ∀ i, i < k → w.cell? ⟨b, i, none⟩ = some ((w.cell? ⟨b, i, none⟩).getD undef)
 z : ∀ i, w.frozen? ⟨b, i, none⟩ = false
 lt : b < w.heap.size
structure BoxV (w : World) (b : Nat) (l : List Value) : Prop where
 c : ∀ i v, l[i]? = some v → w.cell? ⟨b, i, none⟩ = some v
 z : ∀ i, w.frozen? ⟨b, i, none⟩ = false
 lt : b < w.heap.size
section
variable {w w' : World} {b k : Nat} {l : List Value}
theorem BoxA.below (h : BoxA w b k) (hb : Below w.heap.size w w') : BoxA w' b k := by
 obtain ⟨h1, h2⟩ := bcell hb
 exact ⟨fun i hi => by rw [h1 _ _ h.lt]; exact h.c i hi, fun i => (h2 _ _ h.lt).trans (h.z i), Nat.lt_of_lt_of_le h.lt hb.size⟩
theorem BoxV.below (h : BoxV w b l) (hb : Below w.heap.size w w') : BoxV w' b l := by
 obtain ⟨h1, h2⟩ := bcell hb
 exact ⟨fun i v hi => (h1 _ _ h.lt).trans (h.c i v hi), fun i => (h2 _ _ h.lt).trans (h.z i), Nat.lt_of_lt_of_le h.lt hb.size⟩
theorem BoxA.grown (h : BoxA w b k) {g : Nat} (hg : w.grownBy w' (some g)) (ne : b ≠ g) : BoxA w' b k := by
 have hblk := hg.block b h.lt (fun e => ne (Option.some.inj e))
 have hc : ∀ i, w'.cell? ⟨b, i, none⟩ = w.cell? ⟨b, i, none⟩ := fun i => World.cell?_of_block (a := ⟨b, i, none⟩) hblk
 exact ⟨fun i hi => by rw [hc i]; exact h.c i hi, fun i => (World.frozen?_of_block (a := ⟨b, i, none⟩) hblk).trans (h.z i), Nat.lt_of_lt_of_le h.lt hg.size⟩
theorem BoxV.grown (h : BoxV w b l) {g : Nat} (hg : w.grownBy w' (some g)) (ne : b ≠ g) : BoxV w' b l := by
 have hblk := hg.block b h.lt (fun e => ne (Option.some.inj e))
 have hc : ∀ i, w'.cell? ⟨b, i, none⟩ = w.cell? ⟨b, i, none⟩ := fun i => World.cell?_of_block (a := ⟨b, i, none⟩) hblk
 exact ⟨fun i v hi => (hc i).trans (h.c i v hi), fun i => (World.frozen?_of_block (a := ⟨b, i, none⟩) hblk).trans (h.z i), Nat.lt_of_lt_of_le h.lt hg.size⟩
theorem BoxV.a (h : BoxV w b l) : BoxA w b l.length :=
 ⟨fun i hi => by have := h.c i l[i] (by simp [hi]); rw [this]; rfl, h.z, h.lt⟩
theorem BoxA.made (w : World) (cs : Array Value) (t : TypeId) : BoxA (w.alloc (.cells cs t)) w.heap.size cs.size :=
 ⟨fun i hi => by rw [World.cell?_alloc_new]; simp [hi], fun i => by simp [go_sem], by rw [World.size_alloc]; omega⟩
theorem set_eq (w : World) (b i : Nat) (v : Value) (h : (w.cell? ⟨b, i, none⟩).isSome = true) : (w.setCell ⟨b, i, none⟩ v).cell? ⟨b, i, none⟩ = some v := by simp [go_sem, h]
theorem set_ne (w : World) (b i j : Nat) (v : Value) (h : j ≠ i) : (w.setCell ⟨b, i, none⟩ v).cell? ⟨b, j, none⟩ = w.cell? ⟨b, j, none⟩ := by
 simp [go_sem]
theorem sets_cell : ∀ (l : List Value) (i : Nat) (w : World), (∀ j, j < l.length → (w.cell? ⟨b, i + j, none⟩).isSome = true) →
 (∀ j v, l[j]? = some v → (sets w b i l).cell? ⟨b, i + j, none⟩ = some v) ∧ (∀ j, j < i → (sets w b i l).cell? ⟨b, j, none⟩ = w.cell? ⟨b, j, none⟩) := by
 intro l
 induction l with
 | nil => intro i w _; exact ⟨fun j v h => (by simp at h), fun j _ => rfl⟩
 | cons x r ih =>
  intro i w hs
  have hs0 := hs 0 (by simp)
  rw [Nat.add_zero] at hs0
  obtain ⟨h1, h2⟩ := ih (i + 1) (w.setCell ⟨b, i, none⟩ x) fun j hj => by
   rw [set_ne _ _ _ _ _ (by omega)]
   have := hs (j + 1) (by simp; omega)
   rwa [show i + 1 + j = i + (j + 1) by omega]
  refine ⟨fun j v hv => ?_, fun j hj => ?_⟩
  · cases j with
    | zero =>
     simp at hv; subst hv
     rw [Nat.add_zero]
     exact (h2 i (by omega)).trans (set_eq _ _ _ _ hs0)
    | succ j =>
     have := h1 j v (by simpa using hv)
     rwa [show i + 1 + j = i + (j + 1) by omega] at this
  · exact (h2 j (by omega)).trans (set_ne _ _ _ _ _ (by omega))
theorem sets_frozen : ∀ (l : List Value) (i : Nat) (w : World) (j : Nat), (sets w b i l).frozen? ⟨b, j, none⟩ = w.frozen? ⟨b, j, none⟩ := by
 intro l
 induction l with
 | nil => intro i w j; rfl
 | cons x r ih => intro i w j; exact (ih (i + 1) _ j).trans (frozen_set_ne j i x)
theorem BoxA.put (h : BoxA w b k) (hl : l.length = k) : BoxV (sets w b 0 l) b l := by
 obtain ⟨h1, _⟩ := sets_cell (b := b) l 0 w fun j hj => by rw [Nat.zero_add, h.c j (by omega)]; rfl
 refine ⟨fun i v hi => ?_, fun i => (sets_frozen l 0 w i).trans (h.z i), Nat.lt_of_lt_of_le h.lt (sets_only b l 0 w w (only_refl w b)).size⟩
 have := h1 i v hi
 rwa [Nat.zero_add] at this
end
theorem up1_tr {f : Nat → Bool} {i j : Nat} (h : f j = true) : up1 f i true j = true := by
 unfold up1; split
 · rfl
 · exact h
structure BX (w0 : World) (sz src par : Nat → Nat) (Φ : Nat → Value → Nat → Nat → World → Prop) (Y : Nat → Value → List Value) (al ca st ex : Nat → Bool) (B lo hi : Nat → Nat) (V : Nat → Value) (w : World) : Prop where
 beh : Below w0.heap.size w0 w
 bx : ∀ i, al i = true → w0.heap.size ≤ B i ∧ BoxA w (B i) (sz i)
 ne : ∀ i j, i ≠ j → al i = true → al j = true → B i ≠ B j
 ph : ∀ j, ca j = true → lo j ≤ hi j ∧ hi j ≤ w.heap.size ∧ Φ j (V j) (lo j) (hi j) w
 ap : ∀ i j, al i = true → ca j = true → B i < lo j ∨ hi j ≤ B i
 se : ∀ i, st i = true → al i = true ∧ ca (src i) = true ∧ BoxV w (B i) (Y i (V (src i)))
 xc : ∀ e, ex e = true → ca (par e) = true
section
variable {w0 w w' : World} {sz src par : Nat → Nat} {Φ : Nat → Value → Nat → Nat → World → Prop} {Y : Nat → Value → List Value} {al ca st ex : Nat → Bool} {B lo hi : Nat → Nat} {V : Nat → Value}
theorem BX.start (w0 : World) (sz src par : Nat → Nat) (Φ : Nat → Value → Nat → Nat → World → Prop) (Y : Nat → Value → List Value) (B lo hi : Nat → Nat) (V : Nat → Value) : BX w0 sz src par Φ Y (fun _ => false) (fun _ => false) (fun _ => false) (fun _ => false) B lo hi V w0 :=
 ⟨Below.refl _ _, fun _ h => absurd h Bool.false_ne_true, fun _ _ _ h => absurd h Bool.false_ne_true, fun _ h => absurd h Bool.false_ne_true, fun _ _ h => absurd h Bool.false_ne_true, fun _ h => absurd h Bool.false_ne_true, fun _ h => absurd h Bool.false_ne_true⟩
theorem BX.on (hΦ : ∀ j v a b, Stab (Φ j v a b) a b) (h : BX w0 sz src par Φ Y al ca st ex B lo hi V w) (B0 : Below w.heap.size w w') : BX w0 sz src par Φ Y al ca st ex B lo hi V w' :=
 ⟨h.beh.trans (B0.mono h.beh.size), fun i hi => ⟨(h.bx i hi).1, (h.bx i hi).2.below B0⟩, h.ne, fun j hj => ⟨(h.ph j hj).1, Nat.le_trans (h.ph j hj).2.1 B0.size, (hΦ _ _ _ _).mono B0 (h.ph j hj).2.2⟩, h.ap, fun i hi => ⟨(h.se i hi).1, (h.se i hi).2.1, (h.se i hi).2.2.below B0⟩, h.xc⟩
theorem BX.alloc (hΦ : ∀ j v a b, Stab (Φ j v a b) a b) (h : BX w0 sz src par Φ Y al ca st ex B lo hi V w) (i : Nat) (h0 : al i = false) (cs : Array Value) (t : TypeId) (hs : cs.size = sz i) :
 BX w0 sz src par Φ Y (up1 al i true) ca st ex (up1 B i w.heap.size) lo hi V (w.alloc (.cells cs t)) := by
 have B0 : Below w.heap.size w (w.alloc (.cells cs t)) := (Below.refl _ _).alloc (Nat.le_refl _) _
 have h' := h.on hΦ B0
 have hsz := h.beh.size
 refine ⟨h'.beh, fun j hj => ?_, fun j l hne hj hl => ?_, h'.ph, fun j l hj hl => ?_, fun j hj => ?_, h.xc⟩
 · rcases up1_on hj with rfl | ⟨hji, hj⟩
   · rw [up1_eq, ← hs]; exact ⟨hsz, BoxA.made w cs t⟩
   · rw [up1_ne _ hji]; exact h'.bx j hj
 · rcases up1_on hj with hji | ⟨hji, hj'⟩ <;> rcases up1_on hl with hli | ⟨hli, hl'⟩
   · exact absurd (hji.trans hli.symm) hne
   · rw [hji, up1_eq, up1_ne _ hli]
     have := (h.bx l hl').2.lt; omega
   · rw [hli, up1_eq, up1_ne _ hji]
     have := (h.bx j hj').2.lt; omega
   · rw [up1_ne _ hji, up1_ne _ hli]; exact h.ne j l hne hj' hl'
 · rcases up1_on hj with rfl | ⟨hji, hj⟩
   · rw [up1_eq]; exact Or.inr (h.ph l hl).2.1
   · rw [up1_ne _ hji]; exact h.ap j l hj hl
 · obtain ⟨h1, h2, h3⟩ := h'.se j hj
   have hji : j ≠ i := fun e => by rw [e, h0] at h1; cases h1
   rw [up1_ne _ hji, up1_ne _ hji]
   exact ⟨h1, h2, h3⟩
theorem BX.call (hΦ : ∀ j v a b, Stab (Φ j v a b) a b) (h : BX w0 sz src par Φ Y al ca st ex B lo hi V w) (j : Nat) (hj : ca j = false) (hb : Below w.heap.size w w') (v : Value) (hp : Φ j v w.heap.size w'.heap.size w') :
 BX w0 sz src par Φ Y al (up1 ca j true) st ex B (up1 lo j w.heap.size) (up1 hi j w'.heap.size) (up1 V j v) w' := by
 have h' := h.on hΦ hb
 refine ⟨h'.beh, h'.bx, h'.ne, fun l hl => ?_, fun i l hi hl => ?_, fun i hi => ?_, fun e he => up1_tr (h.xc e he)⟩
 · rcases up1_on hl with rfl | ⟨hlj, hl⟩
   · rw [up1_eq, up1_eq, up1_eq]; exact ⟨hb.size, Nat.le_refl _, hp⟩
   · rw [up1_ne _ hlj, up1_ne _ hlj, up1_ne _ hlj]; exact h'.ph l hl
 · rcases up1_on hl with rfl | ⟨hlj, hl⟩
   · rw [up1_eq]; exact Or.inl (h.bx i hi).2.lt
   · rw [up1_ne _ hlj, up1_ne _ hlj]; exact h.ap i l hi hl
 · obtain ⟨h1, h2, h3⟩ := h'.se i hi
   have hij : src i ≠ j := fun e => by rw [e, hj] at h2; cases h2
   rw [up1_ne _ hij, up1_ne _ hij]
   exact ⟨h1, h2, h3⟩
theorem BX.store (hΦ : ∀ j v a b, Stab (Φ j v a b) a b) (h : BX w0 sz src par Φ Y al ca st ex B lo hi V w) (i : Nat) (hal : al i = true) (hca : ca (src i) = true) (hl : (Y i (V (src i))).length = sz i) :
 BX w0 sz src par Φ Y al ca (up1 st i true) ex B lo hi V (sets w (B i) 0 (Y i (V (src i)))) := by
 have hg := sets_only (B i) (Y i (V (src i))) 0 w w (only_refl w (B i))
 obtain ⟨hb, hx⟩ := h.bx i hal
 have hv := hx.put hl
 refine ⟨sets_below (B i) hb _ 0 w0 w h.beh, fun j hj => ?_, h.ne, fun j hj => ?_, h.ap, fun j hj => ?_, h.xc⟩
 · refine ⟨(h.bx j hj).1, ?_⟩
   by_cases e : j = i
   · subst e; rw [← hl]; exact hv.a
   · exact (h.bx j hj).2.grown hg (h.ne j i e hj hal)
 · obtain ⟨h1, h2, h3⟩ := h.ph j hj
   exact ⟨h1, Nat.le_trans h2 hg.size, (hΦ _ _ _ _).kept hg (h.ap i j hal hj) h3⟩
 · rcases up1_on hj with rfl | ⟨hji, hj⟩
   · exact ⟨hal, hca, hv⟩
   · obtain ⟨h1, h2, h3⟩ := h.se j hj
     exact ⟨h1, h2, h3.grown hg (h.ne j i hji h1 hal)⟩
end
section
variable {P : Program} {ops : Array Oper} {Q : Exit → Act → World → Prop} {md : Region.Mode}
def BxK (w0 : World) (sz src par : Nat → Nat) (Φ : Nat → Value → Nat → Nat → World → Prop) (Y : Nat → Value → List Value) (Lf : (Nat → Bool) → (Nat → Bool) → (Nat → Bool) → (Nat → Bool) → Array Bool) (Tf : (Nat → Bool) → (Nat → Bool) → (Nat → Bool) → (Nat → Nat) → (Nat → Value) → List (Nat × Value))
 (ts : Array Value) (D : List Deferred) (al ca st ex : Nat → Bool) (i : Nat) (K : Act → World → Prop) : Prop :=
 ∀ al' ca' st' ex' B' lo' hi' V' a' w', (Lf al ca st ex).setIfInBounds i true = Lf al' ca' st' ex' → a' = ⟨fillA ts (Tf al' ca' ex' B' V'), D⟩ → BX w0 sz src par Φ Y al' ca' st' ex' B' lo' hi' V' w' → K a' w'
theorem wpAnyH_bx {fuel : Nat} {l : Array Bool} {a : Act} {w : World} (w0 : World) (sz src par : Nat → Nat) (Φ : Nat → Value → Nat → Nat → World → Prop) (Y : Nat → Value → List Value)
 (Lf : (Nat → Bool) → (Nat → Bool) → (Nat → Bool) → (Nat → Bool) → Array Bool) (Tf : (Nat → Bool) → (Nat → Bool) → (Nat → Bool) → (Nat → Nat) → (Nat → Value) → List (Nat × Value))
 {ts : Array Value} {D : List Deferred} (ha : a = ⟨ts, D⟩) {al ca st ex : Nat → Bool} {B lo hi : Nat → Nat} {V : Nat → Value} (hN : BX w0 sz src par Φ Y al ca st ex B lo hi V w)
 (hl : l = Lf al ca st ex) (hf : fillA ts (Tf al ca ex B V) = ts) (hfu : left l ≤ fuel) (hd : (ops.toList.zipIdx.all fun p => p.1.after.all fun e => !Region.binds md e || decide (e.on < p.2)) = true)
 (hz : ∀ al ca st ex, (Lf al ca st ex).size = ops.size)
 (hstep : ∀ al ca st ex B lo hi V w, BX w0 sz src par Φ Y al ca st ex B lo hi V w → From w0 w → AllI (fun i o => (Lf al ca st ex).getD i true = false → (∀ e ∈ o.after, Region.binds md e = true → (Lf al ca st ex).getD e.on false = true) →
  ∀ K : Act → World → Prop, Shut (BxK w0 sz src par Φ Y Lf Tf ts D al ca st ex i K) →
   if Region.wanted o (yielded ops (fillA ts (Tf al ca ex B V))) = true then Oper.wp P o ⟨fillA ts (Tf al ca ex B V), D⟩ w K Q else K (Act.put ⟨fillA ts (Tf al ca ex B V), D⟩ o.dst undef) w) 0 ops.toList)
 (hend : ∀ al ca st ex B lo hi V w, BX w0 sz src par Φ Y al ca st ex B lo hi V w → From w0 w → (∀ i, i < ops.size → (Lf al ca st ex).getD i false = true) → Q .normal ⟨fillA ts (Tf al ca ex B V), D⟩ w) :
 wpAnyH P md ops Q (fun w' => Below w0.heap.size w0 w') fuel l a w := by
 refine wpAnyH_inv (I := fun l a w => ∃ al ca st ex B lo hi V, l = Lf al ca st ex ∧ a = ⟨fillA ts (Tf al ca ex B V), D⟩ ∧ BX w0 sz src par Φ Y al ca st ex B lo hi V w) hd ?_ ?_ ?_ fuel l a w hfu ⟨al, ca, st, ex, B, lo, hi, V, hl, by rw [ha, hf], hN⟩
 · rintro l a w ⟨al, ca, st, ex, B, lo, hi, V, rfl, rfl, _⟩; exact hz _ _ _ _
 · rintro l a w ⟨al, ca, st, ex, B, lo, hi, V, rfl, rfl, hN⟩ i o ho h1 h2
   refine wpOp_step ho fun K hK => ?_
   have h := (hstep al ca st ex B lo hi V w hN ⟨hN.beh⟩).get i o (by simpa using ho)
   rw [Nat.zero_add] at h
   exact h h1 h2 K fun al' ca' st' ex' B' lo' hi' V' a' w' e1 e2 e4 => hK a' w' ⟨e4.beh, al', ca', st', ex', B', lo', hi', V', e1, e2, e4⟩
 · rintro l a w ⟨al, ca, st, ex, B, lo, hi, V, rfl, rfl, hN⟩ h
   exact hend al ca st ex B lo hi V w hN ⟨hN.beh⟩ (by rw [← hz al ca st ex]; exact h)
end
def VQ (b : Bool) (v o : Value) : Value := if b then v else o
theorem VQ_true (v o : Value) : VQ true v o = v := rfl
def PhL (l : List (Value → Nat → Nat → World → Prop)) (j : Nat) : Value → Nat → Nat → World → Prop := l.getD j fun _ _ _ _ => True
def PhC (x : Value) : Value → Nat → Nat → World → Prop := fun v _ _ _ => v = x
theorem PhL.stab (l : List (Value → Nat → Nat → World → Prop)) (h : ∀ f ∈ l, ∀ v a b, Stab (f v a b) a b) (j : Nat) (v : Value) (a b : Nat) : Stab (PhL l j v a b) a b := by
 unfold PhL
 rw [List.getD_eq_getElem?_getD]
 cases hj : l[j]? with
 | none => exact Stab.const _ _ _
 | some f => exact h f (List.mem_of_getElem? hj) v a b
theorem PhC.stab (x v : Value) (a b : Nat) : Stab (PhC x v a b) a b := Stab.const _ _ _
def words : Value → List Value
 | .agg a => a.toList
 | v => [v]
end Go.Proofs.YtablcbgeeeboeaaGreatDoor
namespace Go.Proofs.YtablcbgeeeboeaaGreatDoor
open Go.RowKit Sp
theorem fls_grown {w w' : World} {a : Option Addr} {n c : Nat} {L : Nat → Nat} {row : Option Nat} (h : Fls w a n c L) (hg : w.grownBy w' row) (hne : 0 < n → some (ab a) ≠ row) : Fls w' a n c L :=
 ⟨h.fits, h.lim, h.addr, fun i hi => by
  rw [World.cell?_of_block (a := ⟨ab a, ao a + i, none⟩) (hg.block (ab a) (h.old (by omega)) (hne (by omega)))]; exact h.cell i hi, h.b,
  fun hn => Nat.lt_of_lt_of_le (h.old hn) hg.size⟩
def FW (a : Option Addr) (n c : Nat) (X : Nat → Nat) (lo hi : Nat) (w : World) : Prop := (0 < n → lo ≤ ab a ∧ ab a < hi) ∧ Fls w a n c X
def DW (a : Option Addr) (n c : Nat) (d : Nat → Option (Int × Int)) (lo hi : Nat) (w : World) : Prop :=
 ∃ A C, (DM w lo (.slice a n c) n d A C ∧ (∀ g, (Value.slice a n c).ownBlock = some g → g < hi) ∧ ∀ i, i < n → 0 < nl (dman (d i)).natAbs → ab (A i) < hi)
theorem stab_fw (a : Option Addr) (n c : Nat) (X : Nat → Nat) (lo hi : Nat) : Stab (FW a n c X lo hi) lo hi :=
 ⟨fun hb h => ⟨h.1, h.2.below hb⟩, fun hg hb h => ⟨h.1, fls_grown h.2 hg fun hn e => by have := h.1 hn; injection e with e; omega⟩⟩
theorem FW.of {w w' : World} {a : Option Addr} {n c : Nat} {X : Nat → Nat} (h : Fls w' a n c X) (hf : 0 < n → w.heap.size ≤ ab a) : FW a n c X w.heap.size w'.heap.size w' := ⟨fun hn => ⟨hf hn, h.old hn⟩, h⟩
theorem DW.of {w w' : World} {a : Option Addr} {n c : Nat} {d : Nat → Option (Int × Int)} (h : DN w w' a n c d) : DW a n c d w.heap.size w'.heap.size w' := by
 obtain ⟨A, C, h1⟩ := h
 exact ⟨A, C, h1, fun g hg => (h1.out.own.lt g hg).2, fun i hi hp => (h1.out.m i hi).old hp⟩
theorem DW.dz {w : World} {a : Option Addr} {n c lo hi : Nat} {d : Nat → Option (Int × Int)} (h : DW a n c d lo hi w) (hd : ∀ i, IsN (d i)) : Dz w a n c d := by
 obtain ⟨A, C, h1, _⟩ := h; exact (h1.dz hd).2
theorem BoxV.n3 {w : World} {b : Nat} {x0 x1 x2 : Value} (h : BoxV w b [x0, x1, x2]) : N3 w b x0 x1 x2 := ⟨h.c 0 _ rfl, h.c 1 _ rfl, h.c 2 _ rfl, h.z, h.lt⟩
theorem BoxA.n3 {w : World} {b : Nat} (h : BoxA w b 3) : N3 w b ((w.cell? ⟨b, 0, none⟩).getD undef) ((w.cell? ⟨b, 1, none⟩).getD undef) ((w.cell? ⟨b, 2, none⟩).getD undef) := ⟨h.c 0 (by omega), h.c 1 (by omega), h.c 2 (by omega), h.z, h.lt⟩
end Go.Proofs.YtablcbgeeeboeaaGreatDoor
