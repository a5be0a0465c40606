/-
  A region that draws its order, shown by an invariant over the operations that are left. No function of the program in sight.
-/
import Derived.Deep.RegionHeld3
import Derived.WalkKit
import Derived.Test.YtablcbgeeeboeaaGreatDoorZfCs
namespace Go.Proofs.YtablcbgeeeboeaaGreatDoor
def left (l : Array Bool) : Nat := l.toList.count false
theorem getD_false {l : Array Bool} {i : Nat} (h : l.getD i true = false) : ∃ hi : i < l.size, l[i] = false := by
 rcases Nat.lt_or_ge i l.size with h' | h'
 · refine ⟨h', ?_⟩
   simpa [h'] using h
 · simp [Array.getElem?_eq_none h'] at h
theorem left_set {l : Array Bool} {i : Nat} (h : l.getD i true = false) : left (l.setIfInBounds i true) + 1 = left l := by
 obtain ⟨hi, he⟩ := getD_false h
 unfold left
 have hl : i < l.toList.length := by simpa using hi
 have e : (l.setIfInBounds i true).toList = l.toList.set i true := by simp
 rw [e, List.count_set hl]
 have hx : l.toList[i] = false := by simpa using he
 have hc : 0 < l.toList.count false := List.count_pos_iff.2 (hx ▸ List.getElem_mem hl)
 rw [hx, if_pos (by rfl), if_neg (by decide)]
 omega
theorem left_zero {l : Array Bool} (h : left l = 0) (i : Nat) : l.getD i true ≠ false := fun hf => by
 have := left_set hf
 omega
theorem all_up {md : Region.Mode} {ops : Array Oper} (hd : (ops.toList.zipIdx.all fun p => p.1.after.all fun e => !Region.binds md e || decide (e.on < p.2)) = true) {l : Array Bool} (hs : l.size = ops.size) (hr : Region.ready md ops l = []) :
 ∀ i, i < l.size → l.getD i false = true := by
 intro i
 induction i using Nat.strongRecOn with
 | _ i ih =>
  intro hi
  rcases hb : l[i] with _ | _
  · exfalso
    have hio : i < ops.size := by omega
    have : i ∈ Region.ready md ops l := by
     refine mem_ready.2 ⟨by simp [hi, hb], ops[i], by simp [hio], fun e he hbe => ?_⟩
     have h1 := List.all_eq_true.1 hd (ops[i], i) (by
      rw [List.mem_zipIdx_iff_getElem?]
      simp [hio])
     have h2 := Array.all_eq_true'.1 h1 e he
     rw [hbe, Bool.not_true, Bool.false_or, decide_eq_true_eq] at h2
     exact ih e.on h2 (by omega)
    rw [hr] at this
    cases this
  · simp [hi, hb]
section
variable {P : Program} {ops : Array Oper} {Q : Exit → Act → World → Prop} {md : Region.Mode} {S : World → Prop}
theorem wpAnyH_inv {I : Array Bool → Act → World → Prop} (hd : (ops.toList.zipIdx.all fun p => p.1.after.all fun e => !Region.binds md e || decide (e.on < p.2)) = true)
 (hz : ∀ l a w, I l a w → l.size = ops.size)
 (hstep : ∀ l a w, I l a w → ∀ i o, ops[i]? = some o → l.getD i true = false → (∀ e ∈ o.after, Region.binds md e = true → l.getD e.on false = true) → wpOp P ops Q i (fun a' w' => S w' ∧ I (l.setIfInBounds i true) a' w') a w)
 (hend : ∀ l a w, I l a w → (∀ i, i < l.size → l.getD i false = true) → Q .normal a w) :
 ∀ (fuel : Nat) (l : Array Bool) (a : Act) (w : World), left l ≤ fuel → I l a w → wpAnyH P md ops Q S fuel l a w := by
 intro fuel
 induction fuel with
 | zero =>
  intro l a w hf hI
  have hr : Region.ready md ops l = [] := by
   rw [List.eq_nil_iff_forall_not_mem]
   intro i hi
   exact left_zero (by omega) i (mem_ready.1 hi).1
  exact ⟨hr, hend l a w hI (all_up hd (hz l a w hI) hr)⟩
 | succ fuel ih =>
  intro l a w hf hI
  refine ⟨fun hr => hend l a w hI (all_up hd (hz l a w hI) hr), fun i hi => ?_⟩
  obtain ⟨h1, o, ho, h2⟩ := mem_ready.1 hi
  refine wpOp_mono (fun a' w' h => ⟨h.1, ih _ a' w' ?_ h.2⟩) (hstep l a w hI i o ho h1 h2)
  have := left_set h1
  omega
end
end Go.Proofs.YtablcbgeeeboeaaGreatDoor
namespace Go.Proofs.YtablcbgeeeboeaaGreatDoor
open Go.RowKit Sp
def up1 {α : Type} (f : Nat → α) (i : Nat) (v : α) : Nat → α := fun j => if j = i then v else f j
theorem up1_eq {α : Type} (f : Nat → α) (i : Nat) (v : α) : up1 f i v i = v := if_pos rfl
theorem up1_ne {α : Type} (f : Nat → α) {i j : Nat} (h : j ≠ i) (v : α) : up1 f i v j = f j := if_neg h
theorem up1_on {f : Nat → Bool} {i j : Nat} (h : up1 f i true j = true) : j = i ∨ (j ≠ i ∧ f j = true) := by
 by_cases hj : j = i
 · exact Or.inl hj
 · rw [up1_ne _ hj] at h; exact Or.inr ⟨hj, h⟩
def Box (w : World) (b : Nat) : Prop := ∃ x0 x1 x2 x3 x4, N5 w b x0 x1 x2 x3 x4
theorem N5.set5 {W : World} {b : Nat} {x0 x1 x2 x3 x4 : Value} (h : N5 W b x0 x1 x2 x3 x4) (y0 y1 y2 y3 y4 : Value) :
 N5 (((((W.setCell ⟨b, 0, none⟩ y0).setCell ⟨b, 1, none⟩ y1).setCell ⟨b, 2, none⟩ y2).setCell ⟨b, 3, none⟩ y3).setCell ⟨b, 4, none⟩ y4) b y0 y1 y2 y3 y4 := by
 obtain ⟨c0, c1, c2, c3, c4, c5, c6⟩ := h
 exact ⟨by go_simp, by go_simp, by go_simp, by go_simp, by go_simp, fun i => by go_simp, by simpa using c6⟩
theorem N5.st5 {W : World} {b g : Nat} {x0 x1 x2 x3 x4 : Value} (h : N5 W b x0 x1 x2 x3 x4) (ne : b ≠ g) (y0 y1 y2 y3 y4 : Value) :
 N5 (((((W.setCell ⟨g, 0, none⟩ y0).setCell ⟨g, 1, none⟩ y1).setCell ⟨g, 2, none⟩ y2).setCell ⟨g, 3, none⟩ y3).setCell ⟨g, 4, none⟩ y4) b x0 x1 x2 x3 x4 := by
 obtain ⟨c0, c1, c2, c3, c4, c5, c6⟩ := h
 have k : ∀ (V : World) (i j : Nat) (y : Value), (V.setCell ⟨g, i, none⟩ y).cell? ⟨b, j, none⟩ = V.cell? ⟨b, j, none⟩ := fun V i j y => cell_set_ne ne _ _ _
 refine ⟨?_, ?_, ?_, ?_, ?_, fun i => ?_, by simpa using c6⟩
 · rw [k, k, k, k, k]; exact c0
 · rw [k, k, k, k, k]; exact c1
 · rw [k, k, k, k, k]; exact c2
 · rw [k, k, k, k, k]; exact c3
 · rw [k, k, k, k, k]; exact c4
 · rw [frozen_set_ne, frozen_set_ne, frozen_set_ne, frozen_set_ne, frozen_set_ne]; exact c5 i
theorem Mag.st5 {W : World} {a : Option Addr} {n c x g : Nat} (h : Mag W a n c x) (ne : 0 < n → ab a ≠ g) (y0 y1 y2 y3 y4 : Value) :
 Mag (((((W.setCell ⟨g, 0, none⟩ y0).setCell ⟨g, 1, none⟩ y1).setCell ⟨g, 2, none⟩ y2).setCell ⟨g, 3, none⟩ y3).setCell ⟨g, 4, none⟩ y4) a n c x := ((((h.set ne 0 y0).set ne 1 y1).set ne 2 y2).set ne 3 y3).set ne 4 y4
structure NS (w0 : World) (I : Nat → Int) (d : Nat → Option (Int × Int)) (al ca st : Nat → Bool) (B : Nat → Nat) (A : Nat → Option Addr) (C : Nat → Nat) (w : World) : Prop where
 beh : Below w0.heap.size w0 w
 bx : ∀ i, al i = true → w0.heap.size ≤ B i ∧ Box w (B i)
 ne : ∀ i j, i ≠ j → al i = true → al j = true → B i ≠ B j
 nu : ∀ i, ca i = true → Mag w (A i) (nl (dman (d i)).natAbs) (C i) (dman (d i)).natAbs
 fr : ∀ i j, al i = true → ca j = true → 0 < nl (dman (d j)).natAbs → ab (A j) ≠ B i
 se : ∀ i, st i = true → al i = true ∧ ca i = true ∧ N5 w (B i) (.int .i64 (I i)) (.bool (dbad (d i))) (.bool (decide (dman (d i) < 0))) (.slice (A i) (nl (dman (d i)).natAbs) (C i)) (.int .i64 (dexp (d i)))
section
variable {w0 w : World} {I : Nat → Int} {d : Nat → Option (Int × Int)} {al ca st : Nat → Bool} {B : Nat → Nat} {A : Nat → Option Addr} {C : Nat → Nat}
theorem NS.start (w0 : World) (I : Nat → Int) (d : Nat → Option (Int × Int)) (B : Nat → Nat) (A : Nat → Option Addr) (C : Nat → Nat) : NS w0 I d (fun _ => false) (fun _ => false) (fun _ => false) B A C w0 :=
 ⟨Below.refl _ _, fun _ h => absurd h Bool.false_ne_true, fun _ _ _ h => absurd h Bool.false_ne_true, fun _ h => absurd h Bool.false_ne_true, fun _ _ h => absurd h Bool.false_ne_true, fun _ h => absurd h Bool.false_ne_true⟩
theorem NS.alloc (h : NS w0 I d al ca st B A C w) (i : Nat) (hi : al i = false) (x0 x1 x2 x3 x4 : Value) (t : TypeId) :
 NS w0 I d (up1 al i true) ca st (up1 B i w.heap.size) A C (w.alloc (.cells #[x0, x1, x2, x3, x4] t)) := by
 have B0 : Below w.heap.size w (w.alloc (.cells #[x0, x1, x2, x3, x4] t)) := (Below.refl _ _).alloc (Nat.le_refl _) _
 have hsz := h.beh.size
 refine ⟨h.beh.alloc hsz _, fun j hj => ?_, fun j l hne hj hl => ?_, fun j hj => (h.nu j hj).below B0, fun j l hj hl hp => ?_, fun j hj => ?_⟩
 · rcases up1_on hj with rfl | ⟨hji, hj⟩
   · rw [up1_eq]; exact ⟨hsz, _, _, _, _, _, N5.made w t x0 x1 x2 x3 x4 rfl⟩
   · rw [up1_ne _ hji]
     obtain ⟨h1, y0, y1, y2, y3, y4, h2⟩ := h.bx j hj
     exact ⟨h1, _, _, _, _, _, h2.below B0⟩
 · rcases up1_on hj with hji | ⟨hji, hj'⟩ <;> rcases up1_on hl with hli | ⟨hli, hl'⟩
   · exact absurd (hji.trans hli.symm) hne
   · rw [hji, up1_eq, up1_ne _ hli]
     obtain ⟨_, y0, y1, y2, y3, y4, h2⟩ := h.bx l hl'
     have := h2.lt; omega
   · rw [hli, up1_eq, up1_ne _ hji]
     obtain ⟨_, y0, y1, y2, y3, y4, h2⟩ := h.bx j hj'
     have := h2.lt; omega
   · rw [up1_ne _ hji, up1_ne _ hli]; exact h.ne j l hne hj' hl'
 · rcases up1_on hj with rfl | ⟨hji, hj⟩
   · rw [up1_eq]
     have := (h.nu l hl).old hp; omega
   · rw [up1_ne _ hji]; exact h.fr j l hj hl hp
 · obtain ⟨h1, h2, h3⟩ := h.se j hj
   have hji : j ≠ i := fun e => by rw [e, hi] at h1; cases h1
   rw [up1_ne _ hji, up1_ne _ hji]
   exact ⟨h1, h2, h3.below B0⟩
theorem NS.on (h : NS w0 I d al ca st B A C w) {w' : World} (hb : From w w') : NS w0 I d al ca st B A C w' := by
 have B0 := hb.out
 refine ⟨h.beh.trans (B0.mono h.beh.size), fun j hj => ?_, h.ne, fun j hj => (h.nu j hj).below B0, h.fr, fun j hj => ?_⟩
 · obtain ⟨h1, y0, y1, y2, y3, y4, h2⟩ := h.bx j hj
   exact ⟨h1, _, _, _, _, _, h2.below B0⟩
 · obtain ⟨h1, h2, h3⟩ := h.se j hj
   exact ⟨h1, h2, h3.below B0⟩
theorem NS.num (h : NS w0 I d al ca st B A C w) (j : Nat) (hj : ca j = false) (a : Option Addr) (c : Nat) (hm : Mag w a (nl (dman (d j)).natAbs) c (dman (d j)).natAbs)
 (hf : ∀ i, al i = true → 0 < nl (dman (d j)).natAbs → ab a ≠ B i) : NS w0 I d al (up1 ca j true) st B (up1 A j a) (up1 C j c) w := by
 refine ⟨h.beh, h.bx, h.ne, fun i hi => ?_, fun i l hi hl hp => ?_, fun i hi => ?_⟩
 · rcases up1_on hi with rfl | ⟨hij, hi⟩
   · rw [up1_eq, up1_eq]; exact hm
   · rw [up1_ne _ hij, up1_ne _ hij]; exact h.nu i hi
 · rcases up1_on hl with rfl | ⟨hlj, hl⟩
   · rw [up1_eq]; exact hf i hi hp
   · rw [up1_ne _ hlj]; exact h.fr i l hi hl hp
 · obtain ⟨h1, h2, h3⟩ := h.se i hi
   have hij : i ≠ j := fun e => by rw [e, hj] at h2; cases h2
   rw [up1_ne _ hij, up1_ne _ hij, up1_ne _ hij]
   exact ⟨h1, h2, h3⟩
theorem NS.call (h : NS w0 I d al ca st B A C w) (j : Nat) (hj : ca j = false) {w' : World} (hb : From w w') (a : Option Addr) (c : Nat) (hm : Mag w' a (nl (dman (d j)).natAbs) c (dman (d j)).natAbs)
 (hf : 0 < nl (dman (d j)).natAbs → w.heap.size ≤ ab a) : NS w0 I d al (up1 ca j true) st B (up1 A j a) (up1 C j c) w' :=
 (h.on hb).num j hj a c hm fun i hi hp => by
  obtain ⟨_, y0, y1, y2, y3, y4, h2⟩ := h.bx i hi
  have := h2.lt; have := hf hp; omega
theorem NS.store (h : NS w0 I d al ca st B A C w) (i : Nat) (hal : al i = true) (hca : ca i = true) :
 NS w0 I d al ca (up1 st i true) B A C (((((w.setCell ⟨B i, 0, none⟩ (.int .i64 (I i))).setCell ⟨B i, 1, none⟩ (.bool (dbad (d i)))).setCell ⟨B i, 2, none⟩ (.bool (decide (dman (d i) < 0)))).setCell ⟨B i, 3, none⟩ (.slice (A i) (nl (dman (d i)).natAbs) (C i))).setCell ⟨B i, 4, none⟩ (.int .i64 (dexp (d i)))) := by
 obtain ⟨hb, z0, z1, z2, z3, z4, hz⟩ := h.bx i hal
 refine ⟨((((h.beh.setCell hb _).setCell hb _).setCell hb _).setCell hb _).setCell hb _, fun j hj => ?_, h.ne, fun j hj => Mag.st5 (h.nu j hj) (h.fr i j hal hj) _ _ _ _ _, h.fr, fun j hj => ?_⟩
 · obtain ⟨h1, y0, y1, y2, y3, y4, h2⟩ := h.bx j hj
   refine ⟨h1, ?_⟩
   by_cases e : j = i
   · subst e; exact ⟨_, _, _, _, _, h2.set5 _ _ _ _ _⟩
   · exact ⟨_, _, _, _, _, h2.st5 (h.ne j i e hj hal) _ _ _ _ _⟩
 · rcases up1_on hj with rfl | ⟨hji, hj⟩
   · exact ⟨hal, hca, hz.set5 _ _ _ _ _⟩
   · obtain ⟨h1, h2, h3⟩ := h.se j hj
     exact ⟨h1, h2, h3.st5 (h.ne j i hji h1 hal) _ _ _ _ _⟩
end
def AllI (F : Nat → Oper → Prop) : Nat → List Oper → Prop
 | _, [] => True
 | k, o :: r => F k o ∧ AllI F (k + 1) r
theorem AllI.nil {F : Nat → Oper → Prop} {k : Nat} : AllI F k [] := trivial
theorem AllI.cons {F : Nat → Oper → Prop} {k : Nat} {o : Oper} {r : List Oper} (h : F k o) (hr : AllI F (k + 1) r) : AllI F k (o :: r) := ⟨h, hr⟩
theorem AllI.get {F : Nat → Oper → Prop} {l : List Oper} : ∀ {k : Nat}, AllI F k l → ∀ i o, l[i]? = some o → F (k + i) o := by
 induction l with
 | nil => intro k _ i o h; simp at h
 | cons p r ih =>
  intro k h i o ho
  cases i with
  | zero => simp at ho; subst ho; exact h.1
  | succ i => simp at ho; have := ih h.2 i o ho; rwa [Nat.add_assoc, Nat.add_comm 1] at this
theorem tkz {P : Program} {ops : Array Oper} {Q : Exit → Act → World → Prop} {md : Region.Mode} {S : World → Prop} {fuel : Nat} {l : Array Bool} {ts ts' : Array Value} {D : List Deferred} {w : World} (i t : Nat) (v : Value) {o : Oper}
 (hi : ops[i]? = some o := by rfl) (hd : o.dst = some t := by rfl) (hs : Region.noSelect ops = true := by kernel_rfl) (hf : Region.free md ops l i = true := by kernel_rfl) (hr : (Region.ready md ops l).contains i = true := by kernel_rfl)
 (hQ : ∀ c a w, Q (.panic c) (a.put o.dst v) w → Q (.panic c) a w := by exact fun _ _ _ h => h) (hw : Region.wanted o (yielded ops ts) = true := by rfl)
 (hts : ts.setIfInBounds t v = ts' := by (simp only [List.setIfInBounds_toArray, List.set_cons_zero, List.set_cons_succ]; exact rfl))
 (hy : ∀ w, S w → (execOp (Act.eval ⟨ts, D⟩) o).run P w = .ok (.value v) w) (hS : S w)
 (h : wpAnyH P md ops Q S fuel (l.setIfInBounds i true) ⟨ts', D⟩ w) : wpAnyH P md ops Q S (fuel + 1) l ⟨ts, D⟩ w := by
 subst hts
 refine wpAnyH_take hi hs hf hr hQ (Or.inl ⟨hw, hy⟩) hS ?_
 rw [hd]; exact h
def fillA (ts : Array Value) : List (Nat × Value) → Array Value
 | [] => ts
 | (i, v) :: r => (fillA ts r).setIfInBounds i v
section
variable {P : Program} {ops : Array Oper} {Q : Exit → Act → World → Prop}
theorem wp_region_from {id : Nat} {a : Act} {w : World} (hm : P.follows .mixedOrders = true)
 (h : ∀ w0, From w w0 → wpAnyH P .any ops Q (fun w' => Below w0.heap.size w0 w') ops.size (Array.replicate ops.size false) a w0) : (Code.region id ops true).wp P Q a w :=
 wp_region_held_drew (S := fun w' => Below w.drew.heap.size w.drew w') hm (Below.refl _ _) fun _ => h w.drew ⟨(Below.refl _ _).drew⟩
end
end Go.Proofs.YtablcbgeeeboeaaGreatDoor
