/-
  A region that draws its order, shown by an invariant over the operations that are left. No function of the program in sight.
  Variables of five words that a drawn region makes and fills: how far it has come. No function of the program in sight.
  Variables of two words, made and filled by a drawn region: how far it has come. No function of the program in sight.
  Variables that hold dyads, made and filled by a drawn region: how far it has come. No function of the program in sight.
-/
import Derived.Deep.RegionHeld3
import Derived.WalkKit
import Derived.Test.YtgicceiimciafaaGreatDoorZeCs
namespace Go.Proofs.YtgicceiimciafaaGreatDoor
def left (l : Array Bool) : Nat := l.toList.count false
theorem getD_false {l : Array Bool} {i : Nat} (h : l.getD i true = false) : ∃ hi : i < l.size, l[i] = false := by
 rcases Nat.lt_or_ge i l.size with h' | h'
 · refine ⟨h', ?_⟩
   simpa [h'] using h
 · simp [Array.getElem?_eq_none h'] at h
theorem left_set {l : Array Bool} {i : Nat} (h : l.getD i true = false) : left (l.setIfInBounds i true) + 1 = left l := by
 obtain ⟨hi, he⟩ := getD_false h
 unfold left
 have hl : i < l.toList.length := by simpa using hi
 have e : (l.setIfInBounds i true).toList = l.toList.set i true := by simp
 rw [e, List.count_set hl]
 have hx : l.toList[i] = false := by simpa using he
 have hc : 0 < l.toList.count false := List.count_pos_iff.2 (hx ▸ List.getElem_mem hl)
 rw [hx, if_pos (by rfl), if_neg (by decide)]
 omega
theorem left_zero {l : Array Bool} (h : left l = 0) (i : Nat) : l.getD i true ≠ false := fun hf => by
 have := left_set hf
 omega
theorem all_up {md : Region.Mode} {ops : Array Oper} (hd : (ops.toList.zipIdx.all fun p => p.1.after.all fun e => !Region.binds md e || decide (e.on < p.2)) = true) {l : Array Bool} (hs : l.size = ops.size) (hr : Region.ready md ops l = []) :
 ∀ i, i < l.size → l.getD i false = true := by
 intro i
 induction i using Nat.strongRecOn with
 | _ i ih =>
  intro hi
  rcases hb : l[i] with _ | _
  · exfalso
    have hio : i < ops.size := by omega
    have : i ∈ Region.ready md ops l := by
     refine mem_ready.2 ⟨by simp [hi, hb], ops[i], by simp [hio], fun e he hbe => ?_⟩
     have h1 := List.all_eq_true.1 hd (ops[i], i) (by
      rw [List.mem_zipIdx_iff_getElem?]
      simp [hio])
     have h2 := Array.all_eq_true'.1 h1 e he
     rw [hbe, Bool.not_true, Bool.false_or, decide_eq_true_eq] at h2
     exact ih e.on h2 (by omega)
    rw [hr] at this
    cases this
  · simp [hi, hb]
section
variable {P : Program} {ops : Array Oper} {Q : Exit → Act → World → Prop} {md : Region.Mode} {S : World → Prop}
theorem wpAnyH_inv {I : Array Bool → Act → World → Prop} (hd : (ops.toList.zipIdx.all fun p => p.1.after.all fun e => !Region.binds md e || decide (e.on < p.2)) = true)
 (hz : ∀ l a w, I l a w → l.size = ops.size)
 (hstep : ∀ l a w, I l a w → ∀ i o, ops[i]? = some o → l.getD i true = false → (∀ e ∈ o.after, Region.binds md e = true → l.getD e.on false = true) → wpOp P ops Q i (fun a' w' => S w' ∧ I (l.setIfInBounds i true) a' w') a w)
 (hend : ∀ l a w, I l a w → (∀ i, i < l.size → l.getD i false = true) → Q .normal a w) :
 ∀ (fuel : Nat) (l : Array Bool) (a : Act) (w : World), left l ≤ fuel → I l a w → wpAnyH P md ops Q S fuel l a w := by
 intro fuel
 induction fuel with
 | zero =>
  intro l a w hf hI
  have hr : Region.ready md ops l = [] := by
   rw [List.eq_nil_iff_forall_not_mem]
   intro i hi
   exact left_zero (by omega) i (mem_ready.1 hi).1
  exact ⟨hr, hend l a w hI (all_up hd (hz l a w hI) hr)⟩
 | succ fuel ih =>
  intro l a w hf hI
  refine ⟨fun hr => hend l a w hI (all_up hd (hz l a w hI) hr), fun i hi => ?_⟩
  obtain ⟨h1, o, ho, h2⟩ := mem_ready.1 hi
  refine wpOp_mono (fun a' w' h => ⟨h.1, ih _ a' w' ?_ h.2⟩) (hstep l a w hI i o ho h1 h2)
  have := left_set h1
  omega
end
end Go.Proofs.YtgicceiimciafaaGreatDoor
namespace Go.Proofs.YtgicceiimciafaaGreatDoor
open Go.RowKit Sp
def pick4 {α : Type} (a b c d : α) (j : Nat) : α := match j with | 0 => a | 1 => b | 2 => c | _ => d
def pick6 {α : Type} (a b c d e f : α) (j : Nat) : α := match j with | 0 => a | 1 => b | 2 => c | 3 => d | 4 => e | _ => f
def up1 {α : Type} (f : Nat → α) (i : Nat) (v : α) : Nat → α := fun j => if j = i then v else f j
theorem up1_eq {α : Type} (f : Nat → α) (i : Nat) (v : α) : up1 f i v i = v := if_pos rfl
theorem up1_ne {α : Type} (f : Nat → α) {i j : Nat} (h : j ≠ i) (v : α) : up1 f i v j = f j := if_neg h
theorem up1_on {f : Nat → Bool} {i j : Nat} (h : up1 f i true j = true) : j = i ∨ (j ≠ i ∧ f j = true) := by
 by_cases hj : j = i
 · exact Or.inl hj
 · rw [up1_ne _ hj] at h; exact Or.inr ⟨hj, h⟩
def Box (w : World) (b : Nat) : Prop := ∃ x0 x1 x2 x3 x4, N5 w b x0 x1 x2 x3 x4
theorem Box.spec {w : World} {b : Nat} (h : Box w b) : N5 w b (Exists.choose h) (Exists.choose (Exists.choose_spec h)) (Exists.choose (Exists.choose_spec (Exists.choose_spec h))) (Exists.choose (Exists.choose_spec (Exists.choose_spec (Exists.choose_spec h)))) (Exists.choose (Exists.choose_spec (Exists.choose_spec (Exists.choose_spec (Exists.choose_spec h))))) := Exists.choose_spec (Exists.choose_spec (Exists.choose_spec (Exists.choose_spec (Exists.choose_spec h))))
theorem N5.set5 {W : World} {b : Nat} {x0 x1 x2 x3 x4 : Value} (h : N5 W b x0 x1 x2 x3 x4) (y0 y1 y2 y3 y4 : Value) :
 N5 (((((W.setCell ⟨b, 0, none⟩ y0).setCell ⟨b, 1, none⟩ y1).setCell ⟨b, 2, none⟩ y2).setCell ⟨b, 3, none⟩ y3).setCell ⟨b, 4, none⟩ y4) b y0 y1 y2 y3 y4 := by
 obtain ⟨c0, c1, c2, c3, c4, c5, c6⟩ := h
 exact ⟨by go_simp, by go_simp, by go_simp, by go_simp, by go_simp, fun i => by go_simp, by simpa using c6⟩
theorem N5.st5 {W : World} {b g : Nat} {x0 x1 x2 x3 x4 : Value} (h : N5 W b x0 x1 x2 x3 x4) (ne : b ≠ g) (y0 y1 y2 y3 y4 : Value) :
 N5 (((((W.setCell ⟨g, 0, none⟩ y0).setCell ⟨g, 1, none⟩ y1).setCell ⟨g, 2, none⟩ y2).setCell ⟨g, 3, none⟩ y3).setCell ⟨g, 4, none⟩ y4) b x0 x1 x2 x3 x4 := by
 obtain ⟨c0, c1, c2, c3, c4, c5, c6⟩ := h
 have k : ∀ (V : World) (i j : Nat) (y : Value), (V.setCell ⟨g, i, none⟩ y).cell? ⟨b, j, none⟩ = V.cell? ⟨b, j, none⟩ := fun V i j y => cell_set_ne ne _ _ _
 refine ⟨?_, ?_, ?_, ?_, ?_, fun i => ?_, by simpa using c6⟩
 · rw [k, k, k, k, k]; exact c0
 · rw [k, k, k, k, k]; exact c1
 · rw [k, k, k, k, k]; exact c2
 · rw [k, k, k, k, k]; exact c3
 · rw [k, k, k, k, k]; exact c4
 · rw [frozen_set_ne, frozen_set_ne, frozen_set_ne, frozen_set_ne, frozen_set_ne]; exact c5 i
theorem Mag.st5 {W : World} {a : Option Addr} {n c x g : Nat} (h : Mag W a n c x) (ne : 0 < n → ab a ≠ g) (y0 y1 y2 y3 y4 : Value) :
 Mag (((((W.setCell ⟨g, 0, none⟩ y0).setCell ⟨g, 1, none⟩ y1).setCell ⟨g, 2, none⟩ y2).setCell ⟨g, 3, none⟩ y3).setCell ⟨g, 4, none⟩ y4) a n c x := ((((h.set ne 0 y0).set ne 1 y1).set ne 2 y2).set ne 3 y3).set ne 4 y4
structure NS (w0 : World) (I : Nat → Int) (d : Nat → Option (Int × Int)) (al ca st : Nat → Bool) (B : Nat → Nat) (A : Nat → Option Addr) (C : Nat → Nat) (w : World) : Prop where
 beh : Below w0.heap.size w0 w
 bx : ∀ i, al i = true → w0.heap.size ≤ B i ∧ Box w (B i)
 ne : ∀ i j, i ≠ j → al i = true → al j = true → B i ≠ B j
 nu : ∀ i, ca i = true → Mag w (A i) (nl (dman (d i)).natAbs) (C i) (dman (d i)).natAbs
 fr : ∀ i j, al i = true → ca j = true → 0 < nl (dman (d j)).natAbs → ab (A j) ≠ B i
 se : ∀ i, st i = true → al i = true ∧ ca i = true ∧ N5 w (B i) (.int .i64 (I i)) (.bool (dbad (d i))) (.bool (decide (dman (d i) < 0))) (.slice (A i) (nl (dman (d i)).natAbs) (C i)) (.int .i64 (dexp (d i)))
section
variable {w0 w : World} {I : Nat → Int} {d : Nat → Option (Int × Int)} {al ca st : Nat → Bool} {B : Nat → Nat} {A : Nat → Option Addr} {C : Nat → Nat}
theorem NS.start (w0 : World) (I : Nat → Int) (d : Nat → Option (Int × Int)) (B : Nat → Nat) (A : Nat → Option Addr) (C : Nat → Nat) : NS w0 I d (fun _ => false) (fun _ => false) (fun _ => false) B A C w0 :=
 ⟨Below.refl _ _, fun _ h => absurd h Bool.false_ne_true, fun _ _ _ h => absurd h Bool.false_ne_true, fun _ h => absurd h Bool.false_ne_true, fun _ _ h => absurd h Bool.false_ne_true, fun _ h => absurd h Bool.false_ne_true⟩
theorem NS.alloc (h : NS w0 I d al ca st B A C w) (i : Nat) (hi : al i = false) (x0 x1 x2 x3 x4 : Value) (t : TypeId) :
 NS w0 I d (up1 al i true) ca st (up1 B i w.heap.size) A C (w.alloc (.cells #[x0, x1, x2, x3, x4] t)) := by
 have B0 : Below w.heap.size w (w.alloc (.cells #[x0, x1, x2, x3, x4] t)) := (Below.refl _ _).alloc (Nat.le_refl _) _
 have hsz := h.beh.size
 refine ⟨h.beh.alloc hsz _, fun j hj => ?_, fun j l hne hj hl => ?_, fun j hj => (h.nu j hj).below B0, fun j l hj hl hp => ?_, fun j hj => ?_⟩
 · rcases up1_on hj with rfl | ⟨hji, hj⟩
   · rw [up1_eq]; exact ⟨hsz, _, _, _, _, _, N5.made w t x0 x1 x2 x3 x4 rfl⟩
   · rw [up1_ne _ hji]
     obtain ⟨h1, y0, y1, y2, y3, y4, h2⟩ := h.bx j hj
     exact ⟨h1, _, _, _, _, _, h2.below B0⟩
 · rcases up1_on hj with hji | ⟨hji, hj'⟩ <;> rcases up1_on hl with hli | ⟨hli, hl'⟩
   · exact absurd (hji.trans hli.symm) hne
   · rw [hji, up1_eq, up1_ne _ hli]
     obtain ⟨_, y0, y1, y2, y3, y4, h2⟩ := h.bx l hl'
     have := h2.lt; omega
   · rw [hli, up1_eq, up1_ne _ hji]
     obtain ⟨_, y0, y1, y2, y3, y4, h2⟩ := h.bx j hj'
     have := h2.lt; omega
   · rw [up1_ne _ hji, up1_ne _ hli]; exact h.ne j l hne hj' hl'
 · rcases up1_on hj with rfl | ⟨hji, hj⟩
   · rw [up1_eq]
     have := (h.nu l hl).old hp; omega
   · rw [up1_ne _ hji]; exact h.fr j l hj hl hp
 · obtain ⟨h1, h2, h3⟩ := h.se j hj
   have hji : j ≠ i := fun e => by rw [e, hi] at h1; cases h1
   rw [up1_ne _ hji, up1_ne _ hji]
   exact ⟨h1, h2, h3.below B0⟩
theorem NS.on (h : NS w0 I d al ca st B A C w) {w' : World} (hb : From w w') : NS w0 I d al ca st B A C w' := by
 have B0 := hb.out
 refine ⟨h.beh.trans (B0.mono h.beh.size), fun j hj => ?_, h.ne, fun j hj => (h.nu j hj).below B0, h.fr, fun j hj => ?_⟩
 · obtain ⟨h1, y0, y1, y2, y3, y4, h2⟩ := h.bx j hj
   exact ⟨h1, _, _, _, _, _, h2.below B0⟩
 · obtain ⟨h1, h2, h3⟩ := h.se j hj
   exact ⟨h1, h2, h3.below B0⟩
theorem NS.num (h : NS w0 I d al ca st B A C w) (j : Nat) (hj : ca j = false) (a : Option Addr) (c : Nat) (hm : Mag w a (nl (dman (d j)).natAbs) c (dman (d j)).natAbs)
 (hf : ∀ i, al i = true → 0 < nl (dman (d j)).natAbs → ab a ≠ B i) : NS w0 I d al (up1 ca j true) st B (up1 A j a) (up1 C j c) w := by
 refine ⟨h.beh, h.bx, h.ne, fun i hi => ?_, fun i l hi hl hp => ?_, fun i hi => ?_⟩
 · rcases up1_on hi with rfl | ⟨hij, hi⟩
   · rw [up1_eq, up1_eq]; exact hm
   · rw [up1_ne _ hij, up1_ne _ hij]; exact h.nu i hi
 · rcases up1_on hl with rfl | ⟨hlj, hl⟩
   · rw [up1_eq]; exact hf i hi hp
   · rw [up1_ne _ hlj]; exact h.fr i l hi hl hp
 · obtain ⟨h1, h2, h3⟩ := h.se i hi
   have hij : i ≠ j := fun e => by rw [e, hj] at h2; cases h2
   rw [up1_ne _ hij, up1_ne _ hij, up1_ne _ hij]
   exact ⟨h1, h2, h3⟩
theorem NS.call (h : NS w0 I d al ca st B A C w) (j : Nat) (hj : ca j = false) {w' : World} (hb : From w w') (a : Option Addr) (c : Nat) (hm : Mag w' a (nl (dman (d j)).natAbs) c (dman (d j)).natAbs)
 (hf : 0 < nl (dman (d j)).natAbs → w.heap.size ≤ ab a) : NS w0 I d al (up1 ca j true) st B (up1 A j a) (up1 C j c) w' :=
 (h.on hb).num j hj a c hm fun i hi hp => by
  obtain ⟨_, y0, y1, y2, y3, y4, h2⟩ := h.bx i hi
  have := h2.lt; have := hf hp; omega
theorem NS.pick (h : NS w0 I d al ca st B A C w) (j i : Nat) (hj : ca j = false) (hi : ca i = true) (e : d j = d i) : NS w0 I d al (up1 ca j true) st B (up1 A j (A i)) (up1 C j (C i)) w :=
 h.num j hj _ _ (by rw [e]; exact h.nu i hi) fun l hl hp => h.fr l i hl hi (by rw [← e]; exact hp)
theorem NS.pick2 (h : NS w0 I d al ca st B A C w) (x y j l : Nat) (hx : ca x = false) (hy : ca y = false) (hxy : y ≠ x) (hj : ca j = true) (hl : ca l = true) (e : d x = d j) (e' : d y = d l) :
 NS w0 I d al (up1 (up1 ca x true) y true) st B (up1 (up1 A x (A j)) y (A l)) (up1 (up1 C x (C j)) y (C l)) w := by
 have hlx : l ≠ x := fun q => by rw [q, hx] at hl; cases hl
 have h2 := (h.pick x j hx hj e).pick y l (by rw [up1_ne _ hxy]; exact hy) (by rw [up1_ne _ hlx]; exact hl) e'
 rw [up1_ne _ hlx, up1_ne _ hlx] at h2
 exact h2
theorem NS.store (h : NS w0 I d al ca st B A C w) (i : Nat) (hal : al i = true) (hca : ca i = true) :
 NS w0 I d al ca (up1 st i true) B A C (((((w.setCell ⟨B i, 0, none⟩ (.int .i64 (I i))).setCell ⟨B i, 1, none⟩ (.bool (dbad (d i)))).setCell ⟨B i, 2, none⟩ (.bool (decide (dman (d i) < 0)))).setCell ⟨B i, 3, none⟩ (.slice (A i) (nl (dman (d i)).natAbs) (C i))).setCell ⟨B i, 4, none⟩ (.int .i64 (dexp (d i)))) := by
 obtain ⟨hb, z0, z1, z2, z3, z4, hz⟩ := h.bx i hal
 refine ⟨((((h.beh.setCell hb _).setCell hb _).setCell hb _).setCell hb _).setCell hb _, fun j hj => ?_, h.ne, fun j hj => Mag.st5 (h.nu j hj) (h.fr i j hal hj) _ _ _ _ _, h.fr, fun j hj => ?_⟩
 · obtain ⟨h1, y0, y1, y2, y3, y4, h2⟩ := h.bx j hj
   refine ⟨h1, ?_⟩
   by_cases e : j = i
   · subst e; exact ⟨_, _, _, _, _, h2.set5 _ _ _ _ _⟩
   · exact ⟨_, _, _, _, _, h2.st5 (h.ne j i e hj hal) _ _ _ _ _⟩
 · rcases up1_on hj with rfl | ⟨hji, hj⟩
   · exact ⟨hal, hca, hz.set5 _ _ _ _ _⟩
   · obtain ⟨h1, h2, h3⟩ := h.se j hj
     exact ⟨h1, h2, h3.st5 (h.ne j i hji h1 hal) _ _ _ _ _⟩
end
def AllI (F : Nat → Oper → Prop) : Nat → List Oper → Prop
 | _, [] => True
 | k, o :: r => F k o ∧ AllI F (k + 1) r
theorem AllI.nil {F : Nat → Oper → Prop} {k : Nat} : AllI F k [] := trivial
theorem AllI.cons {F : Nat → Oper → Prop} {k : Nat} {o : Oper} {r : List Oper} (h : F k o) (hr : AllI F (k + 1) r) : AllI F k (o :: r) := ⟨h, hr⟩
theorem AllI.get {F : Nat → Oper → Prop} {l : List Oper} : ∀ {k : Nat}, AllI F k l → ∀ i o, l[i]? = some o → F (k + i) o := by
 induction l with
 | nil => intro k _ i o h; simp at h
 | cons p r ih =>
  intro k h i o ho
  cases i with
  | zero => simp at ho; subst ho; exact h.1
  | succ i => simp at ho; have := ih h.2 i o ho; rwa [Nat.add_assoc, Nat.add_comm 1] at this
theorem tkz {P : Program} {ops : Array Oper} {Q : Exit → Act → World → Prop} {md : Region.Mode} {S : World → Prop} {fuel : Nat} {l : Array Bool} {ts ts' : Array Value} {D : List Deferred} {w : World} (i t : Nat) (v : Value) {o : Oper}
 (hi : ops[i]? = some o := by rfl) (hd : o.dst = some t := by rfl) (hs : Region.noSelect ops = true := by kernel_rfl) (hf : Region.free md ops l i = true := by kernel_rfl) (hr : (Region.ready md ops l).contains i = true := by kernel_rfl)
 (hQ : ∀ c a w, Q (.panic c) (a.put o.dst v) w → Q (.panic c) a w := by exact fun _ _ _ h => h) (hw : Region.wanted o (yielded ops ts) = true := by rfl)
 (hts : ts.setIfInBounds t v = ts' := by (simp only [List.setIfInBounds_toArray, List.set_cons_zero, List.set_cons_succ]; exact rfl))
 (hy : ∀ w, S w → (execOp (Act.eval ⟨ts, D⟩) o).run P w = .ok (.value v) w) (hS : S w)
 (h : wpAnyH P md ops Q S fuel (l.setIfInBounds i true) ⟨ts', D⟩ w) : wpAnyH P md ops Q S (fuel + 1) l ⟨ts, D⟩ w := by
 subst hts
 refine wpAnyH_take hi hs hf hr hQ (Or.inl ⟨hw, hy⟩) hS ?_
 rw [hd]; exact h
def PT (b : Bool) (n : Nat) : Value := if b then .pointer (some ⟨n, 0, none⟩) else undef
theorem PT_true (n : Nat) : PT true n = .pointer (some ⟨n, 0, none⟩) := rfl
def NT (b : Bool) (i : Int) (d : Option (Int × Int)) (a : Option Addr) (c : Nat) : Value :=
 if b then .agg #[.int .i64 i, .bool (dbad d), .bool (decide (dman d < 0)), .slice a (nl (dman d).natAbs) c, .int .i64 (dexp d)] else undef
theorem NT_true (i : Int) (d : Option (Int × Int)) (a : Option Addr) (c : Nat) : NT true i d a c = .agg #[.int .i64 i, .bool (dbad d), .bool (decide (dman d < 0)), .slice a (nl (dman d).natAbs) c, .int .i64 (dexp d)] := rfl
def VT (b : Bool) (v : Value) : Value := if b then v else undef
theorem VT_true (v : Value) : VT true v = v := rfl
theorem VT_false (v : Value) : VT false v = undef := rfl
theorem off_of {a b : Bool} (h : a = true → b = true) (hb : b = false) : a = false := by cases a with | false => rfl | true => rw [h rfl] at hb; cases hb
def fillA (ts : Array Value) : List (Nat × Value) → Array Value
 | [] => ts
 | (i, v) :: r => (fillA ts r).setIfInBounds i v
section
variable {P : Program} {ops : Array Oper} {Q : Exit → Act → World → Prop} {md : Region.Mode}
def NsK (w0 : World) (I : Nat → Int) (d : Nat → Option (Int × Int)) (Lf : (Nat → Bool) → (Nat → Bool) → (Nat → Bool) → (Nat → Bool) → Array Bool) (Tf : (Nat → Bool) → (Nat → Bool) → (Nat → Bool) → (Nat → Nat) → (Nat → Option Addr) → (Nat → Nat) → List (Nat × Value)) (X : (Nat → Bool) → (Nat → Bool) → (Nat → Bool) → (Nat → Bool) → (Nat → Option Addr) → (Nat → Nat) → Prop)
 (ts : Array Value) (D : List Deferred) (al ca st ex : Nat → Bool) (i : Nat) (K : Act → World → Prop) : Prop :=
 ∀ al' ca' st' ex' B' A' C' a' w', (Lf al ca st ex).setIfInBounds i true = Lf al' ca' st' ex' → a' = ⟨fillA ts (Tf al' ca' ex' B' A' C'), D⟩ → X al' ca' st' ex' A' C' → NS w0 I d al' ca' st' B' A' C' w' → K a' w'
theorem wpAnyH_ns {fuel : Nat} {l : Array Bool} {a : Act} {w : World} (w0 : World) (I : Nat → Int) (d : Nat → Option (Int × Int))
 (Lf : (Nat → Bool) → (Nat → Bool) → (Nat → Bool) → (Nat → Bool) → Array Bool) (Tf : (Nat → Bool) → (Nat → Bool) → (Nat → Bool) → (Nat → Nat) → (Nat → Option Addr) → (Nat → Nat) → List (Nat × Value)) (X : (Nat → Bool) → (Nat → Bool) → (Nat → Bool) → (Nat → Bool) → (Nat → Option Addr) → (Nat → Nat) → Prop)
 {ts : Array Value} {D : List Deferred} (ha : a = ⟨ts, D⟩) {al ca st ex : Nat → Bool} {B : Nat → Nat} {A : Nat → Option Addr} {C : Nat → Nat} (hN : NS w0 I d al ca st B A C w)
 (hX : X al ca st ex A C) (hl : l = Lf al ca st ex) (hf : fillA ts (Tf al ca ex B A C) = ts) (hfu : left l ≤ fuel) (hd : (ops.toList.zipIdx.all fun p => p.1.after.all fun e => !Region.binds md e || decide (e.on < p.2)) = true)
 (hz : ∀ al ca st ex, (Lf al ca st ex).size = ops.size)
 (hstep : ∀ al ca st ex B A C w, NS w0 I d al ca st B A C w → X al ca st ex A C → From w0 w → AllI (fun i o => (Lf al ca st ex).getD i true = false → (∀ e ∈ o.after, Region.binds md e = true → (Lf al ca st ex).getD e.on false = true) →
  ∀ K : Act → World → Prop, Shut (NsK w0 I d Lf Tf X ts D al ca st ex i K) →
   if Region.wanted o (yielded ops (fillA ts (Tf al ca ex B A C))) = true then Oper.wp P o ⟨fillA ts (Tf al ca ex B A C), D⟩ w K Q else K (Act.put ⟨fillA ts (Tf al ca ex B A C), D⟩ o.dst undef) w) 0 ops.toList)
 (hend : ∀ al ca st ex B A C w, NS w0 I d al ca st B A C w → X al ca st ex A C → From w0 w → (∀ i, i < ops.size → (Lf al ca st ex).getD i false = true) → Q .normal ⟨fillA ts (Tf al ca ex B A C), D⟩ w) :
 wpAnyH P md ops Q (fun w' => Below w0.heap.size w0 w') fuel l a w := by
 refine wpAnyH_inv (I := fun l a w => ∃ al ca st ex B A C, l = Lf al ca st ex ∧ a = ⟨fillA ts (Tf al ca ex B A C), D⟩ ∧ X al ca st ex A C ∧ NS w0 I d al ca st B A C w) hd ?_ ?_ ?_ fuel l a w hfu ⟨al, ca, st, ex, B, A, C, hl, by rw [ha, hf], hX, hN⟩
 · rintro l a w ⟨al, ca, st, ex, B, A, C, rfl, rfl, _⟩; exact hz _ _ _ _
 · rintro l a w ⟨al, ca, st, ex, B, A, C, rfl, rfl, hX, hN⟩ i o ho h1 h2
   refine wpOp_step ho fun K hK => ?_
   have h := (hstep al ca st ex B A C w hN hX ⟨hN.beh⟩).get i o (by simpa using ho)
   rw [Nat.zero_add] at h
   exact h h1 h2 K fun al' ca' st' ex' B' A' C' a' w' e1 e2 e3 e4 => hK a' w' ⟨e4.beh, al', ca', st', ex', B', A', C', e1, e2, e3, e4⟩
 · rintro l a w ⟨al, ca, st, ex, B, A, C, rfl, rfl, hX, hN⟩ h
   exact hend al ca st ex B A C w hN hX ⟨hN.beh⟩ (by rw [← hz al ca st ex]; exact h)
variable {ts : Array Value} {D : List Deferred} {w0 w w' : World} {I : Nat → Int} {d : Nat → Option (Int × Int)} {Lf : (Nat → Bool) → (Nat → Bool) → (Nat → Bool) → (Nat → Bool) → Array Bool} {Tf : (Nat → Bool) → (Nat → Bool) → (Nat → Bool) → (Nat → Nat) → (Nat → Option Addr) → (Nat → Nat) → List (Nat × Value)} {X : (Nat → Bool) → (Nat → Bool) → (Nat → Bool) → (Nat → Bool) → (Nat → Option Addr) → (Nat → Nat) → Prop}
 {al ca st ex : Nat → Bool} {B : Nat → Nat} {A : Nat → Option Addr} {C : Nat → Nat} {i : Nat} {K : Act → World → Prop} {a' : Act}
theorem ns_ca (hK : Shut (NsK w0 I d Lf Tf X ts D al ca st ex i K))
 (hN : NS w0 I d al ca st B A C w) (j : Nat) (hj : ca j = false) {a : Option Addr} {c : Nat} (hX : X al (up1 ca j true) st ex (up1 A j a) (up1 C j c)) (hb : From w w') (hm : BI w' a (nl (dman (d j)).natAbs) c (dman (d j)).natAbs) (hf : 0 < nl (dman (d j)).natAbs → w.heap.size ≤ ab a)
 (e1 : (Lf al ca st ex).setIfInBounds i true = Lf al (up1 ca j true) st ex := by rfl) (e2 : a' = ⟨fillA ts (Tf al (up1 ca j true) ex B (up1 A j a) (up1 C j c)), D⟩ := by (simp only [fillA, List.setIfInBounds_toArray, List.set_cons_zero, List.set_cons_succ] <;> rfl)) : K a' w' :=
 hK.out al (up1 ca j true) st ex B (up1 A j a) (up1 C j c) a' w' e1 e2 hX (hN.call j hj hb a c hm.out hf)
theorem ns_al (hK : Shut (NsK w0 I d Lf Tf X ts D al ca st ex i K))
 (hN : NS w0 I d al ca st B A C w) (j : Nat) (hj : al j = false) {x0 x1 x2 x3 x4 : Value} {t : TypeId} (hX : X (up1 al j true) ca st ex A C)
 (e1 : (Lf al ca st ex).setIfInBounds i true = Lf (up1 al j true) ca st ex := by rfl) (e2 : a' = ⟨fillA ts (Tf (up1 al j true) ca ex (up1 B j w.heap.size) A C), D⟩ := by (simp only [fillA, List.setIfInBounds_toArray, List.set_cons_zero, List.set_cons_succ] <;> rfl)) : K a' (w.alloc (.cells #[x0, x1, x2, x3, x4] t)) :=
 hK.out (up1 al j true) ca st ex (up1 B j w.heap.size) A C a' _ e1 e2 hX (hN.alloc j hj x0 x1 x2 x3 x4 t)
theorem ns_st (hK : Shut (NsK w0 I d Lf Tf X ts D al ca st ex i K))
 (j : Nat) (hN : NS w0 I d al ca (up1 st j true) B A C w') (hX : X al ca (up1 st j true) ex A C)
 (e2 : a' = ⟨fillA ts (Tf al ca ex B A C), D⟩) (e1 : (Lf al ca st ex).setIfInBounds i true = Lf al ca (up1 st j true) ex := by rfl) : K a' w' :=
 hK.out al ca (up1 st j true) ex B A C a' w' e1 e2 hX hN
end
section
variable {P : Program} {ops : Array Oper} {Q : Exit → Act → World → Prop}
theorem wp_region_from {id : Nat} {a : Act} {w : World} (hm : P.follows .mixedOrders = true)
 (h : ∀ w0, From w w0 → wpAnyH P .any ops Q (fun w' => Below w0.heap.size w0 w') ops.size (Array.replicate ops.size false) a w0) : (Code.region id ops true).wp P Q a w :=
 wp_region_held_drew (S := fun w' => Below w.drew.heap.size w.drew w') hm (Below.refl _ _) fun _ => h w.drew ⟨(Below.refl _ _).drew⟩
end
end Go.Proofs.YtgicceiimciafaaGreatDoor
namespace Go.Proofs.YtgicceiimciafaaGreatDoor
open Go.RowKit Sp
def VO (b : Bool) (v o : Value) : Value := if b then v else o
theorem VO_true (v o : Value) : VO true v o = v := rfl
def BoxF (w : World) (b : Nat) : Prop := ∃ x y, FV w b x y
theorem BoxF.spec {w : World} {b : Nat} (h : BoxF w b) : FV w b (Exists.choose h) (Exists.choose (Exists.choose_spec h)) := Exists.choose_spec (Exists.choose_spec h)
theorem FV.set2 {W : World} {b : Nat} {x y : Value} (h : FV W b x y) (x' y' : Value) : FV ((W.setCell ⟨b, 0, none⟩ x').setCell ⟨b, 1, none⟩ y') b x' y' := inferInstance
theorem FV.st2 {W : World} {b g : Nat} {x y : Value} (h : FV W b x y) (ne : b ≠ g) (x' y' : Value) : FV ((W.setCell ⟨g, 0, none⟩ x').setCell ⟨g, 1, none⟩ y') b x y := by
 haveI : NB b g := ⟨ne⟩
 infer_instance
structure NF (w0 : World) (X Y : Nat → Value) (al ca st : Nat → Bool) (B : Nat → Nat) (w : World) : Prop where
 beh : Below w0.heap.size w0 w
 bx : ∀ i, al i = true → w0.heap.size ≤ B i ∧ BoxF w (B i)
 ne : ∀ i j, i ≠ j → al i = true → al j = true → B i ≠ B j
 se : ∀ i, st i = true → al i = true ∧ FV w (B i) (X i) (Y i)
section
variable {w0 w : World} {X Y : Nat → Value} {al ca st : Nat → Bool} {B : Nat → Nat}
theorem NF.start (w0 : World) (X Y : Nat → Value) (B : Nat → Nat) : NF w0 X Y (fun _ => false) (fun _ => false) (fun _ => false) B w0 :=
 ⟨Below.refl _ _, fun _ h => absurd h Bool.false_ne_true, fun _ _ _ h => absurd h Bool.false_ne_true, fun _ h => absurd h Bool.false_ne_true⟩
theorem NF.alloc (h : NF w0 X Y al ca st B w) (i : Nat) (hi : al i = false) (x y : Value) (t : TypeId) :
 NF w0 X Y (up1 al i true) ca st (up1 B i w.heap.size) (w.alloc (.cells #[x, y] t)) := by
 have B0 : Below w.heap.size w (w.alloc (.cells #[x, y] t)) := (Below.refl _ _).alloc (Nat.le_refl _) _
 have hsz := h.beh.size
 refine ⟨h.beh.alloc hsz _, fun j hj => ?_, fun j l hne hj hl => ?_, fun j hj => ?_⟩
 · rcases up1_on hj with rfl | ⟨hji, hj⟩
   · rw [up1_eq]; exact ⟨hsz, _, _, FV.made w t x y rfl⟩
   · rw [up1_ne _ hji]
     obtain ⟨h1, y0, y1, h2⟩ := h.bx j hj
     exact ⟨h1, _, _, h2.below B0⟩
 · rcases up1_on hj with hji | ⟨hji, hj'⟩ <;> rcases up1_on hl with hli | ⟨hli, hl'⟩
   · exact absurd (hji.trans hli.symm) hne
   · rw [hji, up1_eq, up1_ne _ hli]
     obtain ⟨_, y0, y1, h2⟩ := h.bx l hl'
     have := h2.lt; omega
   · rw [hli, up1_eq, up1_ne _ hji]
     obtain ⟨_, y0, y1, h2⟩ := h.bx j hj'
     have := h2.lt; omega
   · rw [up1_ne _ hji, up1_ne _ hli]; exact h.ne j l hne hj' hl'
 · obtain ⟨h1, h2⟩ := h.se j hj
   have hji : j ≠ i := fun e => by rw [e, hi] at h1; cases h1
   rw [up1_ne _ hji, up1_ne _ hji]
   exact ⟨h1, h2.below B0⟩
theorem NF.on (h : NF w0 X Y al ca st B w) {w' : World} (hb : From w w') : NF w0 X Y al ca st B w' := by
 have B0 := hb.out
 refine ⟨h.beh.trans (B0.mono h.beh.size), fun j hj => ?_, h.ne, fun j hj => ?_⟩
 · obtain ⟨h1, y0, y1, h2⟩ := h.bx j hj
   exact ⟨h1, _, _, h2.below B0⟩
 · obtain ⟨h1, h2⟩ := h.se j hj
   exact ⟨h1, h2.below B0⟩
theorem NF.call (h : NF w0 X Y al ca st B w) (j : Nat) {w' : World} (hb : From w w') : NF w0 X Y al (up1 ca j true) st B w' :=
 ⟨(h.on hb).beh, (h.on hb).bx, (h.on hb).ne, (h.on hb).se⟩
theorem NF.store (h : NF w0 X Y al ca st B w) (i : Nat) (hal : al i = true) :
 NF w0 X Y al ca (up1 st i true) B ((w.setCell ⟨B i, 0, none⟩ (X i)).setCell ⟨B i, 1, none⟩ (Y i)) := by
 obtain ⟨hb, z0, z1, hz⟩ := h.bx i hal
 refine ⟨(h.beh.setCell hb _).setCell hb _, fun j hj => ?_, h.ne, fun j hj => ?_⟩
 · obtain ⟨h1, y0, y1, h2⟩ := h.bx j hj
   refine ⟨h1, ?_⟩
   by_cases e : j = i
   · subst e; exact ⟨_, _, h2.set2 _ _⟩
   · exact ⟨_, _, h2.st2 (h.ne j i e hj hal) _ _⟩
 · rcases up1_on hj with rfl | ⟨hji, hj⟩
   · exact ⟨hal, hz.set2 _ _⟩
   · obtain ⟨h1, h2⟩ := h.se j hj
     exact ⟨h1, h2.st2 (h.ne j i hji h1 hal) _ _⟩
end
def NfK (w0 : World) (X Y : Nat → Value) (Lf : (Nat → Bool) → (Nat → Bool) → (Nat → Bool) → Array Bool) (Tf : (Nat → Bool) → (Nat → Bool) → (Nat → Nat) → List (Nat × Value)) (ts : Array Value) (D : List Deferred) (al ca st : Nat → Bool) (i : Nat) (K : Act → World → Prop) : Prop :=
 ∀ al' ca' st' B' a' w', (Lf al ca st).setIfInBounds i true = Lf al' ca' st' → a' = ⟨fillA ts (Tf al' ca' B'), D⟩ → NF w0 X Y al' ca' st' B' w' → K a' w'
section
variable {P : Program} {ops : Array Oper} {Q : Exit → Act → World → Prop} {md : Region.Mode}
theorem wpAnyH_nf {fuel : Nat} {l : Array Bool} {a : Act} {w : World} (w0 : World) (X Y : Nat → Value)
 (Lf : (Nat → Bool) → (Nat → Bool) → (Nat → Bool) → Array Bool) (Tf : (Nat → Bool) → (Nat → Bool) → (Nat → Nat) → List (Nat × Value))
 {ts : Array Value} {D : List Deferred} (ha : a = ⟨ts, D⟩) {al ca st : Nat → Bool} {B : Nat → Nat} (hN : NF w0 X Y al ca st B w)
 (hl : l = Lf al ca st) (hf : fillA ts (Tf al ca B) = ts) (hfu : left l ≤ fuel) (hd : (ops.toList.zipIdx.all fun p => p.1.after.all fun e => !Region.binds md e || decide (e.on < p.2)) = true)
 (hz : ∀ al ca st, (Lf al ca st).size = ops.size)
 (hstep : ∀ al ca st B w, NF w0 X Y al ca st B w → From w0 w → AllI (fun i o => (Lf al ca st).getD i true = false → (∀ e ∈ o.after, Region.binds md e = true → (Lf al ca st).getD e.on false = true) →
  ∀ K : Act → World → Prop, Shut (NfK w0 X Y Lf Tf ts D al ca st i K) →
   if Region.wanted o (yielded ops (fillA ts (Tf al ca B))) = true then Oper.wp P o ⟨fillA ts (Tf al ca B), D⟩ w K Q else K (Act.put ⟨fillA ts (Tf al ca B), D⟩ o.dst undef) w) 0 ops.toList)
 (hend : ∀ al ca st B w, NF w0 X Y al ca st B w → From w0 w → (∀ i, i < ops.size → (Lf al ca st).getD i false = true) → Q .normal ⟨fillA ts (Tf al ca B), D⟩ w) :
 wpAnyH P md ops Q (fun w' => Below w0.heap.size w0 w') fuel l a w := by
 refine wpAnyH_inv (I := fun l a w => ∃ al ca st B, l = Lf al ca st ∧ a = ⟨fillA ts (Tf al ca B), D⟩ ∧ NF w0 X Y al ca st B w) hd ?_ ?_ ?_ fuel l a w hfu ⟨al, ca, st, B, hl, by rw [ha, hf], hN⟩
 · rintro l a w ⟨al, ca, st, B, rfl, rfl, _⟩; exact hz _ _ _
 · rintro l a w ⟨al, ca, st, B, rfl, rfl, hN⟩ i o ho h1 h2
   refine wpOp_step ho fun K hK => ?_
   have h := (hstep al ca st B w hN ⟨hN.beh⟩).get i o (by simpa using ho)
   rw [Nat.zero_add] at h
   exact h h1 h2 K fun al' ca' st' B' a' w' e1 e2 e4 => hK a' w' ⟨e4.beh, al', ca', st', B', e1, e2, e4⟩
 · rintro l a w ⟨al, ca, st, B, rfl, rfl, hN⟩ h
   exact hend al ca st B w hN ⟨hN.beh⟩ (by rw [← hz al ca st]; exact h)
end
end Go.Proofs.YtgicceiimciafaaGreatDoor
namespace Go.Proofs.YtgicceiimciafaaGreatDoor
open Go.RowKit Sp
def BoxD (w : World) (b : Nat) : Prop := ∃ v s sl f, DB w b v s sl f
theorem BoxD.spec {w : World} {b : Nat} (h : BoxD w b) : DB w b (Exists.choose h) (Exists.choose (Exists.choose_spec h)) (Exists.choose (Exists.choose_spec (Exists.choose_spec h))) (Exists.choose (Exists.choose_spec (Exists.choose_spec (Exists.choose_spec h)))) :=
 Exists.choose_spec (Exists.choose_spec (Exists.choose_spec (Exists.choose_spec h)))
theorem DB.below {W W' : World} {b : Nat} {v s : Bool} {sl : Value} {f : Int} (h : DB W b v s sl f) (hb : Below W.heap.size W W') : DB W' b v s sl f := ⟨h.out.below hb⟩
theorem DB.lt {W : World} {b : Nat} {v s : Bool} {sl : Value} {f : Int} (h : DB W b v s sl f) : b < W.heap.size := h.out.lt
theorem DB.made (W : World) (t : TypeId) (v s : Bool) (sl : Value) (f : Int) {n : Nat} (hn : n = W.heap.size) : DB (W.alloc (.cells #[.bool v, .bool s, sl, .int .i64 f] t)) n v s sl f := ⟨DyV.made' W t v s sl f hn⟩
structure ND (w0 : World) (d : Nat → Option (Int × Int)) (al ca st : Nat → Bool) (B : Nat → Nat) (A : Nat → Option Addr) (C : Nat → Nat) (w : World) : Prop where
 beh : Below w0.heap.size w0 w
 bx : ∀ i, al i = true → w0.heap.size ≤ B i ∧ BoxD w (B i)
 ne : ∀ i j, i ≠ j → al i = true → al j = true → B i ≠ B j
 nu : ∀ i, ca i = true → Mag w (A i) (nl (dman (d i)).natAbs) (C i) (dman (d i)).natAbs
 fr : ∀ i j, al i = true → ca j = true → 0 < nl (dman (d j)).natAbs → ab (A j) ≠ B i
 se : ∀ i, st i = true → al i = true ∧ ca i = true ∧ DB w (B i) (dbad (d i)) (decide (dman (d i) < 0)) (.slice (A i) (nl (dman (d i)).natAbs) (C i)) (dexp (d i))
section
variable {w0 w : World} {d : Nat → Option (Int × Int)} {al ca st : Nat → Bool} {B : Nat → Nat} {A : Nat → Option Addr} {C : Nat → Nat}
theorem ND.start (w0 : World) (d : Nat → Option (Int × Int)) (B : Nat → Nat) (A : Nat → Option Addr) (C : Nat → Nat) : ND w0 d (fun _ => false) (fun _ => false) (fun _ => false) B A C w0 :=
 ⟨Below.refl _ _, fun _ h => absurd h Bool.false_ne_true, fun _ _ _ h => absurd h Bool.false_ne_true, fun _ h => absurd h Bool.false_ne_true, fun _ _ h => absurd h Bool.false_ne_true, fun _ h => absurd h Bool.false_ne_true⟩
theorem ND.alloc (h : ND w0 d al ca st B A C w) (i : Nat) (hi : al i = false) (v s : Bool) (sl : Value) (f : Int) (t : TypeId) :
 ND w0 d (up1 al i true) ca st (up1 B i w.heap.size) A C (w.alloc (.cells #[.bool v, .bool s, sl, .int .i64 f] t)) := by
 have B0 : Below w.heap.size w (w.alloc (.cells #[.bool v, .bool s, sl, .int .i64 f] t)) := (Below.refl _ _).alloc (Nat.le_refl _) _
 have hsz := h.beh.size
 refine ⟨h.beh.alloc hsz _, fun j hj => ?_, fun j l hne hj hl => ?_, fun j hj => (h.nu j hj).below B0, fun j l hj hl hp => ?_, fun j hj => ?_⟩
 · rcases up1_on hj with rfl | ⟨hji, hj⟩
   · rw [up1_eq]; exact ⟨hsz, _, _, _, _, DB.made w t v s sl f rfl⟩
   · rw [up1_ne _ hji]
     obtain ⟨h1, y0, y1, y2, y3, h2⟩ := h.bx j hj
     exact ⟨h1, _, _, _, _, h2.below B0⟩
 · rcases up1_on hj with hji | ⟨hji, hj'⟩ <;> rcases up1_on hl with hli | ⟨hli, hl'⟩
   · exact absurd (hji.trans hli.symm) hne
   · rw [hji, up1_eq, up1_ne _ hli]
     obtain ⟨_, y0, y1, y2, y3, h2⟩ := h.bx l hl'
     have := h2.lt; omega
   · rw [hli, up1_eq, up1_ne _ hji]
     obtain ⟨_, y0, y1, y2, y3, h2⟩ := h.bx j hj'
     have := h2.lt; omega
   · rw [up1_ne _ hji, up1_ne _ hli]; exact h.ne j l hne hj' hl'
 · rcases up1_on hj with rfl | ⟨hji, hj⟩
   · rw [up1_eq]
     have := (h.nu l hl).old hp; omega
   · rw [up1_ne _ hji]; exact h.fr j l hj hl hp
 · obtain ⟨h1, h2, h3⟩ := h.se j hj
   have hji : j ≠ i := fun e => by rw [e, hi] at h1; cases h1
   rw [up1_ne _ hji, up1_ne _ hji]
   exact ⟨h1, h2, h3.below B0⟩
theorem ND.on (h : ND w0 d al ca st B A C w) {w' : World} (hb : From w w') : ND w0 d al ca st B A C w' := by
 have B0 := hb.out
 refine ⟨h.beh.trans (B0.mono h.beh.size), fun j hj => ?_, h.ne, fun j hj => (h.nu j hj).below B0, h.fr, fun j hj => ?_⟩
 · obtain ⟨h1, y0, y1, y2, y3, h2⟩ := h.bx j hj
   exact ⟨h1, _, _, _, _, h2.below B0⟩
 · obtain ⟨h1, h2, h3⟩ := h.se j hj
   exact ⟨h1, h2, h3.below B0⟩
theorem ND.num (h : ND w0 d al ca st B A C w) (j : Nat) (hj : ca j = false) (a : Option Addr) (c : Nat) (hm : Mag w a (nl (dman (d j)).natAbs) c (dman (d j)).natAbs)
 (hf : ∀ i, al i = true → 0 < nl (dman (d j)).natAbs → ab a ≠ B i) : ND w0 d al (up1 ca j true) st B (up1 A j a) (up1 C j c) w := by
 refine ⟨h.beh, h.bx, h.ne, fun i hi => ?_, fun i l hi hl hp => ?_, fun i hi => ?_⟩
 · rcases up1_on hi with rfl | ⟨hij, hi⟩
   · rw [up1_eq, up1_eq]; exact hm
   · rw [up1_ne _ hij, up1_ne _ hij]; exact h.nu i hi
 · rcases up1_on hl with rfl | ⟨hlj, hl⟩
   · rw [up1_eq]; exact hf i hi hp
   · rw [up1_ne _ hlj]; exact h.fr i l hi hl hp
 · obtain ⟨h1, h2, h3⟩ := h.se i hi
   have hij : i ≠ j := fun e => by rw [e, hj] at h2; cases h2
   rw [up1_ne _ hij, up1_ne _ hij, up1_ne _ hij]
   exact ⟨h1, h2, h3⟩
theorem ND.call (h : ND w0 d al ca st B A C w) (j : Nat) (hj : ca j = false) {w' : World} (hb : From w w') (a : Option Addr) (c : Nat) (hm : Mag w' a (nl (dman (d j)).natAbs) c (dman (d j)).natAbs)
 (hf : 0 < nl (dman (d j)).natAbs → w.heap.size ≤ ab a) : ND w0 d al (up1 ca j true) st B (up1 A j a) (up1 C j c) w' :=
 (h.on hb).num j hj a c hm fun i hi hp => by
  obtain ⟨_, y0, y1, y2, y3, h2⟩ := h.bx i hi
  have := h2.lt; have := hf hp; omega
theorem ND.pick (h : ND w0 d al ca st B A C w) (j i : Nat) (hj : ca j = false) (hi : ca i = true) (e : d j = d i) : ND w0 d al (up1 ca j true) st B (up1 A j (A i)) (up1 C j (C i)) w :=
 h.num j hj _ _ (by rw [e]; exact h.nu i hi) fun l hl hp => h.fr l i hl hi (by rw [← e]; exact hp)
theorem ND.pick2 (h : ND w0 d al ca st B A C w) (x y j l : Nat) (hx : ca x = false) (hy : ca y = false) (hxy : y ≠ x) (hj : ca j = true) (hl : ca l = true) (e : d x = d j) (e' : d y = d l) :
 ND w0 d al (up1 (up1 ca x true) y true) st B (up1 (up1 A x (A j)) y (A l)) (up1 (up1 C x (C j)) y (C l)) w := by
 have hlx : l ≠ x := fun q => by rw [q, hx] at hl; cases hl
 have h2 := (h.pick x j hx hj e).pick y l (by rw [up1_ne _ hxy]; exact hy) (by rw [up1_ne _ hlx]; exact hl) e'
 rw [up1_ne _ hlx, up1_ne _ hlx] at h2
 exact h2
theorem ND.store (h : ND w0 d al ca st B A C w) (i : Nat) (hal : al i = true) (hca : ca i = true) :
 ND w0 d al ca (up1 st i true) B A C ((((w.setCell ⟨B i, 0, none⟩ (.bool (dbad (d i)))).setCell ⟨B i, 1, none⟩ (.bool (decide (dman (d i) < 0)))).setCell ⟨B i, 2, none⟩ (.slice (A i) (nl (dman (d i)).natAbs) (C i))).setCell ⟨B i, 3, none⟩ (.int .i64 (dexp (d i)))) := by
 obtain ⟨hb, z0, z1, z2, z3, hz⟩ := h.bx i hal
 refine ⟨(((h.beh.setCell hb _).setCell hb _).setCell hb _).setCell hb _, fun j hj => ?_, h.ne, fun j hj => Mag.st4 (h.nu j hj) (h.fr i j hal hj) _ _ _ _, h.fr, fun j hj => ?_⟩
 · obtain ⟨h1, y0, y1, y2, y3, h2⟩ := h.bx j hj
   refine ⟨h1, ?_⟩
   by_cases e : j = i
   · subst e; exact ⟨_, _, _, _, h2.pt4 _ _ _ _⟩
   · exact ⟨_, _, _, _, h2.st4 (h.ne j i e hj hal) _ _ _ _⟩
 · rcases up1_on hj with rfl | ⟨hji, hj⟩
   · exact ⟨hal, hca, hz.pt4 _ _ _ _⟩
   · obtain ⟨h1, h2, h3⟩ := h.se j hj
     exact ⟨h1, h2, h3.st4 (h.ne j i hji h1 hal) _ _ _ _⟩
end
section
variable {P : Program} {ops : Array Oper} {Q : Exit → Act → World → Prop} {md : Region.Mode}
variable {ts : Array Value} {D : List Deferred} {w0 w w' : World} {d : Nat → Option (Int × Int)} {Lf : (Nat → Bool) → (Nat → Bool) → (Nat → Bool) → (Nat → Bool) → Array Bool} {Tf : (Nat → Bool) → (Nat → Bool) → (Nat → Bool) → (Nat → Nat) → (Nat → Option Addr) → (Nat → Nat) → List (Nat × Value)} {X : (Nat → Bool) → (Nat → Bool) → (Nat → Bool) → (Nat → Bool) → (Nat → Option Addr) → (Nat → Nat) → Prop}
 {al ca st ex : Nat → Bool} {B : Nat → Nat} {A : Nat → Option Addr} {C : Nat → Nat} {i : Nat} {K : Act → World → Prop} {a' : Act}
end
end Go.Proofs.YtgicceiimciafaaGreatDoor
