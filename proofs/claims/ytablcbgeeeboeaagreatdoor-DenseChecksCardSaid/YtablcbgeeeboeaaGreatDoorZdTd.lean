/-
  Walks: sparselaw23.square.
-/
import Derived.Test.YtablcbgeeeboeaaGreatDoorZdPr
import Derived.Deep.RegionHeld3
import Derived.WalkKit
import Derived.Test.YtablcbgeeeboeaaGreatDoorZdCs
import Derived.Test.YtablcbgeeeboeaaGreatDoorZdPz
set_option maxRecDepth 100000
set_option maxHeartbeats 20000000
namespace Go.Proofs.YtablcbgeeeboeaaGreatDoor
open Go.RowKit Sp
structure SqB (w' : World) (k : Nat) (oa : Option Addr) (oc : Nat) (X : Nat → Nat) (df : Bool) : Prop where
 z : Dz w' oa (k * k) oc (fun t => fof (X t))
 f : ∀ t, X t < 18446744073709551616 ∧ ffin (X t) = true
 s : df = true → ∀ i j, i < k → j < k → X (j * k + i) = X (i * k + j)
 k6 : k ≤ 6
attribute [local irreducible] Calls
theorem square_any (w : World) [Tb w] (a : Option Addr) (m cap : Nat) (L : Nat → Nat) [hL : FZ w a m cap L] (n s : Int) (df : Bool) :
 Calls Tryz.prog 11 #[.slice a m cap, .int .i64 n, .int .i64 s, .bool df] w fun o w' => ∃ (k : Nat) (oa : Option Addr) (oc : Nat) (X : Nat → Nat), o = .returned (.agg #[.int .i64 k, .int .i64 k, .slice oa (k * k) oc]) ∧ SqB w' k oa oc X df ∧ placeI n 7 = (k : Int) ∧ Below w.heap.size w w' := by
 obtain ⟨k, hk, hk7⟩ := pl_nat n 7 (by omega)
 have HM := fun W => Lib.hid (gmod_any W n 7 (by omega) (by omega))
 rw [show ((7 : Nat) : Int) = 7 from rfl] at hk
 rw [hk] at HM
 have HK := Lib.hid hk
 clear hk
 cases df with
 | false =>
  have HB := fun W [Tb W] [FZ W a m cap L] => Lib.hid ((gblock_any W a m cap L k k (by omega) (by omega) s).mono fun _ _ ⟨oa, oc, X, h1, h2, h3, h4⟩ => (⟨oa, oc, X, h1, h2, h3, ⟨h4⟩⟩ : ∃ (oa : Option Addr) (oc : Nat) (X : Nat → Nat), _ = Ending.returned (.agg #[.int .i64 k, .int .i64 k, .slice oa (k * k) oc]) ∧ DN W _ oa (k * k) oc (fun i => fof (X i)) ∧ Fin' X ∧ From W _))
  go_enter Tryz.func11, Tryz.ntmps11
  go_wp2_with fail
  refine (HM _).out.mono ?_; rintro o w1 ⟨rfl, rfl⟩; go_wp2_with fail
  refine (HB _).out.mono ?_; rintro o w1 ⟨oa, oc, X, rfl, ⟨A, C, hZ⟩, hF, b1⟩
  have M6 := ((hZ.sen (show w.heap.size < _ by simp) 0 (.int .i64 k)).sen (show w.heap.size < _ by simp) 1 (.int .i64 k)).sen (show w.heap.size < _ by simp) 2 (.slice oa (k * k) oc)
  go_wp2_with fail
  refine bodyPost_ret (v := .agg #[.int .i64 k, .int .i64 k, .slice oa (k * k) oc]) (by simp only [results, Tryz.results11]; go_simp) rfl ?_
  exact ⟨k, oa, oc, X, rfl, ⟨(M6.dz (fun i => isN_fof _)).2, hF, (fun h => by cases h), by omega⟩, HK.out, zbh⟩
 | true =>
  have HD := fun W [Tb W] [FZ W a m cap L] => Lib.hid ((gdef_any W a m cap L k (by omega) s).mono fun _ _ ⟨aS, cS, aI, q, cI, aV, cV, S, I, X, h1, h2, h3, h4, h5⟩ => (⟨aS, cS, aI, q, cI, aV, cV, S, I, X, h1, h2, h3, h4, ⟨h5⟩⟩ : ∃ aS cS aI q cI aV cV S I X, _ = Ending.returned (.agg #[.int .i64 k, .int .i64 k, .slice aS (k + 1) cS, .slice aI q cI, .slice aV q cV]) ∧ MX _ k k aS cS aI q cI aV cV S I X ∧ q ≤ 4096 ∧ Dfn k S I X ∧ From W _))
  go_enter Tryz.func11, Tryz.ntmps11
  go_wp2_with fail
  refine (HM _).out.mono ?_; rintro o w1 ⟨rfl, rfl⟩; go_wp2_with fail
  refine (HD _).out.mono ?_; rintro o w1 ⟨aS, cS, aI, q, cI, aV, cV, S, I, X, rfl, iM, hq, _, b1⟩
  have HV := Lib.hid iM.ok
  have HG := fun W [Tb W] [MX W k k aS cS aI q cI aV cV S I X] => Lib.hid ((gdense_any W k q (by omega) hq aS aI aV cS cI cV S I X).mono fun _ _ ⟨oa, oc, h1, h2, h4⟩ => (⟨oa, oc, h1, h2, ⟨h4⟩⟩ : ∃ (oa : Option Addr) (oc : Nat), _ = Ending.returned (.agg #[.int .i64 k, .int .i64 k, .slice oa (k * k) oc]) ∧ DN W _ oa (k * k) oc (fun t => fof (sy k S I X t)) ∧ From W _))
  go_wp2_with fail
  refine (HG _).out.mono ?_; rintro o w2 ⟨oa, oc, rfl, ⟨A, C, hZ⟩, b2⟩
  have e1 := b1.out.size
  simp at e1
  have M6 := ((hZ.sen (show w.heap.size < w1.heap.size by omega) 0 (.int .i64 k)).sen (show w.heap.size < w1.heap.size by omega) 1 (.int .i64 k)).sen (show w.heap.size < w1.heap.size by omega) 2 (.slice oa (k * k) oc)
  go_wp2_with fail
  refine bodyPost_ret (v := .agg #[.int .i64 k, .int .i64 k, .slice oa (k * k) oc]) (by simp only [results, Tryz.results11]; go_simp) rfl ?_
  exact ⟨k, oa, oc, sy k S I X, rfl, ⟨(M6.dz (fun i => isN_fof _)).2, (fun t => atv_fin HV.out _ _), (fun _ i j hi hj => sy_sym hi hj), by omega⟩, HK.out, zbh⟩
end Go.Proofs.YtablcbgeeeboeaaGreatDoor
namespace Go.Proofs.YtablcbgeeeboeaaGreatDoor
def left (l : Array Bool) : Nat := l.toList.count false
end Go.Proofs.YtablcbgeeeboeaaGreatDoor
namespace Go.Proofs.YtablcbgeeeboeaaGreatDoor
open Go.RowKit Sp
def up1 {α : Type} (f : Nat → α) (i : Nat) (v : α) : Nat → α := fun j => if j = i then v else f j
theorem up1_eq {α : Type} (f : Nat → α) (i : Nat) (v : α) : up1 f i v i = v := if_pos rfl
theorem up1_ne {α : Type} (f : Nat → α) {i j : Nat} (h : j ≠ i) (v : α) : up1 f i v j = f j := if_neg h
theorem up1_on {f : Nat → Bool} {i j : Nat} (h : up1 f i true j = true) : j = i ∨ (j ≠ i ∧ f j = true) := by
 by_cases hj : j = i
 · exact Or.inl hj
 · rw [up1_ne _ hj] at h; exact Or.inr ⟨hj, h⟩
def Box (w : World) (b : Nat) : Prop := ∃ x0 x1 x2 x3 x4, N5 w b x0 x1 x2 x3 x4
theorem N5.set5 {W : World} {b : Nat} {x0 x1 x2 x3 x4 : Value} (h : N5 W b x0 x1 x2 x3 x4) (y0 y1 y2 y3 y4 : Value) :
 N5 (((((W.setCell ⟨b, 0, none⟩ y0).setCell ⟨b, 1, none⟩ y1).setCell ⟨b, 2, none⟩ y2).setCell ⟨b, 3, none⟩ y3).setCell ⟨b, 4, none⟩ y4) b y0 y1 y2 y3 y4 := by
 obtain ⟨c0, c1, c2, c3, c4, c5, c6⟩ := h
 exact ⟨by go_simp, by go_simp, by go_simp, by go_simp, by go_simp, fun i => by go_simp, by simpa using c6⟩
theorem N5.st5 {W : World} {b g : Nat} {x0 x1 x2 x3 x4 : Value} (h : N5 W b x0 x1 x2 x3 x4) (ne : b ≠ g) (y0 y1 y2 y3 y4 : Value) :
 N5 (((((W.setCell ⟨g, 0, none⟩ y0).setCell ⟨g, 1, none⟩ y1).setCell ⟨g, 2, none⟩ y2).setCell ⟨g, 3, none⟩ y3).setCell ⟨g, 4, none⟩ y4) b x0 x1 x2 x3 x4 := by
 obtain ⟨c0, c1, c2, c3, c4, c5, c6⟩ := h
 have k : ∀ (V : World) (i j : Nat) (y : Value), (V.setCell ⟨g, i, none⟩ y).cell? ⟨b, j, none⟩ = V.cell? ⟨b, j, none⟩ := fun V i j y => cell_set_ne ne _ _ _
 refine ⟨?_, ?_, ?_, ?_, ?_, fun i => ?_, by simpa using c6⟩
 · rw [k, k, k, k, k]; exact c0
 · rw [k, k, k, k, k]; exact c1
 · rw [k, k, k, k, k]; exact c2
 · rw [k, k, k, k, k]; exact c3
 · rw [k, k, k, k, k]; exact c4
 · rw [frozen_set_ne, frozen_set_ne, frozen_set_ne, frozen_set_ne, frozen_set_ne]; exact c5 i
theorem Mag.st5 {W : World} {a : Option Addr} {n c x g : Nat} (h : Mag W a n c x) (ne : 0 < n → ab a ≠ g) (y0 y1 y2 y3 y4 : Value) :
 Mag (((((W.setCell ⟨g, 0, none⟩ y0).setCell ⟨g, 1, none⟩ y1).setCell ⟨g, 2, none⟩ y2).setCell ⟨g, 3, none⟩ y3).setCell ⟨g, 4, none⟩ y4) a n c x := ((((h.set ne 0 y0).set ne 1 y1).set ne 2 y2).set ne 3 y3).set ne 4 y4
structure NS (w0 : World) (I : Nat → Int) (d : Nat → Option (Int × Int)) (al ca st : Nat → Bool) (B : Nat → Nat) (A : Nat → Option Addr) (C : Nat → Nat) (w : World) : Prop where
 beh : Below w0.heap.size w0 w
 bx : ∀ i, al i = true → w0.heap.size ≤ B i ∧ Box w (B i)
 ne : ∀ i j, i ≠ j → al i = true → al j = true → B i ≠ B j
 nu : ∀ i, ca i = true → Mag w (A i) (nl (dman (d i)).natAbs) (C i) (dman (d i)).natAbs
 fr : ∀ i j, al i = true → ca j = true → 0 < nl (dman (d j)).natAbs → ab (A j) ≠ B i
 se : ∀ i, st i = true → al i = true ∧ ca i = true ∧ N5 w (B i) (.int .i64 (I i)) (.bool (dbad (d i))) (.bool (decide (dman (d i) < 0))) (.slice (A i) (nl (dman (d i)).natAbs) (C i)) (.int .i64 (dexp (d i)))
section
variable {w0 w : World} {I : Nat → Int} {d : Nat → Option (Int × Int)} {al ca st : Nat → Bool} {B : Nat → Nat} {A : Nat → Option Addr} {C : Nat → Nat}
theorem NS.start (w0 : World) (I : Nat → Int) (d : Nat → Option (Int × Int)) (B : Nat → Nat) (A : Nat → Option Addr) (C : Nat → Nat) : NS w0 I d (fun _ => false) (fun _ => false) (fun _ => false) B A C w0 :=
 ⟨Below.refl _ _, fun _ h => absurd h Bool.false_ne_true, fun _ _ _ h => absurd h Bool.false_ne_true, fun _ h => absurd h Bool.false_ne_true, fun _ _ h => absurd h Bool.false_ne_true, fun _ h => absurd h Bool.false_ne_true⟩
theorem NS.alloc (h : NS w0 I d al ca st B A C w) (i : Nat) (hi : al i = false) (x0 x1 x2 x3 x4 : Value) (t : TypeId) :
 NS w0 I d (up1 al i true) ca st (up1 B i w.heap.size) A C (w.alloc (.cells #[x0, x1, x2, x3, x4] t)) := by
 have B0 : Below w.heap.size w (w.alloc (.cells #[x0, x1, x2, x3, x4] t)) := (Below.refl _ _).alloc (Nat.le_refl _) _
 have hsz := h.beh.size
 refine ⟨h.beh.alloc hsz _, fun j hj => ?_, fun j l hne hj hl => ?_, fun j hj => (h.nu j hj).below B0, fun j l hj hl hp => ?_, fun j hj => ?_⟩
 · rcases up1_on hj with rfl | ⟨hji, hj⟩
   · rw [up1_eq]; exact ⟨hsz, _, _, _, _, _, N5.made w t x0 x1 x2 x3 x4 rfl⟩
   · rw [up1_ne _ hji]
     obtain ⟨h1, y0, y1, y2, y3, y4, h2⟩ := h.bx j hj
     exact ⟨h1, _, _, _, _, _, h2.below B0⟩
 · rcases up1_on hj with hji | ⟨hji, hj'⟩ <;> rcases up1_on hl with hli | ⟨hli, hl'⟩
   · exact absurd (hji.trans hli.symm) hne
   · rw [hji, up1_eq, up1_ne _ hli]
     obtain ⟨_, y0, y1, y2, y3, y4, h2⟩ := h.bx l hl'
     have := h2.lt; omega
   · rw [hli, up1_eq, up1_ne _ hji]
     obtain ⟨_, y0, y1, y2, y3, y4, h2⟩ := h.bx j hj'
     have := h2.lt; omega
   · rw [up1_ne _ hji, up1_ne _ hli]; exact h.ne j l hne hj' hl'
 · rcases up1_on hj with rfl | ⟨hji, hj⟩
   · rw [up1_eq]
     have := (h.nu l hl).old hp; omega
   · rw [up1_ne _ hji]; exact h.fr j l hj hl hp
 · obtain ⟨h1, h2, h3⟩ := h.se j hj
   have hji : j ≠ i := fun e => by rw [e, hi] at h1; cases h1
   rw [up1_ne _ hji, up1_ne _ hji]
   exact ⟨h1, h2, h3.below B0⟩
theorem NS.on (h : NS w0 I d al ca st B A C w) {w' : World} (hb : From w w') : NS w0 I d al ca st B A C w' := by
 have B0 := hb.out
 refine ⟨h.beh.trans (B0.mono h.beh.size), fun j hj => ?_, h.ne, fun j hj => (h.nu j hj).below B0, h.fr, fun j hj => ?_⟩
 · obtain ⟨h1, y0, y1, y2, y3, y4, h2⟩ := h.bx j hj
   exact ⟨h1, _, _, _, _, _, h2.below B0⟩
 · obtain ⟨h1, h2, h3⟩ := h.se j hj
   exact ⟨h1, h2, h3.below B0⟩
theorem NS.num (h : NS w0 I d al ca st B A C w) (j : Nat) (hj : ca j = false) (a : Option Addr) (c : Nat) (hm : Mag w a (nl (dman (d j)).natAbs) c (dman (d j)).natAbs)
 (hf : ∀ i, al i = true → 0 < nl (dman (d j)).natAbs → ab a ≠ B i) : NS w0 I d al (up1 ca j true) st B (up1 A j a) (up1 C j c) w := by
 refine ⟨h.beh, h.bx, h.ne, fun i hi => ?_, fun i l hi hl hp => ?_, fun i hi => ?_⟩
 · rcases up1_on hi with rfl | ⟨hij, hi⟩
   · rw [up1_eq, up1_eq]; exact hm
   · rw [up1_ne _ hij, up1_ne _ hij]; exact h.nu i hi
 · rcases up1_on hl with rfl | ⟨hlj, hl⟩
   · rw [up1_eq]; exact hf i hi hp
   · rw [up1_ne _ hlj]; exact h.fr i l hi hl hp
 · obtain ⟨h1, h2, h3⟩ := h.se i hi
   have hij : i ≠ j := fun e => by rw [e, hj] at h2; cases h2
   rw [up1_ne _ hij, up1_ne _ hij, up1_ne _ hij]
   exact ⟨h1, h2, h3⟩
theorem NS.call (h : NS w0 I d al ca st B A C w) (j : Nat) (hj : ca j = false) {w' : World} (hb : From w w') (a : Option Addr) (c : Nat) (hm : Mag w' a (nl (dman (d j)).natAbs) c (dman (d j)).natAbs)
 (hf : 0 < nl (dman (d j)).natAbs → w.heap.size ≤ ab a) : NS w0 I d al (up1 ca j true) st B (up1 A j a) (up1 C j c) w' :=
 (h.on hb).num j hj a c hm fun i hi hp => by
  obtain ⟨_, y0, y1, y2, y3, y4, h2⟩ := h.bx i hi
  have := h2.lt; have := hf hp; omega
theorem NS.store (h : NS w0 I d al ca st B A C w) (i : Nat) (hal : al i = true) (hca : ca i = true) :
 NS w0 I d al ca (up1 st i true) B A C (((((w.setCell ⟨B i, 0, none⟩ (.int .i64 (I i))).setCell ⟨B i, 1, none⟩ (.bool (dbad (d i)))).setCell ⟨B i, 2, none⟩ (.bool (decide (dman (d i) < 0)))).setCell ⟨B i, 3, none⟩ (.slice (A i) (nl (dman (d i)).natAbs) (C i))).setCell ⟨B i, 4, none⟩ (.int .i64 (dexp (d i)))) := by
 obtain ⟨hb, z0, z1, z2, z3, z4, hz⟩ := h.bx i hal
 refine ⟨((((h.beh.setCell hb _).setCell hb _).setCell hb _).setCell hb _).setCell hb _, fun j hj => ?_, h.ne, fun j hj => Mag.st5 (h.nu j hj) (h.fr i j hal hj) _ _ _ _ _, h.fr, fun j hj => ?_⟩
 · obtain ⟨h1, y0, y1, y2, y3, y4, h2⟩ := h.bx j hj
   refine ⟨h1, ?_⟩
   by_cases e : j = i
   · subst e; exact ⟨_, _, _, _, _, h2.set5 _ _ _ _ _⟩
   · exact ⟨_, _, _, _, _, h2.st5 (h.ne j i e hj hal) _ _ _ _ _⟩
 · rcases up1_on hj with rfl | ⟨hji, hj⟩
   · exact ⟨hal, hca, hz.set5 _ _ _ _ _⟩
   · obtain ⟨h1, h2, h3⟩ := h.se j hj
     exact ⟨h1, h2, h3.st5 (h.ne j i hji h1 hal) _ _ _ _ _⟩
end
def AllI (F : Nat → Oper → Prop) : Nat → List Oper → Prop
 | _, [] => True
 | k, o :: r => F k o ∧ AllI F (k + 1) r
theorem AllI.nil {F : Nat → Oper → Prop} {k : Nat} : AllI F k [] := trivial
end Go.Proofs.YtablcbgeeeboeaaGreatDoor
namespace Go.Proofs.YtablcbgeeeboeaaGreatDoor
open Go.RowKit Sp
structure Stab (Φ : World → Prop) (lo hi : Nat) : Prop where
 mono : ∀ {w w' : World}, Below w.heap.size w w' → Φ w → Φ w'
 kept : ∀ {w w' : World} {b : Nat}, w.grownBy w' (some b) → (b < lo ∨ hi ≤ b) → Φ w → Φ w'
theorem Stab.and {Φ Ψ : World → Prop} {lo hi : Nat} (h : Stab Φ lo hi) (k : Stab Ψ lo hi) : Stab (fun w => Φ w ∧ Ψ w) lo hi :=
 ⟨fun b h1 => ⟨h.mono b h1.1, k.mono b h1.2⟩, fun g hb h1 => ⟨h.kept g hb h1.1, k.kept g hb h1.2⟩⟩
theorem Stab.imp {p : Prop} {Φ : World → Prop} {lo hi : Nat} (h : p → Stab Φ lo hi) : Stab (fun w => p ∧ Φ w) lo hi :=
 ⟨fun b h1 => ⟨h1.1, (h h1.1).mono b h1.2⟩, fun g hb h1 => ⟨h1.1, (h h1.1).kept g hb h1.2⟩⟩
def sets (w : World) (b : Nat) : Nat → List Value → World
 | _, [] => w
 | i, v :: r => sets (w.setCell ⟨b, i, none⟩ v) b (i + 1) r
theorem sets_only (b : Nat) : ∀ (l : List Value) (i : Nat) (a w : World), a.grownBy w (some b) → a.grownBy (sets w b i l) (some b) := by
 intro l
 induction l with
 | nil => intro i a w h; exact h
 | cons v r ih => intro i a w h; exact ih (i + 1) a _ (only_set h i v)
theorem sets_below (b : Nat) {m : Nat} (hb : m ≤ b) : ∀ (l : List Value) (i : Nat) (a w : World), Below m a w → Below m a (sets w b i l) := by
 intro l
 induction l with
 | nil => intro i a w h; exact h
 | cons v r ih => intro i a w h; exact ih (i + 1) a _ (h.setCell (p := ⟨b, i, none⟩) hb v)
structure BoxA (w : World) (b k : Nat) : Prop where
 c : ∀ i, i < k → w.cell? ⟨b, i, none⟩ = some ((w.cell? ⟨b, i, none⟩).getD undef)
 z : ∀ i, w.frozen? ⟨b, i, none⟩ = false
 lt : b < w.heap.size
structure BoxV (w : World) (b : Nat) (l : List Value) : Prop where
 c : ∀ i v, l[i]? = some v → w.cell? ⟨b, i, none⟩ = some v
 z : ∀ i, w.frozen? ⟨b, i, none⟩ = false
 lt : b < w.heap.size
section
variable {w w' : World} {b k : Nat} {l : List Value}
theorem BoxA.below (h : BoxA w b k) (hb : Below w.heap.size w w') : BoxA w' b k := by
 obtain ⟨h1, h2⟩ := bcell hb
 exact ⟨fun i hi => by rw [h1 _ _ h.lt]; exact h.c i hi, fun i => (h2 _ _ h.lt).trans (h.z i), Nat.lt_of_lt_of_le h.lt hb.size⟩
theorem BoxV.below (h : BoxV w b l) (hb : Below w.heap.size w w') : BoxV w' b l := by
 obtain ⟨h1, h2⟩ := bcell hb
 exact ⟨fun i v hi => (h1 _ _ h.lt).trans (h.c i v hi), fun i => (h2 _ _ h.lt).trans (h.z i), Nat.lt_of_lt_of_le h.lt hb.size⟩
theorem BoxA.grown (h : BoxA w b k) {g : Nat} (hg : w.grownBy w' (some g)) (ne : b ≠ g) : BoxA w' b k := by
 have hblk := hg.block b h.lt (fun e => ne (Option.some.inj e))
 have hc : ∀ i, w'.cell? ⟨b, i, none⟩ = w.cell? ⟨b, i, none⟩ := fun i => World.cell?_of_block (a := ⟨b, i, none⟩) hblk
 exact ⟨fun i hi => by rw [hc i]; exact h.c i hi, fun i => (World.frozen?_of_block (a := ⟨b, i, none⟩) hblk).trans (h.z i), Nat.lt_of_lt_of_le h.lt hg.size⟩
theorem BoxV.grown (h : BoxV w b l) {g : Nat} (hg : w.grownBy w' (some g)) (ne : b ≠ g) : BoxV w' b l := by
 have hblk := hg.block b h.lt (fun e => ne (Option.some.inj e))
 have hc : ∀ i, w'.cell? ⟨b, i, none⟩ = w.cell? ⟨b, i, none⟩ := fun i => World.cell?_of_block (a := ⟨b, i, none⟩) hblk
 exact ⟨fun i v hi => (hc i).trans (h.c i v hi), fun i => (World.frozen?_of_block (a := ⟨b, i, none⟩) hblk).trans (h.z i), Nat.lt_of_lt_of_le h.lt hg.size⟩
theorem BoxV.a (h : BoxV w b l) : BoxA w b l.length :=
 ⟨fun i hi => by have := h.c i l[i] (by simp [hi]); rw [this]; rfl, h.z, h.lt⟩
theorem BoxA.made (w : World) (cs : Array Value) (t : TypeId) : BoxA (w.alloc (.cells cs t)) w.heap.size cs.size :=
 ⟨fun i hi => by rw [World.cell?_alloc_new]; simp [hi], fun i => by simp [go_sem], by rw [World.size_alloc]; omega⟩
theorem set_eq (w : World) (b i : Nat) (v : Value) (h : (w.cell? ⟨b, i, none⟩).isSome = true) : (w.setCell ⟨b, i, none⟩ v).cell? ⟨b, i, none⟩ = some v := by simp [go_sem, h]
theorem set_ne (w : World) (b i j : Nat) (v : Value) (h : j ≠ i) : (w.setCell ⟨b, i, none⟩ v).cell? ⟨b, j, none⟩ = w.cell? ⟨b, j, none⟩ := by
 simp [go_sem]
theorem sets_cell : ∀ (l : List Value) (i : Nat) (w : World), (∀ j, j < l.length → (w.cell? ⟨b, i + j, none⟩).isSome = true) →
 (∀ j v, l[j]? = some v → (sets w b i l).cell? ⟨b, i + j, none⟩ = some v) ∧ (∀ j, j < i → (sets w b i l).cell? ⟨b, j, none⟩ = w.cell? ⟨b, j, none⟩) := by
 intro l
 induction l with
 | nil => intro i w _; exact ⟨fun j v h => (by simp at h), fun j _ => rfl⟩
 | cons x r ih =>
  intro i w hs
  have hs0 := hs 0 (by simp)
  rw [Nat.add_zero] at hs0
  obtain ⟨h1, h2⟩ := ih (i + 1) (w.setCell ⟨b, i, none⟩ x) fun j hj => by
   rw [set_ne _ _ _ _ _ (by omega)]
   have := hs (j + 1) (by simp; omega)
   rwa [show i + 1 + j = i + (j + 1) by omega]
  refine ⟨fun j v hv => ?_, fun j hj => ?_⟩
  · cases j with
    | zero =>
     simp at hv; subst hv
     rw [Nat.add_zero]
     exact (h2 i (by omega)).trans (set_eq _ _ _ _ hs0)
    | succ j =>
     have := h1 j v (by simpa using hv)
     rwa [show i + 1 + j = i + (j + 1) by omega] at this
  · exact (h2 j (by omega)).trans (set_ne _ _ _ _ _ (by omega))
theorem sets_frozen : ∀ (l : List Value) (i : Nat) (w : World) (j : Nat), (sets w b i l).frozen? ⟨b, j, none⟩ = w.frozen? ⟨b, j, none⟩ := by
 intro l
 induction l with
 | nil => intro i w j; rfl
 | cons x r ih => intro i w j; exact (ih (i + 1) _ j).trans (frozen_set_ne j i x)
theorem BoxA.put (h : BoxA w b k) (hl : l.length = k) : BoxV (sets w b 0 l) b l := by
 obtain ⟨h1, _⟩ := sets_cell (b := b) l 0 w fun j hj => by rw [Nat.zero_add, h.c j (by omega)]; rfl
 refine ⟨fun i v hi => ?_, fun i => (sets_frozen l 0 w i).trans (h.z i), Nat.lt_of_lt_of_le h.lt (sets_only b l 0 w w (only_refl w b)).size⟩
 have := h1 i v hi
 rwa [Nat.zero_add] at this
end
theorem up1_tr {f : Nat → Bool} {i j : Nat} (h : f j = true) : up1 f i true j = true := by
 unfold up1; split
 · rfl
 · exact h
structure BX (w0 : World) (sz src par : Nat → Nat) (Φ : Nat → Value → Nat → Nat → World → Prop) (Y : Nat → Value → List Value) (al ca st ex : Nat → Bool) (B lo hi : Nat → Nat) (V : Nat → Value) (w : World) : Prop where
 beh : Below w0.heap.size w0 w
 bx : ∀ i, al i = true → w0.heap.size ≤ B i ∧ BoxA w (B i) (sz i)
 ne : ∀ i j, i ≠ j → al i = true → al j = true → B i ≠ B j
 ph : ∀ j, ca j = true → lo j ≤ hi j ∧ hi j ≤ w.heap.size ∧ Φ j (V j) (lo j) (hi j) w
 ap : ∀ i j, al i = true → ca j = true → B i < lo j ∨ hi j ≤ B i
 se : ∀ i, st i = true → al i = true ∧ ca (src i) = true ∧ BoxV w (B i) (Y i (V (src i)))
 xc : ∀ e, ex e = true → ca (par e) = true
section
variable {w0 w w' : World} {sz src par : Nat → Nat} {Φ : Nat → Value → Nat → Nat → World → Prop} {Y : Nat → Value → List Value} {al ca st ex : Nat → Bool} {B lo hi : Nat → Nat} {V : Nat → Value}
theorem BX.start (w0 : World) (sz src par : Nat → Nat) (Φ : Nat → Value → Nat → Nat → World → Prop) (Y : Nat → Value → List Value) (B lo hi : Nat → Nat) (V : Nat → Value) : BX w0 sz src par Φ Y (fun _ => false) (fun _ => false) (fun _ => false) (fun _ => false) B lo hi V w0 :=
 ⟨Below.refl _ _, fun _ h => absurd h Bool.false_ne_true, fun _ _ _ h => absurd h Bool.false_ne_true, fun _ h => absurd h Bool.false_ne_true, fun _ _ h => absurd h Bool.false_ne_true, fun _ h => absurd h Bool.false_ne_true, fun _ h => absurd h Bool.false_ne_true⟩
theorem BX.on (hΦ : ∀ j v a b, Stab (Φ j v a b) a b) (h : BX w0 sz src par Φ Y al ca st ex B lo hi V w) (B0 : Below w.heap.size w w') : BX w0 sz src par Φ Y al ca st ex B lo hi V w' :=
 ⟨h.beh.trans (B0.mono h.beh.size), fun i hi => ⟨(h.bx i hi).1, (h.bx i hi).2.below B0⟩, h.ne, fun j hj => ⟨(h.ph j hj).1, Nat.le_trans (h.ph j hj).2.1 B0.size, (hΦ _ _ _ _).mono B0 (h.ph j hj).2.2⟩, h.ap, fun i hi => ⟨(h.se i hi).1, (h.se i hi).2.1, (h.se i hi).2.2.below B0⟩, h.xc⟩
theorem BX.alloc (hΦ : ∀ j v a b, Stab (Φ j v a b) a b) (h : BX w0 sz src par Φ Y al ca st ex B lo hi V w) (i : Nat) (h0 : al i = false) (cs : Array Value) (t : TypeId) (hs : cs.size = sz i) :
 BX w0 sz src par Φ Y (up1 al i true) ca st ex (up1 B i w.heap.size) lo hi V (w.alloc (.cells cs t)) := by
 have B0 : Below w.heap.size w (w.alloc (.cells cs t)) := (Below.refl _ _).alloc (Nat.le_refl _) _
 have h' := h.on hΦ B0
 have hsz := h.beh.size
 refine ⟨h'.beh, fun j hj => ?_, fun j l hne hj hl => ?_, h'.ph, fun j l hj hl => ?_, fun j hj => ?_, h.xc⟩
 · rcases up1_on hj with rfl | ⟨hji, hj⟩
   · rw [up1_eq, ← hs]; exact ⟨hsz, BoxA.made w cs t⟩
   · rw [up1_ne _ hji]; exact h'.bx j hj
 · rcases up1_on hj with hji | ⟨hji, hj'⟩ <;> rcases up1_on hl with hli | ⟨hli, hl'⟩
   · exact absurd (hji.trans hli.symm) hne
   · rw [hji, up1_eq, up1_ne _ hli]
     have := (h.bx l hl').2.lt; omega
   · rw [hli, up1_eq, up1_ne _ hji]
     have := (h.bx j hj').2.lt; omega
   · rw [up1_ne _ hji, up1_ne _ hli]; exact h.ne j l hne hj' hl'
 · rcases up1_on hj with rfl | ⟨hji, hj⟩
   · rw [up1_eq]; exact Or.inr (h.ph l hl).2.1
   · rw [up1_ne _ hji]; exact h.ap j l hj hl
 · obtain ⟨h1, h2, h3⟩ := h'.se j hj
   have hji : j ≠ i := fun e => by rw [e, h0] at h1; cases h1
   rw [up1_ne _ hji, up1_ne _ hji]
   exact ⟨h1, h2, h3⟩
theorem BX.call (hΦ : ∀ j v a b, Stab (Φ j v a b) a b) (h : BX w0 sz src par Φ Y al ca st ex B lo hi V w) (j : Nat) (hj : ca j = false) (hb : Below w.heap.size w w') (v : Value) (hp : Φ j v w.heap.size w'.heap.size w') :
 BX w0 sz src par Φ Y al (up1 ca j true) st ex B (up1 lo j w.heap.size) (up1 hi j w'.heap.size) (up1 V j v) w' := by
 have h' := h.on hΦ hb
 refine ⟨h'.beh, h'.bx, h'.ne, fun l hl => ?_, fun i l hi hl => ?_, fun i hi => ?_, fun e he => up1_tr (h.xc e he)⟩
 · rcases up1_on hl with rfl | ⟨hlj, hl⟩
   · rw [up1_eq, up1_eq, up1_eq]; exact ⟨hb.size, Nat.le_refl _, hp⟩
   · rw [up1_ne _ hlj, up1_ne _ hlj, up1_ne _ hlj]; exact h'.ph l hl
 · rcases up1_on hl with rfl | ⟨hlj, hl⟩
   · rw [up1_eq]; exact Or.inl (h.bx i hi).2.lt
   · rw [up1_ne _ hlj, up1_ne _ hlj]; exact h.ap i l hi hl
 · obtain ⟨h1, h2, h3⟩ := h'.se i hi
   have hij : src i ≠ j := fun e => by rw [e, hj] at h2; cases h2
   rw [up1_ne _ hij, up1_ne _ hij]
   exact ⟨h1, h2, h3⟩
theorem BX.store (hΦ : ∀ j v a b, Stab (Φ j v a b) a b) (h : BX w0 sz src par Φ Y al ca st ex B lo hi V w) (i : Nat) (hal : al i = true) (hca : ca (src i) = true) (hl : (Y i (V (src i))).length = sz i) :
 BX w0 sz src par Φ Y al ca (up1 st i true) ex B lo hi V (sets w (B i) 0 (Y i (V (src i)))) := by
 have hg := sets_only (B i) (Y i (V (src i))) 0 w w (only_refl w (B i))
 obtain ⟨hb, hx⟩ := h.bx i hal
 have hv := hx.put hl
 refine ⟨sets_below (B i) hb _ 0 w0 w h.beh, fun j hj => ?_, h.ne, fun j hj => ?_, h.ap, fun j hj => ?_, h.xc⟩
 · refine ⟨(h.bx j hj).1, ?_⟩
   by_cases e : j = i
   · subst e; rw [← hl]; exact hv.a
   · exact (h.bx j hj).2.grown hg (h.ne j i e hj hal)
 · obtain ⟨h1, h2, h3⟩ := h.ph j hj
   exact ⟨h1, Nat.le_trans h2 hg.size, (hΦ _ _ _ _).kept hg (h.ap i j hal hj) h3⟩
 · rcases up1_on hj with rfl | ⟨hji, hj⟩
   · exact ⟨hal, hca, hv⟩
   · obtain ⟨h1, h2, h3⟩ := h.se j hj
     exact ⟨h1, h2, h3.grown hg (h.ne j i hji h1 hal)⟩
end
def words : Value → List Value
 | .agg a => a.toList
 | v => [v]
end Go.Proofs.YtablcbgeeeboeaaGreatDoor
namespace Go.Proofs.YtablcbgeeeboeaaGreatDoor
open Go.RowKit Sp
def FW (a : Option Addr) (n c : Nat) (X : Nat → Nat) (lo hi : Nat) (w : World) : Prop := (0 < n → lo ≤ ab a ∧ ab a < hi) ∧ Fls w a n c X
def DW (a : Option Addr) (n c : Nat) (d : Nat → Option (Int × Int)) (lo hi : Nat) (w : World) : Prop :=
 ∃ A C, (DM w lo (.slice a n c) n d A C ∧ (∀ g, (Value.slice a n c).ownBlock = some g → g < hi) ∧ ∀ i, i < n → 0 < nl (dman (d i)).natAbs → ab (A i) < hi)
theorem FW.of {w w' : World} {a : Option Addr} {n c : Nat} {X : Nat → Nat} (h : Fls w' a n c X) (hf : 0 < n → w.heap.size ≤ ab a) : FW a n c X w.heap.size w'.heap.size w' := ⟨fun hn => ⟨hf hn, h.old hn⟩, h⟩
theorem DW.of {w w' : World} {a : Option Addr} {n c : Nat} {d : Nat → Option (Int × Int)} (h : DN w w' a n c d) : DW a n c d w.heap.size w'.heap.size w' := by
 obtain ⟨A, C, h1⟩ := h
 exact ⟨A, C, h1, fun g hg => (h1.out.own.lt g hg).2, fun i hi hp => (h1.out.m i hi).old hp⟩
theorem DW.dz {w : World} {a : Option Addr} {n c lo hi : Nat} {d : Nat → Option (Int × Int)} (h : DW a n c d lo hi w) (hd : ∀ i, IsN (d i)) : Dz w a n c d := by
 obtain ⟨A, C, h1, _⟩ := h; exact (h1.dz hd).2
theorem BoxV.n3 {w : World} {b : Nat} {x0 x1 x2 : Value} (h : BoxV w b [x0, x1, x2]) : N3 w b x0 x1 x2 := ⟨h.c 0 _ rfl, h.c 1 _ rfl, h.c 2 _ rfl, h.z, h.lt⟩
theorem BoxA.n3 {w : World} {b : Nat} (h : BoxA w b 3) : N3 w b ((w.cell? ⟨b, 0, none⟩).getD undef) ((w.cell? ⟨b, 1, none⟩).getD undef) ((w.cell? ⟨b, 2, none⟩).getD undef) := ⟨h.c 0 (by omega), h.c 1 (by omega), h.c 2 (by omega), h.z, h.lt⟩
end Go.Proofs.YtablcbgeeeboeaaGreatDoor
