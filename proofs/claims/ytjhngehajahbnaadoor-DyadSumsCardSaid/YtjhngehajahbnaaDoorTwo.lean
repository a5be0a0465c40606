/-
  Walks: package dyad: two (both arguments normalized).
-/
import Derived.Test.YtjhngehajahbnaaDoorDn
import Derived.Test.YtjhngehajahbnaaDoorVal
import Derived.Test.YtjhngehajahbnaaDoorSome
namespace Go.Proofs.YtjhngehajahbnaaDoor
open Go.RowKit Sp

/-- an argument that is a dyad: what it is in normal form -/
def DyIn (w : World) (bd s : Bool) (a : Option Addr) (n cap : Nat) (e : Int) (d : Option (Int × Int)) : Prop :=
  ∃ x, Mag w a n cap x ∧ n ≤ 1099511627776 ∧ blen x ≤ 1048576 ∧ -9223372036854775808 ≤ e ∧ e ≤ 9223372036854775807 ∧ nrmB bd (sgn s x) e = d
theorem DyIn.below {w w' : World} {bd s : Bool} {a : Option Addr} {n cap : Nat} {e : Int} {d : Option (Int × Int)} (h : DyIn w bd s a n cap e d) (hb : Below w.heap.size w w') : DyIn w' bd s a n cap e d := by
  obtain ⟨x, h1, h2⟩ := h; exact ⟨x, h1.below hb, h2⟩
theorem DyIn.isN {w : World} {bd s : Bool} {a : Option Addr} {n cap : Nat} {e : Int} {d : Option (Int × Int)} (h : DyIn w bd s a n cap e d) : IsN d := by
  obtain ⟨x, _, _, _, _, _, h2⟩ := h; subst h2; exact isN_nrmB _ _ _
theorem tz_lim {x : Nat} (h : blen x ≤ 1048576) : tz x ≤ 1048576 := by
  rcases Nat.eq_zero_or_pos x with h0 | h0
  · subst h0; decide
  · have := tz_lt_blen h0; omega
theorem norm_in (w : World) {bd s : Bool} {a : Option Addr} {n cap : Nat} {e : Int} {d : Option (Int × Int)} (h : DyIn w bd s a n cap e d) (hT : Tab w) :
    Calls Tryd.prog 39 #[.agg #[.bool bd, .bool s, .slice a n cap, .int .i64 e]] w (RetDyB w d) := by
  obtain ⟨x, h1, h2, h3, h4, h5, h6⟩ := h
  have := dnorm_any w bd s a n cap x e h1 h2 hT h3 (tz_lim h3) h4 h5
  rwa [h6] at this
/-- a result is an argument -/
theorem dyin_of {w : World} {d : Option (Int × Int)} {a : Option Addr} {c : Nat} (hd : IsN d) (hm : Mag w a (nl (dman d).natAbs) c (dman d).natAbs) : DyIn w (dbad d) (decide (dman d < 0)) a (nl (dman d).natAbs) c (dexp d) d := by
  have hb := isN_bounds hd
  refine ⟨_, hm, ?_, by omega, by omega, by omega, ?_⟩
  · have h1 := hm.fits
    exact Nat.le_trans (nl_le_blen _) (by omega)
  · rw [sgn_self]; exact isN_self hd

def RetTwo (w : World) (d d' : Option (Int × Int)) (e : Ending) (w' : World) : Prop :=
  ∃ a c a' c', e = .returned (.tuple #[.agg #[.bool (dbad d), .bool (decide (dman d < 0)), .slice a (nl (dman d).natAbs) c, .int .i64 (dexp d)], .agg #[.bool (dbad d'), .bool (decide (dman d' < 0)), .slice a' (nl (dman d').natAbs) c', .int .i64 (dexp d')], .bool (!dbad d && !dbad d')]) ∧ Mag w' a (nl (dman d).natAbs) c (dman d).natAbs ∧ Mag w' a' (nl (dman d').natAbs) c' (dman d').natAbs ∧ Below w.heap.size w w' ∧ (0 < nl (dman d).natAbs → w.heap.size ≤ ab a) ∧ (0 < nl (dman d').natAbs → w.heap.size ≤ ab a')

set_option maxRecDepth 100000 in
set_option maxHeartbeats 2000000 in
theorem two_f (w : World) (bd s bd' s' : Bool) (a a' : Option Addr) (n n' cap cap' : Nat) (e e' : Int) (d d' : Option (Int × Int)) (hx : DyIn w bd s a n cap e d) (hy : DyIn w bd' s' a' n' cap' e' d') (hT : Tab w) (hbd : dbad d = false) :
    Calls Tryd.prog 40 #[.agg #[.bool bd, .bool s, .slice a n cap, .int .i64 e], .agg #[.bool bd', .bool s', .slice a' n' cap', .int .i64 e']] w (RetTwo w d d') := by
  have HN := fun W h ht => Lib.hid (@norm_in W bd s a n cap e d h ht)
  have HM := fun W h ht => Lib.hid (@norm_in W bd' s' a' n' cap' e' d' h ht)
  have e1 : ¬ w.heap.size + 1 = w.heap.size := by omega
  have e2 : ¬ w.heap.size + 1 + 1 = w.heap.size := by omega
  have e3 : ¬ w.heap.size + 1 + 1 + 1 = w.heap.size := by omega
  go_enter Tryd.func40, Tryd.ntmps40
  go_wp2_with fail
  refine (HN _ (hx.below (by repeat (with_reducible first | refine Below.setCell ?_ (by simp <;> omega) _ | refine Below.alloc ?_ (by simp <;> omega) _ | refine Below.drew ?_ | refine below_drewN ?_ _ | exact Below.refl _ _))) (hT.below (by repeat (with_reducible first | refine Below.setCell ?_ (by simp <;> omega) _ | refine Below.alloc ?_ (by simp <;> omega) _ | refine Below.drew ?_ | refine below_drewN ?_ _ | exact Below.refl _ _)))).out.mono ?_
  rintro e w1 ⟨a1, c1, rfl, hm1, hb, hf1⟩
  obtain ⟨hc1, hz1⟩ := bcell (hb.mono (show w.heap.size + 4 ≤ _ by simp))
  have hg1 : w.heap.size + 4 ≤ w1.heap.size := by have := hb.size; simpa using this
  have hfr1 : 0 < nl (dman d).natAbs → w.heap.size + 4 ≤ ab a1 := fun h => by have := hf1 h; simpa using this
  have hbw := below_box (w := w) (by repeat (with_reducible first | refine Below.setCell ?_ (by simp <;> omega) _ | refine Below.alloc ?_ (by simp <;> omega) _ | refine Below.drew ?_ | refine below_drewN ?_ _ | exact Below.refl _ _)) hb
  go_wp2_with fail
  refine (HM _ (hy.below (by have hszw := hbw.size; repeat (with_reducible first | refine Below.setCell ?_ (by first | omega | (simp <;> omega)) _ | refine Below.alloc ?_ (by first | omega | (simp <;> omega)) _ | refine Below.drew ?_ | refine below_drewN ?_ _ | exact hbw))) (hT.below (by have hszw := hbw.size; repeat (with_reducible first | refine Below.setCell ?_ (by first | omega | (simp <;> omega)) _ | refine Below.alloc ?_ (by first | omega | (simp <;> omega)) _ | refine Below.drew ?_ | refine below_drewN ?_ _ | exact hbw)))).out.mono ?_
  rintro e w2 ⟨a2, c2, rfl, hm2, hb2, hf2⟩
  obtain ⟨hc2, hz2⟩ := bcell (hb2.mono (show w.heap.size + 4 ≤ _ by simpa using hg1))
  have hfr2 : 0 < nl (dman d').natAbs → w.heap.size + 4 ≤ ab a2 := fun h => by have := hf2 h; simp at this; omega
  obtain ⟨q0, q1, q2, q3, q4, q5, q6, q7⟩ : (w2.cell? ⟨w.heap.size + 1 + 1, 0, none⟩ = some (.bool (dbad d)) ∧ w2.cell? ⟨w.heap.size + 1 + 1, 1, none⟩ = some (.bool (decide (dman d < 0))) ∧ w2.cell? ⟨w.heap.size + 1 + 1, 2, none⟩ = some (.slice a1 (nl (dman d).natAbs) c1) ∧ w2.cell? ⟨w.heap.size + 1 + 1, 3, none⟩ = some (.int .i64 (dexp d))
      ∧ w2.cell? ⟨w.heap.size + 1 + 1 + 1, 0, none⟩ = some (.bool false) ∧ w2.cell? ⟨w.heap.size + 1 + 1 + 1, 1, none⟩ = some (.bool false) ∧ w2.cell? ⟨w.heap.size + 1 + 1 + 1, 2, none⟩ = some (.slice none 0 0) ∧ w2.cell? ⟨w.heap.size + 1 + 1 + 1, 3, none⟩ = some (.int .i64 0)) := by
    refine ⟨?_, ?_, ?_, ?_, ?_, ?_, ?_, ?_⟩ <;> go_simp
  clear hc2 hc1
  have hm1' : Mag w2 a1 (nl (dman d).natAbs) c1 (dman d).natAbs := Mag.below (by repeat (with_reducible first | refine Mag.set ?_ (fun h => by have := hfr1 h; omega) _ _ | refine Mag.drew ?_ | refine Mag.alloc ?_ _ | refine Mag.drewN ?_ _ | refine Mag.below ?_ (Below.drew (Below.refl _ _)) | refine Mag.below ?_ ((Below.refl _ _).alloc (Nat.le_refl _) _) | exact hm1)) hb2
  have hbw2 := below_box (w := w) (by have hszw := hbw.size; repeat (with_reducible first | refine Below.setCell ?_ (by first | omega | (simp <;> omega)) _ | refine Below.alloc ?_ (by first | omega | (simp <;> omega)) _ | refine Below.drew ?_ | refine below_drewN ?_ _ | exact hbw)) hb2
  clear hbw
  have hbw := hbw2
  have hg2 : w.heap.size + 4 ≤ w2.heap.size := by have := hb2.size; simp at this; omega
  go_wp2_with fail
  go_big_region
  all_goals go_wp2_with fail
  all_goals (
    refine bodyPost_ret2 (v := .tuple #[.agg #[.bool (dbad d), .bool (decide (dman d < 0)), .slice a1 (nl (dman d).natAbs) c1, .int .i64 (dexp d)], .agg #[.bool (dbad d'), .bool (decide (dman d' < 0)), .slice a2 (nl (dman d').natAbs) c2, .int .i64 (dexp d')], .bool (!dbad d && !dbad d')]) (by simp only [results, Tryd.results40]; go_simp) rfl ?_
    exact ⟨a1, c1, a2, c2, rfl, (by repeat (with_reducible first | refine Mag.set ?_ (fun h => by have := hfr1 h; omega) _ _ | refine Mag.drew ?_ | refine Mag.alloc ?_ _ | refine Mag.drewN ?_ _ | refine Mag.below ?_ (Below.drew (Below.refl _ _)) | refine Mag.below ?_ ((Below.refl _ _).alloc (Nat.le_refl _) _) | exact hm1')), (by repeat (with_reducible first | refine Mag.set ?_ (fun h => by have := hfr2 h; omega) _ _ | refine Mag.drew ?_ | refine Mag.alloc ?_ _ | refine Mag.drewN ?_ _ | refine Mag.below ?_ (Below.drew (Below.refl _ _)) | refine Mag.below ?_ ((Below.refl _ _).alloc (Nat.le_refl _) _) | exact hm2)), (by have hszw := hbw.size; repeat (with_reducible first | refine Below.setCell ?_ (by first | omega | (simp <;> omega)) _ | refine Below.alloc ?_ (by first | omega | (simp <;> omega)) _ | refine Below.drew ?_ | refine below_drewN ?_ _ | exact hbw)), fun h => by have := hfr1 h; omega, fun h => by have := hfr2 h; omega⟩)

set_option maxRecDepth 100000 in
set_option maxHeartbeats 2000000 in
theorem two_t (w : World) (bd s bd' s' : Bool) (a a' : Option Addr) (n n' cap cap' : Nat) (e e' : Int) (d d' : Option (Int × Int)) (hx : DyIn w bd s a n cap e d) (hy : DyIn w bd' s' a' n' cap' e' d') (hT : Tab w) (hbd : dbad d = true) :
    Calls Tryd.prog 40 #[.agg #[.bool bd, .bool s, .slice a n cap, .int .i64 e], .agg #[.bool bd', .bool s', .slice a' n' cap', .int .i64 e']] w (RetTwo w d d') := by
  have HN := fun W h ht => Lib.hid (@norm_in W bd s a n cap e d h ht)
  have HM := fun W h ht => Lib.hid (@norm_in W bd' s' a' n' cap' e' d' h ht)
  have e1 : ¬ w.heap.size + 1 = w.heap.size := by omega
  have e2 : ¬ w.heap.size + 1 + 1 = w.heap.size := by omega
  have e3 : ¬ w.heap.size + 1 + 1 + 1 = w.heap.size := by omega
  go_enter Tryd.func40, Tryd.ntmps40
  go_wp2_with fail
  refine (HN _ (hx.below (by repeat (with_reducible first | refine Below.setCell ?_ (by simp <;> omega) _ | refine Below.alloc ?_ (by simp <;> omega) _ | refine Below.drew ?_ | refine below_drewN ?_ _ | exact Below.refl _ _))) (hT.below (by repeat (with_reducible first | refine Below.setCell ?_ (by simp <;> omega) _ | refine Below.alloc ?_ (by simp <;> omega) _ | refine Below.drew ?_ | refine below_drewN ?_ _ | exact Below.refl _ _)))).out.mono ?_
  rintro e w1 ⟨a1, c1, rfl, hm1, hb, hf1⟩
  obtain ⟨hc1, hz1⟩ := bcell (hb.mono (show w.heap.size + 4 ≤ _ by simp))
  have hg1 : w.heap.size + 4 ≤ w1.heap.size := by have := hb.size; simpa using this
  have hfr1 : 0 < nl (dman d).natAbs → w.heap.size + 4 ≤ ab a1 := fun h => by have := hf1 h; simpa using this
  have hbw := below_box (w := w) (by repeat (with_reducible first | refine Below.setCell ?_ (by simp <;> omega) _ | refine Below.alloc ?_ (by simp <;> omega) _ | refine Below.drew ?_ | refine below_drewN ?_ _ | exact Below.refl _ _)) hb
  go_wp2_with fail
  refine (HM _ (hy.below (by have hszw := hbw.size; repeat (with_reducible first | refine Below.setCell ?_ (by first | omega | (simp <;> omega)) _ | refine Below.alloc ?_ (by first | omega | (simp <;> omega)) _ | refine Below.drew ?_ | refine below_drewN ?_ _ | exact hbw))) (hT.below (by have hszw := hbw.size; repeat (with_reducible first | refine Below.setCell ?_ (by first | omega | (simp <;> omega)) _ | refine Below.alloc ?_ (by first | omega | (simp <;> omega)) _ | refine Below.drew ?_ | refine below_drewN ?_ _ | exact hbw)))).out.mono ?_
  rintro e w2 ⟨a2, c2, rfl, hm2, hb2, hf2⟩
  obtain ⟨hc2, hz2⟩ := bcell (hb2.mono (show w.heap.size + 4 ≤ _ by simpa using hg1))
  have hfr2 : 0 < nl (dman d').natAbs → w.heap.size + 4 ≤ ab a2 := fun h => by have := hf2 h; simp at this; omega
  obtain ⟨q0, q1, q2, q3, q4, q5, q6, q7⟩ : (w2.cell? ⟨w.heap.size + 1 + 1, 0, none⟩ = some (.bool (dbad d)) ∧ w2.cell? ⟨w.heap.size + 1 + 1, 1, none⟩ = some (.bool (decide (dman d < 0))) ∧ w2.cell? ⟨w.heap.size + 1 + 1, 2, none⟩ = some (.slice a1 (nl (dman d).natAbs) c1) ∧ w2.cell? ⟨w.heap.size + 1 + 1, 3, none⟩ = some (.int .i64 (dexp d))
      ∧ w2.cell? ⟨w.heap.size + 1 + 1 + 1, 0, none⟩ = some (.bool false) ∧ w2.cell? ⟨w.heap.size + 1 + 1 + 1, 1, none⟩ = some (.bool false) ∧ w2.cell? ⟨w.heap.size + 1 + 1 + 1, 2, none⟩ = some (.slice none 0 0) ∧ w2.cell? ⟨w.heap.size + 1 + 1 + 1, 3, none⟩ = some (.int .i64 0)) := by
    refine ⟨?_, ?_, ?_, ?_, ?_, ?_, ?_, ?_⟩ <;> go_simp
  clear hc2 hc1
  have hm1' : Mag w2 a1 (nl (dman d).natAbs) c1 (dman d).natAbs := Mag.below (by repeat (with_reducible first | refine Mag.set ?_ (fun h => by have := hfr1 h; omega) _ _ | refine Mag.drew ?_ | refine Mag.alloc ?_ _ | refine Mag.drewN ?_ _ | refine Mag.below ?_ (Below.drew (Below.refl _ _)) | refine Mag.below ?_ ((Below.refl _ _).alloc (Nat.le_refl _) _) | exact hm1)) hb2
  have hbw2 := below_box (w := w) (by have hszw := hbw.size; repeat (with_reducible first | refine Below.setCell ?_ (by first | omega | (simp <;> omega)) _ | refine Below.alloc ?_ (by first | omega | (simp <;> omega)) _ | refine Below.drew ?_ | refine below_drewN ?_ _ | exact hbw)) hb2
  clear hbw
  have hbw := hbw2
  have hg2 : w.heap.size + 4 ≤ w2.heap.size := by have := hb2.size; simp at this; omega
  go_wp2_with fail
  go_big_region
  all_goals go_wp2_with fail
  all_goals (
    refine bodyPost_ret2 (v := .tuple #[.agg #[.bool (dbad d), .bool (decide (dman d < 0)), .slice a1 (nl (dman d).natAbs) c1, .int .i64 (dexp d)], .agg #[.bool (dbad d'), .bool (decide (dman d' < 0)), .slice a2 (nl (dman d').natAbs) c2, .int .i64 (dexp d')], .bool (!dbad d && !dbad d')]) (by simp only [results, Tryd.results40]; go_simp) rfl ?_
    exact ⟨a1, c1, a2, c2, rfl, (by repeat (with_reducible first | refine Mag.set ?_ (fun h => by have := hfr1 h; omega) _ _ | refine Mag.drew ?_ | refine Mag.alloc ?_ _ | refine Mag.drewN ?_ _ | refine Mag.below ?_ (Below.drew (Below.refl _ _)) | refine Mag.below ?_ ((Below.refl _ _).alloc (Nat.le_refl _) _) | exact hm1')), (by repeat (with_reducible first | refine Mag.set ?_ (fun h => by have := hfr2 h; omega) _ _ | refine Mag.drew ?_ | refine Mag.alloc ?_ _ | refine Mag.drewN ?_ _ | refine Mag.below ?_ (Below.drew (Below.refl _ _)) | refine Mag.below ?_ ((Below.refl _ _).alloc (Nat.le_refl _) _) | exact hm2)), (by have hszw := hbw.size; repeat (with_reducible first | refine Below.setCell ?_ (by first | omega | (simp <;> omega)) _ | refine Below.alloc ?_ (by first | omega | (simp <;> omega)) _ | refine Below.drew ?_ | refine below_drewN ?_ _ | exact hbw)), fun h => by have := hfr1 h; omega, fun h => by have := hfr2 h; omega⟩)

theorem two_any (w : World) (bd s bd' s' : Bool) (a a' : Option Addr) (n n' cap cap' : Nat) (e e' : Int) (d d' : Option (Int × Int)) (hx : DyIn w bd s a n cap e d) (hy : DyIn w bd' s' a' n' cap' e' d') (hT : Tab w) :
    Calls Tryd.prog 40 #[.agg #[.bool bd, .bool s, .slice a n cap, .int .i64 e], .agg #[.bool bd', .bool s', .slice a' n' cap', .int .i64 e']] w (RetTwo w d d') := by
  cases h : dbad d
  · exact two_f w bd s bd' s' a a' n n' cap cap' e e' d d' hx hy hT h
  · exact two_t w bd s bd' s' a a' n n' cap cap' e e' d d' hx hy hT h

/-- norm's result, its parts by name: is it bad, its integer, its exponent -/
def RetDyV (w : World) (b : Bool) (z f : Int) (e : Ending) (w' : World) : Prop :=
  ∃ a c, e = .returned (.tuple #[.agg #[.bool b, .bool (decide (z < 0)), .slice a (nl z.natAbs) c, .int .i64 f], .bool (!b)]) ∧ Mag w' a (nl z.natAbs) c z.natAbs ∧ Below w.heap.size w w' ∧ (0 < nl z.natAbs → w.heap.size ≤ ab a)
theorem norm_v (w : World) {bd s : Bool} {a : Option Addr} {n cap : Nat} {e : Int} {d : Option (Int × Int)} (h : DyIn w bd s a n cap e d) (hT : Tab w) (b : Bool) (z f : Int) (hb : dbad d = b) (hz : dman d = z) (hf : dexp d = f) :
    Calls Tryd.prog 39 #[.agg #[.bool bd, .bool s, .slice a n cap, .int .i64 e]] w (RetDyV w b z f) := by
  subst hb hz hf; exact norm_in w h hT
/-- two's result, its parts by name -/
def RetTwoV (w : World) (b : Bool) (z f : Int) (b' : Bool) (z' f' : Int) (k : Bool) (e : Ending) (w' : World) : Prop :=
  ∃ a c a' c', e = .returned (.tuple #[.agg #[.bool b, .bool (decide (z < 0)), .slice a (nl z.natAbs) c, .int .i64 f], .agg #[.bool b', .bool (decide (z' < 0)), .slice a' (nl z'.natAbs) c', .int .i64 f'], .bool k]) ∧ Mag w' a (nl z.natAbs) c z.natAbs ∧ Mag w' a' (nl z'.natAbs) c' z'.natAbs ∧ Below w.heap.size w w' ∧ (0 < nl z.natAbs → w.heap.size ≤ ab a) ∧ (0 < nl z'.natAbs → w.heap.size ≤ ab a')
theorem two_v (w : World) {bd s bd' s' : Bool} {a a' : Option Addr} {n n' cap cap' : Nat} {e e' : Int} {d d' : Option (Int × Int)} (hx : DyIn w bd s a n cap e d) (hy : DyIn w bd' s' a' n' cap' e' d') (hT : Tab w) (b : Bool) (z f : Int) (hb : dbad d = b) (hz : dman d = z) (hf : dexp d = f) (b' : Bool) (z' f' : Int) (hb' : dbad d' = b') (hz' : dman d' = z') (hf' : dexp d' = f') (k : Bool) (hk : (!b && !b') = k) :
    Calls Tryd.prog 40 #[.agg #[.bool bd, .bool s, .slice a n cap, .int .i64 e], .agg #[.bool bd', .bool s', .slice a' n' cap', .int .i64 e']] w (RetTwoV w b z f b' z' f' k) := by
  subst hb hz hf hb' hz' hf' hk; exact two_any w bd s bd' s' a a' n n' cap cap' e e' d d' hx hy hT
/-- a bound on the limbs of a number of few bits -/
theorem nl_lim {x : Nat} (h : blen x ≤ 1048576) : nl x ≤ 1099511627776 := Nat.le_trans (nl_le_blen x) (by omega)
theorem ret_dy {w w' : World} {d : Option (Int × Int)} {a : Option Addr} {c : Nat} (b : Bool) (z f : Int) (hb : dbad d = b) (hz : dman d = z) (hf : dexp d = f) (hm : Mag w' a (nl z.natAbs) c z.natAbs) (hw : Below w.heap.size w w') (hfr : 0 < nl z.natAbs → w.heap.size ≤ ab a) :
    RetDy w d (.returned (.agg #[.bool b, .bool (decide (z < 0)), .slice a (nl z.natAbs) c, .int .i64 f])) w' := by
  subst hb hz hf; exact ⟨a, c, rfl, hm, hw, hfr⟩
theorem ret_bad {w w' : World} {d : Option (Int × Int)} (hd : d = none) (hw : Below w.heap.size w w') :
    RetDy w d (.returned (.agg #[.bool true, .bool false, .slice none 0 0, .int .i64 0])) w' := by
  subst hd; exact ⟨none, 0, rfl, Mag.nil _, hw, nl0⟩

end Go.Proofs.YtjhngehajahbnaaDoor
