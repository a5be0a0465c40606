/-
  Walks: package dyad: Floor.
-/
import Derived.Test.YtjhngehajahbnaaGreatDoorBg
import Derived.Test.YtjhngehajahbnaaGreatDoorBf
namespace Go.Proofs.YtjhngehajahbnaaGreatDoor
open Go.RowKit Sp

/-- A call's two results: an integer, and a bool. -/
def RetBigB (w : World) (z : Int) (v : Bool) (e : Ending) (w' : World) : Prop :=
  ∃ a cap, e = .returned (.tuple #[.agg #[.bool (decide (z < 0)), .slice a (nl z.natAbs) cap], .bool v]) ∧ Mag w' a (nl z.natAbs) cap z.natAbs ∧ Below w.heap.size w w' ∧ (0 < nl z.natAbs → w.heap.size ≤ ab a)

set_option maxRecDepth 100000 in
set_option maxHeartbeats 2000000 in
theorem dfloor_bad (w : World) (bd s : Bool) (a : Option Addr) (n cap : Nat) (e : Int) (hx : DyIn w bd s a n cap e none) (hT : Tab w) :
    Calls Tryz.prog 35 #[.agg #[.bool bd, .bool s, .slice a n cap, .int .i64 e]] w (RetBigB w 0 false) := by
  have e1 : ¬ w.heap.size + 1 = w.heap.size := by omega
  have HN := fun W h ht => Lib.hid (@norm_v W bd s a n cap e none h ht true 0 0 rfl rfl rfl)
  go_enter Tryz.func35, Tryz.ntmps35
  go_wp2_with fail
  have I0 := (DyV.made w 26 bd s (.slice a n cap) e).alloc (.cells #[.bool false, .slice none 0 0] 24)
  have I1 := BgV.made' (w.alloc (.cells #[.bool bd, .bool s, .slice a n cap, .int .i64 e] 26)) 24 false (.slice none 0 0) (n := w.heap.size + 1) (by rw [World.size_alloc])
  refine (HN _ (hx.below (by repeat (with_reducible first | refine Below.setCell ?_ (by simp <;> omega) _ | refine Below.alloc ?_ (by simp <;> omega) _ | refine Below.drew ?_ | refine below_drewN ?_ _ | exact Below.refl _ _))) (hT.below (by repeat (with_reducible first | refine Below.setCell ?_ (by simp <;> omega) _ | refine Below.alloc ?_ (by simp <;> omega) _ | refine Below.drew ?_ | refine below_drewN ?_ _ | exact Below.refl _ _)))).out.mono ?_
  rintro e w1 ⟨a1, c1, rfl, hm1, hb, hf1⟩
  have hbw := below_box (w := w) (by repeat (with_reducible first | refine Below.setCell ?_ (by simp <;> omega) _ | refine Below.alloc ?_ (by simp <;> omega) _ | refine Below.drew ?_ | refine below_drewN ?_ _ | exact Below.refl _ _)) hb
  have J0 := I0.below hb
  have J1 := I1.below hb
  clear I0 I1 hb hf1
  obtain ⟨p0, p1, p2, p3, p4, p5⟩ := J0
  obtain ⟨r0, r1, r2, r3⟩ := J1
  go_wp2_with fail
  refine bodyPost_ret2 (v := .tuple #[.agg #[.bool false, .slice none 0 0], .bool false]) (by simp only [results, Tryz.results35]; go_simp) rfl ?_
  exact ⟨none, 0, rfl, Mag.nil _, (by have hszw := (hbw).size; repeat (with_reducible first | refine Below.setCell ?_ (by first | omega | (simp <;> omega)) _ | refine Below.alloc ?_ (by first | omega | (simp <;> omega)) _ | refine Below.drew ?_ | refine below_drewN ?_ _ | exact hbw)), nl0⟩

set_option maxRecDepth 100000 in
set_option maxHeartbeats 2000000 in
theorem dfloor_ok (w : World) (bd s : Bool) (a : Option Addr) (n cap : Nat) (e z f y : Int) (hx : DyIn w bd s a n cap e (some (z, f))) (hT : Tab w) (hy : y = shl z f) :
    Calls Tryz.prog 35 #[.agg #[.bool bd, .bool s, .slice a n cap, .int .i64 e]] w (RetBigB w y true) := by
  obtain ⟨hbl, hf0, hf1⟩ := isN_bounds hx.isN
  simp only [dman, dexp, Option.getD_some] at hbl hf0 hf1
  have hl := nl_lim (Nat.le_trans hbl (by omega))
  have e1 : ¬ w.heap.size + 1 = w.heap.size := by omega
  have HN := fun W h ht => Lib.hid (@norm_v W bd s a n cap e (some (z, f)) h ht false z f rfl rfl rfl)
  have HS := fun W b c h => Lib.hid (shift_any W (decide (z < 0)) b _ c z.natAbs f h hl (by omega) (by omega))
  rw [sgn_self, ← hy] at HS
  clear hy hbl hf0 hf1 hl
  go_enter Tryz.func35, Tryz.ntmps35
  go_wp2_with fail
  have I0 := (DyV.made w 26 bd s (.slice a n cap) e).alloc (.cells #[.bool false, .slice none 0 0] 24)
  have I1 := BgV.made' (w.alloc (.cells #[.bool bd, .bool s, .slice a n cap, .int .i64 e] 26)) 24 false (.slice none 0 0) (n := w.heap.size + 1) (by rw [World.size_alloc])
  refine (HN _ (hx.below (by repeat (with_reducible first | refine Below.setCell ?_ (by simp <;> omega) _ | refine Below.alloc ?_ (by simp <;> omega) _ | refine Below.drew ?_ | refine below_drewN ?_ _ | exact Below.refl _ _))) (hT.below (by repeat (with_reducible first | refine Below.setCell ?_ (by simp <;> omega) _ | refine Below.alloc ?_ (by simp <;> omega) _ | refine Below.drew ?_ | refine below_drewN ?_ _ | exact Below.refl _ _)))).out.mono ?_
  rintro e w1 ⟨a1, c1, rfl, hm1, hb, hf1⟩
  have hbw := below_box (w := w) (by repeat (with_reducible first | refine Below.setCell ?_ (by simp <;> omega) _ | refine Below.alloc ?_ (by simp <;> omega) _ | refine Below.drew ?_ | refine below_drewN ?_ _ | exact Below.refl _ _)) hb
  have J0 := I0.below hb
  have J1 := I1.below hb
  have hfr1 : 0 < nl z.natAbs → w.heap.size + 2 ≤ ab a1 := fun h => by have := hf1 h; simpa using this
  have hg1 : w.heap.size + 2 ≤ w1.heap.size := by have := hb.size; simpa using this
  clear I0 I1 hb hf1
  obtain ⟨p0, p1, p2, p3, p4, p5⟩ := J0
  obtain ⟨r0, r1, r2, r3⟩ := J1
  have e2 : ¬ w.heap.size = w.heap.size + 1 := by omega
  go_wp2_with fail
  refine (HS _ a1 c1 (by repeat (with_reducible first | refine Mag.set ?_ (fun h => by have := hfr1 h; omega) _ _ | refine Mag.drew ?_ | refine Mag.alloc ?_ _ | refine Mag.drewN ?_ _ | refine Mag.below ?_ (Below.drew (Below.refl _ _)) | refine Mag.below ?_ ((Below.refl _ _).alloc (Nat.le_refl _) _) | exact hm1))).out.mono ?_
  rintro e w2 ⟨a2, c2, rfl, hm2, hb, hf2⟩
  have hbw2 := below_box (w := w) (by have hszw := (hbw).size; repeat (with_reducible first | refine Below.setCell ?_ (by first | omega | (simp <;> omega)) _ | refine Below.alloc ?_ (by first | omega | (simp <;> omega)) _ | refine Below.drew ?_ | refine below_drewN ?_ _ | exact hbw)) hb
  have hg2 : w.heap.size + 2 ≤ w2.heap.size := by have := hb.size; (try simp at this); omega
  have hfr2 : 0 < nl y.natAbs → w.heap.size + 2 ≤ ab a2 := fun h => by have := hf2 h; (try simp at this); omega
  have o2 := hm2.old
  obtain ⟨hc, hz⟩ := bcell (hb.mono (show w.heap.size + 2 ≤ _ by first | exact hg1 | (simp; omega)))
  obtain ⟨r0', r1', r2'⟩ : w2.cell? ⟨w.heap.size + 1, 0, none⟩ = some (.bool false) ∧ w2.cell? ⟨w.heap.size + 1, 1, none⟩ = some (.slice none 0 0) ∧ ∀ i, w2.frozen? ⟨w.heap.size + 1, i, none⟩ = false := by
    refine ⟨?_, ?_, fun i => ?_⟩ <;> go_simp
  clear hc hz hb r0 r1 r2 p0 p1 p2 p3 p4
  have n2 : ¬ w.heap.size + 1 = w2.heap.size := by omega
  have n3 : ¬ w2.heap.size = w.heap.size + 1 := by omega
  have n4 : w.heap.size + 1 < w2.heap.size := by omega
  go_wp2_with fail
  refine bodyPost_ret2 (v := .tuple #[.agg #[.bool (decide (y < 0)), .slice a2 (nl y.natAbs) c2], .bool true]) (by simp only [results, Tryz.results35]; go_simp) rfl ?_
  exact ⟨a2, c2, rfl, (by repeat (with_reducible first | refine Mag.set ?_ (fun h => by have := hfr2 h; omega) _ _ | refine Mag.drew ?_ | refine Mag.alloc ?_ _ | refine Mag.drewN ?_ _ | refine Mag.below ?_ (Below.drew (Below.refl _ _)) | refine Mag.below ?_ ((Below.refl _ _).alloc (Nat.le_refl _) _) | exact hm2)), (by have hszw := (hbw2).size; repeat (with_reducible first | refine Below.setCell ?_ (by first | omega | (simp <;> omega)) _ | refine Below.alloc ?_ (by first | omega | (simp <;> omega)) _ | refine Below.drew ?_ | refine below_drewN ?_ _ | exact hbw2)), fun h => by have := hfr2 h; omega⟩

theorem dfloor_any (w : World) (bd s : Bool) (a : Option Addr) (n cap : Nat) (e : Int) (d : Option (Int × Int)) (hx : DyIn w bd s a n cap e d) (hT : Tab w) :
    Calls Tryz.prog 35 #[.agg #[.bool bd, .bool s, .slice a n cap, .int .i64 e]] w (RetBigB w (dfloor d) (!dbad d)) := by
  cases d with
  | none => exact dfloor_bad w bd s a n cap e hx hT
  | some p => obtain ⟨z, f⟩ := p; exact dfloor_ok w bd s a n cap e z f _ hx hT rfl

end Go.Proofs.YtjhngehajahbnaaGreatDoor

