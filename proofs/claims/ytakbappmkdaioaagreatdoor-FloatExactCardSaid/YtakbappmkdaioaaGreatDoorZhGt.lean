/-
  Walks: package float: Quo.
-/
import Derived.Test.YtakbappmkdaioaaGreatDoorZhGq
import Derived.Test.YtakbappmkdaioaaGreatDoorZhQuo
namespace Go.Proofs.YtakbappmkdaioaaGreatDoor
open Go.RowKit Sp

set_option maxRecDepth 100000 in
set_option maxHeartbeats 2000000 in
theorem wquo_b1 (w : World) (bd s bd' s' : Bool) (a a' : Option Addr) (n n' cap cap' : Nat) (e e' mode : Int) (d d' : Option (Int × Int)) (hx : DyIn w bd s a n cap e d) (hy : DyIn w bd' s' a' n' cap' e' d') (hT : Tab w) (hbd : dbad d = true) :
    Calls Tryz.prog 44 #[.agg #[.bool bd, .bool s, .slice a n cap, .int .i64 e], .agg #[.bool bd', .bool s', .slice a' n' cap', .int .i64 e'], .int .i64 mode] w fun o w' => o = .returned (.int .u64 9221120237041090560) ∧ Below w.heap.size w w' := by
  have HN := fun W h ht => Lib.hid (@dNorm_d W bd s a n cap e d h ht)
  have HN' := fun W h ht => Lib.hid (@dNorm_d W bd' s' a' n' cap' e' d' h ht)
  have hN := Lib.hid hx.isN
  have hN' := Lib.hid hy.isN
  go_enter Tryz.func44, Tryz.ntmps44
  go_wp2_with fail
  have I0 := (DyV.made w 26 bd s (.slice a n cap) e).alloc (.cells #[.bool bd', .bool s', .slice a' n' cap', .int .i64 e'] 26)
  have I1 := DyV.made' (w.alloc (.cells #[.bool bd, .bool s, .slice a n cap, .int .i64 e] 26)) 26 bd' s' (.slice a' n' cap') e' (n := w.heap.size + 1) (by rw [World.size_alloc])
  have B0 : Below w.heap.size w ((w.alloc (.cells #[.bool bd, .bool s, .slice a n cap, .int .i64 e] 26)).alloc (.cells #[.bool bd', .bool s', .slice a' n' cap', .int .i64 e'] 26)) := (by repeat (with_reducible first | refine Below.setCell ?_ (by simp <;> omega) _ | refine Below.alloc ?_ (by simp <;> omega) _ | refine Below.drew ?_ | refine below_drewN ?_ _ | exact Below.refl _ _))
  generalize ((w.alloc (.cells #[.bool bd, .bool s, .slice a n cap, .int .i64 e] 26)).alloc (.cells #[.bool bd', .bool s', .slice a' n' cap', .int .i64 e'] 26)) = w0 at I0 I1 B0 ⊢
  have ne01 : ¬ w.heap.size = w.heap.size + 1 := by omega
  have ne10 : ¬ w.heap.size + 1 = w.heap.size := by omega
  generalize hz1 : w.heap.size + 1 = b1 at I1 ne01 ne10 ⊢
  generalize hz0 : w.heap.size = b0 at I0 ne01 ne10 ⊢
  have hlt := I1.lt
  have J0 := Lib.hid I0
  have J1 := Lib.hid I1
  obtain ⟨p0, p1, p2, p3, p4, p5⟩ := I0
  obtain ⟨r0, r1, r2, r3, r4, r5⟩ := I1
  go_region_with
      (first
        | (go_at_call 158; have xx := B1; refine (HN' _ (hy.below (by have hszw := (B1).size; repeat (with_reducible first | refine Below.setCell ?_ (by first | omega | (simp <;> omega)) _ | refine Below.alloc ?_ (by first | omega | (simp <;> omega)) _ | refine Below.drew ?_ | refine below_drewN ?_ _ | exact B1))) (hT.below (by have hszw := (B1).size; repeat (with_reducible first | refine Below.setCell ?_ (by first | omega | (simp <;> omega)) _ | refine Below.alloc ?_ (by first | omega | (simp <;> omega)) _ | refine Below.drew ?_ | refine below_drewN ?_ _ | exact B1)))).out.mono ?_; rintro e1 w2 ⟨a2, c2, rfl, M2, hb1, hf1⟩; have hs1 := B1.size; have hs2 := hb1.size; (try simp at hs2); (try simp at hf1); have hfr' : 0 < nl (dman d').natAbs → b1 < ab a2 := (fun h => by have := hf1 h; omega); have B2 := below_box (w := w) (by have hszw := (B1).size; repeat (with_reducible first | refine Below.setCell ?_ (by first | omega | (simp <;> omega)) _ | refine Below.alloc ?_ (by first | omega | (simp <;> omega)) _ | refine Below.drew ?_ | refine below_drewN ?_ _ | exact B1)) hb1; have M1 := Mag.below (by repeat (with_reducible first | refine Mag.set ?_ (fun h => by have := M1 h; omega) _ _ | refine Mag.drew ?_ | refine Mag.alloc ?_ _ | refine Mag.drewN ?_ _ | exact M1)) hb1; have K0 : DyV w2 b0 bd s (.slice a n cap) e := (by refine DyV.below ?_ hb1; (repeat (with_reducible first | refine DyV.drew ?_ | refine DyV.drewN ?_ _ | refine DyV.alloc ?_ _)); exact J0.out); have K1 : DyV w2 b1 bd' s' (.slice a' n' cap') e' := (by refine DyV.below ?_ hb1; (repeat (with_reducible first | refine DyV.drew ?_ | refine DyV.drewN ?_ _ | refine DyV.alloc ?_ _)); exact J1.out); clear hb1 hf1 J0 J1 p0 p1 p2 p3 p4 p5 r0 r1 r2 r3 r4 r5; obtain ⟨p0, p1, p2, p3, p4, p5⟩ := K0; obtain ⟨r0, r1, r2, r3, r4, r5⟩ := K1)
        | (go_at_call 158; refine (HN _ (hx.below (by have hszw := (B0).size; repeat (with_reducible first | refine Below.setCell ?_ (by first | omega | (simp <;> omega)) _ | refine Below.alloc ?_ (by first | omega | (simp <;> omega)) _ | refine Below.drew ?_ | refine below_drewN ?_ _ | exact B0))) (hT.below (by have hszw := (B0).size; repeat (with_reducible first | refine Below.setCell ?_ (by first | omega | (simp <;> omega)) _ | refine Below.alloc ?_ (by first | omega | (simp <;> omega)) _ | refine Below.drew ?_ | refine below_drewN ?_ _ | exact B0)))).out.mono ?_; rintro e1 w1 ⟨a1, c1, rfl, M1, hb1, hf1⟩; have hs0 := B0.size; have hs1 := hb1.size; (try simp at hs1); (try simp at hf1); have hfr : 0 < nl (dman d).natAbs → b1 < ab a1 := (fun h => by have := hf1 h; omega); have B1 := below_box (w := w) (by have hszw := (B0).size; repeat (with_reducible first | refine Below.setCell ?_ (by first | omega | (simp <;> omega)) _ | refine Below.alloc ?_ (by first | omega | (simp <;> omega)) _ | refine Below.drew ?_ | refine below_drewN ?_ _ | exact B0)) hb1; have K0 : DyV w1 b0 bd s (.slice a n cap) e := (by refine DyV.below ?_ hb1; (repeat (with_reducible first | refine DyV.drew ?_ | refine DyV.drewN ?_ _ | refine DyV.alloc ?_ _)); exact J0.out); have K1 : DyV w1 b1 bd' s' (.slice a' n' cap') e' := (by refine DyV.below ?_ hb1; (repeat (with_reducible first | refine DyV.drew ?_ | refine DyV.drewN ?_ _ | refine DyV.alloc ?_ _)); exact J1.out); clear hb1 hf1 J0 J1 p0 p1 p2 p3 p4 p5 r0 r1 r2 r3 r4 r5; have J0 := Lib.hid K0; have J1 := Lib.hid K1; obtain ⟨p0, p1, p2, p3, p4, p5⟩ := K0; obtain ⟨r0, r1, r2, r3, r4, r5⟩ := K1)
        | fail)
  all_goals (
  go_wp2_with fail
  go_ret
  exact ⟨rfl, (by have hszw := (B2).size; repeat (with_reducible first | refine Below.setCell ?_ (by first | omega | (simp <;> omega)) _ | refine Below.alloc ?_ (by first | omega | (simp <;> omega)) _ | refine Below.drew ?_ | refine below_drewN ?_ _ | exact B2))⟩)

set_option maxRecDepth 100000 in
set_option maxHeartbeats 2000000 in
theorem wquo_b2 (w : World) (bd s bd' s' : Bool) (a a' : Option Addr) (n n' cap cap' : Nat) (e e' mode : Int) (d d' : Option (Int × Int)) (hx : DyIn w bd s a n cap e d) (hy : DyIn w bd' s' a' n' cap' e' d') (hT : Tab w) (hbd : dbad d = false) (hbd' : dbad d' = true) :
    Calls Tryz.prog 44 #[.agg #[.bool bd, .bool s, .slice a n cap, .int .i64 e], .agg #[.bool bd', .bool s', .slice a' n' cap', .int .i64 e'], .int .i64 mode] w fun o w' => o = .returned (.int .u64 9221120237041090560) ∧ Below w.heap.size w w' := by
  have HN := fun W h ht => Lib.hid (@dNorm_d W bd s a n cap e d h ht)
  have HN' := fun W h ht => Lib.hid (@dNorm_d W bd' s' a' n' cap' e' d' h ht)
  have hN := Lib.hid hx.isN
  have hN' := Lib.hid hy.isN
  go_enter Tryz.func44, Tryz.ntmps44
  go_wp2_with fail
  have I0 := (DyV.made w 26 bd s (.slice a n cap) e).alloc (.cells #[.bool bd', .bool s', .slice a' n' cap', .int .i64 e'] 26)
  have I1 := DyV.made' (w.alloc (.cells #[.bool bd, .bool s, .slice a n cap, .int .i64 e] 26)) 26 bd' s' (.slice a' n' cap') e' (n := w.heap.size + 1) (by rw [World.size_alloc])
  have B0 : Below w.heap.size w ((w.alloc (.cells #[.bool bd, .bool s, .slice a n cap, .int .i64 e] 26)).alloc (.cells #[.bool bd', .bool s', .slice a' n' cap', .int .i64 e'] 26)) := (by repeat (with_reducible first | refine Below.setCell ?_ (by simp <;> omega) _ | refine Below.alloc ?_ (by simp <;> omega) _ | refine Below.drew ?_ | refine below_drewN ?_ _ | exact Below.refl _ _))
  generalize ((w.alloc (.cells #[.bool bd, .bool s, .slice a n cap, .int .i64 e] 26)).alloc (.cells #[.bool bd', .bool s', .slice a' n' cap', .int .i64 e'] 26)) = w0 at I0 I1 B0 ⊢
  have ne01 : ¬ w.heap.size = w.heap.size + 1 := by omega
  have ne10 : ¬ w.heap.size + 1 = w.heap.size := by omega
  generalize hz1 : w.heap.size + 1 = b1 at I1 ne01 ne10 ⊢
  generalize hz0 : w.heap.size = b0 at I0 ne01 ne10 ⊢
  have hlt := I1.lt
  have J0 := Lib.hid I0
  have J1 := Lib.hid I1
  obtain ⟨p0, p1, p2, p3, p4, p5⟩ := I0
  obtain ⟨r0, r1, r2, r3, r4, r5⟩ := I1
  go_region_with
      (first
        | (go_at_call 158; have xx := B1; refine (HN' _ (hy.below (by have hszw := (B1).size; repeat (with_reducible first | refine Below.setCell ?_ (by first | omega | (simp <;> omega)) _ | refine Below.alloc ?_ (by first | omega | (simp <;> omega)) _ | refine Below.drew ?_ | refine below_drewN ?_ _ | exact B1))) (hT.below (by have hszw := (B1).size; repeat (with_reducible first | refine Below.setCell ?_ (by first | omega | (simp <;> omega)) _ | refine Below.alloc ?_ (by first | omega | (simp <;> omega)) _ | refine Below.drew ?_ | refine below_drewN ?_ _ | exact B1)))).out.mono ?_; rintro e1 w2 ⟨a2, c2, rfl, M2, hb1, hf1⟩; have hs1 := B1.size; have hs2 := hb1.size; (try simp at hs2); (try simp at hf1); have hfr' : 0 < nl (dman d').natAbs → b1 < ab a2 := (fun h => by have := hf1 h; omega); have B2 := below_box (w := w) (by have hszw := (B1).size; repeat (with_reducible first | refine Below.setCell ?_ (by first | omega | (simp <;> omega)) _ | refine Below.alloc ?_ (by first | omega | (simp <;> omega)) _ | refine Below.drew ?_ | refine below_drewN ?_ _ | exact B1)) hb1; have M1 := Mag.below (by repeat (with_reducible first | refine Mag.set ?_ (fun h => by have := M1 h; omega) _ _ | refine Mag.drew ?_ | refine Mag.alloc ?_ _ | refine Mag.drewN ?_ _ | exact M1)) hb1; have K0 : DyV w2 b0 bd s (.slice a n cap) e := (by refine DyV.below ?_ hb1; (repeat (with_reducible first | refine DyV.drew ?_ | refine DyV.drewN ?_ _ | refine DyV.alloc ?_ _)); exact J0.out); have K1 : DyV w2 b1 bd' s' (.slice a' n' cap') e' := (by refine DyV.below ?_ hb1; (repeat (with_reducible first | refine DyV.drew ?_ | refine DyV.drewN ?_ _ | refine DyV.alloc ?_ _)); exact J1.out); clear hb1 hf1 J0 J1 p0 p1 p2 p3 p4 p5 r0 r1 r2 r3 r4 r5; obtain ⟨p0, p1, p2, p3, p4, p5⟩ := K0; obtain ⟨r0, r1, r2, r3, r4, r5⟩ := K1)
        | (go_at_call 158; refine (HN _ (hx.below (by have hszw := (B0).size; repeat (with_reducible first | refine Below.setCell ?_ (by first | omega | (simp <;> omega)) _ | refine Below.alloc ?_ (by first | omega | (simp <;> omega)) _ | refine Below.drew ?_ | refine below_drewN ?_ _ | exact B0))) (hT.below (by have hszw := (B0).size; repeat (with_reducible first | refine Below.setCell ?_ (by first | omega | (simp <;> omega)) _ | refine Below.alloc ?_ (by first | omega | (simp <;> omega)) _ | refine Below.drew ?_ | refine below_drewN ?_ _ | exact B0)))).out.mono ?_; rintro e1 w1 ⟨a1, c1, rfl, M1, hb1, hf1⟩; have hs0 := B0.size; have hs1 := hb1.size; (try simp at hs1); (try simp at hf1); have hfr : 0 < nl (dman d).natAbs → b1 < ab a1 := (fun h => by have := hf1 h; omega); have B1 := below_box (w := w) (by have hszw := (B0).size; repeat (with_reducible first | refine Below.setCell ?_ (by first | omega | (simp <;> omega)) _ | refine Below.alloc ?_ (by first | omega | (simp <;> omega)) _ | refine Below.drew ?_ | refine below_drewN ?_ _ | exact B0)) hb1; have K0 : DyV w1 b0 bd s (.slice a n cap) e := (by refine DyV.below ?_ hb1; (repeat (with_reducible first | refine DyV.drew ?_ | refine DyV.drewN ?_ _ | refine DyV.alloc ?_ _)); exact J0.out); have K1 : DyV w1 b1 bd' s' (.slice a' n' cap') e' := (by refine DyV.below ?_ hb1; (repeat (with_reducible first | refine DyV.drew ?_ | refine DyV.drewN ?_ _ | refine DyV.alloc ?_ _)); exact J1.out); clear hb1 hf1 J0 J1 p0 p1 p2 p3 p4 p5 r0 r1 r2 r3 r4 r5; have J0 := Lib.hid K0; have J1 := Lib.hid K1; obtain ⟨p0, p1, p2, p3, p4, p5⟩ := K0; obtain ⟨r0, r1, r2, r3, r4, r5⟩ := K1)
        | fail)
  all_goals (
  go_wp2_with fail
  go_ret
  exact ⟨rfl, (by have hszw := (B2).size; repeat (with_reducible first | refine Below.setCell ?_ (by first | omega | (simp <;> omega)) _ | refine Below.alloc ?_ (by first | omega | (simp <;> omega)) _ | refine Below.drew ?_ | refine below_drewN ?_ _ | exact B2))⟩)

set_option maxRecDepth 100000 in
set_option maxHeartbeats 2000000 in
theorem wquo_z2 (w : World) (bd s bd' s' : Bool) (a a' : Option Addr) (n n' cap cap' : Nat) (e e' mode : Int) (d d' : Option (Int × Int)) (hx : DyIn w bd s a n cap e d) (hy : DyIn w bd' s' a' n' cap' e' d') (hT : Tab w) (hbd : dbad d = false) (hbd' : dbad d' = false) (hz : dman d' = 0) :
    Calls Tryz.prog 44 #[.agg #[.bool bd, .bool s, .slice a n cap, .int .i64 e], .agg #[.bool bd', .bool s', .slice a' n' cap', .int .i64 e'], .int .i64 mode] w fun o w' => o = .returned (.int .u64 9221120237041090560) ∧ Below w.heap.size w w' := by
  have HN := fun W h ht => Lib.hid (@dNorm_d W bd s a n cap e d h ht)
  have HN' := fun W h ht => Lib.hid (@dNorm_d W bd' s' a' n' cap' e' d' h ht)
  have hN := Lib.hid hx.isN
  have hN' := Lib.hid hy.isN
  have HG' := fun W b c (h : Mag W b (nl (dman d').natAbs) c (dman d').natAbs) ht => Lib.hid (dsign_any W (dbad d') (decide (dman d' < 0)) b _ c (dexp d') d' (dyin_of hN'.out h) ht)
  rw [hbd'] at HG'
  obtain ⟨g', hg'⟩ : ∃ g', g' = cmpI (dman d') 0 := ⟨_, rfl⟩
  rw [← hg'] at HG'
  have hge : (g' == 0) = true := by rw [hg', hz]; rfl
  clear hg'
  have HZ := Lib.hid hz
  clear hz
  go_enter Tryz.func44, Tryz.ntmps44
  go_wp2_with fail
  have I0 := (DyV.made w 26 bd s (.slice a n cap) e).alloc (.cells #[.bool bd', .bool s', .slice a' n' cap', .int .i64 e'] 26)
  have I1 := DyV.made' (w.alloc (.cells #[.bool bd, .bool s, .slice a n cap, .int .i64 e] 26)) 26 bd' s' (.slice a' n' cap') e' (n := w.heap.size + 1) (by rw [World.size_alloc])
  have B0 : Below w.heap.size w ((w.alloc (.cells #[.bool bd, .bool s, .slice a n cap, .int .i64 e] 26)).alloc (.cells #[.bool bd', .bool s', .slice a' n' cap', .int .i64 e'] 26)) := (by repeat (with_reducible first | refine Below.setCell ?_ (by simp <;> omega) _ | refine Below.alloc ?_ (by simp <;> omega) _ | refine Below.drew ?_ | refine below_drewN ?_ _ | exact Below.refl _ _))
  generalize ((w.alloc (.cells #[.bool bd, .bool s, .slice a n cap, .int .i64 e] 26)).alloc (.cells #[.bool bd', .bool s', .slice a' n' cap', .int .i64 e'] 26)) = w0 at I0 I1 B0 ⊢
  have ne01 : ¬ w.heap.size = w.heap.size + 1 := by omega
  have ne10 : ¬ w.heap.size + 1 = w.heap.size := by omega
  generalize hz1 : w.heap.size + 1 = b1 at I1 ne01 ne10 ⊢
  generalize hz0 : w.heap.size = b0 at I0 ne01 ne10 ⊢
  have hlt := I1.lt
  have J0 := Lib.hid I0
  have J1 := Lib.hid I1
  obtain ⟨p0, p1, p2, p3, p4, p5⟩ := I0
  obtain ⟨r0, r1, r2, r3, r4, r5⟩ := I1
  go_region_with
      (first
        | (go_at_call 158; have xx := B1; refine (HN' _ (hy.below (by have hszw := (B1).size; repeat (with_reducible first | refine Below.setCell ?_ (by first | omega | (simp <;> omega)) _ | refine Below.alloc ?_ (by first | omega | (simp <;> omega)) _ | refine Below.drew ?_ | refine below_drewN ?_ _ | exact B1))) (hT.below (by have hszw := (B1).size; repeat (with_reducible first | refine Below.setCell ?_ (by first | omega | (simp <;> omega)) _ | refine Below.alloc ?_ (by first | omega | (simp <;> omega)) _ | refine Below.drew ?_ | refine below_drewN ?_ _ | exact B1)))).out.mono ?_; rintro e1 w2 ⟨a2, c2, rfl, M2, hb1, hf1⟩; have hs1 := B1.size; have hs2 := hb1.size; (try simp at hs2); (try simp at hf1); have hfr' : 0 < nl (dman d').natAbs → b1 < ab a2 := (fun h => by have := hf1 h; omega); have B2 := below_box (w := w) (by have hszw := (B1).size; repeat (with_reducible first | refine Below.setCell ?_ (by first | omega | (simp <;> omega)) _ | refine Below.alloc ?_ (by first | omega | (simp <;> omega)) _ | refine Below.drew ?_ | refine below_drewN ?_ _ | exact B1)) hb1; have M1 := Mag.below (by repeat (with_reducible first | refine Mag.set ?_ (fun h => by have := M1 h; omega) _ _ | refine Mag.drew ?_ | refine Mag.alloc ?_ _ | refine Mag.drewN ?_ _ | exact M1)) hb1; have K0 : DyV w2 b0 bd s (.slice a n cap) e := (by refine DyV.below ?_ hb1; (repeat (with_reducible first | refine DyV.drew ?_ | refine DyV.drewN ?_ _ | refine DyV.alloc ?_ _)); exact J0.out); have K1 : DyV w2 b1 bd' s' (.slice a' n' cap') e' := (by refine DyV.below ?_ hb1; (repeat (with_reducible first | refine DyV.drew ?_ | refine DyV.drewN ?_ _ | refine DyV.alloc ?_ _)); exact J1.out); clear hb1 hf1 J0 J1 p0 p1 p2 p3 p4 p5 r0 r1 r2 r3 r4 r5; obtain ⟨p0, p1, p2, p3, p4, p5⟩ := K0; obtain ⟨r0, r1, r2, r3, r4, r5⟩ := K1)
        | (go_at_call 158; refine (HN _ (hx.below (by have hszw := (B0).size; repeat (with_reducible first | refine Below.setCell ?_ (by first | omega | (simp <;> omega)) _ | refine Below.alloc ?_ (by first | omega | (simp <;> omega)) _ | refine Below.drew ?_ | refine below_drewN ?_ _ | exact B0))) (hT.below (by have hszw := (B0).size; repeat (with_reducible first | refine Below.setCell ?_ (by first | omega | (simp <;> omega)) _ | refine Below.alloc ?_ (by first | omega | (simp <;> omega)) _ | refine Below.drew ?_ | refine below_drewN ?_ _ | exact B0)))).out.mono ?_; rintro e1 w1 ⟨a1, c1, rfl, M1, hb1, hf1⟩; have hs0 := B0.size; have hs1 := hb1.size; (try simp at hs1); (try simp at hf1); have hfr : 0 < nl (dman d).natAbs → b1 < ab a1 := (fun h => by have := hf1 h; omega); have B1 := below_box (w := w) (by have hszw := (B0).size; repeat (with_reducible first | refine Below.setCell ?_ (by first | omega | (simp <;> omega)) _ | refine Below.alloc ?_ (by first | omega | (simp <;> omega)) _ | refine Below.drew ?_ | refine below_drewN ?_ _ | exact B0)) hb1; have K0 : DyV w1 b0 bd s (.slice a n cap) e := (by refine DyV.below ?_ hb1; (repeat (with_reducible first | refine DyV.drew ?_ | refine DyV.drewN ?_ _ | refine DyV.alloc ?_ _)); exact J0.out); have K1 : DyV w1 b1 bd' s' (.slice a' n' cap') e' := (by refine DyV.below ?_ hb1; (repeat (with_reducible first | refine DyV.drew ?_ | refine DyV.drewN ?_ _ | refine DyV.alloc ?_ _)); exact J1.out); clear hb1 hf1 J0 J1 p0 p1 p2 p3 p4 p5 r0 r1 r2 r3 r4 r5; have J0 := Lib.hid K0; have J1 := Lib.hid K1; obtain ⟨p0, p1, p2, p3, p4, p5⟩ := K0; obtain ⟨r0, r1, r2, r3, r4, r5⟩ := K1)
        | fail)
  all_goals (
  go_wp2_with fail
  have hzb : w.heap.size ≤ b0 := by omega
  have hzc : w.heap.size ≤ b1 := by omega
  have B3 : Below w.heap.size w ((((((((w2.setCell ⟨b0, 0, none⟩ (.bool false)).setCell ⟨b0, 1, none⟩ (.bool (decide (dman d < 0)))).setCell ⟨b0, 2, none⟩ (.slice a1 (nl (dman d).natAbs) c1)).setCell ⟨b0, 3, none⟩ (.int .i64 (dexp d))).setCell ⟨b1, 0, none⟩ (.bool false)).setCell ⟨b1, 1, none⟩ (.bool (decide (dman d' < 0)))).setCell ⟨b1, 2, none⟩ (.slice a2 (nl (dman d').natAbs) c2)).setCell ⟨b1, 3, none⟩ (.int .i64 (dexp d'))) := (((((((B2.setCell hzb _).setCell hzb _).setCell hzb _).setCell hzb _).setCell hzc _).setCell hzc _).setCell hzc _).setCell hzc _
  have K0 : DyV ((((((((w2.setCell ⟨b0, 0, none⟩ (.bool false)).setCell ⟨b0, 1, none⟩ (.bool (decide (dman d < 0)))).setCell ⟨b0, 2, none⟩ (.slice a1 (nl (dman d).natAbs) c1)).setCell ⟨b0, 3, none⟩ (.int .i64 (dexp d))).setCell ⟨b1, 0, none⟩ (.bool false)).setCell ⟨b1, 1, none⟩ (.bool (decide (dman d' < 0)))).setCell ⟨b1, 2, none⟩ (.slice a2 (nl (dman d').natAbs) c2)).setCell ⟨b1, 3, none⟩ (.int .i64 (dexp d'))) b0 false (decide (dman d < 0)) (.slice a1 (nl (dman d).natAbs) c1) (dexp d) := ⟨by go_simp, by go_simp, by go_simp, by go_simp, fun i => by go_simp, by simpa using p5⟩
  have K1 : DyV ((((((((w2.setCell ⟨b0, 0, none⟩ (.bool false)).setCell ⟨b0, 1, none⟩ (.bool (decide (dman d < 0)))).setCell ⟨b0, 2, none⟩ (.slice a1 (nl (dman d).natAbs) c1)).setCell ⟨b0, 3, none⟩ (.int .i64 (dexp d))).setCell ⟨b1, 0, none⟩ (.bool false)).setCell ⟨b1, 1, none⟩ (.bool (decide (dman d' < 0)))).setCell ⟨b1, 2, none⟩ (.slice a2 (nl (dman d').natAbs) c2)).setCell ⟨b1, 3, none⟩ (.int .i64 (dexp d'))) b1 false (decide (dman d' < 0)) (.slice a2 (nl (dman d').natAbs) c2) (dexp d') := ⟨by go_simp, by go_simp, by go_simp, by go_simp, fun i => by go_simp, by simpa using r5⟩
  have ne0x : 0 < nl (dman d).natAbs → ab a1 ≠ b0 := fun h => by have := hfr h; omega
  have ne1x : 0 < nl (dman d).natAbs → ab a1 ≠ b1 := fun h => by have := hfr h; omega
  have ne0y : 0 < nl (dman d').natAbs → ab a2 ≠ b0 := fun h => by have := hfr' h; omega
  have ne1y : 0 < nl (dman d').natAbs → ab a2 ≠ b1 := fun h => by have := hfr' h; omega
  have m1 := ((((((((((M1).set ne0x 0 (.bool false)).set ne0x 1 (.bool (decide (dman d < 0)))).set ne0x 2 (.slice a1 (nl (dman d).natAbs) c1)).set ne0x 3 (.int .i64 (dexp d)))).set ne1x 0 (.bool false)).set ne1x 1 (.bool (decide (dman d' < 0)))).set ne1x 2 (.slice a2 (nl (dman d').natAbs) c2)).set ne1x 3 (.int .i64 (dexp d')))
  have m2 := ((((((((((M2).set ne0y 0 (.bool false)).set ne0y 1 (.bool (decide (dman d < 0)))).set ne0y 2 (.slice a1 (nl (dman d).natAbs) c1)).set ne0y 3 (.int .i64 (dexp d)))).set ne1y 0 (.bool false)).set ne1y 1 (.bool (decide (dman d' < 0)))).set ne1y 2 (.slice a2 (nl (dman d').natAbs) c2)).set ne1y 3 (.int .i64 (dexp d')))
  generalize ((((((((w2.setCell ⟨b0, 0, none⟩ (.bool false)).setCell ⟨b0, 1, none⟩ (.bool (decide (dman d < 0)))).setCell ⟨b0, 2, none⟩ (.slice a1 (nl (dman d).natAbs) c1)).setCell ⟨b0, 3, none⟩ (.int .i64 (dexp d))).setCell ⟨b1, 0, none⟩ (.bool false)).setCell ⟨b1, 1, none⟩ (.bool (decide (dman d' < 0)))).setCell ⟨b1, 2, none⟩ (.slice a2 (nl (dman d').natAbs) c2)).setCell ⟨b1, 3, none⟩ (.int .i64 (dexp d'))) = w3 at B3 K0 K1 m1 m2 ⊢
  clear p0 p1 p2 p3 p4 p5 r0 r1 r2 r3 r4 r5 M1 M2 B2
  refine (HG' _ a2 c2 m2 (hT.below B3)).out.mono ?_
  rintro e1 w4 ⟨rfl, hb⟩
  have B4 := below_box (w := w) B3 hb
  have m1 := m1.below hb
  have m2 := m2.below hb
  have K0 := K0.below hb
  have K1 := K1.below hb
  clear hb
  have J0 := Lib.hid K0
  have J1 := Lib.hid K1
  obtain ⟨p0, p1, p2, p3, p4, p5⟩ := K0
  obtain ⟨r0, r1, r2, r3, r4, r5⟩ := K1
  have K0 := J0.out
  have K1 := J1.out
  have K0 := Lib.hid K0
  have K1 := Lib.hid K1
  clear J0 J1
  go_wp2_with fail
  go_ret
  exact ⟨rfl, B4⟩)

set_option maxRecDepth 100000 in
set_option maxHeartbeats 2000000 in
theorem wquo_z1 (w : World) (bd s bd' s' : Bool) (a a' : Option Addr) (n n' cap cap' : Nat) (e e' mode : Int) (d d' : Option (Int × Int)) (hx : DyIn w bd s a n cap e d) (hy : DyIn w bd' s' a' n' cap' e' d') (hT : Tab w) (hbd : dbad d = false) (hbd' : dbad d' = false) (hz' : dman d' ≠ 0) (hz : dman d = 0) :
    Calls Tryz.prog 44 #[.agg #[.bool bd, .bool s, .slice a n cap, .int .i64 e], .agg #[.bool bd', .bool s', .slice a' n' cap', .int .i64 e'], .int .i64 mode] w fun o w' => o = .returned (.int .u64 0) ∧ Below w.heap.size w w' := by
  have HN := fun W h ht => Lib.hid (@dNorm_d W bd s a n cap e d h ht)
  have HN' := fun W h ht => Lib.hid (@dNorm_d W bd' s' a' n' cap' e' d' h ht)
  have hN := Lib.hid hx.isN
  have hN' := Lib.hid hy.isN
  have HG' := fun W b c (h : Mag W b (nl (dman d').natAbs) c (dman d').natAbs) ht => Lib.hid (dsign_any W (dbad d') (decide (dman d' < 0)) b _ c (dexp d') d' (dyin_of hN'.out h) ht)
  rw [hbd'] at HG'
  obtain ⟨g', hg'⟩ : ∃ g', g' = cmpI (dman d') 0 := ⟨_, rfl⟩
  rw [← hg'] at HG'
  have hge' : (g' == 0) = false := by rw [hg']; unfold cmpI; split <;> (try split) <;> first | decide | (exfalso; omega)
  have HG := fun W b c (h : Mag W b (nl (dman d).natAbs) c (dman d).natAbs) ht => Lib.hid (dsign_any W (dbad d) (decide (dman d < 0)) b _ c (dexp d) d (dyin_of hN.out h) ht)
  rw [hbd] at HG
  obtain ⟨g, hg⟩ : ∃ g, g = cmpI (dman d) 0 := ⟨_, rfl⟩
  rw [← hg] at HG
  have hge : (g == 0) = true := by rw [hg, hz]; rfl
  clear hg hg' hz'
  have HZ := Lib.hid hz
  clear hz
  go_enter Tryz.func44, Tryz.ntmps44
  go_wp2_with fail
  have I0 := (DyV.made w 26 bd s (.slice a n cap) e).alloc (.cells #[.bool bd', .bool s', .slice a' n' cap', .int .i64 e'] 26)
  have I1 := DyV.made' (w.alloc (.cells #[.bool bd, .bool s, .slice a n cap, .int .i64 e] 26)) 26 bd' s' (.slice a' n' cap') e' (n := w.heap.size + 1) (by rw [World.size_alloc])
  have B0 : Below w.heap.size w ((w.alloc (.cells #[.bool bd, .bool s, .slice a n cap, .int .i64 e] 26)).alloc (.cells #[.bool bd', .bool s', .slice a' n' cap', .int .i64 e'] 26)) := (by repeat (with_reducible first | refine Below.setCell ?_ (by simp <;> omega) _ | refine Below.alloc ?_ (by simp <;> omega) _ | refine Below.drew ?_ | refine below_drewN ?_ _ | exact Below.refl _ _))
  generalize ((w.alloc (.cells #[.bool bd, .bool s, .slice a n cap, .int .i64 e] 26)).alloc (.cells #[.bool bd', .bool s', .slice a' n' cap', .int .i64 e'] 26)) = w0 at I0 I1 B0 ⊢
  have ne01 : ¬ w.heap.size = w.heap.size + 1 := by omega
  have ne10 : ¬ w.heap.size + 1 = w.heap.size := by omega
  generalize hz1 : w.heap.size + 1 = b1 at I1 ne01 ne10 ⊢
  generalize hz0 : w.heap.size = b0 at I0 ne01 ne10 ⊢
  have hlt := I1.lt
  have J0 := Lib.hid I0
  have J1 := Lib.hid I1
  obtain ⟨p0, p1, p2, p3, p4, p5⟩ := I0
  obtain ⟨r0, r1, r2, r3, r4, r5⟩ := I1
  go_region_with
      (first
        | (go_at_call 158; have xx := B1; refine (HN' _ (hy.below (by have hszw := (B1).size; repeat (with_reducible first | refine Below.setCell ?_ (by first | omega | (simp <;> omega)) _ | refine Below.alloc ?_ (by first | omega | (simp <;> omega)) _ | refine Below.drew ?_ | refine below_drewN ?_ _ | exact B1))) (hT.below (by have hszw := (B1).size; repeat (with_reducible first | refine Below.setCell ?_ (by first | omega | (simp <;> omega)) _ | refine Below.alloc ?_ (by first | omega | (simp <;> omega)) _ | refine Below.drew ?_ | refine below_drewN ?_ _ | exact B1)))).out.mono ?_; rintro e1 w2 ⟨a2, c2, rfl, M2, hb1, hf1⟩; have hs1 := B1.size; have hs2 := hb1.size; (try simp at hs2); (try simp at hf1); have hfr' : 0 < nl (dman d').natAbs → b1 < ab a2 := (fun h => by have := hf1 h; omega); have B2 := below_box (w := w) (by have hszw := (B1).size; repeat (with_reducible first | refine Below.setCell ?_ (by first | omega | (simp <;> omega)) _ | refine Below.alloc ?_ (by first | omega | (simp <;> omega)) _ | refine Below.drew ?_ | refine below_drewN ?_ _ | exact B1)) hb1; have M1 := Mag.below (by repeat (with_reducible first | refine Mag.set ?_ (fun h => by have := M1 h; omega) _ _ | refine Mag.drew ?_ | refine Mag.alloc ?_ _ | refine Mag.drewN ?_ _ | exact M1)) hb1; have K0 : DyV w2 b0 bd s (.slice a n cap) e := (by refine DyV.below ?_ hb1; (repeat (with_reducible first | refine DyV.drew ?_ | refine DyV.drewN ?_ _ | refine DyV.alloc ?_ _)); exact J0.out); have K1 : DyV w2 b1 bd' s' (.slice a' n' cap') e' := (by refine DyV.below ?_ hb1; (repeat (with_reducible first | refine DyV.drew ?_ | refine DyV.drewN ?_ _ | refine DyV.alloc ?_ _)); exact J1.out); clear hb1 hf1 J0 J1 p0 p1 p2 p3 p4 p5 r0 r1 r2 r3 r4 r5; obtain ⟨p0, p1, p2, p3, p4, p5⟩ := K0; obtain ⟨r0, r1, r2, r3, r4, r5⟩ := K1)
        | (go_at_call 158; refine (HN _ (hx.below (by have hszw := (B0).size; repeat (with_reducible first | refine Below.setCell ?_ (by first | omega | (simp <;> omega)) _ | refine Below.alloc ?_ (by first | omega | (simp <;> omega)) _ | refine Below.drew ?_ | refine below_drewN ?_ _ | exact B0))) (hT.below (by have hszw := (B0).size; repeat (with_reducible first | refine Below.setCell ?_ (by first | omega | (simp <;> omega)) _ | refine Below.alloc ?_ (by first | omega | (simp <;> omega)) _ | refine Below.drew ?_ | refine below_drewN ?_ _ | exact B0)))).out.mono ?_; rintro e1 w1 ⟨a1, c1, rfl, M1, hb1, hf1⟩; have hs0 := B0.size; have hs1 := hb1.size; (try simp at hs1); (try simp at hf1); have hfr : 0 < nl (dman d).natAbs → b1 < ab a1 := (fun h => by have := hf1 h; omega); have B1 := below_box (w := w) (by have hszw := (B0).size; repeat (with_reducible first | refine Below.setCell ?_ (by first | omega | (simp <;> omega)) _ | refine Below.alloc ?_ (by first | omega | (simp <;> omega)) _ | refine Below.drew ?_ | refine below_drewN ?_ _ | exact B0)) hb1; have K0 : DyV w1 b0 bd s (.slice a n cap) e := (by refine DyV.below ?_ hb1; (repeat (with_reducible first | refine DyV.drew ?_ | refine DyV.drewN ?_ _ | refine DyV.alloc ?_ _)); exact J0.out); have K1 : DyV w1 b1 bd' s' (.slice a' n' cap') e' := (by refine DyV.below ?_ hb1; (repeat (with_reducible first | refine DyV.drew ?_ | refine DyV.drewN ?_ _ | refine DyV.alloc ?_ _)); exact J1.out); clear hb1 hf1 J0 J1 p0 p1 p2 p3 p4 p5 r0 r1 r2 r3 r4 r5; have J0 := Lib.hid K0; have J1 := Lib.hid K1; obtain ⟨p0, p1, p2, p3, p4, p5⟩ := K0; obtain ⟨r0, r1, r2, r3, r4, r5⟩ := K1)
        | fail)
  all_goals (
  go_wp2_with fail
  have hzb : w.heap.size ≤ b0 := by omega
  have hzc : w.heap.size ≤ b1 := by omega
  have B3 : Below w.heap.size w ((((((((w2.setCell ⟨b0, 0, none⟩ (.bool false)).setCell ⟨b0, 1, none⟩ (.bool (decide (dman d < 0)))).setCell ⟨b0, 2, none⟩ (.slice a1 (nl (dman d).natAbs) c1)).setCell ⟨b0, 3, none⟩ (.int .i64 (dexp d))).setCell ⟨b1, 0, none⟩ (.bool false)).setCell ⟨b1, 1, none⟩ (.bool (decide (dman d' < 0)))).setCell ⟨b1, 2, none⟩ (.slice a2 (nl (dman d').natAbs) c2)).setCell ⟨b1, 3, none⟩ (.int .i64 (dexp d'))) := (((((((B2.setCell hzb _).setCell hzb _).setCell hzb _).setCell hzb _).setCell hzc _).setCell hzc _).setCell hzc _).setCell hzc _
  have K0 : DyV ((((((((w2.setCell ⟨b0, 0, none⟩ (.bool false)).setCell ⟨b0, 1, none⟩ (.bool (decide (dman d < 0)))).setCell ⟨b0, 2, none⟩ (.slice a1 (nl (dman d).natAbs) c1)).setCell ⟨b0, 3, none⟩ (.int .i64 (dexp d))).setCell ⟨b1, 0, none⟩ (.bool false)).setCell ⟨b1, 1, none⟩ (.bool (decide (dman d' < 0)))).setCell ⟨b1, 2, none⟩ (.slice a2 (nl (dman d').natAbs) c2)).setCell ⟨b1, 3, none⟩ (.int .i64 (dexp d'))) b0 false (decide (dman d < 0)) (.slice a1 (nl (dman d).natAbs) c1) (dexp d) := ⟨by go_simp, by go_simp, by go_simp, by go_simp, fun i => by go_simp, by simpa using p5⟩
  have K1 : DyV ((((((((w2.setCell ⟨b0, 0, none⟩ (.bool false)).setCell ⟨b0, 1, none⟩ (.bool (decide (dman d < 0)))).setCell ⟨b0, 2, none⟩ (.slice a1 (nl (dman d).natAbs) c1)).setCell ⟨b0, 3, none⟩ (.int .i64 (dexp d))).setCell ⟨b1, 0, none⟩ (.bool false)).setCell ⟨b1, 1, none⟩ (.bool (decide (dman d' < 0)))).setCell ⟨b1, 2, none⟩ (.slice a2 (nl (dman d').natAbs) c2)).setCell ⟨b1, 3, none⟩ (.int .i64 (dexp d'))) b1 false (decide (dman d' < 0)) (.slice a2 (nl (dman d').natAbs) c2) (dexp d') := ⟨by go_simp, by go_simp, by go_simp, by go_simp, fun i => by go_simp, by simpa using r5⟩
  have ne0x : 0 < nl (dman d).natAbs → ab a1 ≠ b0 := fun h => by have := hfr h; omega
  have ne1x : 0 < nl (dman d).natAbs → ab a1 ≠ b1 := fun h => by have := hfr h; omega
  have ne0y : 0 < nl (dman d').natAbs → ab a2 ≠ b0 := fun h => by have := hfr' h; omega
  have ne1y : 0 < nl (dman d').natAbs → ab a2 ≠ b1 := fun h => by have := hfr' h; omega
  have m1 := ((((((((((M1).set ne0x 0 (.bool false)).set ne0x 1 (.bool (decide (dman d < 0)))).set ne0x 2 (.slice a1 (nl (dman d).natAbs) c1)).set ne0x 3 (.int .i64 (dexp d)))).set ne1x 0 (.bool false)).set ne1x 1 (.bool (decide (dman d' < 0)))).set ne1x 2 (.slice a2 (nl (dman d').natAbs) c2)).set ne1x 3 (.int .i64 (dexp d')))
  have m2 := ((((((((((M2).set ne0y 0 (.bool false)).set ne0y 1 (.bool (decide (dman d < 0)))).set ne0y 2 (.slice a1 (nl (dman d).natAbs) c1)).set ne0y 3 (.int .i64 (dexp d)))).set ne1y 0 (.bool false)).set ne1y 1 (.bool (decide (dman d' < 0)))).set ne1y 2 (.slice a2 (nl (dman d').natAbs) c2)).set ne1y 3 (.int .i64 (dexp d')))
  generalize ((((((((w2.setCell ⟨b0, 0, none⟩ (.bool false)).setCell ⟨b0, 1, none⟩ (.bool (decide (dman d < 0)))).setCell ⟨b0, 2, none⟩ (.slice a1 (nl (dman d).natAbs) c1)).setCell ⟨b0, 3, none⟩ (.int .i64 (dexp d))).setCell ⟨b1, 0, none⟩ (.bool false)).setCell ⟨b1, 1, none⟩ (.bool (decide (dman d' < 0)))).setCell ⟨b1, 2, none⟩ (.slice a2 (nl (dman d').natAbs) c2)).setCell ⟨b1, 3, none⟩ (.int .i64 (dexp d'))) = w3 at B3 K0 K1 m1 m2 ⊢
  clear p0 p1 p2 p3 p4 p5 r0 r1 r2 r3 r4 r5 M1 M2 B2
  refine (HG' _ a2 c2 m2 (hT.below B3)).out.mono ?_
  rintro e1 w4 ⟨rfl, hb⟩
  have B4 := below_box (w := w) B3 hb
  have m1 := m1.below hb
  have m2 := m2.below hb
  have K0 := K0.below hb
  have K1 := K1.below hb
  clear hb
  have J0 := Lib.hid K0
  have J1 := Lib.hid K1
  obtain ⟨p0, p1, p2, p3, p4, p5⟩ := K0
  obtain ⟨r0, r1, r2, r3, r4, r5⟩ := K1
  have K0 := J0.out
  have K1 := J1.out
  have K0 := Lib.hid K0
  have K1 := Lib.hid K1
  clear J0 J1
  go_wp2_with fail
  have K0 := K0.out
  have K1 := K1.out
  clear p0 p1 p2 p3 p4 p5 r0 r1 r2 r3 r4 r5
  refine (HG _ a1 c1 m1 (hT.below B4)).out.mono ?_
  rintro e1 w5 ⟨rfl, hb⟩
  have B5 := below_box (w := w) B4 hb
  have m1 := m1.below hb
  have m2 := m2.below hb
  have K0 := K0.below hb
  have K1 := K1.below hb
  clear hb
  have J0 := Lib.hid K0
  have J1 := Lib.hid K1
  obtain ⟨p0, p1, p2, p3, p4, p5⟩ := K0
  obtain ⟨r0, r1, r2, r3, r4, r5⟩ := K1
  have K0 := J0.out
  have K1 := J1.out
  have K0 := Lib.hid K0
  have K1 := Lib.hid K1
  clear J0 J1
  go_wp2_with fail
  go_ret
  exact ⟨rfl, B5⟩)

set_option maxRecDepth 100000 in
set_option maxHeartbeats 2000000 in
theorem wquo_ok (w : World) (bd s bd' s' : Bool) (a a' : Option Addr) (n n' cap cap' : Nat) (e e' mode : Int) (d d' : Option (Int × Int)) (hx : DyIn w bd s a n cap e d) (hy : DyIn w bd' s' a' n' cap' e' d') (hT : Tab w) (hbd : dbad d = false) (hbd' : dbad d' = false) (hz' : dman d' ≠ 0) (hz : dman d ≠ 0) :
    Calls Tryz.prog 44 #[.agg #[.bool bd, .bool s, .slice a n cap, .int .i64 e], .agg #[.bool bd', .bool s', .slice a' n' cap', .int .i64 e'], .int .i64 mode] w fun o w' => o = .returned (.int .u64 ((fquo d d' mode : Nat) : Int)) ∧ Below w.heap.size w w' := by
  have HN := fun W h ht => Lib.hid (@dNorm_d W bd s a n cap e d h ht)
  have HN' := fun W h ht => Lib.hid (@dNorm_d W bd' s' a' n' cap' e' d' h ht)
  have hN := Lib.hid hx.isN
  have hN' := Lib.hid hy.isN
  have HG' := fun W b c (h : Mag W b (nl (dman d').natAbs) c (dman d').natAbs) ht => Lib.hid (dsign_any W (dbad d') (decide (dman d' < 0)) b _ c (dexp d') d' (dyin_of hN'.out h) ht)
  rw [hbd'] at HG'
  obtain ⟨g', hg'⟩ : ∃ g', g' = cmpI (dman d') 0 := ⟨_, rfl⟩
  rw [← hg'] at HG'
  have hge' : (g' == 0) = false := by rw [hg']; unfold cmpI; split <;> (try split) <;> first | decide | (exfalso; omega)
  have HG := fun W b c (h : Mag W b (nl (dman d).natAbs) c (dman d).natAbs) ht => Lib.hid (dsign_any W (dbad d) (decide (dman d < 0)) b _ c (dexp d) d (dyin_of hN.out h) ht)
  rw [hbd] at HG
  obtain ⟨g, hg⟩ : ∃ g, g = cmpI (dman d) 0 := ⟨_, rfl⟩
  rw [← hg] at HG
  have hge : (g == 0) = false := by rw [hg]; unfold cmpI; split <;> (try split) <;> first | decide | (exfalso; omega)
  obtain ⟨q0, q1, q2⟩ := isN_bounds hN.out
  obtain ⟨q0', q1', q2'⟩ := isN_bounds hN'.out
  have HO := fun W b c b' c' h h' => Lib.hid (ratio_any W false false b b' c c' (dman d) (dexp d) (dman d') (dexp d') 56 h h' q0 q0' hz' (by omega) (by omega) q1 q2 q1' q2')
  have hqs : qsh (dman d) (dman d') 56 ≤ 131200 := by unfold qsh; omega
  have hV : fquo d d' mode = frnd (decide (dman d < 0) != decide (dman d' < 0)) ((dman d).natAbs * 2 ^ qsh (dman d) (dman d') 56 / (dman d').natAbs) (dexp d - qsh (dman d) (dman d') 56 - dexp d') (decide ((dman d).natAbs * 2 ^ qsh (dman d) (dman d') 56 % (dman d').natAbs ≠ 0)) mode := by
    rcases dcases d with h | ⟨m, f, h⟩
    · rw [h] at hbd; cases hbd
    · rcases dcases d' with h' | ⟨m', f', h'⟩
      · rw [h'] at hbd'; cases hbd'
      · subst h h'
        have k1 : m ≠ 0 := hz
        have k2 : m' ≠ 0 := hz'
        unfold fquo; simp only; rw [if_neg k2, if_neg k1]; rfl
  have hXb : blen ((dman d).natAbs * 2 ^ qsh (dman d) (dman d') 56 / (dman d').natAbs) ≤ 500000 := by
    refine Nat.le_trans (blen_mono (Nat.div_le_self _ _)) ?_
    rw [blen_mul_pow (by omega)]; omega
  have hX0 : 0 < (dman d).natAbs * 2 ^ qsh (dman d) (dman d') 56 / (dman d').natAbs := by
    have := qsh_ge (a := dman d) (b := dman d') hz' hz
    rcases Nat.eq_zero_or_pos ((dman d).natAbs * 2 ^ qsh (dman d) (dman d') 56 / (dman d').natAbs) with h | h
    · rw [h] at this; exact absurd this (by decide)
    · exact h
  have hE0 : -500000 ≤ dexp d - (qsh (dman d) (dman d') 56 : Int) - dexp d' := by omega
  have hE1 : dexp d - (qsh (dman d) (dman d') 56 : Int) - dexp d' ≤ 500000 := by omega
  rw [hV]
  generalize (decide ((dman d).natAbs * 2 ^ qsh (dman d) (dman d') 56 % (dman d').natAbs ≠ 0)) = mo at *
  generalize (dman d).natAbs * 2 ^ qsh (dman d) (dman d') 56 / (dman d').natAbs = X at *
  generalize dexp d - (qsh (dman d) (dman d') 56 : Int) - dexp d' = EE at *
  generalize (decide (dman d < 0) != decide (dman d' < 0)) = sg at *
  have HR := fun W b c h ht => Lib.hid (rounded_any W sg mo b c X EE mode h hX0 hXb hE0 hE1 ht)
  generalize ((frnd sg X EE mo mode : Nat) : Int) = V at *
  clear hg hg' q0 q1 q2 q0' q1' q2' hz hz' hqs hV hXb hX0 hE0 hE1
  go_enter Tryz.func44, Tryz.ntmps44
  go_wp2_with fail
  have I0 := (DyV.made w 26 bd s (.slice a n cap) e).alloc (.cells #[.bool bd', .bool s', .slice a' n' cap', .int .i64 e'] 26)
  have I1 := DyV.made' (w.alloc (.cells #[.bool bd, .bool s, .slice a n cap, .int .i64 e] 26)) 26 bd' s' (.slice a' n' cap') e' (n := w.heap.size + 1) (by rw [World.size_alloc])
  have B0 : Below w.heap.size w ((w.alloc (.cells #[.bool bd, .bool s, .slice a n cap, .int .i64 e] 26)).alloc (.cells #[.bool bd', .bool s', .slice a' n' cap', .int .i64 e'] 26)) := (by repeat (with_reducible first | refine Below.setCell ?_ (by simp <;> omega) _ | refine Below.alloc ?_ (by simp <;> omega) _ | refine Below.drew ?_ | refine below_drewN ?_ _ | exact Below.refl _ _))
  generalize ((w.alloc (.cells #[.bool bd, .bool s, .slice a n cap, .int .i64 e] 26)).alloc (.cells #[.bool bd', .bool s', .slice a' n' cap', .int .i64 e'] 26)) = w0 at I0 I1 B0 ⊢
  have ne01 : ¬ w.heap.size = w.heap.size + 1 := by omega
  have ne10 : ¬ w.heap.size + 1 = w.heap.size := by omega
  generalize hz1 : w.heap.size + 1 = b1 at I1 ne01 ne10 ⊢
  generalize hz0 : w.heap.size = b0 at I0 ne01 ne10 ⊢
  have hlt := I1.lt
  have J0 := Lib.hid I0
  have J1 := Lib.hid I1
  obtain ⟨p0, p1, p2, p3, p4, p5⟩ := I0
  obtain ⟨r0, r1, r2, r3, r4, r5⟩ := I1
  go_region_with
      (first
        | (go_at_call 158; have xx := B1; refine (HN' _ (hy.below (by have hszw := (B1).size; repeat (with_reducible first | refine Below.setCell ?_ (by first | omega | (simp <;> omega)) _ | refine Below.alloc ?_ (by first | omega | (simp <;> omega)) _ | refine Below.drew ?_ | refine below_drewN ?_ _ | exact B1))) (hT.below (by have hszw := (B1).size; repeat (with_reducible first | refine Below.setCell ?_ (by first | omega | (simp <;> omega)) _ | refine Below.alloc ?_ (by first | omega | (simp <;> omega)) _ | refine Below.drew ?_ | refine below_drewN ?_ _ | exact B1)))).out.mono ?_; rintro e1 w2 ⟨a2, c2, rfl, M2, hb1, hf1⟩; have hs1 := B1.size; have hs2 := hb1.size; (try simp at hs2); (try simp at hf1); have hfr' : 0 < nl (dman d').natAbs → b1 < ab a2 := (fun h => by have := hf1 h; omega); have B2 := below_box (w := w) (by have hszw := (B1).size; repeat (with_reducible first | refine Below.setCell ?_ (by first | omega | (simp <;> omega)) _ | refine Below.alloc ?_ (by first | omega | (simp <;> omega)) _ | refine Below.drew ?_ | refine below_drewN ?_ _ | exact B1)) hb1; have M1 := Mag.below (by repeat (with_reducible first | refine Mag.set ?_ (fun h => by have := M1 h; omega) _ _ | refine Mag.drew ?_ | refine Mag.alloc ?_ _ | refine Mag.drewN ?_ _ | exact M1)) hb1; have K0 : DyV w2 b0 bd s (.slice a n cap) e := (by refine DyV.below ?_ hb1; (repeat (with_reducible first | refine DyV.drew ?_ | refine DyV.drewN ?_ _ | refine DyV.alloc ?_ _)); exact J0.out); have K1 : DyV w2 b1 bd' s' (.slice a' n' cap') e' := (by refine DyV.below ?_ hb1; (repeat (with_reducible first | refine DyV.drew ?_ | refine DyV.drewN ?_ _ | refine DyV.alloc ?_ _)); exact J1.out); clear hb1 hf1 J0 J1 p0 p1 p2 p3 p4 p5 r0 r1 r2 r3 r4 r5; obtain ⟨p0, p1, p2, p3, p4, p5⟩ := K0; obtain ⟨r0, r1, r2, r3, r4, r5⟩ := K1)
        | (go_at_call 158; refine (HN _ (hx.below (by have hszw := (B0).size; repeat (with_reducible first | refine Below.setCell ?_ (by first | omega | (simp <;> omega)) _ | refine Below.alloc ?_ (by first | omega | (simp <;> omega)) _ | refine Below.drew ?_ | refine below_drewN ?_ _ | exact B0))) (hT.below (by have hszw := (B0).size; repeat (with_reducible first | refine Below.setCell ?_ (by first | omega | (simp <;> omega)) _ | refine Below.alloc ?_ (by first | omega | (simp <;> omega)) _ | refine Below.drew ?_ | refine below_drewN ?_ _ | exact B0)))).out.mono ?_; rintro e1 w1 ⟨a1, c1, rfl, M1, hb1, hf1⟩; have hs0 := B0.size; have hs1 := hb1.size; (try simp at hs1); (try simp at hf1); have hfr : 0 < nl (dman d).natAbs → b1 < ab a1 := (fun h => by have := hf1 h; omega); have B1 := below_box (w := w) (by have hszw := (B0).size; repeat (with_reducible first | refine Below.setCell ?_ (by first | omega | (simp <;> omega)) _ | refine Below.alloc ?_ (by first | omega | (simp <;> omega)) _ | refine Below.drew ?_ | refine below_drewN ?_ _ | exact B0)) hb1; have K0 : DyV w1 b0 bd s (.slice a n cap) e := (by refine DyV.below ?_ hb1; (repeat (with_reducible first | refine DyV.drew ?_ | refine DyV.drewN ?_ _ | refine DyV.alloc ?_ _)); exact J0.out); have K1 : DyV w1 b1 bd' s' (.slice a' n' cap') e' := (by refine DyV.below ?_ hb1; (repeat (with_reducible first | refine DyV.drew ?_ | refine DyV.drewN ?_ _ | refine DyV.alloc ?_ _)); exact J1.out); clear hb1 hf1 J0 J1 p0 p1 p2 p3 p4 p5 r0 r1 r2 r3 r4 r5; have J0 := Lib.hid K0; have J1 := Lib.hid K1; obtain ⟨p0, p1, p2, p3, p4, p5⟩ := K0; obtain ⟨r0, r1, r2, r3, r4, r5⟩ := K1)
        | fail)
  all_goals (
  go_wp2_with fail
  have hzb : w.heap.size ≤ b0 := by omega
  have hzc : w.heap.size ≤ b1 := by omega
  have B3 : Below w.heap.size w ((((((((w2.setCell ⟨b0, 0, none⟩ (.bool false)).setCell ⟨b0, 1, none⟩ (.bool (decide (dman d < 0)))).setCell ⟨b0, 2, none⟩ (.slice a1 (nl (dman d).natAbs) c1)).setCell ⟨b0, 3, none⟩ (.int .i64 (dexp d))).setCell ⟨b1, 0, none⟩ (.bool false)).setCell ⟨b1, 1, none⟩ (.bool (decide (dman d' < 0)))).setCell ⟨b1, 2, none⟩ (.slice a2 (nl (dman d').natAbs) c2)).setCell ⟨b1, 3, none⟩ (.int .i64 (dexp d'))) := (((((((B2.setCell hzb _).setCell hzb _).setCell hzb _).setCell hzb _).setCell hzc _).setCell hzc _).setCell hzc _).setCell hzc _
  have K0 : DyV ((((((((w2.setCell ⟨b0, 0, none⟩ (.bool false)).setCell ⟨b0, 1, none⟩ (.bool (decide (dman d < 0)))).setCell ⟨b0, 2, none⟩ (.slice a1 (nl (dman d).natAbs) c1)).setCell ⟨b0, 3, none⟩ (.int .i64 (dexp d))).setCell ⟨b1, 0, none⟩ (.bool false)).setCell ⟨b1, 1, none⟩ (.bool (decide (dman d' < 0)))).setCell ⟨b1, 2, none⟩ (.slice a2 (nl (dman d').natAbs) c2)).setCell ⟨b1, 3, none⟩ (.int .i64 (dexp d'))) b0 false (decide (dman d < 0)) (.slice a1 (nl (dman d).natAbs) c1) (dexp d) := ⟨by go_simp, by go_simp, by go_simp, by go_simp, fun i => by go_simp, by simpa using p5⟩
  have K1 : DyV ((((((((w2.setCell ⟨b0, 0, none⟩ (.bool false)).setCell ⟨b0, 1, none⟩ (.bool (decide (dman d < 0)))).setCell ⟨b0, 2, none⟩ (.slice a1 (nl (dman d).natAbs) c1)).setCell ⟨b0, 3, none⟩ (.int .i64 (dexp d))).setCell ⟨b1, 0, none⟩ (.bool false)).setCell ⟨b1, 1, none⟩ (.bool (decide (dman d' < 0)))).setCell ⟨b1, 2, none⟩ (.slice a2 (nl (dman d').natAbs) c2)).setCell ⟨b1, 3, none⟩ (.int .i64 (dexp d'))) b1 false (decide (dman d' < 0)) (.slice a2 (nl (dman d').natAbs) c2) (dexp d') := ⟨by go_simp, by go_simp, by go_simp, by go_simp, fun i => by go_simp, by simpa using r5⟩
  have ne0x : 0 < nl (dman d).natAbs → ab a1 ≠ b0 := fun h => by have := hfr h; omega
  have ne1x : 0 < nl (dman d).natAbs → ab a1 ≠ b1 := fun h => by have := hfr h; omega
  have ne0y : 0 < nl (dman d').natAbs → ab a2 ≠ b0 := fun h => by have := hfr' h; omega
  have ne1y : 0 < nl (dman d').natAbs → ab a2 ≠ b1 := fun h => by have := hfr' h; omega
  have m1 := ((((((((((M1).set ne0x 0 (.bool false)).set ne0x 1 (.bool (decide (dman d < 0)))).set ne0x 2 (.slice a1 (nl (dman d).natAbs) c1)).set ne0x 3 (.int .i64 (dexp d)))).set ne1x 0 (.bool false)).set ne1x 1 (.bool (decide (dman d' < 0)))).set ne1x 2 (.slice a2 (nl (dman d').natAbs) c2)).set ne1x 3 (.int .i64 (dexp d')))
  have m2 := ((((((((((M2).set ne0y 0 (.bool false)).set ne0y 1 (.bool (decide (dman d < 0)))).set ne0y 2 (.slice a1 (nl (dman d).natAbs) c1)).set ne0y 3 (.int .i64 (dexp d)))).set ne1y 0 (.bool false)).set ne1y 1 (.bool (decide (dman d' < 0)))).set ne1y 2 (.slice a2 (nl (dman d').natAbs) c2)).set ne1y 3 (.int .i64 (dexp d')))
  generalize ((((((((w2.setCell ⟨b0, 0, none⟩ (.bool false)).setCell ⟨b0, 1, none⟩ (.bool (decide (dman d < 0)))).setCell ⟨b0, 2, none⟩ (.slice a1 (nl (dman d).natAbs) c1)).setCell ⟨b0, 3, none⟩ (.int .i64 (dexp d))).setCell ⟨b1, 0, none⟩ (.bool false)).setCell ⟨b1, 1, none⟩ (.bool (decide (dman d' < 0)))).setCell ⟨b1, 2, none⟩ (.slice a2 (nl (dman d').natAbs) c2)).setCell ⟨b1, 3, none⟩ (.int .i64 (dexp d'))) = w3 at B3 K0 K1 m1 m2 ⊢
  clear p0 p1 p2 p3 p4 p5 r0 r1 r2 r3 r4 r5 M1 M2 B2
  refine (HG' _ a2 c2 m2 (hT.below B3)).out.mono ?_
  rintro e1 w4 ⟨rfl, hb⟩
  have B4 := below_box (w := w) B3 hb
  have m1 := m1.below hb
  have m2 := m2.below hb
  have K0 := K0.below hb
  have K1 := K1.below hb
  clear hb
  have J0 := Lib.hid K0
  have J1 := Lib.hid K1
  obtain ⟨p0, p1, p2, p3, p4, p5⟩ := K0
  obtain ⟨r0, r1, r2, r3, r4, r5⟩ := K1
  have K0 := J0.out
  have K1 := J1.out
  have K0 := Lib.hid K0
  have K1 := Lib.hid K1
  clear J0 J1
  go_wp2_with fail
  have K0 := K0.out
  have K1 := K1.out
  clear p0 p1 p2 p3 p4 p5 r0 r1 r2 r3 r4 r5
  refine (HG _ a1 c1 m1 (hT.below B4)).out.mono ?_
  rintro e1 w5 ⟨rfl, hb⟩
  have B5 := below_box (w := w) B4 hb
  have m1 := m1.below hb
  have m2 := m2.below hb
  have K0 := K0.below hb
  have K1 := K1.below hb
  clear hb
  have J0 := Lib.hid K0
  have J1 := Lib.hid K1
  obtain ⟨p0, p1, p2, p3, p4, p5⟩ := K0
  obtain ⟨r0, r1, r2, r3, r4, r5⟩ := K1
  have K0 := J0.out
  have K1 := J1.out
  have K0 := Lib.hid K0
  have K1 := Lib.hid K1
  clear J0 J1
  go_wp2_with fail
  refine (HO _ a1 c1 a2 c2 m1 m2).out.mono ?_
  rintro e1 w6 ⟨a4, c4, rfl, m4, hb, _⟩
  have B6 := below_box (w := w) B5 hb
  clear hb p0 p1 p2 p3 p4 p5 r0 r1 r2 r3 r4 r5 K0 K1
  go_wp2_with fail
  refine (HR _ a4 c4 m4 (hT.below B6)).out.mono ?_
  rintro e1 w7 ⟨rfl, hb⟩
  have B7 := below_box (w := w) B6 hb
  go_wp2_with fail
  go_ret
  exact ⟨rfl, B7⟩)

theorem wquo_any (w : World) (bd s bd' s' : Bool) (a a' : Option Addr) (n n' cap cap' : Nat) (e e' mode : Int) (d d' : Option (Int × Int)) (hx : DyIn w bd s a n cap e d) (hy : DyIn w bd' s' a' n' cap' e' d') (hT : Tab w) :
    Calls Tryz.prog 44 #[.agg #[.bool bd, .bool s, .slice a n cap, .int .i64 e], .agg #[.bool bd', .bool s', .slice a' n' cap', .int .i64 e'], .int .i64 mode] w fun o w' => o = .returned (.int .u64 (fquo d d' mode : Nat)) ∧ Below w.heap.size w w' := by
  rcases dcases d with rfl | ⟨m, f, rfl⟩
  · exact wquo_b1 w bd s bd' s' a a' n n' cap cap' e e' mode none d' hx hy hT rfl
  · rcases dcases d' with rfl | ⟨m', f', rfl⟩
    · exact wquo_b2 w bd s bd' s' a a' n n' cap cap' e e' mode _ none hx hy hT rfl rfl
    · by_cases h2 : m' = 0
      · have := wquo_z2 w bd s bd' s' a a' n n' cap cap' e e' mode _ _ hx hy hT rfl rfl h2
        rwa [show fquo (some (m, f)) (some (m', f')) mode = fNaN by unfold fquo; simp only; rw [if_pos h2]]
      · by_cases h1 : m = 0
        · have := wquo_z1 w bd s bd' s' a a' n n' cap cap' e e' mode _ _ hx hy hT rfl rfl h2 h1
          rwa [show fquo (some (m, f)) (some (m', f')) mode = 0 by unfold fquo; simp only; rw [if_neg h2, if_pos h1]]
        · exact wquo_ok w bd s bd' s' a a' n n' cap cap' e e' mode _ _ hx hy hT rfl rfl h2 h1

end Go.Proofs.YtakbappmkdaioaaGreatDoor

