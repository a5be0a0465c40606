/-
  Walks: the reference's dyads: Cmp, Add, Sub, Mul.
-/
import Derived.Test.YtmpcikkimcehnaaGreatDoorZiRva
namespace Go.Proofs.YtmpcikkimcehnaaGreatDoor
open Go.RowKit Sp

set_option maxRecDepth 100000 in
set_option maxHeartbeats 2000000 in
theorem rdcmp_bad1 (w : World) (bd s bd' s' : Bool) (a a' : Option Addr) (n n' cap cap' : Nat) (e e' : Int) (d d' : Option (Int × Int)) (hx : DyIs w bd s a n cap e d) (hy : DyIs w bd' s' a' n' cap' e' d') (hT : Tab w) (hb : dbad d = true) :
    Calls Tryz.prog 212 #[.agg #[.bool bd, .bool s, .slice a n cap, .int .i64 e], .agg #[.bool bd', .bool s', .slice a' n' cap', .int .i64 e']] w fun o w' => o = .returned (.tuple #[.int .i64 0, .bool false]) ∧ Below w.heap.size w w' := by
  have HN := fun W h ht => Lib.hid (@rdnorm_in W bd s a n cap e d h ht)
  have HN' := fun W h ht => Lib.hid (@rdnorm_in W bd' s' a' n' cap' e' d' h ht)
  go_enter Tryz.func212, Tryz.ntmps212
  go_wp2_with fail
  have Ia := ((DyV.made' w 26 bd s (.slice a n cap) e (n := w.heap.size) (by rfl)).alloc (.cells #[.bool bd', .bool s', (.slice a' n' cap'), .int .i64 e'] 26))
  have Ib := (DyV.made' (w.alloc (.cells #[.bool bd, .bool s, (.slice a n cap), .int .i64 e] 26)) 26 bd' s' (.slice a' n' cap') e' (n := w.heap.size + 1) (by rw [World.size_alloc]))
  have B0 : Below w.heap.size w ((w.alloc (.cells #[.bool bd, .bool s, (.slice a n cap), .int .i64 e] 26)).alloc (.cells #[.bool bd', .bool s', (.slice a' n' cap'), .int .i64 e'] 26)) := (by repeat (with_reducible first | refine Below.setCell ?_ (by simp <;> omega) _ | refine Below.alloc ?_ (by simp <;> omega) _ | refine Below.drew ?_ | refine below_drewN ?_ _ | exact Below.refl _ _))
  have nab : ¬ w.heap.size = w.heap.size + 1 := by omega
  have nba : ¬ w.heap.size + 1 = w.heap.size := by omega
  generalize ((w.alloc (.cells #[.bool bd, .bool s, (.slice a n cap), .int .i64 e] 26)).alloc (.cells #[.bool bd', .bool s', (.slice a' n' cap'), .int .i64 e'] 26)) = w0 at Ia Ib B0 ⊢
  generalize hb1 : w.heap.size + 1 = b1 at Ib nab nba ⊢
  generalize hb0 : w.heap.size = b0 at Ia nab nba hb1 ⊢
  obtain ⟨ac0, ac1, ac2, ac3, ac4, ac5⟩ := Ia
  have Va0 := Lib.hid (DyV.mk ac0 ac1 ac2 ac3 ac4 ac5)
  obtain ⟨bc0, bc1, bc2, bc3, bc4, bc5⟩ := Ib
  have Vb0 := Lib.hid (DyV.mk bc0 bc1 bc2 bc3 bc4 bc5)
  first
  | go_region_with
      (first
        | (go_at_call 152; have xx := B1; refine (HN' _ (hy.below (by have hszw := (B1).size; repeat (with_reducible first | refine Below.setCell ?_ (by first | omega | (simp <;> omega)) _ | refine Below.alloc ?_ (by first | omega | (simp <;> omega)) _ | refine Below.drew ?_ | refine below_drewN ?_ _ | exact B1))) (hT.below (by have hszw := (B1).size; repeat (with_reducible first | refine Below.setCell ?_ (by first | omega | (simp <;> omega)) _ | refine Below.alloc ?_ (by first | omega | (simp <;> omega)) _ | refine Below.drew ?_ | refine below_drewN ?_ _ | exact B1)))).out.mono ?_; rintro e w2 ⟨a2, c2, rfl, M22, hb2, hf2⟩; have Va2 : DyV w2 b0 bd s (.slice a n cap) e := (by refine DyV.below ?_ hb2; (repeat (with_reducible first | refine DyV.drew ?_ | refine DyV.drewN ?_ _ | refine DyV.alloc ?_ _)); exact Va1.out); (try clear ac0 ac1 ac2 ac3 ac4); obtain ⟨ac0, ac1, ac2, ac3, ac4, ac5⟩ := Va2; have Va2 := Lib.hid (DyV.mk ac0 ac1 ac2 ac3 ac4 ac5); have Vb2 : DyV w2 b1 bd' s' (.slice a' n' cap') e' := (by refine DyV.below ?_ hb2; (repeat (with_reducible first | refine DyV.drew ?_ | refine DyV.drewN ?_ _ | refine DyV.alloc ?_ _)); exact Vb1.out); (try clear bc0 bc1 bc2 bc3 bc4); obtain ⟨bc0, bc1, bc2, bc3, bc4, bc5⟩ := Vb2; have Vb2 := Lib.hid (DyV.mk bc0 bc1 bc2 bc3 bc4 bc5); have M12 : Mag w2 a1 (nl (dman d).natAbs) c1 (dman d).natAbs := Mag.below (by repeat (with_reducible first | refine Mag.set ?_ (fun h => by have := M11 h; omega) _ _ | refine Mag.drew ?_ | refine Mag.alloc ?_ _ | refine Mag.drewN ?_ _ | exact M11)) hb2; have B2 := below_box (w := w) (by have hszw := (B1).size; repeat (with_reducible first | refine Below.setCell ?_ (by first | omega | (simp <;> omega)) _ | refine Below.alloc ?_ (by first | omega | (simp <;> omega)) _ | refine Below.drew ?_ | refine below_drewN ?_ _ | exact B1)) hb2; have hF2 : 0 < (nl (dman d').natAbs) → w1.heap.size ≤ ab a2 := (fun h => by have hq := hf2 h; (try simp at hq); omega); have fr2a : 0 < (nl (dman d').natAbs) → ab a2 ≠ b0 := (fun h => by have := hF2 h; have := Va1.out.lt; omega); have fr2b : 0 < (nl (dman d').natAbs) → ab a2 ≠ b1 := (fun h => by have := hF2 h; have := Vb1.out.lt; omega); have fo2 : 0 < (nl (dman d').natAbs) → w.heap.size ≤ ab a2 := (fun h => by have := hF2 h; have := B1.size; omega); clear hF2; clear hb2 hf2)
        | (go_at_call 152; refine (HN _ (hx.below (by have hszw := (B0).size; repeat (with_reducible first | refine Below.setCell ?_ (by first | omega | (simp <;> omega)) _ | refine Below.alloc ?_ (by first | omega | (simp <;> omega)) _ | refine Below.drew ?_ | refine below_drewN ?_ _ | exact B0))) (hT.below (by have hszw := (B0).size; repeat (with_reducible first | refine Below.setCell ?_ (by first | omega | (simp <;> omega)) _ | refine Below.alloc ?_ (by first | omega | (simp <;> omega)) _ | refine Below.drew ?_ | refine below_drewN ?_ _ | exact B0)))).out.mono ?_; rintro e w1 ⟨a1, c1, rfl, M11, hb1, hf1⟩; have Va1 : DyV w1 b0 bd s (.slice a n cap) e := (by refine DyV.below ?_ hb1; (repeat (with_reducible first | refine DyV.drew ?_ | refine DyV.drewN ?_ _ | refine DyV.alloc ?_ _)); exact Va0.out); (try clear ac0 ac1 ac2 ac3 ac4); obtain ⟨ac0, ac1, ac2, ac3, ac4, ac5⟩ := Va1; have Va1 := Lib.hid (DyV.mk ac0 ac1 ac2 ac3 ac4 ac5); have Vb1 : DyV w1 b1 bd' s' (.slice a' n' cap') e' := (by refine DyV.below ?_ hb1; (repeat (with_reducible first | refine DyV.drew ?_ | refine DyV.drewN ?_ _ | refine DyV.alloc ?_ _)); exact Vb0.out); (try clear bc0 bc1 bc2 bc3 bc4); obtain ⟨bc0, bc1, bc2, bc3, bc4, bc5⟩ := Vb1; have Vb1 := Lib.hid (DyV.mk bc0 bc1 bc2 bc3 bc4 bc5); have B1 := below_box (w := w) (by have hszw := (B0).size; repeat (with_reducible first | refine Below.setCell ?_ (by first | omega | (simp <;> omega)) _ | refine Below.alloc ?_ (by first | omega | (simp <;> omega)) _ | refine Below.drew ?_ | refine below_drewN ?_ _ | exact B0)) hb1; have hF1 : 0 < (nl (dman d).natAbs) → w0.heap.size ≤ ab a1 := (fun h => by have hq := hf1 h; (try simp at hq); omega); have fr1a : 0 < (nl (dman d).natAbs) → ab a1 ≠ b0 := (fun h => by have := hF1 h; have := Va0.out.lt; omega); have fr1b : 0 < (nl (dman d).natAbs) → ab a1 ≠ b1 := (fun h => by have := hF1 h; have := Vb0.out.lt; omega); have fo1 : 0 < (nl (dman d).natAbs) → w.heap.size ≤ ab a1 := (fun h => by have := hF1 h; have := B0.size; omega); clear hF1; clear hb1 hf1)
        | fail)
  | fail "region"
  all_goals (
    go_wp2_with fail
    have Va3 := DyV.put Va2.out true (decide (dman d < 0)) (.slice a1 (nl (dman d).natAbs) c1) (dexp d)
    have Vb3 := (DyV.set (DyV.set (DyV.set (DyV.set Vb2.out nba 0 (.bool true)) nba 1 (.bool (decide (dman d < 0)))) nba 2 (.slice a1 (nl (dman d).natAbs) c1)) nba 3 (.int .i64 (dexp d)))
    have M13 := (Mag.set (Mag.set (Mag.set (Mag.set M12 fr1a 0 (.bool true)) fr1a 1 (.bool (decide (dman d < 0)))) fr1a 2 (.slice a1 (nl (dman d).natAbs) c1)) fr1a 3 (.int .i64 (dexp d)))
    have M23 := (Mag.set (Mag.set (Mag.set (Mag.set M22 fr2a 0 (.bool true)) fr2a 1 (.bool (decide (dman d < 0)))) fr2a 2 (.slice a1 (nl (dman d).natAbs) c1)) fr2a 3 (.int .i64 (dexp d)))
    have B3 : Below w.heap.size w ((((w2.setCell ⟨b0, 0, none⟩ (.bool true)).setCell ⟨b0, 1, none⟩ (.bool (decide (dman d < 0)))).setCell ⟨b0, 2, none⟩ (.slice a1 (nl (dman d).natAbs) c1)).setCell ⟨b0, 3, none⟩ (.int .i64 (dexp d))) := (by have hszw := (B2).size; repeat (with_reducible first | refine Below.setCell ?_ (by first | omega | (simp <;> omega)) _ | refine Below.alloc ?_ (by first | omega | (simp <;> omega)) _ | refine Below.drew ?_ | refine below_drewN ?_ _ | exact B2))
    generalize ((((w2.setCell ⟨b0, 0, none⟩ (.bool true)).setCell ⟨b0, 1, none⟩ (.bool (decide (dman d < 0)))).setCell ⟨b0, 2, none⟩ (.slice a1 (nl (dman d).natAbs) c1)).setCell ⟨b0, 3, none⟩ (.int .i64 (dexp d))) = w3 at Va3 Vb3 M13 M23 B3 ⊢
    (try clear ac0 ac1 ac2 ac3 ac4)
    obtain ⟨ac0, ac1, ac2, ac3, ac4, ac5⟩ := Va3
    have Va3 := Lib.hid (DyV.mk ac0 ac1 ac2 ac3 ac4 ac5)
    (try clear bc0 bc1 bc2 bc3 bc4)
    obtain ⟨bc0, bc1, bc2, bc3, bc4, bc5⟩ := Vb3
    have Vb3 := Lib.hid (DyV.mk bc0 bc1 bc2 bc3 bc4 bc5)
    have Vb4 := DyV.put Vb3.out (dbad d') (decide (dman d' < 0)) (.slice a2 (nl (dman d').natAbs) c2) (dexp d')
    have Va4 := (DyV.set (DyV.set (DyV.set (DyV.set Va3.out nab 0 (.bool (dbad d'))) nab 1 (.bool (decide (dman d' < 0)))) nab 2 (.slice a2 (nl (dman d').natAbs) c2)) nab 3 (.int .i64 (dexp d')))
    have M14 := (Mag.set (Mag.set (Mag.set (Mag.set M13 fr1b 0 (.bool (dbad d'))) fr1b 1 (.bool (decide (dman d' < 0)))) fr1b 2 (.slice a2 (nl (dman d').natAbs) c2)) fr1b 3 (.int .i64 (dexp d')))
    have M24 := (Mag.set (Mag.set (Mag.set (Mag.set M23 fr2b 0 (.bool (dbad d'))) fr2b 1 (.bool (decide (dman d' < 0)))) fr2b 2 (.slice a2 (nl (dman d').natAbs) c2)) fr2b 3 (.int .i64 (dexp d')))
    have B4 : Below w.heap.size w ((((w3.setCell ⟨b1, 0, none⟩ (.bool (dbad d'))).setCell ⟨b1, 1, none⟩ (.bool (decide (dman d' < 0)))).setCell ⟨b1, 2, none⟩ (.slice a2 (nl (dman d').natAbs) c2)).setCell ⟨b1, 3, none⟩ (.int .i64 (dexp d'))) := (by have hszw := (B3).size; repeat (with_reducible first | refine Below.setCell ?_ (by first | omega | (simp <;> omega)) _ | refine Below.alloc ?_ (by first | omega | (simp <;> omega)) _ | refine Below.drew ?_ | refine below_drewN ?_ _ | exact B3))
    generalize ((((w3.setCell ⟨b1, 0, none⟩ (.bool (dbad d'))).setCell ⟨b1, 1, none⟩ (.bool (decide (dman d' < 0)))).setCell ⟨b1, 2, none⟩ (.slice a2 (nl (dman d').natAbs) c2)).setCell ⟨b1, 3, none⟩ (.int .i64 (dexp d'))) = w4 at Vb4 Va4 M14 M24 B4 ⊢
    (try clear ac0 ac1 ac2 ac3 ac4)
    obtain ⟨ac0, ac1, ac2, ac3, ac4, ac5⟩ := Va4
    have Va4 := Lib.hid (DyV.mk ac0 ac1 ac2 ac3 ac4 ac5)
    (try clear bc0 bc1 bc2 bc3 bc4)
    obtain ⟨bc0, bc1, bc2, bc3, bc4, bc5⟩ := Vb4
    have Vb4 := Lib.hid (DyV.mk bc0 bc1 bc2 bc3 bc4 bc5)
    refine bodyPost_ret2 (v := .tuple #[.int .i64 0, .bool false]) (by simp only [results, Tryz.results212]; go_simp) rfl ?_
    exact ⟨rfl, (by have hszw := (B4).size; repeat (with_reducible first | refine Below.setCell ?_ (by first | omega | (simp <;> omega)) _ | refine Below.alloc ?_ (by first | omega | (simp <;> omega)) _ | refine Below.drew ?_ | refine below_drewN ?_ _ | exact B4))⟩)

set_option maxRecDepth 100000 in
set_option maxHeartbeats 2000000 in
theorem rdcmp_bad2 (w : World) (bd s bd' s' : Bool) (a a' : Option Addr) (n n' cap cap' : Nat) (e e' : Int) (d d' : Option (Int × Int)) (hx : DyIs w bd s a n cap e d) (hy : DyIs w bd' s' a' n' cap' e' d') (hT : Tab w) (hb : dbad d = false) (hb' : dbad d' = true) :
    Calls Tryz.prog 212 #[.agg #[.bool bd, .bool s, .slice a n cap, .int .i64 e], .agg #[.bool bd', .bool s', .slice a' n' cap', .int .i64 e']] w fun o w' => o = .returned (.tuple #[.int .i64 0, .bool false]) ∧ Below w.heap.size w w' := by
  have HN := fun W h ht => Lib.hid (@rdnorm_in W bd s a n cap e d h ht)
  have HN' := fun W h ht => Lib.hid (@rdnorm_in W bd' s' a' n' cap' e' d' h ht)
  go_enter Tryz.func212, Tryz.ntmps212
  go_wp2_with fail
  have Ia := ((DyV.made' w 26 bd s (.slice a n cap) e (n := w.heap.size) (by rfl)).alloc (.cells #[.bool bd', .bool s', (.slice a' n' cap'), .int .i64 e'] 26))
  have Ib := (DyV.made' (w.alloc (.cells #[.bool bd, .bool s, (.slice a n cap), .int .i64 e] 26)) 26 bd' s' (.slice a' n' cap') e' (n := w.heap.size + 1) (by rw [World.size_alloc]))
  have B0 : Below w.heap.size w ((w.alloc (.cells #[.bool bd, .bool s, (.slice a n cap), .int .i64 e] 26)).alloc (.cells #[.bool bd', .bool s', (.slice a' n' cap'), .int .i64 e'] 26)) := (by repeat (with_reducible first | refine Below.setCell ?_ (by simp <;> omega) _ | refine Below.alloc ?_ (by simp <;> omega) _ | refine Below.drew ?_ | refine below_drewN ?_ _ | exact Below.refl _ _))
  have nab : ¬ w.heap.size = w.heap.size + 1 := by omega
  have nba : ¬ w.heap.size + 1 = w.heap.size := by omega
  generalize ((w.alloc (.cells #[.bool bd, .bool s, (.slice a n cap), .int .i64 e] 26)).alloc (.cells #[.bool bd', .bool s', (.slice a' n' cap'), .int .i64 e'] 26)) = w0 at Ia Ib B0 ⊢
  generalize hb1 : w.heap.size + 1 = b1 at Ib nab nba ⊢
  generalize hb0 : w.heap.size = b0 at Ia nab nba hb1 ⊢
  obtain ⟨ac0, ac1, ac2, ac3, ac4, ac5⟩ := Ia
  have Va0 := Lib.hid (DyV.mk ac0 ac1 ac2 ac3 ac4 ac5)
  obtain ⟨bc0, bc1, bc2, bc3, bc4, bc5⟩ := Ib
  have Vb0 := Lib.hid (DyV.mk bc0 bc1 bc2 bc3 bc4 bc5)
  first
  | go_region_with
      (first
        | (go_at_call 152; have xx := B1; refine (HN' _ (hy.below (by have hszw := (B1).size; repeat (with_reducible first | refine Below.setCell ?_ (by first | omega | (simp <;> omega)) _ | refine Below.alloc ?_ (by first | omega | (simp <;> omega)) _ | refine Below.drew ?_ | refine below_drewN ?_ _ | exact B1))) (hT.below (by have hszw := (B1).size; repeat (with_reducible first | refine Below.setCell ?_ (by first | omega | (simp <;> omega)) _ | refine Below.alloc ?_ (by first | omega | (simp <;> omega)) _ | refine Below.drew ?_ | refine below_drewN ?_ _ | exact B1)))).out.mono ?_; rintro e w2 ⟨a2, c2, rfl, M22, hb2, hf2⟩; have Va2 : DyV w2 b0 bd s (.slice a n cap) e := (by refine DyV.below ?_ hb2; (repeat (with_reducible first | refine DyV.drew ?_ | refine DyV.drewN ?_ _ | refine DyV.alloc ?_ _)); exact Va1.out); (try clear ac0 ac1 ac2 ac3 ac4); obtain ⟨ac0, ac1, ac2, ac3, ac4, ac5⟩ := Va2; have Va2 := Lib.hid (DyV.mk ac0 ac1 ac2 ac3 ac4 ac5); have Vb2 : DyV w2 b1 bd' s' (.slice a' n' cap') e' := (by refine DyV.below ?_ hb2; (repeat (with_reducible first | refine DyV.drew ?_ | refine DyV.drewN ?_ _ | refine DyV.alloc ?_ _)); exact Vb1.out); (try clear bc0 bc1 bc2 bc3 bc4); obtain ⟨bc0, bc1, bc2, bc3, bc4, bc5⟩ := Vb2; have Vb2 := Lib.hid (DyV.mk bc0 bc1 bc2 bc3 bc4 bc5); have M12 : Mag w2 a1 (nl (dman d).natAbs) c1 (dman d).natAbs := Mag.below (by repeat (with_reducible first | refine Mag.set ?_ (fun h => by have := M11 h; omega) _ _ | refine Mag.drew ?_ | refine Mag.alloc ?_ _ | refine Mag.drewN ?_ _ | exact M11)) hb2; have B2 := below_box (w := w) (by have hszw := (B1).size; repeat (with_reducible first | refine Below.setCell ?_ (by first | omega | (simp <;> omega)) _ | refine Below.alloc ?_ (by first | omega | (simp <;> omega)) _ | refine Below.drew ?_ | refine below_drewN ?_ _ | exact B1)) hb2; have hF2 : 0 < (nl (dman d').natAbs) → w1.heap.size ≤ ab a2 := (fun h => by have hq := hf2 h; (try simp at hq); omega); have fr2a : 0 < (nl (dman d').natAbs) → ab a2 ≠ b0 := (fun h => by have := hF2 h; have := Va1.out.lt; omega); have fr2b : 0 < (nl (dman d').natAbs) → ab a2 ≠ b1 := (fun h => by have := hF2 h; have := Vb1.out.lt; omega); have fo2 : 0 < (nl (dman d').natAbs) → w.heap.size ≤ ab a2 := (fun h => by have := hF2 h; have := B1.size; omega); clear hF2; clear hb2 hf2)
        | (go_at_call 152; refine (HN _ (hx.below (by have hszw := (B0).size; repeat (with_reducible first | refine Below.setCell ?_ (by first | omega | (simp <;> omega)) _ | refine Below.alloc ?_ (by first | omega | (simp <;> omega)) _ | refine Below.drew ?_ | refine below_drewN ?_ _ | exact B0))) (hT.below (by have hszw := (B0).size; repeat (with_reducible first | refine Below.setCell ?_ (by first | omega | (simp <;> omega)) _ | refine Below.alloc ?_ (by first | omega | (simp <;> omega)) _ | refine Below.drew ?_ | refine below_drewN ?_ _ | exact B0)))).out.mono ?_; rintro e w1 ⟨a1, c1, rfl, M11, hb1, hf1⟩; have Va1 : DyV w1 b0 bd s (.slice a n cap) e := (by refine DyV.below ?_ hb1; (repeat (with_reducible first | refine DyV.drew ?_ | refine DyV.drewN ?_ _ | refine DyV.alloc ?_ _)); exact Va0.out); (try clear ac0 ac1 ac2 ac3 ac4); obtain ⟨ac0, ac1, ac2, ac3, ac4, ac5⟩ := Va1; have Va1 := Lib.hid (DyV.mk ac0 ac1 ac2 ac3 ac4 ac5); have Vb1 : DyV w1 b1 bd' s' (.slice a' n' cap') e' := (by refine DyV.below ?_ hb1; (repeat (with_reducible first | refine DyV.drew ?_ | refine DyV.drewN ?_ _ | refine DyV.alloc ?_ _)); exact Vb0.out); (try clear bc0 bc1 bc2 bc3 bc4); obtain ⟨bc0, bc1, bc2, bc3, bc4, bc5⟩ := Vb1; have Vb1 := Lib.hid (DyV.mk bc0 bc1 bc2 bc3 bc4 bc5); have B1 := below_box (w := w) (by have hszw := (B0).size; repeat (with_reducible first | refine Below.setCell ?_ (by first | omega | (simp <;> omega)) _ | refine Below.alloc ?_ (by first | omega | (simp <;> omega)) _ | refine Below.drew ?_ | refine below_drewN ?_ _ | exact B0)) hb1; have hF1 : 0 < (nl (dman d).natAbs) → w0.heap.size ≤ ab a1 := (fun h => by have hq := hf1 h; (try simp at hq); omega); have fr1a : 0 < (nl (dman d).natAbs) → ab a1 ≠ b0 := (fun h => by have := hF1 h; have := Va0.out.lt; omega); have fr1b : 0 < (nl (dman d).natAbs) → ab a1 ≠ b1 := (fun h => by have := hF1 h; have := Vb0.out.lt; omega); have fo1 : 0 < (nl (dman d).natAbs) → w.heap.size ≤ ab a1 := (fun h => by have := hF1 h; have := B0.size; omega); clear hF1; clear hb1 hf1)
        | fail)
  | fail "region"
  all_goals (
    go_wp2_with fail
    have Va3 := DyV.put Va2.out false (decide (dman d < 0)) (.slice a1 (nl (dman d).natAbs) c1) (dexp d)
    have Vb3 := (DyV.set (DyV.set (DyV.set (DyV.set Vb2.out nba 0 (.bool false)) nba 1 (.bool (decide (dman d < 0)))) nba 2 (.slice a1 (nl (dman d).natAbs) c1)) nba 3 (.int .i64 (dexp d)))
    have M13 := (Mag.set (Mag.set (Mag.set (Mag.set M12 fr1a 0 (.bool false)) fr1a 1 (.bool (decide (dman d < 0)))) fr1a 2 (.slice a1 (nl (dman d).natAbs) c1)) fr1a 3 (.int .i64 (dexp d)))
    have M23 := (Mag.set (Mag.set (Mag.set (Mag.set M22 fr2a 0 (.bool false)) fr2a 1 (.bool (decide (dman d < 0)))) fr2a 2 (.slice a1 (nl (dman d).natAbs) c1)) fr2a 3 (.int .i64 (dexp d)))
    have B3 : Below w.heap.size w ((((w2.setCell ⟨b0, 0, none⟩ (.bool false)).setCell ⟨b0, 1, none⟩ (.bool (decide (dman d < 0)))).setCell ⟨b0, 2, none⟩ (.slice a1 (nl (dman d).natAbs) c1)).setCell ⟨b0, 3, none⟩ (.int .i64 (dexp d))) := (by have hszw := (B2).size; repeat (with_reducible first | refine Below.setCell ?_ (by first | omega | (simp <;> omega)) _ | refine Below.alloc ?_ (by first | omega | (simp <;> omega)) _ | refine Below.drew ?_ | refine below_drewN ?_ _ | exact B2))
    generalize ((((w2.setCell ⟨b0, 0, none⟩ (.bool false)).setCell ⟨b0, 1, none⟩ (.bool (decide (dman d < 0)))).setCell ⟨b0, 2, none⟩ (.slice a1 (nl (dman d).natAbs) c1)).setCell ⟨b0, 3, none⟩ (.int .i64 (dexp d))) = w3 at Va3 Vb3 M13 M23 B3 ⊢
    (try clear ac0 ac1 ac2 ac3 ac4)
    obtain ⟨ac0, ac1, ac2, ac3, ac4, ac5⟩ := Va3
    have Va3 := Lib.hid (DyV.mk ac0 ac1 ac2 ac3 ac4 ac5)
    (try clear bc0 bc1 bc2 bc3 bc4)
    obtain ⟨bc0, bc1, bc2, bc3, bc4, bc5⟩ := Vb3
    have Vb3 := Lib.hid (DyV.mk bc0 bc1 bc2 bc3 bc4 bc5)
    have Vb4 := DyV.put Vb3.out true (decide (dman d' < 0)) (.slice a2 (nl (dman d').natAbs) c2) (dexp d')
    have Va4 := (DyV.set (DyV.set (DyV.set (DyV.set Va3.out nab 0 (.bool true)) nab 1 (.bool (decide (dman d' < 0)))) nab 2 (.slice a2 (nl (dman d').natAbs) c2)) nab 3 (.int .i64 (dexp d')))
    have M14 := (Mag.set (Mag.set (Mag.set (Mag.set M13 fr1b 0 (.bool true)) fr1b 1 (.bool (decide (dman d' < 0)))) fr1b 2 (.slice a2 (nl (dman d').natAbs) c2)) fr1b 3 (.int .i64 (dexp d')))
    have M24 := (Mag.set (Mag.set (Mag.set (Mag.set M23 fr2b 0 (.bool true)) fr2b 1 (.bool (decide (dman d' < 0)))) fr2b 2 (.slice a2 (nl (dman d').natAbs) c2)) fr2b 3 (.int .i64 (dexp d')))
    have B4 : Below w.heap.size w ((((w3.setCell ⟨b1, 0, none⟩ (.bool true)).setCell ⟨b1, 1, none⟩ (.bool (decide (dman d' < 0)))).setCell ⟨b1, 2, none⟩ (.slice a2 (nl (dman d').natAbs) c2)).setCell ⟨b1, 3, none⟩ (.int .i64 (dexp d'))) := (by have hszw := (B3).size; repeat (with_reducible first | refine Below.setCell ?_ (by first | omega | (simp <;> omega)) _ | refine Below.alloc ?_ (by first | omega | (simp <;> omega)) _ | refine Below.drew ?_ | refine below_drewN ?_ _ | exact B3))
    generalize ((((w3.setCell ⟨b1, 0, none⟩ (.bool true)).setCell ⟨b1, 1, none⟩ (.bool (decide (dman d' < 0)))).setCell ⟨b1, 2, none⟩ (.slice a2 (nl (dman d').natAbs) c2)).setCell ⟨b1, 3, none⟩ (.int .i64 (dexp d'))) = w4 at Vb4 Va4 M14 M24 B4 ⊢
    (try clear ac0 ac1 ac2 ac3 ac4)
    obtain ⟨ac0, ac1, ac2, ac3, ac4, ac5⟩ := Va4
    have Va4 := Lib.hid (DyV.mk ac0 ac1 ac2 ac3 ac4 ac5)
    (try clear bc0 bc1 bc2 bc3 bc4)
    obtain ⟨bc0, bc1, bc2, bc3, bc4, bc5⟩ := Vb4
    have Vb4 := Lib.hid (DyV.mk bc0 bc1 bc2 bc3 bc4 bc5)
    refine bodyPost_ret2 (v := .tuple #[.int .i64 0, .bool false]) (by simp only [results, Tryz.results212]; go_simp) rfl ?_
    exact ⟨rfl, (by have hszw := (B4).size; repeat (with_reducible first | refine Below.setCell ?_ (by first | omega | (simp <;> omega)) _ | refine Below.alloc ?_ (by first | omega | (simp <;> omega)) _ | refine Below.drew ?_ | refine below_drewN ?_ _ | exact B4))⟩)

set_option maxRecDepth 100000 in
set_option maxHeartbeats 2000000 in
theorem rdcmp_ok (w : World) (bd s bd' s' : Bool) (a a' : Option Addr) (n n' cap cap' : Nat) (e e' : Int) (d d' : Option (Int × Int)) (hx : DyIs w bd s a n cap e d) (hy : DyIs w bd' s' a' n' cap' e' d') (hT : Tab w) (hb : dbad d = false) (hb' : dbad d' = false) (v : Int) (hv : v = cmpI (up (dman d) (dexp d) (ale (dman d) (dexp d) (dman d') (dexp d'))) (up (dman d') (dexp d') (ale (dman d) (dexp d) (dman d') (dexp d')))) :
    Calls Tryz.prog 212 #[.agg #[.bool bd, .bool s, .slice a n cap, .int .i64 e], .agg #[.bool bd', .bool s', .slice a' n' cap', .int .i64 e']] w fun o w' => o = .returned (.tuple #[.int .i64 v, .bool true]) ∧ Below w.heap.size w w' := by
  have HN := fun W h ht => Lib.hid (@rdnorm_in W bd s a n cap e d h ht)
  have HN' := fun W h ht => Lib.hid (@rdnorm_in W bd' s' a' n' cap' e' d' h ht)
  have hbz := isN_bounds hx.1.isN
  have hbz' := isN_bounds hy.1.isN
  obtain ⟨E, hE⟩ : ∃ E, E = ale (dman d) (dexp d) (dman d') (dexp d') := ⟨_, rfl⟩
  have HA := fun W b c b' c' h h' => Lib.hid (ralign_any W false false b b' c c' (dman d) (dman d') (dexp d) (dexp d') h h' (nl_lim5 (by omega)) (nl_lim5 (by omega)) hbz.2.1 hbz.2.2 hbz'.2.1 hbz'.2.2)
  have hbl := ale_bl (dman d) (dexp d) (dman d') (dexp d') hbz.2 hbz'.2 hbz.1 hbz'.1
  have hge := ale_ge (dman d) (dexp d) (dman d') (dexp d') hbz.2 hbz'.2
  rw [← hE] at HA hbl hge hv
  obtain ⟨X, hX⟩ : ∃ X, X = up (dman d) (dexp d) E := ⟨_, rfl⟩
  obtain ⟨Y, hY⟩ : ∃ Y, Y = up (dman d') (dexp d') E := ⟨_, rfl⟩
  rw [← hX, ← hY] at HA hbl hv
  obtain ⟨hblX, hblY⟩ := hbl
  have HC := fun W b c b' c' h h' => Lib.hid (rcmp_z W b b' c c' X Y v hv h h' (nl_lim5 (by omega)) (nl_lim5 (by omega)))
  clear hE hX hY hv hge hblX hblY hbz hbz'
  go_enter Tryz.func212, Tryz.ntmps212
  go_wp2_with fail
  have Ia := ((DyV.made' w 26 bd s (.slice a n cap) e (n := w.heap.size) (by rfl)).alloc (.cells #[.bool bd', .bool s', (.slice a' n' cap'), .int .i64 e'] 26))
  have Ib := (DyV.made' (w.alloc (.cells #[.bool bd, .bool s, (.slice a n cap), .int .i64 e] 26)) 26 bd' s' (.slice a' n' cap') e' (n := w.heap.size + 1) (by rw [World.size_alloc]))
  have B0 : Below w.heap.size w ((w.alloc (.cells #[.bool bd, .bool s, (.slice a n cap), .int .i64 e] 26)).alloc (.cells #[.bool bd', .bool s', (.slice a' n' cap'), .int .i64 e'] 26)) := (by repeat (with_reducible first | refine Below.setCell ?_ (by simp <;> omega) _ | refine Below.alloc ?_ (by simp <;> omega) _ | refine Below.drew ?_ | refine below_drewN ?_ _ | exact Below.refl _ _))
  have nab : ¬ w.heap.size = w.heap.size + 1 := by omega
  have nba : ¬ w.heap.size + 1 = w.heap.size := by omega
  generalize ((w.alloc (.cells #[.bool bd, .bool s, (.slice a n cap), .int .i64 e] 26)).alloc (.cells #[.bool bd', .bool s', (.slice a' n' cap'), .int .i64 e'] 26)) = w0 at Ia Ib B0 ⊢
  generalize hb1 : w.heap.size + 1 = b1 at Ib nab nba ⊢
  generalize hb0 : w.heap.size = b0 at Ia nab nba hb1 ⊢
  obtain ⟨ac0, ac1, ac2, ac3, ac4, ac5⟩ := Ia
  have Va0 := Lib.hid (DyV.mk ac0 ac1 ac2 ac3 ac4 ac5)
  obtain ⟨bc0, bc1, bc2, bc3, bc4, bc5⟩ := Ib
  have Vb0 := Lib.hid (DyV.mk bc0 bc1 bc2 bc3 bc4 bc5)
  first
  | go_region_with
      (first
        | (go_at_call 152; have xx := B1; refine (HN' _ (hy.below (by have hszw := (B1).size; repeat (with_reducible first | refine Below.setCell ?_ (by first | omega | (simp <;> omega)) _ | refine Below.alloc ?_ (by first | omega | (simp <;> omega)) _ | refine Below.drew ?_ | refine below_drewN ?_ _ | exact B1))) (hT.below (by have hszw := (B1).size; repeat (with_reducible first | refine Below.setCell ?_ (by first | omega | (simp <;> omega)) _ | refine Below.alloc ?_ (by first | omega | (simp <;> omega)) _ | refine Below.drew ?_ | refine below_drewN ?_ _ | exact B1)))).out.mono ?_; rintro e w2 ⟨a2, c2, rfl, M22, hb2, hf2⟩; have Va2 : DyV w2 b0 bd s (.slice a n cap) e := (by refine DyV.below ?_ hb2; (repeat (with_reducible first | refine DyV.drew ?_ | refine DyV.drewN ?_ _ | refine DyV.alloc ?_ _)); exact Va1.out); (try clear ac0 ac1 ac2 ac3 ac4); obtain ⟨ac0, ac1, ac2, ac3, ac4, ac5⟩ := Va2; have Va2 := Lib.hid (DyV.mk ac0 ac1 ac2 ac3 ac4 ac5); have Vb2 : DyV w2 b1 bd' s' (.slice a' n' cap') e' := (by refine DyV.below ?_ hb2; (repeat (with_reducible first | refine DyV.drew ?_ | refine DyV.drewN ?_ _ | refine DyV.alloc ?_ _)); exact Vb1.out); (try clear bc0 bc1 bc2 bc3 bc4); obtain ⟨bc0, bc1, bc2, bc3, bc4, bc5⟩ := Vb2; have Vb2 := Lib.hid (DyV.mk bc0 bc1 bc2 bc3 bc4 bc5); have M12 : Mag w2 a1 (nl (dman d).natAbs) c1 (dman d).natAbs := Mag.below (by repeat (with_reducible first | refine Mag.set ?_ (fun h => by have := M11 h; omega) _ _ | refine Mag.drew ?_ | refine Mag.alloc ?_ _ | refine Mag.drewN ?_ _ | exact M11)) hb2; have B2 := below_box (w := w) (by have hszw := (B1).size; repeat (with_reducible first | refine Below.setCell ?_ (by first | omega | (simp <;> omega)) _ | refine Below.alloc ?_ (by first | omega | (simp <;> omega)) _ | refine Below.drew ?_ | refine below_drewN ?_ _ | exact B1)) hb2; have hF2 : 0 < (nl (dman d').natAbs) → w1.heap.size ≤ ab a2 := (fun h => by have hq := hf2 h; (try simp at hq); omega); have fr2a : 0 < (nl (dman d').natAbs) → ab a2 ≠ b0 := (fun h => by have := hF2 h; have := Va1.out.lt; omega); have fr2b : 0 < (nl (dman d').natAbs) → ab a2 ≠ b1 := (fun h => by have := hF2 h; have := Vb1.out.lt; omega); have fo2 : 0 < (nl (dman d').natAbs) → w.heap.size ≤ ab a2 := (fun h => by have := hF2 h; have := B1.size; omega); clear hF2; clear hb2 hf2)
        | (go_at_call 152; refine (HN _ (hx.below (by have hszw := (B0).size; repeat (with_reducible first | refine Below.setCell ?_ (by first | omega | (simp <;> omega)) _ | refine Below.alloc ?_ (by first | omega | (simp <;> omega)) _ | refine Below.drew ?_ | refine below_drewN ?_ _ | exact B0))) (hT.below (by have hszw := (B0).size; repeat (with_reducible first | refine Below.setCell ?_ (by first | omega | (simp <;> omega)) _ | refine Below.alloc ?_ (by first | omega | (simp <;> omega)) _ | refine Below.drew ?_ | refine below_drewN ?_ _ | exact B0)))).out.mono ?_; rintro e w1 ⟨a1, c1, rfl, M11, hb1, hf1⟩; have Va1 : DyV w1 b0 bd s (.slice a n cap) e := (by refine DyV.below ?_ hb1; (repeat (with_reducible first | refine DyV.drew ?_ | refine DyV.drewN ?_ _ | refine DyV.alloc ?_ _)); exact Va0.out); (try clear ac0 ac1 ac2 ac3 ac4); obtain ⟨ac0, ac1, ac2, ac3, ac4, ac5⟩ := Va1; have Va1 := Lib.hid (DyV.mk ac0 ac1 ac2 ac3 ac4 ac5); have Vb1 : DyV w1 b1 bd' s' (.slice a' n' cap') e' := (by refine DyV.below ?_ hb1; (repeat (with_reducible first | refine DyV.drew ?_ | refine DyV.drewN ?_ _ | refine DyV.alloc ?_ _)); exact Vb0.out); (try clear bc0 bc1 bc2 bc3 bc4); obtain ⟨bc0, bc1, bc2, bc3, bc4, bc5⟩ := Vb1; have Vb1 := Lib.hid (DyV.mk bc0 bc1 bc2 bc3 bc4 bc5); have B1 := below_box (w := w) (by have hszw := (B0).size; repeat (with_reducible first | refine Below.setCell ?_ (by first | omega | (simp <;> omega)) _ | refine Below.alloc ?_ (by first | omega | (simp <;> omega)) _ | refine Below.drew ?_ | refine below_drewN ?_ _ | exact B0)) hb1; have hF1 : 0 < (nl (dman d).natAbs) → w0.heap.size ≤ ab a1 := (fun h => by have hq := hf1 h; (try simp at hq); omega); have fr1a : 0 < (nl (dman d).natAbs) → ab a1 ≠ b0 := (fun h => by have := hF1 h; have := Va0.out.lt; omega); have fr1b : 0 < (nl (dman d).natAbs) → ab a1 ≠ b1 := (fun h => by have := hF1 h; have := Vb0.out.lt; omega); have fo1 : 0 < (nl (dman d).natAbs) → w.heap.size ≤ ab a1 := (fun h => by have := hF1 h; have := B0.size; omega); clear hF1; clear hb1 hf1)
        | fail)
  | fail "region"
  all_goals (
    go_wp2_with fail
    have Va3 := DyV.put Va2.out false (decide (dman d < 0)) (.slice a1 (nl (dman d).natAbs) c1) (dexp d)
    have Vb3 := (DyV.set (DyV.set (DyV.set (DyV.set Vb2.out nba 0 (.bool false)) nba 1 (.bool (decide (dman d < 0)))) nba 2 (.slice a1 (nl (dman d).natAbs) c1)) nba 3 (.int .i64 (dexp d)))
    have M13 := (Mag.set (Mag.set (Mag.set (Mag.set M12 fr1a 0 (.bool false)) fr1a 1 (.bool (decide (dman d < 0)))) fr1a 2 (.slice a1 (nl (dman d).natAbs) c1)) fr1a 3 (.int .i64 (dexp d)))
    have M23 := (Mag.set (Mag.set (Mag.set (Mag.set M22 fr2a 0 (.bool false)) fr2a 1 (.bool (decide (dman d < 0)))) fr2a 2 (.slice a1 (nl (dman d).natAbs) c1)) fr2a 3 (.int .i64 (dexp d)))
    have B3 : Below w.heap.size w ((((w2.setCell ⟨b0, 0, none⟩ (.bool false)).setCell ⟨b0, 1, none⟩ (.bool (decide (dman d < 0)))).setCell ⟨b0, 2, none⟩ (.slice a1 (nl (dman d).natAbs) c1)).setCell ⟨b0, 3, none⟩ (.int .i64 (dexp d))) := (by have hszw := (B2).size; repeat (with_reducible first | refine Below.setCell ?_ (by first | omega | (simp <;> omega)) _ | refine Below.alloc ?_ (by first | omega | (simp <;> omega)) _ | refine Below.drew ?_ | refine below_drewN ?_ _ | exact B2))
    generalize ((((w2.setCell ⟨b0, 0, none⟩ (.bool false)).setCell ⟨b0, 1, none⟩ (.bool (decide (dman d < 0)))).setCell ⟨b0, 2, none⟩ (.slice a1 (nl (dman d).natAbs) c1)).setCell ⟨b0, 3, none⟩ (.int .i64 (dexp d))) = w3 at Va3 Vb3 M13 M23 B3 ⊢
    (try clear ac0 ac1 ac2 ac3 ac4)
    obtain ⟨ac0, ac1, ac2, ac3, ac4, ac5⟩ := Va3
    have Va3 := Lib.hid (DyV.mk ac0 ac1 ac2 ac3 ac4 ac5)
    (try clear bc0 bc1 bc2 bc3 bc4)
    obtain ⟨bc0, bc1, bc2, bc3, bc4, bc5⟩ := Vb3
    have Vb3 := Lib.hid (DyV.mk bc0 bc1 bc2 bc3 bc4 bc5)
    have Vb4 := DyV.put Vb3.out false (decide (dman d' < 0)) (.slice a2 (nl (dman d').natAbs) c2) (dexp d')
    have Va4 := (DyV.set (DyV.set (DyV.set (DyV.set Va3.out nab 0 (.bool false)) nab 1 (.bool (decide (dman d' < 0)))) nab 2 (.slice a2 (nl (dman d').natAbs) c2)) nab 3 (.int .i64 (dexp d')))
    have M14 := (Mag.set (Mag.set (Mag.set (Mag.set M13 fr1b 0 (.bool false)) fr1b 1 (.bool (decide (dman d' < 0)))) fr1b 2 (.slice a2 (nl (dman d').natAbs) c2)) fr1b 3 (.int .i64 (dexp d')))
    have M24 := (Mag.set (Mag.set (Mag.set (Mag.set M23 fr2b 0 (.bool false)) fr2b 1 (.bool (decide (dman d' < 0)))) fr2b 2 (.slice a2 (nl (dman d').natAbs) c2)) fr2b 3 (.int .i64 (dexp d')))
    have B4 : Below w.heap.size w ((((w3.setCell ⟨b1, 0, none⟩ (.bool false)).setCell ⟨b1, 1, none⟩ (.bool (decide (dman d' < 0)))).setCell ⟨b1, 2, none⟩ (.slice a2 (nl (dman d').natAbs) c2)).setCell ⟨b1, 3, none⟩ (.int .i64 (dexp d'))) := (by have hszw := (B3).size; repeat (with_reducible first | refine Below.setCell ?_ (by first | omega | (simp <;> omega)) _ | refine Below.alloc ?_ (by first | omega | (simp <;> omega)) _ | refine Below.drew ?_ | refine below_drewN ?_ _ | exact B3))
    generalize ((((w3.setCell ⟨b1, 0, none⟩ (.bool false)).setCell ⟨b1, 1, none⟩ (.bool (decide (dman d' < 0)))).setCell ⟨b1, 2, none⟩ (.slice a2 (nl (dman d').natAbs) c2)).setCell ⟨b1, 3, none⟩ (.int .i64 (dexp d'))) = w4 at Vb4 Va4 M14 M24 B4 ⊢
    (try clear ac0 ac1 ac2 ac3 ac4)
    obtain ⟨ac0, ac1, ac2, ac3, ac4, ac5⟩ := Va4
    have Va4 := Lib.hid (DyV.mk ac0 ac1 ac2 ac3 ac4 ac5)
    (try clear bc0 bc1 bc2 bc3 bc4)
    obtain ⟨bc0, bc1, bc2, bc3, bc4, bc5⟩ := Vb4
    have Vb4 := Lib.hid (DyV.mk bc0 bc1 bc2 bc3 bc4 bc5)
    refine (HA _ a1 c1 a2 c2 (by repeat (with_reducible first | refine Mag.set ?_ (fun h => by have := M14 h; omega) _ _ | refine Mag.drew ?_ | refine Mag.alloc ?_ _ | refine Mag.drewN ?_ _ | exact M14)) (by repeat (with_reducible first | refine Mag.set ?_ (fun h => by have := M24 h; omega) _ _ | refine Mag.drew ?_ | refine Mag.alloc ?_ _ | refine Mag.drewN ?_ _ | exact M24))).out.mono ?_
    rintro e w5 ⟨ax, cx, ay, cy, rfl, Mx5, My5, hb5⟩
    have Va5 : DyV w5 b0 false (decide (dman d < 0)) (.slice a1 (nl (dman d).natAbs) c1) (dexp d) := (by refine DyV.below ?_ hb5; (repeat (with_reducible first | refine DyV.drew ?_ | refine DyV.drewN ?_ _ | refine DyV.alloc ?_ _)); exact Va4.out)
    (try clear ac0 ac1 ac2 ac3 ac4)
    obtain ⟨ac0, ac1, ac2, ac3, ac4, ac5⟩ := Va5
    have Va5 := Lib.hid (DyV.mk ac0 ac1 ac2 ac3 ac4 ac5)
    have Vb5 : DyV w5 b1 false (decide (dman d' < 0)) (.slice a2 (nl (dman d').natAbs) c2) (dexp d') := (by refine DyV.below ?_ hb5; (repeat (with_reducible first | refine DyV.drew ?_ | refine DyV.drewN ?_ _ | refine DyV.alloc ?_ _)); exact Vb4.out)
    (try clear bc0 bc1 bc2 bc3 bc4)
    obtain ⟨bc0, bc1, bc2, bc3, bc4, bc5⟩ := Vb5
    have Vb5 := Lib.hid (DyV.mk bc0 bc1 bc2 bc3 bc4 bc5)
    have M15 : Mag w5 a1 (nl (dman d).natAbs) c1 (dman d).natAbs := Mag.below (by repeat (with_reducible first | refine Mag.set ?_ (fun h => by have := M14 h; omega) _ _ | refine Mag.drew ?_ | refine Mag.alloc ?_ _ | refine Mag.drewN ?_ _ | exact M14)) hb5
    have M25 : Mag w5 a2 (nl (dman d').natAbs) c2 (dman d').natAbs := Mag.below (by repeat (with_reducible first | refine Mag.set ?_ (fun h => by have := M24 h; omega) _ _ | refine Mag.drew ?_ | refine Mag.alloc ?_ _ | refine Mag.drewN ?_ _ | exact M24)) hb5
    have B5 := below_box (w := w) (by have hszw := (B4).size; repeat (with_reducible first | refine Below.setCell ?_ (by first | omega | (simp <;> omega)) _ | refine Below.alloc ?_ (by first | omega | (simp <;> omega)) _ | refine Below.drew ?_ | refine below_drewN ?_ _ | exact B4)) hb5
    clear hb5
    go_wp2_with fail
    have Vx6 := ((BgV.made' w5 24 (decide (X < 0)) (.slice ax (nl X.natAbs) cx) (n := w5.heap.size) (by rfl)).alloc (.cells #[.bool (decide (Y < 0)), (.slice ay (nl Y.natAbs) cy)] 24))
    have Vy6 := (BgV.made' (w5.alloc (.cells #[.bool (decide (X < 0)), (.slice ax (nl X.natAbs) cx)] 24)) 24 (decide (Y < 0)) (.slice ay (nl Y.natAbs) cy) (n := w5.heap.size + 1) (by rw [World.size_alloc]))
    have Va6 := (DyV.alloc (DyV.alloc Va5.out (.cells #[.bool (decide (X < 0)), (.slice ax (nl X.natAbs) cx)] 24)) (.cells #[.bool (decide (Y < 0)), (.slice ay (nl Y.natAbs) cy)] 24))
    have Vb6 := (DyV.alloc (DyV.alloc Vb5.out (.cells #[.bool (decide (X < 0)), (.slice ax (nl X.natAbs) cx)] 24)) (.cells #[.bool (decide (Y < 0)), (.slice ay (nl Y.natAbs) cy)] 24))
    have M16 := (Mag.alloc (Mag.alloc M15 (.cells #[.bool (decide (X < 0)), (.slice ax (nl X.natAbs) cx)] 24)) (.cells #[.bool (decide (Y < 0)), (.slice ay (nl Y.natAbs) cy)] 24))
    have M26 := (Mag.alloc (Mag.alloc M25 (.cells #[.bool (decide (X < 0)), (.slice ax (nl X.natAbs) cx)] 24)) (.cells #[.bool (decide (Y < 0)), (.slice ay (nl Y.natAbs) cy)] 24))
    have Mx6 := (Mag.alloc (Mag.alloc Mx5 (.cells #[.bool (decide (X < 0)), (.slice ax (nl X.natAbs) cx)] 24)) (.cells #[.bool (decide (Y < 0)), (.slice ay (nl Y.natAbs) cy)] 24))
    have My6 := (Mag.alloc (Mag.alloc My5 (.cells #[.bool (decide (X < 0)), (.slice ax (nl X.natAbs) cx)] 24)) (.cells #[.bool (decide (Y < 0)), (.slice ay (nl Y.natAbs) cy)] 24))
    have B6 : Below w.heap.size w ((w5.alloc (.cells #[.bool (decide (X < 0)), (.slice ax (nl X.natAbs) cx)] 24)).alloc (.cells #[.bool (decide (Y < 0)), (.slice ay (nl Y.natAbs) cy)] 24)) := (by have hszw := (B5).size; repeat (with_reducible first | refine Below.setCell ?_ (by first | omega | (simp <;> omega)) _ | refine Below.alloc ?_ (by first | omega | (simp <;> omega)) _ | refine Below.drew ?_ | refine below_drewN ?_ _ | exact B5))
    have nax : ¬ b0 = w5.heap.size := by have := Va5.out.lt; omega
    have nxa : ¬ w5.heap.size = b0 := by have := Va5.out.lt; omega
    have nbx : ¬ b1 = w5.heap.size := by have := Vb5.out.lt; omega
    have nxb : ¬ w5.heap.size = b1 := by have := Vb5.out.lt; omega
    have nxy : ¬ w5.heap.size = w5.heap.size + 1 := by omega
    have fr1x : 0 < (nl (dman d).natAbs) → ab a1 ≠ w5.heap.size := fun h => by have := M15.old h; omega
    have fr2x : 0 < (nl (dman d').natAbs) → ab a2 ≠ w5.heap.size := fun h => by have := M25.old h; omega
    have frxx : 0 < (nl X.natAbs) → ab ax ≠ w5.heap.size := fun h => by have := Mx5.old h; omega
    have fryx : 0 < (nl Y.natAbs) → ab ay ≠ w5.heap.size := fun h => by have := My5.old h; omega
    have gx : w.heap.size ≤ w5.heap.size := by have := B5.size; omega
    have nay : ¬ b0 = w5.heap.size + 1 := by have := Va5.out.lt; omega
    have nya : ¬ w5.heap.size + 1 = b0 := by have := Va5.out.lt; omega
    have nby : ¬ b1 = w5.heap.size + 1 := by have := Vb5.out.lt; omega
    have nyb : ¬ w5.heap.size + 1 = b1 := by have := Vb5.out.lt; omega
    have nyx : ¬ w5.heap.size + 1 = w5.heap.size := by omega
    have fr1y : 0 < (nl (dman d).natAbs) → ab a1 ≠ w5.heap.size + 1 := fun h => by have := M15.old h; omega
    have fr2y : 0 < (nl (dman d').natAbs) → ab a2 ≠ w5.heap.size + 1 := fun h => by have := M25.old h; omega
    have frxy : 0 < (nl X.natAbs) → ab ax ≠ w5.heap.size + 1 := fun h => by have := Mx5.old h; omega
    have fryy : 0 < (nl Y.natAbs) → ab ay ≠ w5.heap.size + 1 := fun h => by have := My5.old h; omega
    have gy : w.heap.size ≤ w5.heap.size + 1 := by have := B5.size; omega
    generalize ((w5.alloc (.cells #[.bool (decide (X < 0)), (.slice ax (nl X.natAbs) cx)] 24)).alloc (.cells #[.bool (decide (Y < 0)), (.slice ay (nl Y.natAbs) cy)] 24)) = w6 at Vx6 Vy6 Va6 Vb6 M16 M26 Mx6 My6 B6 ⊢
    generalize w5.heap.size + 1 = zy at Vy6 nax nxa nbx nxb nxy fr1x fr2x frxx fryx gx nay nya nby nyb nyx fr1y fr2y frxy fryy gy ⊢
    generalize w5.heap.size = zx at Vx6 nax nxa nbx nxb nxy fr1x fr2x frxx fryx gx nay nya nby nyb nyx fr1y fr2y frxy fryy gy ⊢
    (try clear ac0 ac1 ac2 ac3 ac4)
    obtain ⟨ac0, ac1, ac2, ac3, ac4, ac5⟩ := Va6
    have Va6 := Lib.hid (DyV.mk ac0 ac1 ac2 ac3 ac4 ac5)
    (try clear bc0 bc1 bc2 bc3 bc4)
    obtain ⟨bc0, bc1, bc2, bc3, bc4, bc5⟩ := Vb6
    have Vb6 := Lib.hid (DyV.mk bc0 bc1 bc2 bc3 bc4 bc5)
    (try clear xc0 xc1 xc2)
    obtain ⟨xc0, xc1, xc2, xc3⟩ := Vx6
    have Vx6 := Lib.hid (BgV.mk xc0 xc1 xc2 xc3)
    (try clear yc0 yc1 yc2)
    obtain ⟨yc0, yc1, yc2, yc3⟩ := Vy6
    have Vy6 := Lib.hid (BgV.mk yc0 yc1 yc2 yc3)
    refine (HC _ ax cx ay cy (by repeat (with_reducible first | refine Mag.set ?_ (fun h => by have := Mx6 h; omega) _ _ | refine Mag.drew ?_ | refine Mag.alloc ?_ _ | refine Mag.drewN ?_ _ | exact Mx6)) (by repeat (with_reducible first | refine Mag.set ?_ (fun h => by have := My6 h; omega) _ _ | refine Mag.drew ?_ | refine Mag.alloc ?_ _ | refine Mag.drewN ?_ _ | exact My6))).out.mono ?_
    rintro e w7 ⟨rfl, hb7⟩
    have Va7 : DyV w7 b0 false (decide (dman d < 0)) (.slice a1 (nl (dman d).natAbs) c1) (dexp d) := (by refine DyV.below ?_ hb7; (repeat (with_reducible first | refine DyV.drew ?_ | refine DyV.drewN ?_ _ | refine DyV.alloc ?_ _)); exact Va6.out)
    (try clear ac0 ac1 ac2 ac3 ac4)
    obtain ⟨ac0, ac1, ac2, ac3, ac4, ac5⟩ := Va7
    have Va7 := Lib.hid (DyV.mk ac0 ac1 ac2 ac3 ac4 ac5)
    have Vb7 : DyV w7 b1 false (decide (dman d' < 0)) (.slice a2 (nl (dman d').natAbs) c2) (dexp d') := (by refine DyV.below ?_ hb7; (repeat (with_reducible first | refine DyV.drew ?_ | refine DyV.drewN ?_ _ | refine DyV.alloc ?_ _)); exact Vb6.out)
    (try clear bc0 bc1 bc2 bc3 bc4)
    obtain ⟨bc0, bc1, bc2, bc3, bc4, bc5⟩ := Vb7
    have Vb7 := Lib.hid (DyV.mk bc0 bc1 bc2 bc3 bc4 bc5)
    have Vx7 : BgV w7 zx (decide (X < 0)) (.slice ax (nl X.natAbs) cx) := (by refine BgV.below ?_ hb7; (repeat (with_reducible first | refine BgV.drew ?_ | refine BgV.drewN ?_ _ | refine BgV.alloc ?_ _)); exact Vx6.out)
    (try clear xc0 xc1 xc2)
    obtain ⟨xc0, xc1, xc2, xc3⟩ := Vx7
    have Vx7 := Lib.hid (BgV.mk xc0 xc1 xc2 xc3)
    have Vy7 : BgV w7 zy (decide (Y < 0)) (.slice ay (nl Y.natAbs) cy) := (by refine BgV.below ?_ hb7; (repeat (with_reducible first | refine BgV.drew ?_ | refine BgV.drewN ?_ _ | refine BgV.alloc ?_ _)); exact Vy6.out)
    (try clear yc0 yc1 yc2)
    obtain ⟨yc0, yc1, yc2, yc3⟩ := Vy7
    have Vy7 := Lib.hid (BgV.mk yc0 yc1 yc2 yc3)
    have M17 : Mag w7 a1 (nl (dman d).natAbs) c1 (dman d).natAbs := Mag.below (by repeat (with_reducible first | refine Mag.set ?_ (fun h => by have := M16 h; omega) _ _ | refine Mag.drew ?_ | refine Mag.alloc ?_ _ | refine Mag.drewN ?_ _ | exact M16)) hb7
    have M27 : Mag w7 a2 (nl (dman d').natAbs) c2 (dman d').natAbs := Mag.below (by repeat (with_reducible first | refine Mag.set ?_ (fun h => by have := M26 h; omega) _ _ | refine Mag.drew ?_ | refine Mag.alloc ?_ _ | refine Mag.drewN ?_ _ | exact M26)) hb7
    have Mx7 : Mag w7 ax (nl X.natAbs) cx X.natAbs := Mag.below (by repeat (with_reducible first | refine Mag.set ?_ (fun h => by have := Mx6 h; omega) _ _ | refine Mag.drew ?_ | refine Mag.alloc ?_ _ | refine Mag.drewN ?_ _ | exact Mx6)) hb7
    have My7 : Mag w7 ay (nl Y.natAbs) cy Y.natAbs := Mag.below (by repeat (with_reducible first | refine Mag.set ?_ (fun h => by have := My6 h; omega) _ _ | refine Mag.drew ?_ | refine Mag.alloc ?_ _ | refine Mag.drewN ?_ _ | exact My6)) hb7
    have B7 := below_box (w := w) (by have hszw := (B6).size; repeat (with_reducible first | refine Below.setCell ?_ (by first | omega | (simp <;> omega)) _ | refine Below.alloc ?_ (by first | omega | (simp <;> omega)) _ | refine Below.drew ?_ | refine below_drewN ?_ _ | exact B6)) hb7
    clear hb7
    go_wp2_with fail
    refine bodyPost_ret2 (v := .tuple #[.int .i64 v, .bool true]) (by simp only [results, Tryz.results212]; go_simp) rfl ?_
    exact ⟨rfl, (by have hszw := (B7).size; repeat (with_reducible first | refine Below.setCell ?_ (by first | omega | (simp <;> omega)) _ | refine Below.alloc ?_ (by first | omega | (simp <;> omega)) _ | refine Below.drew ?_ | refine below_drewN ?_ _ | exact B7))⟩)

theorem rdcmp_any (w : World) (bd s bd' s' : Bool) (a a' : Option Addr) (n n' cap cap' : Nat) (e e' : Int) (d d' : Option (Int × Int)) (hx : DyIs w bd s a n cap e d) (hy : DyIs w bd' s' a' n' cap' e' d') (hT : Tab w) :
    Calls Tryz.prog 212 #[.agg #[.bool bd, .bool s, .slice a n cap, .int .i64 e], .agg #[.bool bd', .bool s', .slice a' n' cap', .int .i64 e']] w fun o w' => o = .returned (.tuple #[.int .i64 (dcmp d d'), .bool (!dbad d && !dbad d')]) ∧ Below w.heap.size w w' := by
  cases hb : dbad d with
  | true => have h := rdcmp_bad1 w bd s bd' s' a a' n n' cap cap' e e' d d' hx hy hT hb; rw [dbad_none hb]; exact h
  | false =>
    cases hb' : dbad d' with
    | true => have h := rdcmp_bad2 w bd s bd' s' a a' n n' cap cap' e e' d d' hx hy hT hb hb'; rw [dbad_none hb', some_of hb]; exact h
    | false =>
      refine rdcmp_ok w bd s bd' s' a a' n n' cap cap' e e' d d' hx hy hT hb hb' _ ?_
      rw [ale_cmp]
      conv => lhs; rw [some_of hb, some_of hb']
      rfl

end Go.Proofs.YtmpcikkimcehnaaGreatDoor

