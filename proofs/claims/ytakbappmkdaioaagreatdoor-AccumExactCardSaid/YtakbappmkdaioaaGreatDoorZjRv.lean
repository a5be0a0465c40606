/-
  Walks: the reference's dyads: Cmp, Add, Sub, Mul.
-/
import Derived.Test.YtakbappmkdaioaaGreatDoorZjRva
namespace Go.Proofs.YtakbappmkdaioaaGreatDoor
open Go.RowKit Sp

set_option maxRecDepth 100000 in
set_option maxHeartbeats 2000000 in
theorem rdadd_bad1 (w : World) (bd s bd' s' : Bool) (a a' : Option Addr) (n n' cap cap' : Nat) (e e' : Int) (d d' : Option (Int × Int)) (hx : DyIs w bd s a n cap e d) (hy : DyIs w bd' s' a' n' cap' e' d') (hT : Tab w) (hb : dbad d = true) :
    Calls Tryz.prog 149 #[.agg #[.bool bd, .bool s, .slice a n cap, .int .i64 e], .agg #[.bool bd', .bool s', .slice a' n' cap', .int .i64 e']] w (RetDy w none) := by
  have HN := fun W h ht => Lib.hid (@rdnorm_in W bd s a n cap e d h ht)
  have HN' := fun W h ht => Lib.hid (@rdnorm_in W bd' s' a' n' cap' e' d' h ht)
  have HB := fun W => Lib.hid (rbad_any W)
  go_enter Tryz.func149, Tryz.ntmps149
  go_wp2_with fail
  have Ia := (((DyV.made' w 26 bd s (.slice a n cap) e (n := w.heap.size) (by rfl)).alloc (.cells #[.bool bd', .bool s', (.slice a' n' cap'), .int .i64 e'] 26)).alloc (.cells #[.bool false, .bool false, (.slice none 0 0), .int .i64 0] 26))
  have Ib := ((DyV.made' (w.alloc (.cells #[.bool bd, .bool s, (.slice a n cap), .int .i64 e] 26)) 26 bd' s' (.slice a' n' cap') e' (n := w.heap.size + 1) (by rw [World.size_alloc])).alloc (.cells #[.bool false, .bool false, (.slice none 0 0), .int .i64 0] 26))
  have Ir := (DyV.made' ((w.alloc (.cells #[.bool bd, .bool s, (.slice a n cap), .int .i64 e] 26)).alloc (.cells #[.bool bd', .bool s', (.slice a' n' cap'), .int .i64 e'] 26)) 26 false false (.slice none 0 0) 0 (n := w.heap.size + 1 + 1) (by rw [World.size_alloc, World.size_alloc]))
  have B0 : Below w.heap.size w (((w.alloc (.cells #[.bool bd, .bool s, (.slice a n cap), .int .i64 e] 26)).alloc (.cells #[.bool bd', .bool s', (.slice a' n' cap'), .int .i64 e'] 26)).alloc (.cells #[.bool false, .bool false, (.slice none 0 0), .int .i64 0] 26)) := (by repeat (with_reducible first | refine Below.setCell ?_ (by simp <;> omega) _ | refine Below.alloc ?_ (by simp <;> omega) _ | refine Below.drew ?_ | refine below_drewN ?_ _ | exact Below.refl _ _))
  have nab : ¬ w.heap.size = w.heap.size + 1 := by omega
  have nar : ¬ w.heap.size = w.heap.size + 1 + 1 := by omega
  have nba : ¬ w.heap.size + 1 = w.heap.size := by omega
  have nbr : ¬ w.heap.size + 1 = w.heap.size + 1 + 1 := by omega
  have nra : ¬ w.heap.size + 1 + 1 = w.heap.size := by omega
  have nrb : ¬ w.heap.size + 1 + 1 = w.heap.size + 1 := by omega
  generalize (((w.alloc (.cells #[.bool bd, .bool s, (.slice a n cap), .int .i64 e] 26)).alloc (.cells #[.bool bd', .bool s', (.slice a' n' cap'), .int .i64 e'] 26)).alloc (.cells #[.bool false, .bool false, (.slice none 0 0), .int .i64 0] 26)) = w0 at Ia Ib Ir B0 ⊢
  generalize hb2 : w.heap.size + 1 + 1 = b2 at Ir nab nar nba nbr nra nrb ⊢
  generalize hb1 : w.heap.size + 1 = b1 at Ib nab nar nba nbr nra nrb hb2 ⊢
  generalize hb0 : w.heap.size = b0 at Ia nab nar nba nbr nra nrb hb1 ⊢
  obtain ⟨ac0, ac1, ac2, ac3, ac4, ac5⟩ := Ia
  have Va0 := Lib.hid (DyV.mk ac0 ac1 ac2 ac3 ac4 ac5)
  obtain ⟨bc0, bc1, bc2, bc3, bc4, bc5⟩ := Ib
  have Vb0 := Lib.hid (DyV.mk bc0 bc1 bc2 bc3 bc4 bc5)
  obtain ⟨rc0, rc1, rc2, rc3, rc4, rc5⟩ := Ir
  have Vr0 := Lib.hid (DyV.mk rc0 rc1 rc2 rc3 rc4 rc5)
  first
  | go_region_with
      (first
        | (go_at_call 136; have xx := B1; refine (HN' _ (hy.below (by have hszw := (B1).size; repeat (with_reducible first | refine Below.setCell ?_ (by first | omega | (simp <;> omega)) _ | refine Below.alloc ?_ (by first | omega | (simp <;> omega)) _ | refine Below.drew ?_ | refine below_drewN ?_ _ | exact B1))) (hT.below (by have hszw := (B1).size; repeat (with_reducible first | refine Below.setCell ?_ (by first | omega | (simp <;> omega)) _ | refine Below.alloc ?_ (by first | omega | (simp <;> omega)) _ | refine Below.drew ?_ | refine below_drewN ?_ _ | exact B1)))).out.mono ?_; rintro e w2 ⟨a2, c2, rfl, M22, hb2, hf2⟩; have Va2 : DyV w2 b0 bd s (.slice a n cap) e := (by refine DyV.below ?_ hb2; (repeat (with_reducible first | refine DyV.drew ?_ | refine DyV.drewN ?_ _ | refine DyV.alloc ?_ _)); exact Va1.out); (try clear ac0 ac1 ac2 ac3 ac4); obtain ⟨ac0, ac1, ac2, ac3, ac4, ac5⟩ := Va2; have Va2 := Lib.hid (DyV.mk ac0 ac1 ac2 ac3 ac4 ac5); have Vb2 : DyV w2 b1 bd' s' (.slice a' n' cap') e' := (by refine DyV.below ?_ hb2; (repeat (with_reducible first | refine DyV.drew ?_ | refine DyV.drewN ?_ _ | refine DyV.alloc ?_ _)); exact Vb1.out); (try clear bc0 bc1 bc2 bc3 bc4); obtain ⟨bc0, bc1, bc2, bc3, bc4, bc5⟩ := Vb2; have Vb2 := Lib.hid (DyV.mk bc0 bc1 bc2 bc3 bc4 bc5); have Vr2 : DyV w2 b2 false false (.slice none 0 0) 0 := (by refine DyV.below ?_ hb2; (repeat (with_reducible first | refine DyV.drew ?_ | refine DyV.drewN ?_ _ | refine DyV.alloc ?_ _)); exact Vr1.out); (try clear rc0 rc1 rc2 rc3 rc4); obtain ⟨rc0, rc1, rc2, rc3, rc4, rc5⟩ := Vr2; have Vr2 := Lib.hid (DyV.mk rc0 rc1 rc2 rc3 rc4 rc5); have M12 : Mag w2 a1 (nl (dman d).natAbs) c1 (dman d).natAbs := Mag.below (by repeat (with_reducible first | refine Mag.set ?_ (fun h => by have := M11 h; omega) _ _ | refine Mag.drew ?_ | refine Mag.alloc ?_ _ | refine Mag.drewN ?_ _ | exact M11)) hb2; have B2 := below_box (w := w) (by have hszw := (B1).size; repeat (with_reducible first | refine Below.setCell ?_ (by first | omega | (simp <;> omega)) _ | refine Below.alloc ?_ (by first | omega | (simp <;> omega)) _ | refine Below.drew ?_ | refine below_drewN ?_ _ | exact B1)) hb2; have hF2 : 0 < (nl (dman d').natAbs) → w1.heap.size ≤ ab a2 := (fun h => by have hq := hf2 h; (try simp at hq); omega); have fr2a : 0 < (nl (dman d').natAbs) → ab a2 ≠ b0 := (fun h => by have := hF2 h; have := Va1.out.lt; omega); have fr2b : 0 < (nl (dman d').natAbs) → ab a2 ≠ b1 := (fun h => by have := hF2 h; have := Vb1.out.lt; omega); have fr2r : 0 < (nl (dman d').natAbs) → ab a2 ≠ b2 := (fun h => by have := hF2 h; have := Vr1.out.lt; omega); have fo2 : 0 < (nl (dman d').natAbs) → w.heap.size ≤ ab a2 := (fun h => by have := hF2 h; have := B1.size; omega); clear hF2; clear hb2 hf2)
        | (go_at_call 136; refine (HN _ (hx.below (by have hszw := (B0).size; repeat (with_reducible first | refine Below.setCell ?_ (by first | omega | (simp <;> omega)) _ | refine Below.alloc ?_ (by first | omega | (simp <;> omega)) _ | refine Below.drew ?_ | refine below_drewN ?_ _ | exact B0))) (hT.below (by have hszw := (B0).size; repeat (with_reducible first | refine Below.setCell ?_ (by first | omega | (simp <;> omega)) _ | refine Below.alloc ?_ (by first | omega | (simp <;> omega)) _ | refine Below.drew ?_ | refine below_drewN ?_ _ | exact B0)))).out.mono ?_; rintro e w1 ⟨a1, c1, rfl, M11, hb1, hf1⟩; have Va1 : DyV w1 b0 bd s (.slice a n cap) e := (by refine DyV.below ?_ hb1; (repeat (with_reducible first | refine DyV.drew ?_ | refine DyV.drewN ?_ _ | refine DyV.alloc ?_ _)); exact Va0.out); (try clear ac0 ac1 ac2 ac3 ac4); obtain ⟨ac0, ac1, ac2, ac3, ac4, ac5⟩ := Va1; have Va1 := Lib.hid (DyV.mk ac0 ac1 ac2 ac3 ac4 ac5); have Vb1 : DyV w1 b1 bd' s' (.slice a' n' cap') e' := (by refine DyV.below ?_ hb1; (repeat (with_reducible first | refine DyV.drew ?_ | refine DyV.drewN ?_ _ | refine DyV.alloc ?_ _)); exact Vb0.out); (try clear bc0 bc1 bc2 bc3 bc4); obtain ⟨bc0, bc1, bc2, bc3, bc4, bc5⟩ := Vb1; have Vb1 := Lib.hid (DyV.mk bc0 bc1 bc2 bc3 bc4 bc5); have Vr1 : DyV w1 b2 false false (.slice none 0 0) 0 := (by refine DyV.below ?_ hb1; (repeat (with_reducible first | refine DyV.drew ?_ | refine DyV.drewN ?_ _ | refine DyV.alloc ?_ _)); exact Vr0.out); (try clear rc0 rc1 rc2 rc3 rc4); obtain ⟨rc0, rc1, rc2, rc3, rc4, rc5⟩ := Vr1; have Vr1 := Lib.hid (DyV.mk rc0 rc1 rc2 rc3 rc4 rc5); have B1 := below_box (w := w) (by have hszw := (B0).size; repeat (with_reducible first | refine Below.setCell ?_ (by first | omega | (simp <;> omega)) _ | refine Below.alloc ?_ (by first | omega | (simp <;> omega)) _ | refine Below.drew ?_ | refine below_drewN ?_ _ | exact B0)) hb1; have hF1 : 0 < (nl (dman d).natAbs) → w0.heap.size ≤ ab a1 := (fun h => by have hq := hf1 h; (try simp at hq); omega); have fr1a : 0 < (nl (dman d).natAbs) → ab a1 ≠ b0 := (fun h => by have := hF1 h; have := Va0.out.lt; omega); have fr1b : 0 < (nl (dman d).natAbs) → ab a1 ≠ b1 := (fun h => by have := hF1 h; have := Vb0.out.lt; omega); have fr1r : 0 < (nl (dman d).natAbs) → ab a1 ≠ b2 := (fun h => by have := hF1 h; have := Vr0.out.lt; omega); have fo1 : 0 < (nl (dman d).natAbs) → w.heap.size ≤ ab a1 := (fun h => by have := hF1 h; have := B0.size; omega); clear hF1; clear hb1 hf1)
        | fail)
  | fail "region"
  all_goals (
    go_wp2_with fail
    have Va3 := DyV.put Va2.out true (decide (dman d < 0)) (.slice a1 (nl (dman d).natAbs) c1) (dexp d)
    have Vb3 := (DyV.set (DyV.set (DyV.set (DyV.set Vb2.out nba 0 (.bool true)) nba 1 (.bool (decide (dman d < 0)))) nba 2 (.slice a1 (nl (dman d).natAbs) c1)) nba 3 (.int .i64 (dexp d)))
    have Vr3 := (DyV.set (DyV.set (DyV.set (DyV.set Vr2.out nra 0 (.bool true)) nra 1 (.bool (decide (dman d < 0)))) nra 2 (.slice a1 (nl (dman d).natAbs) c1)) nra 3 (.int .i64 (dexp d)))
    have M13 := (Mag.set (Mag.set (Mag.set (Mag.set M12 fr1a 0 (.bool true)) fr1a 1 (.bool (decide (dman d < 0)))) fr1a 2 (.slice a1 (nl (dman d).natAbs) c1)) fr1a 3 (.int .i64 (dexp d)))
    have M23 := (Mag.set (Mag.set (Mag.set (Mag.set M22 fr2a 0 (.bool true)) fr2a 1 (.bool (decide (dman d < 0)))) fr2a 2 (.slice a1 (nl (dman d).natAbs) c1)) fr2a 3 (.int .i64 (dexp d)))
    have B3 : Below w.heap.size w ((((w2.setCell ⟨b0, 0, none⟩ (.bool true)).setCell ⟨b0, 1, none⟩ (.bool (decide (dman d < 0)))).setCell ⟨b0, 2, none⟩ (.slice a1 (nl (dman d).natAbs) c1)).setCell ⟨b0, 3, none⟩ (.int .i64 (dexp d))) := (by have hszw := (B2).size; repeat (with_reducible first | refine Below.setCell ?_ (by first | omega | (simp <;> omega)) _ | refine Below.alloc ?_ (by first | omega | (simp <;> omega)) _ | refine Below.drew ?_ | refine below_drewN ?_ _ | exact B2))
    generalize ((((w2.setCell ⟨b0, 0, none⟩ (.bool true)).setCell ⟨b0, 1, none⟩ (.bool (decide (dman d < 0)))).setCell ⟨b0, 2, none⟩ (.slice a1 (nl (dman d).natAbs) c1)).setCell ⟨b0, 3, none⟩ (.int .i64 (dexp d))) = w3 at Va3 Vb3 Vr3 M13 M23 B3 ⊢
    (try clear ac0 ac1 ac2 ac3 ac4)
    obtain ⟨ac0, ac1, ac2, ac3, ac4, ac5⟩ := Va3
    have Va3 := Lib.hid (DyV.mk ac0 ac1 ac2 ac3 ac4 ac5)
    (try clear bc0 bc1 bc2 bc3 bc4)
    obtain ⟨bc0, bc1, bc2, bc3, bc4, bc5⟩ := Vb3
    have Vb3 := Lib.hid (DyV.mk bc0 bc1 bc2 bc3 bc4 bc5)
    (try clear rc0 rc1 rc2 rc3 rc4)
    obtain ⟨rc0, rc1, rc2, rc3, rc4, rc5⟩ := Vr3
    have Vr3 := Lib.hid (DyV.mk rc0 rc1 rc2 rc3 rc4 rc5)
    have Vb4 := DyV.put Vb3.out (dbad d') (decide (dman d' < 0)) (.slice a2 (nl (dman d').natAbs) c2) (dexp d')
    have Va4 := (DyV.set (DyV.set (DyV.set (DyV.set Va3.out nab 0 (.bool (dbad d'))) nab 1 (.bool (decide (dman d' < 0)))) nab 2 (.slice a2 (nl (dman d').natAbs) c2)) nab 3 (.int .i64 (dexp d')))
    have Vr4 := (DyV.set (DyV.set (DyV.set (DyV.set Vr3.out nrb 0 (.bool (dbad d'))) nrb 1 (.bool (decide (dman d' < 0)))) nrb 2 (.slice a2 (nl (dman d').natAbs) c2)) nrb 3 (.int .i64 (dexp d')))
    have M14 := (Mag.set (Mag.set (Mag.set (Mag.set M13 fr1b 0 (.bool (dbad d'))) fr1b 1 (.bool (decide (dman d' < 0)))) fr1b 2 (.slice a2 (nl (dman d').natAbs) c2)) fr1b 3 (.int .i64 (dexp d')))
    have M24 := (Mag.set (Mag.set (Mag.set (Mag.set M23 fr2b 0 (.bool (dbad d'))) fr2b 1 (.bool (decide (dman d' < 0)))) fr2b 2 (.slice a2 (nl (dman d').natAbs) c2)) fr2b 3 (.int .i64 (dexp d')))
    have B4 : Below w.heap.size w ((((w3.setCell ⟨b1, 0, none⟩ (.bool (dbad d'))).setCell ⟨b1, 1, none⟩ (.bool (decide (dman d' < 0)))).setCell ⟨b1, 2, none⟩ (.slice a2 (nl (dman d').natAbs) c2)).setCell ⟨b1, 3, none⟩ (.int .i64 (dexp d'))) := (by have hszw := (B3).size; repeat (with_reducible first | refine Below.setCell ?_ (by first | omega | (simp <;> omega)) _ | refine Below.alloc ?_ (by first | omega | (simp <;> omega)) _ | refine Below.drew ?_ | refine below_drewN ?_ _ | exact B3))
    generalize ((((w3.setCell ⟨b1, 0, none⟩ (.bool (dbad d'))).setCell ⟨b1, 1, none⟩ (.bool (decide (dman d' < 0)))).setCell ⟨b1, 2, none⟩ (.slice a2 (nl (dman d').natAbs) c2)).setCell ⟨b1, 3, none⟩ (.int .i64 (dexp d'))) = w4 at Vb4 Va4 Vr4 M14 M24 B4 ⊢
    (try clear ac0 ac1 ac2 ac3 ac4)
    obtain ⟨ac0, ac1, ac2, ac3, ac4, ac5⟩ := Va4
    have Va4 := Lib.hid (DyV.mk ac0 ac1 ac2 ac3 ac4 ac5)
    (try clear bc0 bc1 bc2 bc3 bc4)
    obtain ⟨bc0, bc1, bc2, bc3, bc4, bc5⟩ := Vb4
    have Vb4 := Lib.hid (DyV.mk bc0 bc1 bc2 bc3 bc4 bc5)
    (try clear rc0 rc1 rc2 rc3 rc4)
    obtain ⟨rc0, rc1, rc2, rc3, rc4, rc5⟩ := Vr4
    have Vr4 := Lib.hid (DyV.mk rc0 rc1 rc2 rc3 rc4 rc5)
    refine (HB _).out.mono ?_
    rintro e w5 ⟨rfl, hb5⟩
    have Va5 : DyV w5 b0 true (decide (dman d < 0)) (.slice a1 (nl (dman d).natAbs) c1) (dexp d) := (by refine DyV.below ?_ hb5; (repeat (with_reducible first | refine DyV.drew ?_ | refine DyV.drewN ?_ _ | refine DyV.alloc ?_ _)); exact Va4.out)
    (try clear ac0 ac1 ac2 ac3 ac4)
    obtain ⟨ac0, ac1, ac2, ac3, ac4, ac5⟩ := Va5
    have Va5 := Lib.hid (DyV.mk ac0 ac1 ac2 ac3 ac4 ac5)
    have Vb5 : DyV w5 b1 (dbad d') (decide (dman d' < 0)) (.slice a2 (nl (dman d').natAbs) c2) (dexp d') := (by refine DyV.below ?_ hb5; (repeat (with_reducible first | refine DyV.drew ?_ | refine DyV.drewN ?_ _ | refine DyV.alloc ?_ _)); exact Vb4.out)
    (try clear bc0 bc1 bc2 bc3 bc4)
    obtain ⟨bc0, bc1, bc2, bc3, bc4, bc5⟩ := Vb5
    have Vb5 := Lib.hid (DyV.mk bc0 bc1 bc2 bc3 bc4 bc5)
    have Vr5 : DyV w5 b2 false false (.slice none 0 0) 0 := (by refine DyV.below ?_ hb5; (repeat (with_reducible first | refine DyV.drew ?_ | refine DyV.drewN ?_ _ | refine DyV.alloc ?_ _)); exact Vr4.out)
    (try clear rc0 rc1 rc2 rc3 rc4)
    obtain ⟨rc0, rc1, rc2, rc3, rc4, rc5⟩ := Vr5
    have Vr5 := Lib.hid (DyV.mk rc0 rc1 rc2 rc3 rc4 rc5)
    have M15 : Mag w5 a1 (nl (dman d).natAbs) c1 (dman d).natAbs := Mag.below (by repeat (with_reducible first | refine Mag.set ?_ (fun h => by have := M14 h; omega) _ _ | refine Mag.drew ?_ | refine Mag.alloc ?_ _ | refine Mag.drewN ?_ _ | exact M14)) hb5
    have M25 : Mag w5 a2 (nl (dman d').natAbs) c2 (dman d').natAbs := Mag.below (by repeat (with_reducible first | refine Mag.set ?_ (fun h => by have := M24 h; omega) _ _ | refine Mag.drew ?_ | refine Mag.alloc ?_ _ | refine Mag.drewN ?_ _ | exact M24)) hb5
    have B5 := below_box (w := w) (by have hszw := (B4).size; repeat (with_reducible first | refine Below.setCell ?_ (by first | omega | (simp <;> omega)) _ | refine Below.alloc ?_ (by first | omega | (simp <;> omega)) _ | refine Below.drew ?_ | refine below_drewN ?_ _ | exact B4)) hb5
    clear hb5
    go_wp2_with fail
    refine bodyPost_ret (v := .agg #[.bool true, .bool false, .slice none 0 0, .int .i64 0]) (by simp only [results, Tryz.results149]; go_simp) rfl ?_
    exact ⟨none, 0, rfl, Mag.nil _, (by have hszw := (B5).size; repeat (with_reducible first | refine Below.setCell ?_ (by first | omega | (simp <;> omega)) _ | refine Below.alloc ?_ (by first | omega | (simp <;> omega)) _ | refine Below.drew ?_ | refine below_drewN ?_ _ | exact B5)), nl0⟩)

set_option maxRecDepth 100000 in
set_option maxHeartbeats 2000000 in
theorem rdadd_bad2 (w : World) (bd s bd' s' : Bool) (a a' : Option Addr) (n n' cap cap' : Nat) (e e' : Int) (d d' : Option (Int × Int)) (hx : DyIs w bd s a n cap e d) (hy : DyIs w bd' s' a' n' cap' e' d') (hT : Tab w) (hb : dbad d = false) (hb' : dbad d' = true) :
    Calls Tryz.prog 149 #[.agg #[.bool bd, .bool s, .slice a n cap, .int .i64 e], .agg #[.bool bd', .bool s', .slice a' n' cap', .int .i64 e']] w (RetDy w none) := by
  have HN := fun W h ht => Lib.hid (@rdnorm_in W bd s a n cap e d h ht)
  have HN' := fun W h ht => Lib.hid (@rdnorm_in W bd' s' a' n' cap' e' d' h ht)
  have HB := fun W => Lib.hid (rbad_any W)
  go_enter Tryz.func149, Tryz.ntmps149
  go_wp2_with fail
  have Ia := (((DyV.made' w 26 bd s (.slice a n cap) e (n := w.heap.size) (by rfl)).alloc (.cells #[.bool bd', .bool s', (.slice a' n' cap'), .int .i64 e'] 26)).alloc (.cells #[.bool false, .bool false, (.slice none 0 0), .int .i64 0] 26))
  have Ib := ((DyV.made' (w.alloc (.cells #[.bool bd, .bool s, (.slice a n cap), .int .i64 e] 26)) 26 bd' s' (.slice a' n' cap') e' (n := w.heap.size + 1) (by rw [World.size_alloc])).alloc (.cells #[.bool false, .bool false, (.slice none 0 0), .int .i64 0] 26))
  have Ir := (DyV.made' ((w.alloc (.cells #[.bool bd, .bool s, (.slice a n cap), .int .i64 e] 26)).alloc (.cells #[.bool bd', .bool s', (.slice a' n' cap'), .int .i64 e'] 26)) 26 false false (.slice none 0 0) 0 (n := w.heap.size + 1 + 1) (by rw [World.size_alloc, World.size_alloc]))
  have B0 : Below w.heap.size w (((w.alloc (.cells #[.bool bd, .bool s, (.slice a n cap), .int .i64 e] 26)).alloc (.cells #[.bool bd', .bool s', (.slice a' n' cap'), .int .i64 e'] 26)).alloc (.cells #[.bool false, .bool false, (.slice none 0 0), .int .i64 0] 26)) := (by repeat (with_reducible first | refine Below.setCell ?_ (by simp <;> omega) _ | refine Below.alloc ?_ (by simp <;> omega) _ | refine Below.drew ?_ | refine below_drewN ?_ _ | exact Below.refl _ _))
  have nab : ¬ w.heap.size = w.heap.size + 1 := by omega
  have nar : ¬ w.heap.size = w.heap.size + 1 + 1 := by omega
  have nba : ¬ w.heap.size + 1 = w.heap.size := by omega
  have nbr : ¬ w.heap.size + 1 = w.heap.size + 1 + 1 := by omega
  have nra : ¬ w.heap.size + 1 + 1 = w.heap.size := by omega
  have nrb : ¬ w.heap.size + 1 + 1 = w.heap.size + 1 := by omega
  generalize (((w.alloc (.cells #[.bool bd, .bool s, (.slice a n cap), .int .i64 e] 26)).alloc (.cells #[.bool bd', .bool s', (.slice a' n' cap'), .int .i64 e'] 26)).alloc (.cells #[.bool false, .bool false, (.slice none 0 0), .int .i64 0] 26)) = w0 at Ia Ib Ir B0 ⊢
  generalize hb2 : w.heap.size + 1 + 1 = b2 at Ir nab nar nba nbr nra nrb ⊢
  generalize hb1 : w.heap.size + 1 = b1 at Ib nab nar nba nbr nra nrb hb2 ⊢
  generalize hb0 : w.heap.size = b0 at Ia nab nar nba nbr nra nrb hb1 ⊢
  obtain ⟨ac0, ac1, ac2, ac3, ac4, ac5⟩ := Ia
  have Va0 := Lib.hid (DyV.mk ac0 ac1 ac2 ac3 ac4 ac5)
  obtain ⟨bc0, bc1, bc2, bc3, bc4, bc5⟩ := Ib
  have Vb0 := Lib.hid (DyV.mk bc0 bc1 bc2 bc3 bc4 bc5)
  obtain ⟨rc0, rc1, rc2, rc3, rc4, rc5⟩ := Ir
  have Vr0 := Lib.hid (DyV.mk rc0 rc1 rc2 rc3 rc4 rc5)
  first
  | go_region_with
      (first
        | (go_at_call 136; have xx := B1; refine (HN' _ (hy.below (by have hszw := (B1).size; repeat (with_reducible first | refine Below.setCell ?_ (by first | omega | (simp <;> omega)) _ | refine Below.alloc ?_ (by first | omega | (simp <;> omega)) _ | refine Below.drew ?_ | refine below_drewN ?_ _ | exact B1))) (hT.below (by have hszw := (B1).size; repeat (with_reducible first | refine Below.setCell ?_ (by first | omega | (simp <;> omega)) _ | refine Below.alloc ?_ (by first | omega | (simp <;> omega)) _ | refine Below.drew ?_ | refine below_drewN ?_ _ | exact B1)))).out.mono ?_; rintro e w2 ⟨a2, c2, rfl, M22, hb2, hf2⟩; have Va2 : DyV w2 b0 bd s (.slice a n cap) e := (by refine DyV.below ?_ hb2; (repeat (with_reducible first | refine DyV.drew ?_ | refine DyV.drewN ?_ _ | refine DyV.alloc ?_ _)); exact Va1.out); (try clear ac0 ac1 ac2 ac3 ac4); obtain ⟨ac0, ac1, ac2, ac3, ac4, ac5⟩ := Va2; have Va2 := Lib.hid (DyV.mk ac0 ac1 ac2 ac3 ac4 ac5); have Vb2 : DyV w2 b1 bd' s' (.slice a' n' cap') e' := (by refine DyV.below ?_ hb2; (repeat (with_reducible first | refine DyV.drew ?_ | refine DyV.drewN ?_ _ | refine DyV.alloc ?_ _)); exact Vb1.out); (try clear bc0 bc1 bc2 bc3 bc4); obtain ⟨bc0, bc1, bc2, bc3, bc4, bc5⟩ := Vb2; have Vb2 := Lib.hid (DyV.mk bc0 bc1 bc2 bc3 bc4 bc5); have Vr2 : DyV w2 b2 false false (.slice none 0 0) 0 := (by refine DyV.below ?_ hb2; (repeat (with_reducible first | refine DyV.drew ?_ | refine DyV.drewN ?_ _ | refine DyV.alloc ?_ _)); exact Vr1.out); (try clear rc0 rc1 rc2 rc3 rc4); obtain ⟨rc0, rc1, rc2, rc3, rc4, rc5⟩ := Vr2; have Vr2 := Lib.hid (DyV.mk rc0 rc1 rc2 rc3 rc4 rc5); have M12 : Mag w2 a1 (nl (dman d).natAbs) c1 (dman d).natAbs := Mag.below (by repeat (with_reducible first | refine Mag.set ?_ (fun h => by have := M11 h; omega) _ _ | refine Mag.drew ?_ | refine Mag.alloc ?_ _ | refine Mag.drewN ?_ _ | exact M11)) hb2; have B2 := below_box (w := w) (by have hszw := (B1).size; repeat (with_reducible first | refine Below.setCell ?_ (by first | omega | (simp <;> omega)) _ | refine Below.alloc ?_ (by first | omega | (simp <;> omega)) _ | refine Below.drew ?_ | refine below_drewN ?_ _ | exact B1)) hb2; have hF2 : 0 < (nl (dman d').natAbs) → w1.heap.size ≤ ab a2 := (fun h => by have hq := hf2 h; (try simp at hq); omega); have fr2a : 0 < (nl (dman d').natAbs) → ab a2 ≠ b0 := (fun h => by have := hF2 h; have := Va1.out.lt; omega); have fr2b : 0 < (nl (dman d').natAbs) → ab a2 ≠ b1 := (fun h => by have := hF2 h; have := Vb1.out.lt; omega); have fr2r : 0 < (nl (dman d').natAbs) → ab a2 ≠ b2 := (fun h => by have := hF2 h; have := Vr1.out.lt; omega); have fo2 : 0 < (nl (dman d').natAbs) → w.heap.size ≤ ab a2 := (fun h => by have := hF2 h; have := B1.size; omega); clear hF2; clear hb2 hf2)
        | (go_at_call 136; refine (HN _ (hx.below (by have hszw := (B0).size; repeat (with_reducible first | refine Below.setCell ?_ (by first | omega | (simp <;> omega)) _ | refine Below.alloc ?_ (by first | omega | (simp <;> omega)) _ | refine Below.drew ?_ | refine below_drewN ?_ _ | exact B0))) (hT.below (by have hszw := (B0).size; repeat (with_reducible first | refine Below.setCell ?_ (by first | omega | (simp <;> omega)) _ | refine Below.alloc ?_ (by first | omega | (simp <;> omega)) _ | refine Below.drew ?_ | refine below_drewN ?_ _ | exact B0)))).out.mono ?_; rintro e w1 ⟨a1, c1, rfl, M11, hb1, hf1⟩; have Va1 : DyV w1 b0 bd s (.slice a n cap) e := (by refine DyV.below ?_ hb1; (repeat (with_reducible first | refine DyV.drew ?_ | refine DyV.drewN ?_ _ | refine DyV.alloc ?_ _)); exact Va0.out); (try clear ac0 ac1 ac2 ac3 ac4); obtain ⟨ac0, ac1, ac2, ac3, ac4, ac5⟩ := Va1; have Va1 := Lib.hid (DyV.mk ac0 ac1 ac2 ac3 ac4 ac5); have Vb1 : DyV w1 b1 bd' s' (.slice a' n' cap') e' := (by refine DyV.below ?_ hb1; (repeat (with_reducible first | refine DyV.drew ?_ | refine DyV.drewN ?_ _ | refine DyV.alloc ?_ _)); exact Vb0.out); (try clear bc0 bc1 bc2 bc3 bc4); obtain ⟨bc0, bc1, bc2, bc3, bc4, bc5⟩ := Vb1; have Vb1 := Lib.hid (DyV.mk bc0 bc1 bc2 bc3 bc4 bc5); have Vr1 : DyV w1 b2 false false (.slice none 0 0) 0 := (by refine DyV.below ?_ hb1; (repeat (with_reducible first | refine DyV.drew ?_ | refine DyV.drewN ?_ _ | refine DyV.alloc ?_ _)); exact Vr0.out); (try clear rc0 rc1 rc2 rc3 rc4); obtain ⟨rc0, rc1, rc2, rc3, rc4, rc5⟩ := Vr1; have Vr1 := Lib.hid (DyV.mk rc0 rc1 rc2 rc3 rc4 rc5); have B1 := below_box (w := w) (by have hszw := (B0).size; repeat (with_reducible first | refine Below.setCell ?_ (by first | omega | (simp <;> omega)) _ | refine Below.alloc ?_ (by first | omega | (simp <;> omega)) _ | refine Below.drew ?_ | refine below_drewN ?_ _ | exact B0)) hb1; have hF1 : 0 < (nl (dman d).natAbs) → w0.heap.size ≤ ab a1 := (fun h => by have hq := hf1 h; (try simp at hq); omega); have fr1a : 0 < (nl (dman d).natAbs) → ab a1 ≠ b0 := (fun h => by have := hF1 h; have := Va0.out.lt; omega); have fr1b : 0 < (nl (dman d).natAbs) → ab a1 ≠ b1 := (fun h => by have := hF1 h; have := Vb0.out.lt; omega); have fr1r : 0 < (nl (dman d).natAbs) → ab a1 ≠ b2 := (fun h => by have := hF1 h; have := Vr0.out.lt; omega); have fo1 : 0 < (nl (dman d).natAbs) → w.heap.size ≤ ab a1 := (fun h => by have := hF1 h; have := B0.size; omega); clear hF1; clear hb1 hf1)
        | fail)
  | fail "region"
  all_goals (
    go_wp2_with fail
    have Va3 := DyV.put Va2.out false (decide (dman d < 0)) (.slice a1 (nl (dman d).natAbs) c1) (dexp d)
    have Vb3 := (DyV.set (DyV.set (DyV.set (DyV.set Vb2.out nba 0 (.bool false)) nba 1 (.bool (decide (dman d < 0)))) nba 2 (.slice a1 (nl (dman d).natAbs) c1)) nba 3 (.int .i64 (dexp d)))
    have Vr3 := (DyV.set (DyV.set (DyV.set (DyV.set Vr2.out nra 0 (.bool false)) nra 1 (.bool (decide (dman d < 0)))) nra 2 (.slice a1 (nl (dman d).natAbs) c1)) nra 3 (.int .i64 (dexp d)))
    have M13 := (Mag.set (Mag.set (Mag.set (Mag.set M12 fr1a 0 (.bool false)) fr1a 1 (.bool (decide (dman d < 0)))) fr1a 2 (.slice a1 (nl (dman d).natAbs) c1)) fr1a 3 (.int .i64 (dexp d)))
    have M23 := (Mag.set (Mag.set (Mag.set (Mag.set M22 fr2a 0 (.bool false)) fr2a 1 (.bool (decide (dman d < 0)))) fr2a 2 (.slice a1 (nl (dman d).natAbs) c1)) fr2a 3 (.int .i64 (dexp d)))
    have B3 : Below w.heap.size w ((((w2.setCell ⟨b0, 0, none⟩ (.bool false)).setCell ⟨b0, 1, none⟩ (.bool (decide (dman d < 0)))).setCell ⟨b0, 2, none⟩ (.slice a1 (nl (dman d).natAbs) c1)).setCell ⟨b0, 3, none⟩ (.int .i64 (dexp d))) := (by have hszw := (B2).size; repeat (with_reducible first | refine Below.setCell ?_ (by first | omega | (simp <;> omega)) _ | refine Below.alloc ?_ (by first | omega | (simp <;> omega)) _ | refine Below.drew ?_ | refine below_drewN ?_ _ | exact B2))
    generalize ((((w2.setCell ⟨b0, 0, none⟩ (.bool false)).setCell ⟨b0, 1, none⟩ (.bool (decide (dman d < 0)))).setCell ⟨b0, 2, none⟩ (.slice a1 (nl (dman d).natAbs) c1)).setCell ⟨b0, 3, none⟩ (.int .i64 (dexp d))) = w3 at Va3 Vb3 Vr3 M13 M23 B3 ⊢
    (try clear ac0 ac1 ac2 ac3 ac4)
    obtain ⟨ac0, ac1, ac2, ac3, ac4, ac5⟩ := Va3
    have Va3 := Lib.hid (DyV.mk ac0 ac1 ac2 ac3 ac4 ac5)
    (try clear bc0 bc1 bc2 bc3 bc4)
    obtain ⟨bc0, bc1, bc2, bc3, bc4, bc5⟩ := Vb3
    have Vb3 := Lib.hid (DyV.mk bc0 bc1 bc2 bc3 bc4 bc5)
    (try clear rc0 rc1 rc2 rc3 rc4)
    obtain ⟨rc0, rc1, rc2, rc3, rc4, rc5⟩ := Vr3
    have Vr3 := Lib.hid (DyV.mk rc0 rc1 rc2 rc3 rc4 rc5)
    have Vb4 := DyV.put Vb3.out true (decide (dman d' < 0)) (.slice a2 (nl (dman d').natAbs) c2) (dexp d')
    have Va4 := (DyV.set (DyV.set (DyV.set (DyV.set Va3.out nab 0 (.bool true)) nab 1 (.bool (decide (dman d' < 0)))) nab 2 (.slice a2 (nl (dman d').natAbs) c2)) nab 3 (.int .i64 (dexp d')))
    have Vr4 := (DyV.set (DyV.set (DyV.set (DyV.set Vr3.out nrb 0 (.bool true)) nrb 1 (.bool (decide (dman d' < 0)))) nrb 2 (.slice a2 (nl (dman d').natAbs) c2)) nrb 3 (.int .i64 (dexp d')))
    have M14 := (Mag.set (Mag.set (Mag.set (Mag.set M13 fr1b 0 (.bool true)) fr1b 1 (.bool (decide (dman d' < 0)))) fr1b 2 (.slice a2 (nl (dman d').natAbs) c2)) fr1b 3 (.int .i64 (dexp d')))
    have M24 := (Mag.set (Mag.set (Mag.set (Mag.set M23 fr2b 0 (.bool true)) fr2b 1 (.bool (decide (dman d' < 0)))) fr2b 2 (.slice a2 (nl (dman d').natAbs) c2)) fr2b 3 (.int .i64 (dexp d')))
    have B4 : Below w.heap.size w ((((w3.setCell ⟨b1, 0, none⟩ (.bool true)).setCell ⟨b1, 1, none⟩ (.bool (decide (dman d' < 0)))).setCell ⟨b1, 2, none⟩ (.slice a2 (nl (dman d').natAbs) c2)).setCell ⟨b1, 3, none⟩ (.int .i64 (dexp d'))) := (by have hszw := (B3).size; repeat (with_reducible first | refine Below.setCell ?_ (by first | omega | (simp <;> omega)) _ | refine Below.alloc ?_ (by first | omega | (simp <;> omega)) _ | refine Below.drew ?_ | refine below_drewN ?_ _ | exact B3))
    generalize ((((w3.setCell ⟨b1, 0, none⟩ (.bool true)).setCell ⟨b1, 1, none⟩ (.bool (decide (dman d' < 0)))).setCell ⟨b1, 2, none⟩ (.slice a2 (nl (dman d').natAbs) c2)).setCell ⟨b1, 3, none⟩ (.int .i64 (dexp d'))) = w4 at Vb4 Va4 Vr4 M14 M24 B4 ⊢
    (try clear ac0 ac1 ac2 ac3 ac4)
    obtain ⟨ac0, ac1, ac2, ac3, ac4, ac5⟩ := Va4
    have Va4 := Lib.hid (DyV.mk ac0 ac1 ac2 ac3 ac4 ac5)
    (try clear bc0 bc1 bc2 bc3 bc4)
    obtain ⟨bc0, bc1, bc2, bc3, bc4, bc5⟩ := Vb4
    have Vb4 := Lib.hid (DyV.mk bc0 bc1 bc2 bc3 bc4 bc5)
    (try clear rc0 rc1 rc2 rc3 rc4)
    obtain ⟨rc0, rc1, rc2, rc3, rc4, rc5⟩ := Vr4
    have Vr4 := Lib.hid (DyV.mk rc0 rc1 rc2 rc3 rc4 rc5)
    refine (HB _).out.mono ?_
    rintro e w5 ⟨rfl, hb5⟩
    have Va5 : DyV w5 b0 false (decide (dman d < 0)) (.slice a1 (nl (dman d).natAbs) c1) (dexp d) := (by refine DyV.below ?_ hb5; (repeat (with_reducible first | refine DyV.drew ?_ | refine DyV.drewN ?_ _ | refine DyV.alloc ?_ _)); exact Va4.out)
    (try clear ac0 ac1 ac2 ac3 ac4)
    obtain ⟨ac0, ac1, ac2, ac3, ac4, ac5⟩ := Va5
    have Va5 := Lib.hid (DyV.mk ac0 ac1 ac2 ac3 ac4 ac5)
    have Vb5 : DyV w5 b1 true (decide (dman d' < 0)) (.slice a2 (nl (dman d').natAbs) c2) (dexp d') := (by refine DyV.below ?_ hb5; (repeat (with_reducible first | refine DyV.drew ?_ | refine DyV.drewN ?_ _ | refine DyV.alloc ?_ _)); exact Vb4.out)
    (try clear bc0 bc1 bc2 bc3 bc4)
    obtain ⟨bc0, bc1, bc2, bc3, bc4, bc5⟩ := Vb5
    have Vb5 := Lib.hid (DyV.mk bc0 bc1 bc2 bc3 bc4 bc5)
    have Vr5 : DyV w5 b2 false false (.slice none 0 0) 0 := (by refine DyV.below ?_ hb5; (repeat (with_reducible first | refine DyV.drew ?_ | refine DyV.drewN ?_ _ | refine DyV.alloc ?_ _)); exact Vr4.out)
    (try clear rc0 rc1 rc2 rc3 rc4)
    obtain ⟨rc0, rc1, rc2, rc3, rc4, rc5⟩ := Vr5
    have Vr5 := Lib.hid (DyV.mk rc0 rc1 rc2 rc3 rc4 rc5)
    have M15 : Mag w5 a1 (nl (dman d).natAbs) c1 (dman d).natAbs := Mag.below (by repeat (with_reducible first | refine Mag.set ?_ (fun h => by have := M14 h; omega) _ _ | refine Mag.drew ?_ | refine Mag.alloc ?_ _ | refine Mag.drewN ?_ _ | exact M14)) hb5
    have M25 : Mag w5 a2 (nl (dman d').natAbs) c2 (dman d').natAbs := Mag.below (by repeat (with_reducible first | refine Mag.set ?_ (fun h => by have := M24 h; omega) _ _ | refine Mag.drew ?_ | refine Mag.alloc ?_ _ | refine Mag.drewN ?_ _ | exact M24)) hb5
    have B5 := below_box (w := w) (by have hszw := (B4).size; repeat (with_reducible first | refine Below.setCell ?_ (by first | omega | (simp <;> omega)) _ | refine Below.alloc ?_ (by first | omega | (simp <;> omega)) _ | refine Below.drew ?_ | refine below_drewN ?_ _ | exact B4)) hb5
    clear hb5
    go_wp2_with fail
    refine bodyPost_ret (v := .agg #[.bool true, .bool false, .slice none 0 0, .int .i64 0]) (by simp only [results, Tryz.results149]; go_simp) rfl ?_
    exact ⟨none, 0, rfl, Mag.nil _, (by have hszw := (B5).size; repeat (with_reducible first | refine Below.setCell ?_ (by first | omega | (simp <;> omega)) _ | refine Below.alloc ?_ (by first | omega | (simp <;> omega)) _ | refine Below.drew ?_ | refine below_drewN ?_ _ | exact B5)), nl0⟩)

set_option maxRecDepth 100000 in
set_option maxHeartbeats 2000000 in
theorem rdadd_ok (w : World) (bd s bd' s' : Bool) (a a' : Option Addr) (n n' cap cap' : Nat) (e e' : Int) (d d' : Option (Int × Int)) (hx : DyIs w bd s a n cap e d) (hy : DyIs w bd' s' a' n' cap' e' d') (hT : Tab w) (hb : dbad d = false) (hb' : dbad d' = false) (v : Option (Int × Int)) (hv : v = nrm (up (dman d) (dexp d) (ale (dman d) (dexp d) (dman d') (dexp d')) + up (dman d') (dexp d') (ale (dman d) (dexp d) (dman d') (dexp d'))) (ale (dman d) (dexp d) (dman d') (dexp d'))) :
    Calls Tryz.prog 149 #[.agg #[.bool bd, .bool s, .slice a n cap, .int .i64 e], .agg #[.bool bd', .bool s', .slice a' n' cap', .int .i64 e']] w (RetDy w v) := by
  have HN := fun W h ht => Lib.hid (@rdnorm_in W bd s a n cap e d h ht)
  have HN' := fun W h ht => Lib.hid (@rdnorm_in W bd' s' a' n' cap' e' d' h ht)
  have hbz := isN_bounds hx.1.isN
  have hbz' := isN_bounds hy.1.isN
  obtain ⟨E, hE⟩ : ∃ E, E = ale (dman d) (dexp d) (dman d') (dexp d') := ⟨_, rfl⟩
  have HA := fun W b c b' c' h h' => Lib.hid (ralign_any W false false b b' c c' (dman d) (dman d') (dexp d) (dexp d') h h' (nl_lim5 (by omega)) (nl_lim5 (by omega)) hbz.2.1 hbz.2.2 hbz'.2.1 hbz'.2.2)
  have hbl := ale_bl (dman d) (dexp d) (dman d') (dexp d') hbz.2 hbz'.2 hbz.1 hbz'.1
  have hge := ale_ge (dman d) (dexp d) (dman d') (dexp d') hbz.2 hbz'.2
  rw [← hE] at HA hbl hge hv
  obtain ⟨X, hX⟩ : ∃ X, X = up (dman d) (dexp d) E := ⟨_, rfl⟩
  obtain ⟨Y, hY⟩ : ∃ Y, Y = up (dman d') (dexp d') E := ⟨_, rfl⟩
  rw [← hX, ← hY] at HA hbl hv
  obtain ⟨hblX, hblY⟩ := hbl
  obtain ⟨u, hu⟩ : ∃ u, u = X + Y := ⟨_, rfl⟩
  have hblu : blen u.natAbs ≤ 262145 := by
    rw [hu]
    have h1 : (X + Y).natAbs ≤ X.natAbs + Y.natAbs := by omega
    have h2 := blen_mono h1
    have h3 := blen_add_le X.natAbs Y.natAbs
    omega
  rw [← hu] at hv
  have HC := fun W b c b' c' h h' => Lib.hid (radd_zz W b b' c c' X Y u hu h h' (nl_lim5 (by omega)) (nl_lim5 (by omega)))
  have HM := fun W b c h ht => Lib.hid (rmake_z W b c u E v hv h ht (nl_lim5 (by omega)) (by omega) (by omega))
  clear hE hX hY hv hu hge hblX hblY hblu hbz hbz'
  go_enter Tryz.func149, Tryz.ntmps149
  go_wp2_with fail
  have Ia := (((DyV.made' w 26 bd s (.slice a n cap) e (n := w.heap.size) (by rfl)).alloc (.cells #[.bool bd', .bool s', (.slice a' n' cap'), .int .i64 e'] 26)).alloc (.cells #[.bool false, .bool false, (.slice none 0 0), .int .i64 0] 26))
  have Ib := ((DyV.made' (w.alloc (.cells #[.bool bd, .bool s, (.slice a n cap), .int .i64 e] 26)) 26 bd' s' (.slice a' n' cap') e' (n := w.heap.size + 1) (by rw [World.size_alloc])).alloc (.cells #[.bool false, .bool false, (.slice none 0 0), .int .i64 0] 26))
  have Ir := (DyV.made' ((w.alloc (.cells #[.bool bd, .bool s, (.slice a n cap), .int .i64 e] 26)).alloc (.cells #[.bool bd', .bool s', (.slice a' n' cap'), .int .i64 e'] 26)) 26 false false (.slice none 0 0) 0 (n := w.heap.size + 1 + 1) (by rw [World.size_alloc, World.size_alloc]))
  have B0 : Below w.heap.size w (((w.alloc (.cells #[.bool bd, .bool s, (.slice a n cap), .int .i64 e] 26)).alloc (.cells #[.bool bd', .bool s', (.slice a' n' cap'), .int .i64 e'] 26)).alloc (.cells #[.bool false, .bool false, (.slice none 0 0), .int .i64 0] 26)) := (by repeat (with_reducible first | refine Below.setCell ?_ (by simp <;> omega) _ | refine Below.alloc ?_ (by simp <;> omega) _ | refine Below.drew ?_ | refine below_drewN ?_ _ | exact Below.refl _ _))
  have nab : ¬ w.heap.size = w.heap.size + 1 := by omega
  have nar : ¬ w.heap.size = w.heap.size + 1 + 1 := by omega
  have nba : ¬ w.heap.size + 1 = w.heap.size := by omega
  have nbr : ¬ w.heap.size + 1 = w.heap.size + 1 + 1 := by omega
  have nra : ¬ w.heap.size + 1 + 1 = w.heap.size := by omega
  have nrb : ¬ w.heap.size + 1 + 1 = w.heap.size + 1 := by omega
  generalize (((w.alloc (.cells #[.bool bd, .bool s, (.slice a n cap), .int .i64 e] 26)).alloc (.cells #[.bool bd', .bool s', (.slice a' n' cap'), .int .i64 e'] 26)).alloc (.cells #[.bool false, .bool false, (.slice none 0 0), .int .i64 0] 26)) = w0 at Ia Ib Ir B0 ⊢
  generalize hb2 : w.heap.size + 1 + 1 = b2 at Ir nab nar nba nbr nra nrb ⊢
  generalize hb1 : w.heap.size + 1 = b1 at Ib nab nar nba nbr nra nrb hb2 ⊢
  generalize hb0 : w.heap.size = b0 at Ia nab nar nba nbr nra nrb hb1 ⊢
  obtain ⟨ac0, ac1, ac2, ac3, ac4, ac5⟩ := Ia
  have Va0 := Lib.hid (DyV.mk ac0 ac1 ac2 ac3 ac4 ac5)
  obtain ⟨bc0, bc1, bc2, bc3, bc4, bc5⟩ := Ib
  have Vb0 := Lib.hid (DyV.mk bc0 bc1 bc2 bc3 bc4 bc5)
  obtain ⟨rc0, rc1, rc2, rc3, rc4, rc5⟩ := Ir
  have Vr0 := Lib.hid (DyV.mk rc0 rc1 rc2 rc3 rc4 rc5)
  first
  | go_region_with
      (first
        | (go_at_call 136; have xx := B1; refine (HN' _ (hy.below (by have hszw := (B1).size; repeat (with_reducible first | refine Below.setCell ?_ (by first | omega | (simp <;> omega)) _ | refine Below.alloc ?_ (by first | omega | (simp <;> omega)) _ | refine Below.drew ?_ | refine below_drewN ?_ _ | exact B1))) (hT.below (by have hszw := (B1).size; repeat (with_reducible first | refine Below.setCell ?_ (by first | omega | (simp <;> omega)) _ | refine Below.alloc ?_ (by first | omega | (simp <;> omega)) _ | refine Below.drew ?_ | refine below_drewN ?_ _ | exact B1)))).out.mono ?_; rintro e w2 ⟨a2, c2, rfl, M22, hb2, hf2⟩; have Va2 : DyV w2 b0 bd s (.slice a n cap) e := (by refine DyV.below ?_ hb2; (repeat (with_reducible first | refine DyV.drew ?_ | refine DyV.drewN ?_ _ | refine DyV.alloc ?_ _)); exact Va1.out); (try clear ac0 ac1 ac2 ac3 ac4); obtain ⟨ac0, ac1, ac2, ac3, ac4, ac5⟩ := Va2; have Va2 := Lib.hid (DyV.mk ac0 ac1 ac2 ac3 ac4 ac5); have Vb2 : DyV w2 b1 bd' s' (.slice a' n' cap') e' := (by refine DyV.below ?_ hb2; (repeat (with_reducible first | refine DyV.drew ?_ | refine DyV.drewN ?_ _ | refine DyV.alloc ?_ _)); exact Vb1.out); (try clear bc0 bc1 bc2 bc3 bc4); obtain ⟨bc0, bc1, bc2, bc3, bc4, bc5⟩ := Vb2; have Vb2 := Lib.hid (DyV.mk bc0 bc1 bc2 bc3 bc4 bc5); have Vr2 : DyV w2 b2 false false (.slice none 0 0) 0 := (by refine DyV.below ?_ hb2; (repeat (with_reducible first | refine DyV.drew ?_ | refine DyV.drewN ?_ _ | refine DyV.alloc ?_ _)); exact Vr1.out); (try clear rc0 rc1 rc2 rc3 rc4); obtain ⟨rc0, rc1, rc2, rc3, rc4, rc5⟩ := Vr2; have Vr2 := Lib.hid (DyV.mk rc0 rc1 rc2 rc3 rc4 rc5); have M12 : Mag w2 a1 (nl (dman d).natAbs) c1 (dman d).natAbs := Mag.below (by repeat (with_reducible first | refine Mag.set ?_ (fun h => by have := M11 h; omega) _ _ | refine Mag.drew ?_ | refine Mag.alloc ?_ _ | refine Mag.drewN ?_ _ | exact M11)) hb2; have B2 := below_box (w := w) (by have hszw := (B1).size; repeat (with_reducible first | refine Below.setCell ?_ (by first | omega | (simp <;> omega)) _ | refine Below.alloc ?_ (by first | omega | (simp <;> omega)) _ | refine Below.drew ?_ | refine below_drewN ?_ _ | exact B1)) hb2; have hF2 : 0 < (nl (dman d').natAbs) → w1.heap.size ≤ ab a2 := (fun h => by have hq := hf2 h; (try simp at hq); omega); have fr2a : 0 < (nl (dman d').natAbs) → ab a2 ≠ b0 := (fun h => by have := hF2 h; have := Va1.out.lt; omega); have fr2b : 0 < (nl (dman d').natAbs) → ab a2 ≠ b1 := (fun h => by have := hF2 h; have := Vb1.out.lt; omega); have fr2r : 0 < (nl (dman d').natAbs) → ab a2 ≠ b2 := (fun h => by have := hF2 h; have := Vr1.out.lt; omega); have fo2 : 0 < (nl (dman d').natAbs) → w.heap.size ≤ ab a2 := (fun h => by have := hF2 h; have := B1.size; omega); clear hF2; clear hb2 hf2)
        | (go_at_call 136; refine (HN _ (hx.below (by have hszw := (B0).size; repeat (with_reducible first | refine Below.setCell ?_ (by first | omega | (simp <;> omega)) _ | refine Below.alloc ?_ (by first | omega | (simp <;> omega)) _ | refine Below.drew ?_ | refine below_drewN ?_ _ | exact B0))) (hT.below (by have hszw := (B0).size; repeat (with_reducible first | refine Below.setCell ?_ (by first | omega | (simp <;> omega)) _ | refine Below.alloc ?_ (by first | omega | (simp <;> omega)) _ | refine Below.drew ?_ | refine below_drewN ?_ _ | exact B0)))).out.mono ?_; rintro e w1 ⟨a1, c1, rfl, M11, hb1, hf1⟩; have Va1 : DyV w1 b0 bd s (.slice a n cap) e := (by refine DyV.below ?_ hb1; (repeat (with_reducible first | refine DyV.drew ?_ | refine DyV.drewN ?_ _ | refine DyV.alloc ?_ _)); exact Va0.out); (try clear ac0 ac1 ac2 ac3 ac4); obtain ⟨ac0, ac1, ac2, ac3, ac4, ac5⟩ := Va1; have Va1 := Lib.hid (DyV.mk ac0 ac1 ac2 ac3 ac4 ac5); have Vb1 : DyV w1 b1 bd' s' (.slice a' n' cap') e' := (by refine DyV.below ?_ hb1; (repeat (with_reducible first | refine DyV.drew ?_ | refine DyV.drewN ?_ _ | refine DyV.alloc ?_ _)); exact Vb0.out); (try clear bc0 bc1 bc2 bc3 bc4); obtain ⟨bc0, bc1, bc2, bc3, bc4, bc5⟩ := Vb1; have Vb1 := Lib.hid (DyV.mk bc0 bc1 bc2 bc3 bc4 bc5); have Vr1 : DyV w1 b2 false false (.slice none 0 0) 0 := (by refine DyV.below ?_ hb1; (repeat (with_reducible first | refine DyV.drew ?_ | refine DyV.drewN ?_ _ | refine DyV.alloc ?_ _)); exact Vr0.out); (try clear rc0 rc1 rc2 rc3 rc4); obtain ⟨rc0, rc1, rc2, rc3, rc4, rc5⟩ := Vr1; have Vr1 := Lib.hid (DyV.mk rc0 rc1 rc2 rc3 rc4 rc5); have B1 := below_box (w := w) (by have hszw := (B0).size; repeat (with_reducible first | refine Below.setCell ?_ (by first | omega | (simp <;> omega)) _ | refine Below.alloc ?_ (by first | omega | (simp <;> omega)) _ | refine Below.drew ?_ | refine below_drewN ?_ _ | exact B0)) hb1; have hF1 : 0 < (nl (dman d).natAbs) → w0.heap.size ≤ ab a1 := (fun h => by have hq := hf1 h; (try simp at hq); omega); have fr1a : 0 < (nl (dman d).natAbs) → ab a1 ≠ b0 := (fun h => by have := hF1 h; have := Va0.out.lt; omega); have fr1b : 0 < (nl (dman d).natAbs) → ab a1 ≠ b1 := (fun h => by have := hF1 h; have := Vb0.out.lt; omega); have fr1r : 0 < (nl (dman d).natAbs) → ab a1 ≠ b2 := (fun h => by have := hF1 h; have := Vr0.out.lt; omega); have fo1 : 0 < (nl (dman d).natAbs) → w.heap.size ≤ ab a1 := (fun h => by have := hF1 h; have := B0.size; omega); clear hF1; clear hb1 hf1)
        | fail)
  | fail "region"
  all_goals (
    go_wp2_with fail
    have Va3 := DyV.put Va2.out false (decide (dman d < 0)) (.slice a1 (nl (dman d).natAbs) c1) (dexp d)
    have Vb3 := (DyV.set (DyV.set (DyV.set (DyV.set Vb2.out nba 0 (.bool false)) nba 1 (.bool (decide (dman d < 0)))) nba 2 (.slice a1 (nl (dman d).natAbs) c1)) nba 3 (.int .i64 (dexp d)))
    have Vr3 := (DyV.set (DyV.set (DyV.set (DyV.set Vr2.out nra 0 (.bool false)) nra 1 (.bool (decide (dman d < 0)))) nra 2 (.slice a1 (nl (dman d).natAbs) c1)) nra 3 (.int .i64 (dexp d)))
    have M13 := (Mag.set (Mag.set (Mag.set (Mag.set M12 fr1a 0 (.bool false)) fr1a 1 (.bool (decide (dman d < 0)))) fr1a 2 (.slice a1 (nl (dman d).natAbs) c1)) fr1a 3 (.int .i64 (dexp d)))
    have M23 := (Mag.set (Mag.set (Mag.set (Mag.set M22 fr2a 0 (.bool false)) fr2a 1 (.bool (decide (dman d < 0)))) fr2a 2 (.slice a1 (nl (dman d).natAbs) c1)) fr2a 3 (.int .i64 (dexp d)))
    have B3 : Below w.heap.size w ((((w2.setCell ⟨b0, 0, none⟩ (.bool false)).setCell ⟨b0, 1, none⟩ (.bool (decide (dman d < 0)))).setCell ⟨b0, 2, none⟩ (.slice a1 (nl (dman d).natAbs) c1)).setCell ⟨b0, 3, none⟩ (.int .i64 (dexp d))) := (by have hszw := (B2).size; repeat (with_reducible first | refine Below.setCell ?_ (by first | omega | (simp <;> omega)) _ | refine Below.alloc ?_ (by first | omega | (simp <;> omega)) _ | refine Below.drew ?_ | refine below_drewN ?_ _ | exact B2))
    generalize ((((w2.setCell ⟨b0, 0, none⟩ (.bool false)).setCell ⟨b0, 1, none⟩ (.bool (decide (dman d < 0)))).setCell ⟨b0, 2, none⟩ (.slice a1 (nl (dman d).natAbs) c1)).setCell ⟨b0, 3, none⟩ (.int .i64 (dexp d))) = w3 at Va3 Vb3 Vr3 M13 M23 B3 ⊢
    (try clear ac0 ac1 ac2 ac3 ac4)
    obtain ⟨ac0, ac1, ac2, ac3, ac4, ac5⟩ := Va3
    have Va3 := Lib.hid (DyV.mk ac0 ac1 ac2 ac3 ac4 ac5)
    (try clear bc0 bc1 bc2 bc3 bc4)
    obtain ⟨bc0, bc1, bc2, bc3, bc4, bc5⟩ := Vb3
    have Vb3 := Lib.hid (DyV.mk bc0 bc1 bc2 bc3 bc4 bc5)
    (try clear rc0 rc1 rc2 rc3 rc4)
    obtain ⟨rc0, rc1, rc2, rc3, rc4, rc5⟩ := Vr3
    have Vr3 := Lib.hid (DyV.mk rc0 rc1 rc2 rc3 rc4 rc5)
    have Vb4 := DyV.put Vb3.out false (decide (dman d' < 0)) (.slice a2 (nl (dman d').natAbs) c2) (dexp d')
    have Va4 := (DyV.set (DyV.set (DyV.set (DyV.set Va3.out nab 0 (.bool false)) nab 1 (.bool (decide (dman d' < 0)))) nab 2 (.slice a2 (nl (dman d').natAbs) c2)) nab 3 (.int .i64 (dexp d')))
    have Vr4 := (DyV.set (DyV.set (DyV.set (DyV.set Vr3.out nrb 0 (.bool false)) nrb 1 (.bool (decide (dman d' < 0)))) nrb 2 (.slice a2 (nl (dman d').natAbs) c2)) nrb 3 (.int .i64 (dexp d')))
    have M14 := (Mag.set (Mag.set (Mag.set (Mag.set M13 fr1b 0 (.bool false)) fr1b 1 (.bool (decide (dman d' < 0)))) fr1b 2 (.slice a2 (nl (dman d').natAbs) c2)) fr1b 3 (.int .i64 (dexp d')))
    have M24 := (Mag.set (Mag.set (Mag.set (Mag.set M23 fr2b 0 (.bool false)) fr2b 1 (.bool (decide (dman d' < 0)))) fr2b 2 (.slice a2 (nl (dman d').natAbs) c2)) fr2b 3 (.int .i64 (dexp d')))
    have B4 : Below w.heap.size w ((((w3.setCell ⟨b1, 0, none⟩ (.bool false)).setCell ⟨b1, 1, none⟩ (.bool (decide (dman d' < 0)))).setCell ⟨b1, 2, none⟩ (.slice a2 (nl (dman d').natAbs) c2)).setCell ⟨b1, 3, none⟩ (.int .i64 (dexp d'))) := (by have hszw := (B3).size; repeat (with_reducible first | refine Below.setCell ?_ (by first | omega | (simp <;> omega)) _ | refine Below.alloc ?_ (by first | omega | (simp <;> omega)) _ | refine Below.drew ?_ | refine below_drewN ?_ _ | exact B3))
    generalize ((((w3.setCell ⟨b1, 0, none⟩ (.bool false)).setCell ⟨b1, 1, none⟩ (.bool (decide (dman d' < 0)))).setCell ⟨b1, 2, none⟩ (.slice a2 (nl (dman d').natAbs) c2)).setCell ⟨b1, 3, none⟩ (.int .i64 (dexp d'))) = w4 at Vb4 Va4 Vr4 M14 M24 B4 ⊢
    (try clear ac0 ac1 ac2 ac3 ac4)
    obtain ⟨ac0, ac1, ac2, ac3, ac4, ac5⟩ := Va4
    have Va4 := Lib.hid (DyV.mk ac0 ac1 ac2 ac3 ac4 ac5)
    (try clear bc0 bc1 bc2 bc3 bc4)
    obtain ⟨bc0, bc1, bc2, bc3, bc4, bc5⟩ := Vb4
    have Vb4 := Lib.hid (DyV.mk bc0 bc1 bc2 bc3 bc4 bc5)
    (try clear rc0 rc1 rc2 rc3 rc4)
    obtain ⟨rc0, rc1, rc2, rc3, rc4, rc5⟩ := Vr4
    have Vr4 := Lib.hid (DyV.mk rc0 rc1 rc2 rc3 rc4 rc5)
    refine (HA _ a1 c1 a2 c2 (by repeat (with_reducible first | refine Mag.set ?_ (fun h => by have := M14 h; omega) _ _ | refine Mag.drew ?_ | refine Mag.alloc ?_ _ | refine Mag.drewN ?_ _ | exact M14)) (by repeat (with_reducible first | refine Mag.set ?_ (fun h => by have := M24 h; omega) _ _ | refine Mag.drew ?_ | refine Mag.alloc ?_ _ | refine Mag.drewN ?_ _ | exact M24))).out.mono ?_
    rintro e w5 ⟨ax, cx, ay, cy, rfl, Mx5, My5, hb5⟩
    have Va5 : DyV w5 b0 false (decide (dman d < 0)) (.slice a1 (nl (dman d).natAbs) c1) (dexp d) := (by refine DyV.below ?_ hb5; (repeat (with_reducible first | refine DyV.drew ?_ | refine DyV.drewN ?_ _ | refine DyV.alloc ?_ _)); exact Va4.out)
    (try clear ac0 ac1 ac2 ac3 ac4)
    obtain ⟨ac0, ac1, ac2, ac3, ac4, ac5⟩ := Va5
    have Va5 := Lib.hid (DyV.mk ac0 ac1 ac2 ac3 ac4 ac5)
    have Vb5 : DyV w5 b1 false (decide (dman d' < 0)) (.slice a2 (nl (dman d').natAbs) c2) (dexp d') := (by refine DyV.below ?_ hb5; (repeat (with_reducible first | refine DyV.drew ?_ | refine DyV.drewN ?_ _ | refine DyV.alloc ?_ _)); exact Vb4.out)
    (try clear bc0 bc1 bc2 bc3 bc4)
    obtain ⟨bc0, bc1, bc2, bc3, bc4, bc5⟩ := Vb5
    have Vb5 := Lib.hid (DyV.mk bc0 bc1 bc2 bc3 bc4 bc5)
    have Vr5 : DyV w5 b2 false false (.slice none 0 0) 0 := (by refine DyV.below ?_ hb5; (repeat (with_reducible first | refine DyV.drew ?_ | refine DyV.drewN ?_ _ | refine DyV.alloc ?_ _)); exact Vr4.out)
    (try clear rc0 rc1 rc2 rc3 rc4)
    obtain ⟨rc0, rc1, rc2, rc3, rc4, rc5⟩ := Vr5
    have Vr5 := Lib.hid (DyV.mk rc0 rc1 rc2 rc3 rc4 rc5)
    have M15 : Mag w5 a1 (nl (dman d).natAbs) c1 (dman d).natAbs := Mag.below (by repeat (with_reducible first | refine Mag.set ?_ (fun h => by have := M14 h; omega) _ _ | refine Mag.drew ?_ | refine Mag.alloc ?_ _ | refine Mag.drewN ?_ _ | exact M14)) hb5
    have M25 : Mag w5 a2 (nl (dman d').natAbs) c2 (dman d').natAbs := Mag.below (by repeat (with_reducible first | refine Mag.set ?_ (fun h => by have := M24 h; omega) _ _ | refine Mag.drew ?_ | refine Mag.alloc ?_ _ | refine Mag.drewN ?_ _ | exact M24)) hb5
    have B5 := below_box (w := w) (by have hszw := (B4).size; repeat (with_reducible first | refine Below.setCell ?_ (by first | omega | (simp <;> omega)) _ | refine Below.alloc ?_ (by first | omega | (simp <;> omega)) _ | refine Below.drew ?_ | refine below_drewN ?_ _ | exact B4)) hb5
    clear hb5
    go_wp2_with fail
    have Vx6 := ((BgV.made' w5 24 (decide (X < 0)) (.slice ax (nl X.natAbs) cx) (n := w5.heap.size) (by rfl)).alloc (.cells #[.bool (decide (Y < 0)), (.slice ay (nl Y.natAbs) cy)] 24))
    have Vy6 := (BgV.made' (w5.alloc (.cells #[.bool (decide (X < 0)), (.slice ax (nl X.natAbs) cx)] 24)) 24 (decide (Y < 0)) (.slice ay (nl Y.natAbs) cy) (n := w5.heap.size + 1) (by rw [World.size_alloc]))
    have Va6 := (DyV.alloc (DyV.alloc Va5.out (.cells #[.bool (decide (X < 0)), (.slice ax (nl X.natAbs) cx)] 24)) (.cells #[.bool (decide (Y < 0)), (.slice ay (nl Y.natAbs) cy)] 24))
    have Vb6 := (DyV.alloc (DyV.alloc Vb5.out (.cells #[.bool (decide (X < 0)), (.slice ax (nl X.natAbs) cx)] 24)) (.cells #[.bool (decide (Y < 0)), (.slice ay (nl Y.natAbs) cy)] 24))
    have Vr6 := (DyV.alloc (DyV.alloc Vr5.out (.cells #[.bool (decide (X < 0)), (.slice ax (nl X.natAbs) cx)] 24)) (.cells #[.bool (decide (Y < 0)), (.slice ay (nl Y.natAbs) cy)] 24))
    have M16 := (Mag.alloc (Mag.alloc M15 (.cells #[.bool (decide (X < 0)), (.slice ax (nl X.natAbs) cx)] 24)) (.cells #[.bool (decide (Y < 0)), (.slice ay (nl Y.natAbs) cy)] 24))
    have M26 := (Mag.alloc (Mag.alloc M25 (.cells #[.bool (decide (X < 0)), (.slice ax (nl X.natAbs) cx)] 24)) (.cells #[.bool (decide (Y < 0)), (.slice ay (nl Y.natAbs) cy)] 24))
    have Mx6 := (Mag.alloc (Mag.alloc Mx5 (.cells #[.bool (decide (X < 0)), (.slice ax (nl X.natAbs) cx)] 24)) (.cells #[.bool (decide (Y < 0)), (.slice ay (nl Y.natAbs) cy)] 24))
    have My6 := (Mag.alloc (Mag.alloc My5 (.cells #[.bool (decide (X < 0)), (.slice ax (nl X.natAbs) cx)] 24)) (.cells #[.bool (decide (Y < 0)), (.slice ay (nl Y.natAbs) cy)] 24))
    have B6 : Below w.heap.size w ((w5.alloc (.cells #[.bool (decide (X < 0)), (.slice ax (nl X.natAbs) cx)] 24)).alloc (.cells #[.bool (decide (Y < 0)), (.slice ay (nl Y.natAbs) cy)] 24)) := (by have hszw := (B5).size; repeat (with_reducible first | refine Below.setCell ?_ (by first | omega | (simp <;> omega)) _ | refine Below.alloc ?_ (by first | omega | (simp <;> omega)) _ | refine Below.drew ?_ | refine below_drewN ?_ _ | exact B5))
    have nax : ¬ b0 = w5.heap.size := by have := Va5.out.lt; omega
    have nxa : ¬ w5.heap.size = b0 := by have := Va5.out.lt; omega
    have nbx : ¬ b1 = w5.heap.size := by have := Vb5.out.lt; omega
    have nxb : ¬ w5.heap.size = b1 := by have := Vb5.out.lt; omega
    have nrx : ¬ b2 = w5.heap.size := by have := Vr5.out.lt; omega
    have nxr : ¬ w5.heap.size = b2 := by have := Vr5.out.lt; omega
    have nxy : ¬ w5.heap.size = w5.heap.size + 1 := by omega
    have fr1x : 0 < (nl (dman d).natAbs) → ab a1 ≠ w5.heap.size := fun h => by have := M15.old h; omega
    have fr2x : 0 < (nl (dman d').natAbs) → ab a2 ≠ w5.heap.size := fun h => by have := M25.old h; omega
    have frxx : 0 < (nl X.natAbs) → ab ax ≠ w5.heap.size := fun h => by have := Mx5.old h; omega
    have fryx : 0 < (nl Y.natAbs) → ab ay ≠ w5.heap.size := fun h => by have := My5.old h; omega
    have gx : w.heap.size ≤ w5.heap.size := by have := B5.size; omega
    have nay : ¬ b0 = w5.heap.size + 1 := by have := Va5.out.lt; omega
    have nya : ¬ w5.heap.size + 1 = b0 := by have := Va5.out.lt; omega
    have nby : ¬ b1 = w5.heap.size + 1 := by have := Vb5.out.lt; omega
    have nyb : ¬ w5.heap.size + 1 = b1 := by have := Vb5.out.lt; omega
    have nry : ¬ b2 = w5.heap.size + 1 := by have := Vr5.out.lt; omega
    have nyr : ¬ w5.heap.size + 1 = b2 := by have := Vr5.out.lt; omega
    have nyx : ¬ w5.heap.size + 1 = w5.heap.size := by omega
    have fr1y : 0 < (nl (dman d).natAbs) → ab a1 ≠ w5.heap.size + 1 := fun h => by have := M15.old h; omega
    have fr2y : 0 < (nl (dman d').natAbs) → ab a2 ≠ w5.heap.size + 1 := fun h => by have := M25.old h; omega
    have frxy : 0 < (nl X.natAbs) → ab ax ≠ w5.heap.size + 1 := fun h => by have := Mx5.old h; omega
    have fryy : 0 < (nl Y.natAbs) → ab ay ≠ w5.heap.size + 1 := fun h => by have := My5.old h; omega
    have gy : w.heap.size ≤ w5.heap.size + 1 := by have := B5.size; omega
    generalize ((w5.alloc (.cells #[.bool (decide (X < 0)), (.slice ax (nl X.natAbs) cx)] 24)).alloc (.cells #[.bool (decide (Y < 0)), (.slice ay (nl Y.natAbs) cy)] 24)) = w6 at Vx6 Vy6 Va6 Vb6 Vr6 M16 M26 Mx6 My6 B6 ⊢
    generalize w5.heap.size + 1 = zy at Vy6 nax nxa nbx nxb nrx nxr nxy fr1x fr2x frxx fryx gx nay nya nby nyb nry nyr nyx fr1y fr2y frxy fryy gy ⊢
    generalize w5.heap.size = zx at Vx6 nax nxa nbx nxb nrx nxr nxy fr1x fr2x frxx fryx gx nay nya nby nyb nry nyr nyx fr1y fr2y frxy fryy gy ⊢
    (try clear ac0 ac1 ac2 ac3 ac4)
    obtain ⟨ac0, ac1, ac2, ac3, ac4, ac5⟩ := Va6
    have Va6 := Lib.hid (DyV.mk ac0 ac1 ac2 ac3 ac4 ac5)
    (try clear bc0 bc1 bc2 bc3 bc4)
    obtain ⟨bc0, bc1, bc2, bc3, bc4, bc5⟩ := Vb6
    have Vb6 := Lib.hid (DyV.mk bc0 bc1 bc2 bc3 bc4 bc5)
    (try clear rc0 rc1 rc2 rc3 rc4)
    obtain ⟨rc0, rc1, rc2, rc3, rc4, rc5⟩ := Vr6
    have Vr6 := Lib.hid (DyV.mk rc0 rc1 rc2 rc3 rc4 rc5)
    (try clear xc0 xc1 xc2)
    obtain ⟨xc0, xc1, xc2, xc3⟩ := Vx6
    have Vx6 := Lib.hid (BgV.mk xc0 xc1 xc2 xc3)
    (try clear yc0 yc1 yc2)
    obtain ⟨yc0, yc1, yc2, yc3⟩ := Vy6
    have Vy6 := Lib.hid (BgV.mk yc0 yc1 yc2 yc3)
    refine (HC _ ax cx ay cy (by repeat (with_reducible first | refine Mag.set ?_ (fun h => by have := Mx6 h; omega) _ _ | refine Mag.drew ?_ | refine Mag.alloc ?_ _ | refine Mag.drewN ?_ _ | exact Mx6)) (by repeat (with_reducible first | refine Mag.set ?_ (fun h => by have := My6 h; omega) _ _ | refine Mag.drew ?_ | refine Mag.alloc ?_ _ | refine Mag.drewN ?_ _ | exact My6))).out.mono ?_
    rintro e w7 ⟨au, cu, rfl, Mu7, hb7, hf7⟩
    have Va7 : DyV w7 b0 false (decide (dman d < 0)) (.slice a1 (nl (dman d).natAbs) c1) (dexp d) := (by refine DyV.below ?_ hb7; (repeat (with_reducible first | refine DyV.drew ?_ | refine DyV.drewN ?_ _ | refine DyV.alloc ?_ _)); exact Va6.out)
    (try clear ac0 ac1 ac2 ac3 ac4)
    obtain ⟨ac0, ac1, ac2, ac3, ac4, ac5⟩ := Va7
    have Va7 := Lib.hid (DyV.mk ac0 ac1 ac2 ac3 ac4 ac5)
    have Vb7 : DyV w7 b1 false (decide (dman d' < 0)) (.slice a2 (nl (dman d').natAbs) c2) (dexp d') := (by refine DyV.below ?_ hb7; (repeat (with_reducible first | refine DyV.drew ?_ | refine DyV.drewN ?_ _ | refine DyV.alloc ?_ _)); exact Vb6.out)
    (try clear bc0 bc1 bc2 bc3 bc4)
    obtain ⟨bc0, bc1, bc2, bc3, bc4, bc5⟩ := Vb7
    have Vb7 := Lib.hid (DyV.mk bc0 bc1 bc2 bc3 bc4 bc5)
    have Vr7 : DyV w7 b2 false false (.slice none 0 0) 0 := (by refine DyV.below ?_ hb7; (repeat (with_reducible first | refine DyV.drew ?_ | refine DyV.drewN ?_ _ | refine DyV.alloc ?_ _)); exact Vr6.out)
    (try clear rc0 rc1 rc2 rc3 rc4)
    obtain ⟨rc0, rc1, rc2, rc3, rc4, rc5⟩ := Vr7
    have Vr7 := Lib.hid (DyV.mk rc0 rc1 rc2 rc3 rc4 rc5)
    have Vx7 : BgV w7 zx (decide (X < 0)) (.slice ax (nl X.natAbs) cx) := (by refine BgV.below ?_ hb7; (repeat (with_reducible first | refine BgV.drew ?_ | refine BgV.drewN ?_ _ | refine BgV.alloc ?_ _)); exact Vx6.out)
    (try clear xc0 xc1 xc2)
    obtain ⟨xc0, xc1, xc2, xc3⟩ := Vx7
    have Vx7 := Lib.hid (BgV.mk xc0 xc1 xc2 xc3)
    have Vy7 : BgV w7 zy (decide (Y < 0)) (.slice ay (nl Y.natAbs) cy) := (by refine BgV.below ?_ hb7; (repeat (with_reducible first | refine BgV.drew ?_ | refine BgV.drewN ?_ _ | refine BgV.alloc ?_ _)); exact Vy6.out)
    (try clear yc0 yc1 yc2)
    obtain ⟨yc0, yc1, yc2, yc3⟩ := Vy7
    have Vy7 := Lib.hid (BgV.mk yc0 yc1 yc2 yc3)
    have M17 : Mag w7 a1 (nl (dman d).natAbs) c1 (dman d).natAbs := Mag.below (by repeat (with_reducible first | refine Mag.set ?_ (fun h => by have := M16 h; omega) _ _ | refine Mag.drew ?_ | refine Mag.alloc ?_ _ | refine Mag.drewN ?_ _ | exact M16)) hb7
    have M27 : Mag w7 a2 (nl (dman d').natAbs) c2 (dman d').natAbs := Mag.below (by repeat (with_reducible first | refine Mag.set ?_ (fun h => by have := M26 h; omega) _ _ | refine Mag.drew ?_ | refine Mag.alloc ?_ _ | refine Mag.drewN ?_ _ | exact M26)) hb7
    have Mx7 : Mag w7 ax (nl X.natAbs) cx X.natAbs := Mag.below (by repeat (with_reducible first | refine Mag.set ?_ (fun h => by have := Mx6 h; omega) _ _ | refine Mag.drew ?_ | refine Mag.alloc ?_ _ | refine Mag.drewN ?_ _ | exact Mx6)) hb7
    have My7 : Mag w7 ay (nl Y.natAbs) cy Y.natAbs := Mag.below (by repeat (with_reducible first | refine Mag.set ?_ (fun h => by have := My6 h; omega) _ _ | refine Mag.drew ?_ | refine Mag.alloc ?_ _ | refine Mag.drewN ?_ _ | exact My6)) hb7
    have B7 := below_box (w := w) (by have hszw := (B6).size; repeat (with_reducible first | refine Below.setCell ?_ (by first | omega | (simp <;> omega)) _ | refine Below.alloc ?_ (by first | omega | (simp <;> omega)) _ | refine Below.drew ?_ | refine below_drewN ?_ _ | exact B6)) hb7
    have hF7 : 0 < (nl u.natAbs) → w6.heap.size ≤ ab au := (fun h => by have hq := hf7 h; (try simp at hq); omega)
    have frua : 0 < (nl u.natAbs) → ab au ≠ b0 := (fun h => by have := hF7 h; have := Va6.out.lt; omega)
    have frub : 0 < (nl u.natAbs) → ab au ≠ b1 := (fun h => by have := hF7 h; have := Vb6.out.lt; omega)
    have frur : 0 < (nl u.natAbs) → ab au ≠ b2 := (fun h => by have := hF7 h; have := Vr6.out.lt; omega)
    have frux : 0 < (nl u.natAbs) → ab au ≠ zx := (fun h => by have := hF7 h; have := Vx6.out.lt; omega)
    have fruy : 0 < (nl u.natAbs) → ab au ≠ zy := (fun h => by have := hF7 h; have := Vy6.out.lt; omega)
    have fou : 0 < (nl u.natAbs) → w.heap.size ≤ ab au := (fun h => by have := hF7 h; have := B6.size; omega)
    clear hF7
    clear hb7 hf7
    go_wp2_with fail
    refine (HM _ au cu (by repeat (with_reducible first | refine Mag.set ?_ (fun h => by have := Mu7 h; omega) _ _ | refine Mag.drew ?_ | refine Mag.alloc ?_ _ | refine Mag.drewN ?_ _ | exact Mu7)) (hT.below (by have hszw := (B7).size; repeat (with_reducible first | refine Below.setCell ?_ (by first | omega | (simp <;> omega)) _ | refine Below.alloc ?_ (by first | omega | (simp <;> omega)) _ | refine Below.drew ?_ | refine below_drewN ?_ _ | exact B7)))).out.mono ?_
    rintro e w8 ⟨av, cv, rfl, Mv8, hb8, hf8⟩
    have Va8 : DyV w8 b0 false (decide (dman d < 0)) (.slice a1 (nl (dman d).natAbs) c1) (dexp d) := (by refine DyV.below ?_ hb8; (repeat (with_reducible first | refine DyV.drew ?_ | refine DyV.drewN ?_ _ | refine DyV.alloc ?_ _)); exact Va7.out)
    (try clear ac0 ac1 ac2 ac3 ac4)
    obtain ⟨ac0, ac1, ac2, ac3, ac4, ac5⟩ := Va8
    have Va8 := Lib.hid (DyV.mk ac0 ac1 ac2 ac3 ac4 ac5)
    have Vb8 : DyV w8 b1 false (decide (dman d' < 0)) (.slice a2 (nl (dman d').natAbs) c2) (dexp d') := (by refine DyV.below ?_ hb8; (repeat (with_reducible first | refine DyV.drew ?_ | refine DyV.drewN ?_ _ | refine DyV.alloc ?_ _)); exact Vb7.out)
    (try clear bc0 bc1 bc2 bc3 bc4)
    obtain ⟨bc0, bc1, bc2, bc3, bc4, bc5⟩ := Vb8
    have Vb8 := Lib.hid (DyV.mk bc0 bc1 bc2 bc3 bc4 bc5)
    have Vr8 : DyV w8 b2 false false (.slice none 0 0) 0 := (by refine DyV.below ?_ hb8; (repeat (with_reducible first | refine DyV.drew ?_ | refine DyV.drewN ?_ _ | refine DyV.alloc ?_ _)); exact Vr7.out)
    (try clear rc0 rc1 rc2 rc3 rc4)
    obtain ⟨rc0, rc1, rc2, rc3, rc4, rc5⟩ := Vr8
    have Vr8 := Lib.hid (DyV.mk rc0 rc1 rc2 rc3 rc4 rc5)
    have Vx8 : BgV w8 zx (decide (X < 0)) (.slice ax (nl X.natAbs) cx) := (by refine BgV.below ?_ hb8; (repeat (with_reducible first | refine BgV.drew ?_ | refine BgV.drewN ?_ _ | refine BgV.alloc ?_ _)); exact Vx7.out)
    (try clear xc0 xc1 xc2)
    obtain ⟨xc0, xc1, xc2, xc3⟩ := Vx8
    have Vx8 := Lib.hid (BgV.mk xc0 xc1 xc2 xc3)
    have Vy8 : BgV w8 zy (decide (Y < 0)) (.slice ay (nl Y.natAbs) cy) := (by refine BgV.below ?_ hb8; (repeat (with_reducible first | refine BgV.drew ?_ | refine BgV.drewN ?_ _ | refine BgV.alloc ?_ _)); exact Vy7.out)
    (try clear yc0 yc1 yc2)
    obtain ⟨yc0, yc1, yc2, yc3⟩ := Vy8
    have Vy8 := Lib.hid (BgV.mk yc0 yc1 yc2 yc3)
    have M18 : Mag w8 a1 (nl (dman d).natAbs) c1 (dman d).natAbs := Mag.below (by repeat (with_reducible first | refine Mag.set ?_ (fun h => by have := M17 h; omega) _ _ | refine Mag.drew ?_ | refine Mag.alloc ?_ _ | refine Mag.drewN ?_ _ | exact M17)) hb8
    have M28 : Mag w8 a2 (nl (dman d').natAbs) c2 (dman d').natAbs := Mag.below (by repeat (with_reducible first | refine Mag.set ?_ (fun h => by have := M27 h; omega) _ _ | refine Mag.drew ?_ | refine Mag.alloc ?_ _ | refine Mag.drewN ?_ _ | exact M27)) hb8
    have Mx8 : Mag w8 ax (nl X.natAbs) cx X.natAbs := Mag.below (by repeat (with_reducible first | refine Mag.set ?_ (fun h => by have := Mx7 h; omega) _ _ | refine Mag.drew ?_ | refine Mag.alloc ?_ _ | refine Mag.drewN ?_ _ | exact Mx7)) hb8
    have My8 : Mag w8 ay (nl Y.natAbs) cy Y.natAbs := Mag.below (by repeat (with_reducible first | refine Mag.set ?_ (fun h => by have := My7 h; omega) _ _ | refine Mag.drew ?_ | refine Mag.alloc ?_ _ | refine Mag.drewN ?_ _ | exact My7)) hb8
    have Mu8 : Mag w8 au (nl u.natAbs) cu u.natAbs := Mag.below (by repeat (with_reducible first | refine Mag.set ?_ (fun h => by have := Mu7 h; omega) _ _ | refine Mag.drew ?_ | refine Mag.alloc ?_ _ | refine Mag.drewN ?_ _ | exact Mu7)) hb8
    have B8 := below_box (w := w) (by have hszw := (B7).size; repeat (with_reducible first | refine Below.setCell ?_ (by first | omega | (simp <;> omega)) _ | refine Below.alloc ?_ (by first | omega | (simp <;> omega)) _ | refine Below.drew ?_ | refine below_drewN ?_ _ | exact B7)) hb8
    have hF8 : 0 < (nl (dman v).natAbs) → w7.heap.size ≤ ab av := (fun h => by have hq := hf8 h; (try simp at hq); omega)
    have frva : 0 < (nl (dman v).natAbs) → ab av ≠ b0 := (fun h => by have := hF8 h; have := Va7.out.lt; omega)
    have frvb : 0 < (nl (dman v).natAbs) → ab av ≠ b1 := (fun h => by have := hF8 h; have := Vb7.out.lt; omega)
    have frvr : 0 < (nl (dman v).natAbs) → ab av ≠ b2 := (fun h => by have := hF8 h; have := Vr7.out.lt; omega)
    have frvx : 0 < (nl (dman v).natAbs) → ab av ≠ zx := (fun h => by have := hF8 h; have := Vx7.out.lt; omega)
    have frvy : 0 < (nl (dman v).natAbs) → ab av ≠ zy := (fun h => by have := hF8 h; have := Vy7.out.lt; omega)
    have fov : 0 < (nl (dman v).natAbs) → w.heap.size ≤ ab av := (fun h => by have := hF8 h; have := B7.size; omega)
    clear hF8
    clear hb8 hf8
    go_wp2_with fail
    refine bodyPost_ret (v := .agg #[.bool (dbad v), .bool (decide (dman v < 0)), .slice av (nl (dman v).natAbs) cv, .int .i64 (dexp v)]) (by simp only [results, Tryz.results149]; go_simp) rfl ?_
    exact ⟨av, cv, rfl, (by repeat (with_reducible first | refine Mag.set ?_ frva _ _ | refine Mag.set ?_ frvb _ _ | refine Mag.set ?_ frvr _ _ | refine Mag.set ?_ frvx _ _ | refine Mag.set ?_ frvy _ _ | refine Mag.drew ?_ | refine Mag.drewN ?_ _ | refine Mag.alloc ?_ _ | exact Mv8)), (by have hszw := (B8).size; repeat (with_reducible first | refine Below.setCell ?_ (by first | omega | (simp <;> omega)) _ | refine Below.alloc ?_ (by first | omega | (simp <;> omega)) _ | refine Below.drew ?_ | refine below_drewN ?_ _ | exact B8)), fov⟩)

theorem rdadd_any (w : World) (bd s bd' s' : Bool) (a a' : Option Addr) (n n' cap cap' : Nat) (e e' : Int) (d d' : Option (Int × Int)) (hx : DyIs w bd s a n cap e d) (hy : DyIs w bd' s' a' n' cap' e' d') (hT : Tab w) :
    Calls Tryz.prog 149 #[.agg #[.bool bd, .bool s, .slice a n cap, .int .i64 e], .agg #[.bool bd', .bool s', .slice a' n' cap', .int .i64 e']] w (RetDy w (dadd d d')) := by
  cases hb : dbad d with
  | true => have h := rdadd_bad1 w bd s bd' s' a a' n n' cap cap' e e' d d' hx hy hT hb; rw [dbad_none hb]; exact h
  | false =>
    cases hb' : dbad d' with
    | true => have h := rdadd_bad2 w bd s bd' s' a a' n n' cap cap' e e' d d' hx hy hT hb hb'; rw [dbad_none hb', some_of hb]; exact h
    | false =>
      have h1 := hx.1.isN
      have h2 := hy.1.isN
      refine rdadd_ok w bd s bd' s' a a' n n' cap cap' e e' d d' hx hy hT hb hb' _ ?_
      rw [ale_add _ _ _ _ (h1 _ _ (some_of hb)) (h2 _ _ (some_of hb'))]
      conv => lhs; rw [some_of hb, some_of hb']
      rfl

set_option maxRecDepth 100000 in
set_option maxHeartbeats 2000000 in
theorem rdsub_any (w : World) (bd s bd' s' : Bool) (a a' : Option Addr) (n n' cap cap' : Nat) (e e' : Int) (d d' : Option (Int × Int)) (hx : DyIs w bd s a n cap e d) (hy : DyIs w bd' s' a' n' cap' e' d') (hT : Tab w) :
    Calls Tryz.prog 148 #[.agg #[.bool bd, .bool s, .slice a n cap, .int .i64 e], .agg #[.bool bd', .bool s', .slice a' n' cap', .int .i64 e']] w (RetDy w (dsub d d')) := by
  have HN := fun W h ht => Lib.hid (rdneg_any W bd' s' a' n' cap' e' d' h ht)
  have hny : IsN (dneg d') := isN_neg hy.1.isN
  obtain ⟨y, hy2⟩ : ∃ y, y = dneg d' := ⟨_, rfl⟩
  have hbl := isN_bounds hny
  rw [← hy2] at HN hny hbl
  have HA := fun W h b c (h' : Mag W b (nl (dman y).natAbs) c (dman y).natAbs) ht => Lib.hid (rdadd_any W bd s (dbad y) (decide (dman y < 0)) a b n _ cap c e (dexp y) d y h ⟨dyin_of hny h', nl_lim5 (by omega)⟩ ht)
  rw [show dsub d d' = dadd d y by rw [hy2]; rfl]
  generalize dadd d y = v at HA ⊢
  clear hy2 hbl
  go_enter Tryz.func148, Tryz.ntmps148
  go_wp2_with fail
  have Ia := (((DyV.made' w 26 bd s (.slice a n cap) e (n := w.heap.size) (by rfl)).alloc (.cells #[.bool bd', .bool s', (.slice a' n' cap'), .int .i64 e'] 26)).alloc (.cells #[.bool false, .bool false, (.slice none 0 0), .int .i64 0] 26))
  have Ib := ((DyV.made' (w.alloc (.cells #[.bool bd, .bool s, (.slice a n cap), .int .i64 e] 26)) 26 bd' s' (.slice a' n' cap') e' (n := w.heap.size + 1) (by rw [World.size_alloc])).alloc (.cells #[.bool false, .bool false, (.slice none 0 0), .int .i64 0] 26))
  have Ir := (DyV.made' ((w.alloc (.cells #[.bool bd, .bool s, (.slice a n cap), .int .i64 e] 26)).alloc (.cells #[.bool bd', .bool s', (.slice a' n' cap'), .int .i64 e'] 26)) 26 false false (.slice none 0 0) 0 (n := w.heap.size + 1 + 1) (by rw [World.size_alloc, World.size_alloc]))
  have B0 : Below w.heap.size w (((w.alloc (.cells #[.bool bd, .bool s, (.slice a n cap), .int .i64 e] 26)).alloc (.cells #[.bool bd', .bool s', (.slice a' n' cap'), .int .i64 e'] 26)).alloc (.cells #[.bool false, .bool false, (.slice none 0 0), .int .i64 0] 26)) := (by repeat (with_reducible first | refine Below.setCell ?_ (by simp <;> omega) _ | refine Below.alloc ?_ (by simp <;> omega) _ | refine Below.drew ?_ | refine below_drewN ?_ _ | exact Below.refl _ _))
  have nab : ¬ w.heap.size = w.heap.size + 1 := by omega
  have nar : ¬ w.heap.size = w.heap.size + 1 + 1 := by omega
  have nba : ¬ w.heap.size + 1 = w.heap.size := by omega
  have nbr : ¬ w.heap.size + 1 = w.heap.size + 1 + 1 := by omega
  have nra : ¬ w.heap.size + 1 + 1 = w.heap.size := by omega
  have nrb : ¬ w.heap.size + 1 + 1 = w.heap.size + 1 := by omega
  generalize (((w.alloc (.cells #[.bool bd, .bool s, (.slice a n cap), .int .i64 e] 26)).alloc (.cells #[.bool bd', .bool s', (.slice a' n' cap'), .int .i64 e'] 26)).alloc (.cells #[.bool false, .bool false, (.slice none 0 0), .int .i64 0] 26)) = w0 at Ia Ib Ir B0 ⊢
  generalize hb2 : w.heap.size + 1 + 1 = b2 at Ir nab nar nba nbr nra nrb ⊢
  generalize hb1 : w.heap.size + 1 = b1 at Ib nab nar nba nbr nra nrb hb2 ⊢
  generalize hb0 : w.heap.size = b0 at Ia nab nar nba nbr nra nrb hb1 ⊢
  obtain ⟨ac0, ac1, ac2, ac3, ac4, ac5⟩ := Ia
  have Va0 := Lib.hid (DyV.mk ac0 ac1 ac2 ac3 ac4 ac5)
  obtain ⟨bc0, bc1, bc2, bc3, bc4, bc5⟩ := Ib
  have Vb0 := Lib.hid (DyV.mk bc0 bc1 bc2 bc3 bc4 bc5)
  obtain ⟨rc0, rc1, rc2, rc3, rc4, rc5⟩ := Ir
  have Vr0 := Lib.hid (DyV.mk rc0 rc1 rc2 rc3 rc4 rc5)
  first
  | go_region_held3 (fun w' => w'.cell? ⟨b0, 0, none⟩ = some (.bool bd) ∧ w'.cell? ⟨b0, 1, none⟩ = some (.bool s) ∧ w'.cell? ⟨b0, 2, none⟩ = some ((.slice a n cap)) ∧ w'.cell? ⟨b0, 3, none⟩ = some (.int .i64 e) ∧ w'.cell? ⟨b1, 0, none⟩ = some (.bool bd') ∧ w'.cell? ⟨b1, 1, none⟩ = some (.bool s') ∧ w'.cell? ⟨b1, 2, none⟩ = some ((.slice a' n' cap')) ∧ w'.cell? ⟨b1, 3, none⟩ = some (.int .i64 e')) (first | (go_keep; done) | (go_simp; done))
      (first
        | (go_at_call 149; have xx := B1; refine (HA _ (hx.below (by have hszw := (B1).size; repeat (with_reducible first | refine Below.setCell ?_ (by first | omega | (simp <;> omega)) _ | refine Below.alloc ?_ (by first | omega | (simp <;> omega)) _ | refine Below.drew ?_ | refine below_drewN ?_ _ | exact B1))) ay cy (by repeat (with_reducible first | refine Mag.set ?_ (fun h => by have := My1 h; omega) _ _ | refine Mag.drew ?_ | refine Mag.alloc ?_ _ | refine Mag.drewN ?_ _ | exact My1)) (hT.below (by have hszw := (B1).size; repeat (with_reducible first | refine Below.setCell ?_ (by first | omega | (simp <;> omega)) _ | refine Below.alloc ?_ (by first | omega | (simp <;> omega)) _ | refine Below.drew ?_ | refine below_drewN ?_ _ | exact B1)))).out.mono ?_; rintro e w2 ⟨av, cv, rfl, Mv2, hb2, hf2⟩; have Va2 : DyV w2 b0 bd s (.slice a n cap) e := (by refine DyV.below ?_ hb2; (repeat (with_reducible first | refine DyV.drew ?_ | refine DyV.drewN ?_ _ | refine DyV.alloc ?_ _)); exact Va1.out); (try clear ac0 ac1 ac2 ac3 ac4); obtain ⟨ac0, ac1, ac2, ac3, ac4, ac5⟩ := Va2; have Va2 := Lib.hid (DyV.mk ac0 ac1 ac2 ac3 ac4 ac5); have Vb2 : DyV w2 b1 bd' s' (.slice a' n' cap') e' := (by refine DyV.below ?_ hb2; (repeat (with_reducible first | refine DyV.drew ?_ | refine DyV.drewN ?_ _ | refine DyV.alloc ?_ _)); exact Vb1.out); (try clear bc0 bc1 bc2 bc3 bc4); obtain ⟨bc0, bc1, bc2, bc3, bc4, bc5⟩ := Vb2; have Vb2 := Lib.hid (DyV.mk bc0 bc1 bc2 bc3 bc4 bc5); have Vr2 : DyV w2 b2 false false (.slice none 0 0) 0 := (by refine DyV.below ?_ hb2; (repeat (with_reducible first | refine DyV.drew ?_ | refine DyV.drewN ?_ _ | refine DyV.alloc ?_ _)); exact Vr1.out); (try clear rc0 rc1 rc2 rc3 rc4); obtain ⟨rc0, rc1, rc2, rc3, rc4, rc5⟩ := Vr2; have Vr2 := Lib.hid (DyV.mk rc0 rc1 rc2 rc3 rc4 rc5); have My2 : Mag w2 ay (nl (dman y).natAbs) cy (dman y).natAbs := Mag.below (by repeat (with_reducible first | refine Mag.set ?_ (fun h => by have := My1 h; omega) _ _ | refine Mag.drew ?_ | refine Mag.alloc ?_ _ | refine Mag.drewN ?_ _ | exact My1)) hb2; have B2 := below_box (w := w) (by have hszw := (B1).size; repeat (with_reducible first | refine Below.setCell ?_ (by first | omega | (simp <;> omega)) _ | refine Below.alloc ?_ (by first | omega | (simp <;> omega)) _ | refine Below.drew ?_ | refine below_drewN ?_ _ | exact B1)) hb2; have hF2 : 0 < (nl (dman v).natAbs) → w1.heap.size ≤ ab av := (fun h => by have hq := hf2 h; (try simp at hq); omega); have frva : 0 < (nl (dman v).natAbs) → ab av ≠ b0 := (fun h => by have := hF2 h; have := Va1.out.lt; omega); have frvb : 0 < (nl (dman v).natAbs) → ab av ≠ b1 := (fun h => by have := hF2 h; have := Vb1.out.lt; omega); have frvr : 0 < (nl (dman v).natAbs) → ab av ≠ b2 := (fun h => by have := hF2 h; have := Vr1.out.lt; omega); have fov : 0 < (nl (dman v).natAbs) → w.heap.size ≤ ab av := (fun h => by have := hF2 h; have := B1.size; omega); clear hF2; clear hb2 hf2)
        | (go_at_call 232; refine (HN _ (hy.below (by have hszw := (B0).size; repeat (with_reducible first | refine Below.setCell ?_ (by first | omega | (simp <;> omega)) _ | refine Below.alloc ?_ (by first | omega | (simp <;> omega)) _ | refine Below.drew ?_ | refine below_drewN ?_ _ | exact B0))) (hT.below (by have hszw := (B0).size; repeat (with_reducible first | refine Below.setCell ?_ (by first | omega | (simp <;> omega)) _ | refine Below.alloc ?_ (by first | omega | (simp <;> omega)) _ | refine Below.drew ?_ | refine below_drewN ?_ _ | exact B0)))).out.mono ?_; rintro e w1 ⟨ay, cy, rfl, My1, hb1, hf1⟩; have Va1 : DyV w1 b0 bd s (.slice a n cap) e := (by refine DyV.below ?_ hb1; (repeat (with_reducible first | refine DyV.drew ?_ | refine DyV.drewN ?_ _ | refine DyV.alloc ?_ _)); exact Va0.out); (try clear ac0 ac1 ac2 ac3 ac4); obtain ⟨ac0, ac1, ac2, ac3, ac4, ac5⟩ := Va1; have Va1 := Lib.hid (DyV.mk ac0 ac1 ac2 ac3 ac4 ac5); have Vb1 : DyV w1 b1 bd' s' (.slice a' n' cap') e' := (by refine DyV.below ?_ hb1; (repeat (with_reducible first | refine DyV.drew ?_ | refine DyV.drewN ?_ _ | refine DyV.alloc ?_ _)); exact Vb0.out); (try clear bc0 bc1 bc2 bc3 bc4); obtain ⟨bc0, bc1, bc2, bc3, bc4, bc5⟩ := Vb1; have Vb1 := Lib.hid (DyV.mk bc0 bc1 bc2 bc3 bc4 bc5); have Vr1 : DyV w1 b2 false false (.slice none 0 0) 0 := (by refine DyV.below ?_ hb1; (repeat (with_reducible first | refine DyV.drew ?_ | refine DyV.drewN ?_ _ | refine DyV.alloc ?_ _)); exact Vr0.out); (try clear rc0 rc1 rc2 rc3 rc4); obtain ⟨rc0, rc1, rc2, rc3, rc4, rc5⟩ := Vr1; have Vr1 := Lib.hid (DyV.mk rc0 rc1 rc2 rc3 rc4 rc5); have B1 := below_box (w := w) (by have hszw := (B0).size; repeat (with_reducible first | refine Below.setCell ?_ (by first | omega | (simp <;> omega)) _ | refine Below.alloc ?_ (by first | omega | (simp <;> omega)) _ | refine Below.drew ?_ | refine below_drewN ?_ _ | exact B0)) hb1; have hF1 : 0 < (nl (dman y).natAbs) → w0.heap.size ≤ ab ay := (fun h => by have hq := hf1 h; (try simp at hq); omega); have frya : 0 < (nl (dman y).natAbs) → ab ay ≠ b0 := (fun h => by have := hF1 h; have := Va0.out.lt; omega); have fryb : 0 < (nl (dman y).natAbs) → ab ay ≠ b1 := (fun h => by have := hF1 h; have := Vb0.out.lt; omega); have fryr : 0 < (nl (dman y).natAbs) → ab ay ≠ b2 := (fun h => by have := hF1 h; have := Vr0.out.lt; omega); have foy : 0 < (nl (dman y).natAbs) → w.heap.size ≤ ab ay := (fun h => by have := hF1 h; have := B0.size; omega); clear hF1; clear hb1 hf1)
        | fail)
  | fail "region"
  go_wp2_with fail
  refine bodyPost_ret (v := .agg #[.bool (dbad v), .bool (decide (dman v < 0)), .slice av (nl (dman v).natAbs) cv, .int .i64 (dexp v)]) (by simp only [results, Tryz.results148]; go_simp) rfl ?_
  exact ⟨av, cv, rfl, (by repeat (with_reducible first | refine Mag.set ?_ frva _ _ | refine Mag.set ?_ frvb _ _ | refine Mag.set ?_ frvr _ _ | refine Mag.drew ?_ | refine Mag.drewN ?_ _ | refine Mag.alloc ?_ _ | exact Mv2)), (by have hszw := (B2).size; repeat (with_reducible first | refine Below.setCell ?_ (by first | omega | (simp <;> omega)) _ | refine Below.alloc ?_ (by first | omega | (simp <;> omega)) _ | refine Below.drew ?_ | refine below_drewN ?_ _ | exact B2)), fov⟩

set_option maxRecDepth 100000 in
set_option maxHeartbeats 2000000 in
theorem rdmul_bad1 (w : World) (bd s bd' s' : Bool) (a a' : Option Addr) (n n' cap cap' : Nat) (e e' : Int) (d d' : Option (Int × Int)) (hx : DyIs w bd s a n cap e d) (hy : DyIs w bd' s' a' n' cap' e' d') (hT : Tab w) (hb : dbad d = true) :
    Calls Tryz.prog 151 #[.agg #[.bool bd, .bool s, .slice a n cap, .int .i64 e], .agg #[.bool bd', .bool s', .slice a' n' cap', .int .i64 e']] w (RetDy w none) := by
  have HN := fun W h ht => Lib.hid (@rdnorm_in W bd s a n cap e d h ht)
  have HN' := fun W h ht => Lib.hid (@rdnorm_in W bd' s' a' n' cap' e' d' h ht)
  have HB := fun W => Lib.hid (rbad_any W)
  go_enter Tryz.func151, Tryz.ntmps151
  go_wp2_with fail
  have Ia := (((DyV.made' w 26 bd s (.slice a n cap) e (n := w.heap.size) (by rfl)).alloc (.cells #[.bool bd', .bool s', (.slice a' n' cap'), .int .i64 e'] 26)).alloc (.cells #[.bool false, .bool false, (.slice none 0 0), .int .i64 0] 26))
  have Ib := ((DyV.made' (w.alloc (.cells #[.bool bd, .bool s, (.slice a n cap), .int .i64 e] 26)) 26 bd' s' (.slice a' n' cap') e' (n := w.heap.size + 1) (by rw [World.size_alloc])).alloc (.cells #[.bool false, .bool false, (.slice none 0 0), .int .i64 0] 26))
  have Ir := (DyV.made' ((w.alloc (.cells #[.bool bd, .bool s, (.slice a n cap), .int .i64 e] 26)).alloc (.cells #[.bool bd', .bool s', (.slice a' n' cap'), .int .i64 e'] 26)) 26 false false (.slice none 0 0) 0 (n := w.heap.size + 1 + 1) (by rw [World.size_alloc, World.size_alloc]))
  have B0 : Below w.heap.size w (((w.alloc (.cells #[.bool bd, .bool s, (.slice a n cap), .int .i64 e] 26)).alloc (.cells #[.bool bd', .bool s', (.slice a' n' cap'), .int .i64 e'] 26)).alloc (.cells #[.bool false, .bool false, (.slice none 0 0), .int .i64 0] 26)) := (by repeat (with_reducible first | refine Below.setCell ?_ (by simp <;> omega) _ | refine Below.alloc ?_ (by simp <;> omega) _ | refine Below.drew ?_ | refine below_drewN ?_ _ | exact Below.refl _ _))
  have nab : ¬ w.heap.size = w.heap.size + 1 := by omega
  have nar : ¬ w.heap.size = w.heap.size + 1 + 1 := by omega
  have nba : ¬ w.heap.size + 1 = w.heap.size := by omega
  have nbr : ¬ w.heap.size + 1 = w.heap.size + 1 + 1 := by omega
  have nra : ¬ w.heap.size + 1 + 1 = w.heap.size := by omega
  have nrb : ¬ w.heap.size + 1 + 1 = w.heap.size + 1 := by omega
  generalize (((w.alloc (.cells #[.bool bd, .bool s, (.slice a n cap), .int .i64 e] 26)).alloc (.cells #[.bool bd', .bool s', (.slice a' n' cap'), .int .i64 e'] 26)).alloc (.cells #[.bool false, .bool false, (.slice none 0 0), .int .i64 0] 26)) = w0 at Ia Ib Ir B0 ⊢
  generalize hb2 : w.heap.size + 1 + 1 = b2 at Ir nab nar nba nbr nra nrb ⊢
  generalize hb1 : w.heap.size + 1 = b1 at Ib nab nar nba nbr nra nrb hb2 ⊢
  generalize hb0 : w.heap.size = b0 at Ia nab nar nba nbr nra nrb hb1 ⊢
  obtain ⟨ac0, ac1, ac2, ac3, ac4, ac5⟩ := Ia
  have Va0 := Lib.hid (DyV.mk ac0 ac1 ac2 ac3 ac4 ac5)
  obtain ⟨bc0, bc1, bc2, bc3, bc4, bc5⟩ := Ib
  have Vb0 := Lib.hid (DyV.mk bc0 bc1 bc2 bc3 bc4 bc5)
  obtain ⟨rc0, rc1, rc2, rc3, rc4, rc5⟩ := Ir
  have Vr0 := Lib.hid (DyV.mk rc0 rc1 rc2 rc3 rc4 rc5)
  first
  | go_region_with
      (first
        | (go_at_call 136; have xx := B1; refine (HN' _ (hy.below (by have hszw := (B1).size; repeat (with_reducible first | refine Below.setCell ?_ (by first | omega | (simp <;> omega)) _ | refine Below.alloc ?_ (by first | omega | (simp <;> omega)) _ | refine Below.drew ?_ | refine below_drewN ?_ _ | exact B1))) (hT.below (by have hszw := (B1).size; repeat (with_reducible first | refine Below.setCell ?_ (by first | omega | (simp <;> omega)) _ | refine Below.alloc ?_ (by first | omega | (simp <;> omega)) _ | refine Below.drew ?_ | refine below_drewN ?_ _ | exact B1)))).out.mono ?_; rintro e w2 ⟨a2, c2, rfl, M22, hb2, hf2⟩; have Va2 : DyV w2 b0 bd s (.slice a n cap) e := (by refine DyV.below ?_ hb2; (repeat (with_reducible first | refine DyV.drew ?_ | refine DyV.drewN ?_ _ | refine DyV.alloc ?_ _)); exact Va1.out); (try clear ac0 ac1 ac2 ac3 ac4); obtain ⟨ac0, ac1, ac2, ac3, ac4, ac5⟩ := Va2; have Va2 := Lib.hid (DyV.mk ac0 ac1 ac2 ac3 ac4 ac5); have Vb2 : DyV w2 b1 bd' s' (.slice a' n' cap') e' := (by refine DyV.below ?_ hb2; (repeat (with_reducible first | refine DyV.drew ?_ | refine DyV.drewN ?_ _ | refine DyV.alloc ?_ _)); exact Vb1.out); (try clear bc0 bc1 bc2 bc3 bc4); obtain ⟨bc0, bc1, bc2, bc3, bc4, bc5⟩ := Vb2; have Vb2 := Lib.hid (DyV.mk bc0 bc1 bc2 bc3 bc4 bc5); have Vr2 : DyV w2 b2 false false (.slice none 0 0) 0 := (by refine DyV.below ?_ hb2; (repeat (with_reducible first | refine DyV.drew ?_ | refine DyV.drewN ?_ _ | refine DyV.alloc ?_ _)); exact Vr1.out); (try clear rc0 rc1 rc2 rc3 rc4); obtain ⟨rc0, rc1, rc2, rc3, rc4, rc5⟩ := Vr2; have Vr2 := Lib.hid (DyV.mk rc0 rc1 rc2 rc3 rc4 rc5); have M12 : Mag w2 a1 (nl (dman d).natAbs) c1 (dman d).natAbs := Mag.below (by repeat (with_reducible first | refine Mag.set ?_ (fun h => by have := M11 h; omega) _ _ | refine Mag.drew ?_ | refine Mag.alloc ?_ _ | refine Mag.drewN ?_ _ | exact M11)) hb2; have B2 := below_box (w := w) (by have hszw := (B1).size; repeat (with_reducible first | refine Below.setCell ?_ (by first | omega | (simp <;> omega)) _ | refine Below.alloc ?_ (by first | omega | (simp <;> omega)) _ | refine Below.drew ?_ | refine below_drewN ?_ _ | exact B1)) hb2; have hF2 : 0 < (nl (dman d').natAbs) → w1.heap.size ≤ ab a2 := (fun h => by have hq := hf2 h; (try simp at hq); omega); have fr2a : 0 < (nl (dman d').natAbs) → ab a2 ≠ b0 := (fun h => by have := hF2 h; have := Va1.out.lt; omega); have fr2b : 0 < (nl (dman d').natAbs) → ab a2 ≠ b1 := (fun h => by have := hF2 h; have := Vb1.out.lt; omega); have fr2r : 0 < (nl (dman d').natAbs) → ab a2 ≠ b2 := (fun h => by have := hF2 h; have := Vr1.out.lt; omega); have fo2 : 0 < (nl (dman d').natAbs) → w.heap.size ≤ ab a2 := (fun h => by have := hF2 h; have := B1.size; omega); clear hF2; clear hb2 hf2)
        | (go_at_call 136; refine (HN _ (hx.below (by have hszw := (B0).size; repeat (with_reducible first | refine Below.setCell ?_ (by first | omega | (simp <;> omega)) _ | refine Below.alloc ?_ (by first | omega | (simp <;> omega)) _ | refine Below.drew ?_ | refine below_drewN ?_ _ | exact B0))) (hT.below (by have hszw := (B0).size; repeat (with_reducible first | refine Below.setCell ?_ (by first | omega | (simp <;> omega)) _ | refine Below.alloc ?_ (by first | omega | (simp <;> omega)) _ | refine Below.drew ?_ | refine below_drewN ?_ _ | exact B0)))).out.mono ?_; rintro e w1 ⟨a1, c1, rfl, M11, hb1, hf1⟩; have Va1 : DyV w1 b0 bd s (.slice a n cap) e := (by refine DyV.below ?_ hb1; (repeat (with_reducible first | refine DyV.drew ?_ | refine DyV.drewN ?_ _ | refine DyV.alloc ?_ _)); exact Va0.out); (try clear ac0 ac1 ac2 ac3 ac4); obtain ⟨ac0, ac1, ac2, ac3, ac4, ac5⟩ := Va1; have Va1 := Lib.hid (DyV.mk ac0 ac1 ac2 ac3 ac4 ac5); have Vb1 : DyV w1 b1 bd' s' (.slice a' n' cap') e' := (by refine DyV.below ?_ hb1; (repeat (with_reducible first | refine DyV.drew ?_ | refine DyV.drewN ?_ _ | refine DyV.alloc ?_ _)); exact Vb0.out); (try clear bc0 bc1 bc2 bc3 bc4); obtain ⟨bc0, bc1, bc2, bc3, bc4, bc5⟩ := Vb1; have Vb1 := Lib.hid (DyV.mk bc0 bc1 bc2 bc3 bc4 bc5); have Vr1 : DyV w1 b2 false false (.slice none 0 0) 0 := (by refine DyV.below ?_ hb1; (repeat (with_reducible first | refine DyV.drew ?_ | refine DyV.drewN ?_ _ | refine DyV.alloc ?_ _)); exact Vr0.out); (try clear rc0 rc1 rc2 rc3 rc4); obtain ⟨rc0, rc1, rc2, rc3, rc4, rc5⟩ := Vr1; have Vr1 := Lib.hid (DyV.mk rc0 rc1 rc2 rc3 rc4 rc5); have B1 := below_box (w := w) (by have hszw := (B0).size; repeat (with_reducible first | refine Below.setCell ?_ (by first | omega | (simp <;> omega)) _ | refine Below.alloc ?_ (by first | omega | (simp <;> omega)) _ | refine Below.drew ?_ | refine below_drewN ?_ _ | exact B0)) hb1; have hF1 : 0 < (nl (dman d).natAbs) → w0.heap.size ≤ ab a1 := (fun h => by have hq := hf1 h; (try simp at hq); omega); have fr1a : 0 < (nl (dman d).natAbs) → ab a1 ≠ b0 := (fun h => by have := hF1 h; have := Va0.out.lt; omega); have fr1b : 0 < (nl (dman d).natAbs) → ab a1 ≠ b1 := (fun h => by have := hF1 h; have := Vb0.out.lt; omega); have fr1r : 0 < (nl (dman d).natAbs) → ab a1 ≠ b2 := (fun h => by have := hF1 h; have := Vr0.out.lt; omega); have fo1 : 0 < (nl (dman d).natAbs) → w.heap.size ≤ ab a1 := (fun h => by have := hF1 h; have := B0.size; omega); clear hF1; clear hb1 hf1)
        | fail)
  | fail "region"
  all_goals (
    go_wp2_with fail
    have Va3 := DyV.put Va2.out true (decide (dman d < 0)) (.slice a1 (nl (dman d).natAbs) c1) (dexp d)
    have Vb3 := (DyV.set (DyV.set (DyV.set (DyV.set Vb2.out nba 0 (.bool true)) nba 1 (.bool (decide (dman d < 0)))) nba 2 (.slice a1 (nl (dman d).natAbs) c1)) nba 3 (.int .i64 (dexp d)))
    have Vr3 := (DyV.set (DyV.set (DyV.set (DyV.set Vr2.out nra 0 (.bool true)) nra 1 (.bool (decide (dman d < 0)))) nra 2 (.slice a1 (nl (dman d).natAbs) c1)) nra 3 (.int .i64 (dexp d)))
    have M13 := (Mag.set (Mag.set (Mag.set (Mag.set M12 fr1a 0 (.bool true)) fr1a 1 (.bool (decide (dman d < 0)))) fr1a 2 (.slice a1 (nl (dman d).natAbs) c1)) fr1a 3 (.int .i64 (dexp d)))
    have M23 := (Mag.set (Mag.set (Mag.set (Mag.set M22 fr2a 0 (.bool true)) fr2a 1 (.bool (decide (dman d < 0)))) fr2a 2 (.slice a1 (nl (dman d).natAbs) c1)) fr2a 3 (.int .i64 (dexp d)))
    have B3 : Below w.heap.size w ((((w2.setCell ⟨b0, 0, none⟩ (.bool true)).setCell ⟨b0, 1, none⟩ (.bool (decide (dman d < 0)))).setCell ⟨b0, 2, none⟩ (.slice a1 (nl (dman d).natAbs) c1)).setCell ⟨b0, 3, none⟩ (.int .i64 (dexp d))) := (by have hszw := (B2).size; repeat (with_reducible first | refine Below.setCell ?_ (by first | omega | (simp <;> omega)) _ | refine Below.alloc ?_ (by first | omega | (simp <;> omega)) _ | refine Below.drew ?_ | refine below_drewN ?_ _ | exact B2))
    generalize ((((w2.setCell ⟨b0, 0, none⟩ (.bool true)).setCell ⟨b0, 1, none⟩ (.bool (decide (dman d < 0)))).setCell ⟨b0, 2, none⟩ (.slice a1 (nl (dman d).natAbs) c1)).setCell ⟨b0, 3, none⟩ (.int .i64 (dexp d))) = w3 at Va3 Vb3 Vr3 M13 M23 B3 ⊢
    (try clear ac0 ac1 ac2 ac3 ac4)
    obtain ⟨ac0, ac1, ac2, ac3, ac4, ac5⟩ := Va3
    have Va3 := Lib.hid (DyV.mk ac0 ac1 ac2 ac3 ac4 ac5)
    (try clear bc0 bc1 bc2 bc3 bc4)
    obtain ⟨bc0, bc1, bc2, bc3, bc4, bc5⟩ := Vb3
    have Vb3 := Lib.hid (DyV.mk bc0 bc1 bc2 bc3 bc4 bc5)
    (try clear rc0 rc1 rc2 rc3 rc4)
    obtain ⟨rc0, rc1, rc2, rc3, rc4, rc5⟩ := Vr3
    have Vr3 := Lib.hid (DyV.mk rc0 rc1 rc2 rc3 rc4 rc5)
    have Vb4 := DyV.put Vb3.out (dbad d') (decide (dman d' < 0)) (.slice a2 (nl (dman d').natAbs) c2) (dexp d')
    have Va4 := (DyV.set (DyV.set (DyV.set (DyV.set Va3.out nab 0 (.bool (dbad d'))) nab 1 (.bool (decide (dman d' < 0)))) nab 2 (.slice a2 (nl (dman d').natAbs) c2)) nab 3 (.int .i64 (dexp d')))
    have Vr4 := (DyV.set (DyV.set (DyV.set (DyV.set Vr3.out nrb 0 (.bool (dbad d'))) nrb 1 (.bool (decide (dman d' < 0)))) nrb 2 (.slice a2 (nl (dman d').natAbs) c2)) nrb 3 (.int .i64 (dexp d')))
    have M14 := (Mag.set (Mag.set (Mag.set (Mag.set M13 fr1b 0 (.bool (dbad d'))) fr1b 1 (.bool (decide (dman d' < 0)))) fr1b 2 (.slice a2 (nl (dman d').natAbs) c2)) fr1b 3 (.int .i64 (dexp d')))
    have M24 := (Mag.set (Mag.set (Mag.set (Mag.set M23 fr2b 0 (.bool (dbad d'))) fr2b 1 (.bool (decide (dman d' < 0)))) fr2b 2 (.slice a2 (nl (dman d').natAbs) c2)) fr2b 3 (.int .i64 (dexp d')))
    have B4 : Below w.heap.size w ((((w3.setCell ⟨b1, 0, none⟩ (.bool (dbad d'))).setCell ⟨b1, 1, none⟩ (.bool (decide (dman d' < 0)))).setCell ⟨b1, 2, none⟩ (.slice a2 (nl (dman d').natAbs) c2)).setCell ⟨b1, 3, none⟩ (.int .i64 (dexp d'))) := (by have hszw := (B3).size; repeat (with_reducible first | refine Below.setCell ?_ (by first | omega | (simp <;> omega)) _ | refine Below.alloc ?_ (by first | omega | (simp <;> omega)) _ | refine Below.drew ?_ | refine below_drewN ?_ _ | exact B3))
    generalize ((((w3.setCell ⟨b1, 0, none⟩ (.bool (dbad d'))).setCell ⟨b1, 1, none⟩ (.bool (decide (dman d' < 0)))).setCell ⟨b1, 2, none⟩ (.slice a2 (nl (dman d').natAbs) c2)).setCell ⟨b1, 3, none⟩ (.int .i64 (dexp d'))) = w4 at Vb4 Va4 Vr4 M14 M24 B4 ⊢
    (try clear ac0 ac1 ac2 ac3 ac4)
    obtain ⟨ac0, ac1, ac2, ac3, ac4, ac5⟩ := Va4
    have Va4 := Lib.hid (DyV.mk ac0 ac1 ac2 ac3 ac4 ac5)
    (try clear bc0 bc1 bc2 bc3 bc4)
    obtain ⟨bc0, bc1, bc2, bc3, bc4, bc5⟩ := Vb4
    have Vb4 := Lib.hid (DyV.mk bc0 bc1 bc2 bc3 bc4 bc5)
    (try clear rc0 rc1 rc2 rc3 rc4)
    obtain ⟨rc0, rc1, rc2, rc3, rc4, rc5⟩ := Vr4
    have Vr4 := Lib.hid (DyV.mk rc0 rc1 rc2 rc3 rc4 rc5)
    refine (HB _).out.mono ?_
    rintro e w5 ⟨rfl, hb5⟩
    have Va5 : DyV w5 b0 true (decide (dman d < 0)) (.slice a1 (nl (dman d).natAbs) c1) (dexp d) := (by refine DyV.below ?_ hb5; (repeat (with_reducible first | refine DyV.drew ?_ | refine DyV.drewN ?_ _ | refine DyV.alloc ?_ _)); exact Va4.out)
    (try clear ac0 ac1 ac2 ac3 ac4)
    obtain ⟨ac0, ac1, ac2, ac3, ac4, ac5⟩ := Va5
    have Va5 := Lib.hid (DyV.mk ac0 ac1 ac2 ac3 ac4 ac5)
    have Vb5 : DyV w5 b1 (dbad d') (decide (dman d' < 0)) (.slice a2 (nl (dman d').natAbs) c2) (dexp d') := (by refine DyV.below ?_ hb5; (repeat (with_reducible first | refine DyV.drew ?_ | refine DyV.drewN ?_ _ | refine DyV.alloc ?_ _)); exact Vb4.out)
    (try clear bc0 bc1 bc2 bc3 bc4)
    obtain ⟨bc0, bc1, bc2, bc3, bc4, bc5⟩ := Vb5
    have Vb5 := Lib.hid (DyV.mk bc0 bc1 bc2 bc3 bc4 bc5)
    have Vr5 : DyV w5 b2 false false (.slice none 0 0) 0 := (by refine DyV.below ?_ hb5; (repeat (with_reducible first | refine DyV.drew ?_ | refine DyV.drewN ?_ _ | refine DyV.alloc ?_ _)); exact Vr4.out)
    (try clear rc0 rc1 rc2 rc3 rc4)
    obtain ⟨rc0, rc1, rc2, rc3, rc4, rc5⟩ := Vr5
    have Vr5 := Lib.hid (DyV.mk rc0 rc1 rc2 rc3 rc4 rc5)
    have M15 : Mag w5 a1 (nl (dman d).natAbs) c1 (dman d).natAbs := Mag.below (by repeat (with_reducible first | refine Mag.set ?_ (fun h => by have := M14 h; omega) _ _ | refine Mag.drew ?_ | refine Mag.alloc ?_ _ | refine Mag.drewN ?_ _ | exact M14)) hb5
    have M25 : Mag w5 a2 (nl (dman d').natAbs) c2 (dman d').natAbs := Mag.below (by repeat (with_reducible first | refine Mag.set ?_ (fun h => by have := M24 h; omega) _ _ | refine Mag.drew ?_ | refine Mag.alloc ?_ _ | refine Mag.drewN ?_ _ | exact M24)) hb5
    have B5 := below_box (w := w) (by have hszw := (B4).size; repeat (with_reducible first | refine Below.setCell ?_ (by first | omega | (simp <;> omega)) _ | refine Below.alloc ?_ (by first | omega | (simp <;> omega)) _ | refine Below.drew ?_ | refine below_drewN ?_ _ | exact B4)) hb5
    clear hb5
    go_wp2_with fail
    refine bodyPost_ret (v := .agg #[.bool true, .bool false, .slice none 0 0, .int .i64 0]) (by simp only [results, Tryz.results151]; go_simp) rfl ?_
    exact ⟨none, 0, rfl, Mag.nil _, (by have hszw := (B5).size; repeat (with_reducible first | refine Below.setCell ?_ (by first | omega | (simp <;> omega)) _ | refine Below.alloc ?_ (by first | omega | (simp <;> omega)) _ | refine Below.drew ?_ | refine below_drewN ?_ _ | exact B5)), nl0⟩)

set_option maxRecDepth 100000 in
set_option maxHeartbeats 2000000 in
theorem rdmul_bad2 (w : World) (bd s bd' s' : Bool) (a a' : Option Addr) (n n' cap cap' : Nat) (e e' : Int) (d d' : Option (Int × Int)) (hx : DyIs w bd s a n cap e d) (hy : DyIs w bd' s' a' n' cap' e' d') (hT : Tab w) (hb : dbad d = false) (hb' : dbad d' = true) :
    Calls Tryz.prog 151 #[.agg #[.bool bd, .bool s, .slice a n cap, .int .i64 e], .agg #[.bool bd', .bool s', .slice a' n' cap', .int .i64 e']] w (RetDy w none) := by
  have HN := fun W h ht => Lib.hid (@rdnorm_in W bd s a n cap e d h ht)
  have HN' := fun W h ht => Lib.hid (@rdnorm_in W bd' s' a' n' cap' e' d' h ht)
  have HB := fun W => Lib.hid (rbad_any W)
  go_enter Tryz.func151, Tryz.ntmps151
  go_wp2_with fail
  have Ia := (((DyV.made' w 26 bd s (.slice a n cap) e (n := w.heap.size) (by rfl)).alloc (.cells #[.bool bd', .bool s', (.slice a' n' cap'), .int .i64 e'] 26)).alloc (.cells #[.bool false, .bool false, (.slice none 0 0), .int .i64 0] 26))
  have Ib := ((DyV.made' (w.alloc (.cells #[.bool bd, .bool s, (.slice a n cap), .int .i64 e] 26)) 26 bd' s' (.slice a' n' cap') e' (n := w.heap.size + 1) (by rw [World.size_alloc])).alloc (.cells #[.bool false, .bool false, (.slice none 0 0), .int .i64 0] 26))
  have Ir := (DyV.made' ((w.alloc (.cells #[.bool bd, .bool s, (.slice a n cap), .int .i64 e] 26)).alloc (.cells #[.bool bd', .bool s', (.slice a' n' cap'), .int .i64 e'] 26)) 26 false false (.slice none 0 0) 0 (n := w.heap.size + 1 + 1) (by rw [World.size_alloc, World.size_alloc]))
  have B0 : Below w.heap.size w (((w.alloc (.cells #[.bool bd, .bool s, (.slice a n cap), .int .i64 e] 26)).alloc (.cells #[.bool bd', .bool s', (.slice a' n' cap'), .int .i64 e'] 26)).alloc (.cells #[.bool false, .bool false, (.slice none 0 0), .int .i64 0] 26)) := (by repeat (with_reducible first | refine Below.setCell ?_ (by simp <;> omega) _ | refine Below.alloc ?_ (by simp <;> omega) _ | refine Below.drew ?_ | refine below_drewN ?_ _ | exact Below.refl _ _))
  have nab : ¬ w.heap.size = w.heap.size + 1 := by omega
  have nar : ¬ w.heap.size = w.heap.size + 1 + 1 := by omega
  have nba : ¬ w.heap.size + 1 = w.heap.size := by omega
  have nbr : ¬ w.heap.size + 1 = w.heap.size + 1 + 1 := by omega
  have nra : ¬ w.heap.size + 1 + 1 = w.heap.size := by omega
  have nrb : ¬ w.heap.size + 1 + 1 = w.heap.size + 1 := by omega
  generalize (((w.alloc (.cells #[.bool bd, .bool s, (.slice a n cap), .int .i64 e] 26)).alloc (.cells #[.bool bd', .bool s', (.slice a' n' cap'), .int .i64 e'] 26)).alloc (.cells #[.bool false, .bool false, (.slice none 0 0), .int .i64 0] 26)) = w0 at Ia Ib Ir B0 ⊢
  generalize hb2 : w.heap.size + 1 + 1 = b2 at Ir nab nar nba nbr nra nrb ⊢
  generalize hb1 : w.heap.size + 1 = b1 at Ib nab nar nba nbr nra nrb hb2 ⊢
  generalize hb0 : w.heap.size = b0 at Ia nab nar nba nbr nra nrb hb1 ⊢
  obtain ⟨ac0, ac1, ac2, ac3, ac4, ac5⟩ := Ia
  have Va0 := Lib.hid (DyV.mk ac0 ac1 ac2 ac3 ac4 ac5)
  obtain ⟨bc0, bc1, bc2, bc3, bc4, bc5⟩ := Ib
  have Vb0 := Lib.hid (DyV.mk bc0 bc1 bc2 bc3 bc4 bc5)
  obtain ⟨rc0, rc1, rc2, rc3, rc4, rc5⟩ := Ir
  have Vr0 := Lib.hid (DyV.mk rc0 rc1 rc2 rc3 rc4 rc5)
  first
  | go_region_with
      (first
        | (go_at_call 136; have xx := B1; refine (HN' _ (hy.below (by have hszw := (B1).size; repeat (with_reducible first | refine Below.setCell ?_ (by first | omega | (simp <;> omega)) _ | refine Below.alloc ?_ (by first | omega | (simp <;> omega)) _ | refine Below.drew ?_ | refine below_drewN ?_ _ | exact B1))) (hT.below (by have hszw := (B1).size; repeat (with_reducible first | refine Below.setCell ?_ (by first | omega | (simp <;> omega)) _ | refine Below.alloc ?_ (by first | omega | (simp <;> omega)) _ | refine Below.drew ?_ | refine below_drewN ?_ _ | exact B1)))).out.mono ?_; rintro e w2 ⟨a2, c2, rfl, M22, hb2, hf2⟩; have Va2 : DyV w2 b0 bd s (.slice a n cap) e := (by refine DyV.below ?_ hb2; (repeat (with_reducible first | refine DyV.drew ?_ | refine DyV.drewN ?_ _ | refine DyV.alloc ?_ _)); exact Va1.out); (try clear ac0 ac1 ac2 ac3 ac4); obtain ⟨ac0, ac1, ac2, ac3, ac4, ac5⟩ := Va2; have Va2 := Lib.hid (DyV.mk ac0 ac1 ac2 ac3 ac4 ac5); have Vb2 : DyV w2 b1 bd' s' (.slice a' n' cap') e' := (by refine DyV.below ?_ hb2; (repeat (with_reducible first | refine DyV.drew ?_ | refine DyV.drewN ?_ _ | refine DyV.alloc ?_ _)); exact Vb1.out); (try clear bc0 bc1 bc2 bc3 bc4); obtain ⟨bc0, bc1, bc2, bc3, bc4, bc5⟩ := Vb2; have Vb2 := Lib.hid (DyV.mk bc0 bc1 bc2 bc3 bc4 bc5); have Vr2 : DyV w2 b2 false false (.slice none 0 0) 0 := (by refine DyV.below ?_ hb2; (repeat (with_reducible first | refine DyV.drew ?_ | refine DyV.drewN ?_ _ | refine DyV.alloc ?_ _)); exact Vr1.out); (try clear rc0 rc1 rc2 rc3 rc4); obtain ⟨rc0, rc1, rc2, rc3, rc4, rc5⟩ := Vr2; have Vr2 := Lib.hid (DyV.mk rc0 rc1 rc2 rc3 rc4 rc5); have M12 : Mag w2 a1 (nl (dman d).natAbs) c1 (dman d).natAbs := Mag.below (by repeat (with_reducible first | refine Mag.set ?_ (fun h => by have := M11 h; omega) _ _ | refine Mag.drew ?_ | refine Mag.alloc ?_ _ | refine Mag.drewN ?_ _ | exact M11)) hb2; have B2 := below_box (w := w) (by have hszw := (B1).size; repeat (with_reducible first | refine Below.setCell ?_ (by first | omega | (simp <;> omega)) _ | refine Below.alloc ?_ (by first | omega | (simp <;> omega)) _ | refine Below.drew ?_ | refine below_drewN ?_ _ | exact B1)) hb2; have hF2 : 0 < (nl (dman d').natAbs) → w1.heap.size ≤ ab a2 := (fun h => by have hq := hf2 h; (try simp at hq); omega); have fr2a : 0 < (nl (dman d').natAbs) → ab a2 ≠ b0 := (fun h => by have := hF2 h; have := Va1.out.lt; omega); have fr2b : 0 < (nl (dman d').natAbs) → ab a2 ≠ b1 := (fun h => by have := hF2 h; have := Vb1.out.lt; omega); have fr2r : 0 < (nl (dman d').natAbs) → ab a2 ≠ b2 := (fun h => by have := hF2 h; have := Vr1.out.lt; omega); have fo2 : 0 < (nl (dman d').natAbs) → w.heap.size ≤ ab a2 := (fun h => by have := hF2 h; have := B1.size; omega); clear hF2; clear hb2 hf2)
        | (go_at_call 136; refine (HN _ (hx.below (by have hszw := (B0).size; repeat (with_reducible first | refine Below.setCell ?_ (by first | omega | (simp <;> omega)) _ | refine Below.alloc ?_ (by first | omega | (simp <;> omega)) _ | refine Below.drew ?_ | refine below_drewN ?_ _ | exact B0))) (hT.below (by have hszw := (B0).size; repeat (with_reducible first | refine Below.setCell ?_ (by first | omega | (simp <;> omega)) _ | refine Below.alloc ?_ (by first | omega | (simp <;> omega)) _ | refine Below.drew ?_ | refine below_drewN ?_ _ | exact B0)))).out.mono ?_; rintro e w1 ⟨a1, c1, rfl, M11, hb1, hf1⟩; have Va1 : DyV w1 b0 bd s (.slice a n cap) e := (by refine DyV.below ?_ hb1; (repeat (with_reducible first | refine DyV.drew ?_ | refine DyV.drewN ?_ _ | refine DyV.alloc ?_ _)); exact Va0.out); (try clear ac0 ac1 ac2 ac3 ac4); obtain ⟨ac0, ac1, ac2, ac3, ac4, ac5⟩ := Va1; have Va1 := Lib.hid (DyV.mk ac0 ac1 ac2 ac3 ac4 ac5); have Vb1 : DyV w1 b1 bd' s' (.slice a' n' cap') e' := (by refine DyV.below ?_ hb1; (repeat (with_reducible first | refine DyV.drew ?_ | refine DyV.drewN ?_ _ | refine DyV.alloc ?_ _)); exact Vb0.out); (try clear bc0 bc1 bc2 bc3 bc4); obtain ⟨bc0, bc1, bc2, bc3, bc4, bc5⟩ := Vb1; have Vb1 := Lib.hid (DyV.mk bc0 bc1 bc2 bc3 bc4 bc5); have Vr1 : DyV w1 b2 false false (.slice none 0 0) 0 := (by refine DyV.below ?_ hb1; (repeat (with_reducible first | refine DyV.drew ?_ | refine DyV.drewN ?_ _ | refine DyV.alloc ?_ _)); exact Vr0.out); (try clear rc0 rc1 rc2 rc3 rc4); obtain ⟨rc0, rc1, rc2, rc3, rc4, rc5⟩ := Vr1; have Vr1 := Lib.hid (DyV.mk rc0 rc1 rc2 rc3 rc4 rc5); have B1 := below_box (w := w) (by have hszw := (B0).size; repeat (with_reducible first | refine Below.setCell ?_ (by first | omega | (simp <;> omega)) _ | refine Below.alloc ?_ (by first | omega | (simp <;> omega)) _ | refine Below.drew ?_ | refine below_drewN ?_ _ | exact B0)) hb1; have hF1 : 0 < (nl (dman d).natAbs) → w0.heap.size ≤ ab a1 := (fun h => by have hq := hf1 h; (try simp at hq); omega); have fr1a : 0 < (nl (dman d).natAbs) → ab a1 ≠ b0 := (fun h => by have := hF1 h; have := Va0.out.lt; omega); have fr1b : 0 < (nl (dman d).natAbs) → ab a1 ≠ b1 := (fun h => by have := hF1 h; have := Vb0.out.lt; omega); have fr1r : 0 < (nl (dman d).natAbs) → ab a1 ≠ b2 := (fun h => by have := hF1 h; have := Vr0.out.lt; omega); have fo1 : 0 < (nl (dman d).natAbs) → w.heap.size ≤ ab a1 := (fun h => by have := hF1 h; have := B0.size; omega); clear hF1; clear hb1 hf1)
        | fail)
  | fail "region"
  all_goals (
    go_wp2_with fail
    have Va3 := DyV.put Va2.out false (decide (dman d < 0)) (.slice a1 (nl (dman d).natAbs) c1) (dexp d)
    have Vb3 := (DyV.set (DyV.set (DyV.set (DyV.set Vb2.out nba 0 (.bool false)) nba 1 (.bool (decide (dman d < 0)))) nba 2 (.slice a1 (nl (dman d).natAbs) c1)) nba 3 (.int .i64 (dexp d)))
    have Vr3 := (DyV.set (DyV.set (DyV.set (DyV.set Vr2.out nra 0 (.bool false)) nra 1 (.bool (decide (dman d < 0)))) nra 2 (.slice a1 (nl (dman d).natAbs) c1)) nra 3 (.int .i64 (dexp d)))
    have M13 := (Mag.set (Mag.set (Mag.set (Mag.set M12 fr1a 0 (.bool false)) fr1a 1 (.bool (decide (dman d < 0)))) fr1a 2 (.slice a1 (nl (dman d).natAbs) c1)) fr1a 3 (.int .i64 (dexp d)))
    have M23 := (Mag.set (Mag.set (Mag.set (Mag.set M22 fr2a 0 (.bool false)) fr2a 1 (.bool (decide (dman d < 0)))) fr2a 2 (.slice a1 (nl (dman d).natAbs) c1)) fr2a 3 (.int .i64 (dexp d)))
    have B3 : Below w.heap.size w ((((w2.setCell ⟨b0, 0, none⟩ (.bool false)).setCell ⟨b0, 1, none⟩ (.bool (decide (dman d < 0)))).setCell ⟨b0, 2, none⟩ (.slice a1 (nl (dman d).natAbs) c1)).setCell ⟨b0, 3, none⟩ (.int .i64 (dexp d))) := (by have hszw := (B2).size; repeat (with_reducible first | refine Below.setCell ?_ (by first | omega | (simp <;> omega)) _ | refine Below.alloc ?_ (by first | omega | (simp <;> omega)) _ | refine Below.drew ?_ | refine below_drewN ?_ _ | exact B2))
    generalize ((((w2.setCell ⟨b0, 0, none⟩ (.bool false)).setCell ⟨b0, 1, none⟩ (.bool (decide (dman d < 0)))).setCell ⟨b0, 2, none⟩ (.slice a1 (nl (dman d).natAbs) c1)).setCell ⟨b0, 3, none⟩ (.int .i64 (dexp d))) = w3 at Va3 Vb3 Vr3 M13 M23 B3 ⊢
    (try clear ac0 ac1 ac2 ac3 ac4)
    obtain ⟨ac0, ac1, ac2, ac3, ac4, ac5⟩ := Va3
    have Va3 := Lib.hid (DyV.mk ac0 ac1 ac2 ac3 ac4 ac5)
    (try clear bc0 bc1 bc2 bc3 bc4)
    obtain ⟨bc0, bc1, bc2, bc3, bc4, bc5⟩ := Vb3
    have Vb3 := Lib.hid (DyV.mk bc0 bc1 bc2 bc3 bc4 bc5)
    (try clear rc0 rc1 rc2 rc3 rc4)
    obtain ⟨rc0, rc1, rc2, rc3, rc4, rc5⟩ := Vr3
    have Vr3 := Lib.hid (DyV.mk rc0 rc1 rc2 rc3 rc4 rc5)
    have Vb4 := DyV.put Vb3.out true (decide (dman d' < 0)) (.slice a2 (nl (dman d').natAbs) c2) (dexp d')
    have Va4 := (DyV.set (DyV.set (DyV.set (DyV.set Va3.out nab 0 (.bool true)) nab 1 (.bool (decide (dman d' < 0)))) nab 2 (.slice a2 (nl (dman d').natAbs) c2)) nab 3 (.int .i64 (dexp d')))
    have Vr4 := (DyV.set (DyV.set (DyV.set (DyV.set Vr3.out nrb 0 (.bool true)) nrb 1 (.bool (decide (dman d' < 0)))) nrb 2 (.slice a2 (nl (dman d').natAbs) c2)) nrb 3 (.int .i64 (dexp d')))
    have M14 := (Mag.set (Mag.set (Mag.set (Mag.set M13 fr1b 0 (.bool true)) fr1b 1 (.bool (decide (dman d' < 0)))) fr1b 2 (.slice a2 (nl (dman d').natAbs) c2)) fr1b 3 (.int .i64 (dexp d')))
    have M24 := (Mag.set (Mag.set (Mag.set (Mag.set M23 fr2b 0 (.bool true)) fr2b 1 (.bool (decide (dman d' < 0)))) fr2b 2 (.slice a2 (nl (dman d').natAbs) c2)) fr2b 3 (.int .i64 (dexp d')))
    have B4 : Below w.heap.size w ((((w3.setCell ⟨b1, 0, none⟩ (.bool true)).setCell ⟨b1, 1, none⟩ (.bool (decide (dman d' < 0)))).setCell ⟨b1, 2, none⟩ (.slice a2 (nl (dman d').natAbs) c2)).setCell ⟨b1, 3, none⟩ (.int .i64 (dexp d'))) := (by have hszw := (B3).size; repeat (with_reducible first | refine Below.setCell ?_ (by first | omega | (simp <;> omega)) _ | refine Below.alloc ?_ (by first | omega | (simp <;> omega)) _ | refine Below.drew ?_ | refine below_drewN ?_ _ | exact B3))
    generalize ((((w3.setCell ⟨b1, 0, none⟩ (.bool true)).setCell ⟨b1, 1, none⟩ (.bool (decide (dman d' < 0)))).setCell ⟨b1, 2, none⟩ (.slice a2 (nl (dman d').natAbs) c2)).setCell ⟨b1, 3, none⟩ (.int .i64 (dexp d'))) = w4 at Vb4 Va4 Vr4 M14 M24 B4 ⊢
    (try clear ac0 ac1 ac2 ac3 ac4)
    obtain ⟨ac0, ac1, ac2, ac3, ac4, ac5⟩ := Va4
    have Va4 := Lib.hid (DyV.mk ac0 ac1 ac2 ac3 ac4 ac5)
    (try clear bc0 bc1 bc2 bc3 bc4)
    obtain ⟨bc0, bc1, bc2, bc3, bc4, bc5⟩ := Vb4
    have Vb4 := Lib.hid (DyV.mk bc0 bc1 bc2 bc3 bc4 bc5)
    (try clear rc0 rc1 rc2 rc3 rc4)
    obtain ⟨rc0, rc1, rc2, rc3, rc4, rc5⟩ := Vr4
    have Vr4 := Lib.hid (DyV.mk rc0 rc1 rc2 rc3 rc4 rc5)
    refine (HB _).out.mono ?_
    rintro e w5 ⟨rfl, hb5⟩
    have Va5 : DyV w5 b0 false (decide (dman d < 0)) (.slice a1 (nl (dman d).natAbs) c1) (dexp d) := (by refine DyV.below ?_ hb5; (repeat (with_reducible first | refine DyV.drew ?_ | refine DyV.drewN ?_ _ | refine DyV.alloc ?_ _)); exact Va4.out)
    (try clear ac0 ac1 ac2 ac3 ac4)
    obtain ⟨ac0, ac1, ac2, ac3, ac4, ac5⟩ := Va5
    have Va5 := Lib.hid (DyV.mk ac0 ac1 ac2 ac3 ac4 ac5)
    have Vb5 : DyV w5 b1 true (decide (dman d' < 0)) (.slice a2 (nl (dman d').natAbs) c2) (dexp d') := (by refine DyV.below ?_ hb5; (repeat (with_reducible first | refine DyV.drew ?_ | refine DyV.drewN ?_ _ | refine DyV.alloc ?_ _)); exact Vb4.out)
    (try clear bc0 bc1 bc2 bc3 bc4)
    obtain ⟨bc0, bc1, bc2, bc3, bc4, bc5⟩ := Vb5
    have Vb5 := Lib.hid (DyV.mk bc0 bc1 bc2 bc3 bc4 bc5)
    have Vr5 : DyV w5 b2 false false (.slice none 0 0) 0 := (by refine DyV.below ?_ hb5; (repeat (with_reducible first | refine DyV.drew ?_ | refine DyV.drewN ?_ _ | refine DyV.alloc ?_ _)); exact Vr4.out)
    (try clear rc0 rc1 rc2 rc3 rc4)
    obtain ⟨rc0, rc1, rc2, rc3, rc4, rc5⟩ := Vr5
    have Vr5 := Lib.hid (DyV.mk rc0 rc1 rc2 rc3 rc4 rc5)
    have M15 : Mag w5 a1 (nl (dman d).natAbs) c1 (dman d).natAbs := Mag.below (by repeat (with_reducible first | refine Mag.set ?_ (fun h => by have := M14 h; omega) _ _ | refine Mag.drew ?_ | refine Mag.alloc ?_ _ | refine Mag.drewN ?_ _ | exact M14)) hb5
    have M25 : Mag w5 a2 (nl (dman d').natAbs) c2 (dman d').natAbs := Mag.below (by repeat (with_reducible first | refine Mag.set ?_ (fun h => by have := M24 h; omega) _ _ | refine Mag.drew ?_ | refine Mag.alloc ?_ _ | refine Mag.drewN ?_ _ | exact M24)) hb5
    have B5 := below_box (w := w) (by have hszw := (B4).size; repeat (with_reducible first | refine Below.setCell ?_ (by first | omega | (simp <;> omega)) _ | refine Below.alloc ?_ (by first | omega | (simp <;> omega)) _ | refine Below.drew ?_ | refine below_drewN ?_ _ | exact B4)) hb5
    clear hb5
    go_wp2_with fail
    refine bodyPost_ret (v := .agg #[.bool true, .bool false, .slice none 0 0, .int .i64 0]) (by simp only [results, Tryz.results151]; go_simp) rfl ?_
    exact ⟨none, 0, rfl, Mag.nil _, (by have hszw := (B5).size; repeat (with_reducible first | refine Below.setCell ?_ (by first | omega | (simp <;> omega)) _ | refine Below.alloc ?_ (by first | omega | (simp <;> omega)) _ | refine Below.drew ?_ | refine below_drewN ?_ _ | exact B5)), nl0⟩)

set_option maxRecDepth 100000 in
set_option maxHeartbeats 2000000 in
theorem rdmul_ok (w : World) (bd s bd' s' : Bool) (a a' : Option Addr) (n n' cap cap' : Nat) (e e' : Int) (d d' : Option (Int × Int)) (hx : DyIs w bd s a n cap e d) (hy : DyIs w bd' s' a' n' cap' e' d') (hT : Tab w) (hb : dbad d = false) (hb' : dbad d' = false) (v : Option (Int × Int)) (hv : v = nrm (dman d * dman d') (dexp d + dexp d')) :
    Calls Tryz.prog 151 #[.agg #[.bool bd, .bool s, .slice a n cap, .int .i64 e], .agg #[.bool bd', .bool s', .slice a' n' cap', .int .i64 e']] w (RetDy w v) := by
  have HN := fun W h ht => Lib.hid (@rdnorm_in W bd s a n cap e d h ht)
  have HN' := fun W h ht => Lib.hid (@rdnorm_in W bd' s' a' n' cap' e' d' h ht)
  have hbz := isN_bounds hx.1.isN
  have hbz' := isN_bounds hy.1.isN
  obtain ⟨u, hu⟩ : ∃ u, u = dman d * dman d' := ⟨_, rfl⟩
  have hblu : blen u.natAbs ≤ 262144 := by
    rw [hu, Int.natAbs_mul]
    have := blen_mul_le (dman d).natAbs (dman d').natAbs
    omega
  obtain ⟨E, hE⟩ : ∃ E, E = dexp d + dexp d' := ⟨_, rfl⟩
  have hw : IntKind.i64.wrap (dexp d + dexp d') = E := by rw [IntKind.wrap_i64]; omega
  rw [← hu, ← hE] at hv
  have HC := fun W b c b' c' h h' => Lib.hid (rmul_z W b b' c c' (dman d) (dman d') u hu h h' (nl_lim5 (by omega)) (nl_lim5 (by omega)))
  have HM := fun W b c h ht => Lib.hid (rmake_z W b c u E v hv h ht (nl_lim5 (by omega)) (by omega) (by omega))
  clear hE hv hu hblu hbz hbz'
  go_enter Tryz.func151, Tryz.ntmps151
  go_wp2_with fail
  have Ia := (((DyV.made' w 26 bd s (.slice a n cap) e (n := w.heap.size) (by rfl)).alloc (.cells #[.bool bd', .bool s', (.slice a' n' cap'), .int .i64 e'] 26)).alloc (.cells #[.bool false, .bool false, (.slice none 0 0), .int .i64 0] 26))
  have Ib := ((DyV.made' (w.alloc (.cells #[.bool bd, .bool s, (.slice a n cap), .int .i64 e] 26)) 26 bd' s' (.slice a' n' cap') e' (n := w.heap.size + 1) (by rw [World.size_alloc])).alloc (.cells #[.bool false, .bool false, (.slice none 0 0), .int .i64 0] 26))
  have Ir := (DyV.made' ((w.alloc (.cells #[.bool bd, .bool s, (.slice a n cap), .int .i64 e] 26)).alloc (.cells #[.bool bd', .bool s', (.slice a' n' cap'), .int .i64 e'] 26)) 26 false false (.slice none 0 0) 0 (n := w.heap.size + 1 + 1) (by rw [World.size_alloc, World.size_alloc]))
  have B0 : Below w.heap.size w (((w.alloc (.cells #[.bool bd, .bool s, (.slice a n cap), .int .i64 e] 26)).alloc (.cells #[.bool bd', .bool s', (.slice a' n' cap'), .int .i64 e'] 26)).alloc (.cells #[.bool false, .bool false, (.slice none 0 0), .int .i64 0] 26)) := (by repeat (with_reducible first | refine Below.setCell ?_ (by simp <;> omega) _ | refine Below.alloc ?_ (by simp <;> omega) _ | refine Below.drew ?_ | refine below_drewN ?_ _ | exact Below.refl _ _))
  have nab : ¬ w.heap.size = w.heap.size + 1 := by omega
  have nar : ¬ w.heap.size = w.heap.size + 1 + 1 := by omega
  have nba : ¬ w.heap.size + 1 = w.heap.size := by omega
  have nbr : ¬ w.heap.size + 1 = w.heap.size + 1 + 1 := by omega
  have nra : ¬ w.heap.size + 1 + 1 = w.heap.size := by omega
  have nrb : ¬ w.heap.size + 1 + 1 = w.heap.size + 1 := by omega
  generalize (((w.alloc (.cells #[.bool bd, .bool s, (.slice a n cap), .int .i64 e] 26)).alloc (.cells #[.bool bd', .bool s', (.slice a' n' cap'), .int .i64 e'] 26)).alloc (.cells #[.bool false, .bool false, (.slice none 0 0), .int .i64 0] 26)) = w0 at Ia Ib Ir B0 ⊢
  generalize hb2 : w.heap.size + 1 + 1 = b2 at Ir nab nar nba nbr nra nrb ⊢
  generalize hb1 : w.heap.size + 1 = b1 at Ib nab nar nba nbr nra nrb hb2 ⊢
  generalize hb0 : w.heap.size = b0 at Ia nab nar nba nbr nra nrb hb1 ⊢
  obtain ⟨ac0, ac1, ac2, ac3, ac4, ac5⟩ := Ia
  have Va0 := Lib.hid (DyV.mk ac0 ac1 ac2 ac3 ac4 ac5)
  obtain ⟨bc0, bc1, bc2, bc3, bc4, bc5⟩ := Ib
  have Vb0 := Lib.hid (DyV.mk bc0 bc1 bc2 bc3 bc4 bc5)
  obtain ⟨rc0, rc1, rc2, rc3, rc4, rc5⟩ := Ir
  have Vr0 := Lib.hid (DyV.mk rc0 rc1 rc2 rc3 rc4 rc5)
  first
  | go_region_with
      (first
        | (go_at_call 136; have xx := B1; refine (HN' _ (hy.below (by have hszw := (B1).size; repeat (with_reducible first | refine Below.setCell ?_ (by first | omega | (simp <;> omega)) _ | refine Below.alloc ?_ (by first | omega | (simp <;> omega)) _ | refine Below.drew ?_ | refine below_drewN ?_ _ | exact B1))) (hT.below (by have hszw := (B1).size; repeat (with_reducible first | refine Below.setCell ?_ (by first | omega | (simp <;> omega)) _ | refine Below.alloc ?_ (by first | omega | (simp <;> omega)) _ | refine Below.drew ?_ | refine below_drewN ?_ _ | exact B1)))).out.mono ?_; rintro e w2 ⟨a2, c2, rfl, M22, hb2, hf2⟩; have Va2 : DyV w2 b0 bd s (.slice a n cap) e := (by refine DyV.below ?_ hb2; (repeat (with_reducible first | refine DyV.drew ?_ | refine DyV.drewN ?_ _ | refine DyV.alloc ?_ _)); exact Va1.out); (try clear ac0 ac1 ac2 ac3 ac4); obtain ⟨ac0, ac1, ac2, ac3, ac4, ac5⟩ := Va2; have Va2 := Lib.hid (DyV.mk ac0 ac1 ac2 ac3 ac4 ac5); have Vb2 : DyV w2 b1 bd' s' (.slice a' n' cap') e' := (by refine DyV.below ?_ hb2; (repeat (with_reducible first | refine DyV.drew ?_ | refine DyV.drewN ?_ _ | refine DyV.alloc ?_ _)); exact Vb1.out); (try clear bc0 bc1 bc2 bc3 bc4); obtain ⟨bc0, bc1, bc2, bc3, bc4, bc5⟩ := Vb2; have Vb2 := Lib.hid (DyV.mk bc0 bc1 bc2 bc3 bc4 bc5); have Vr2 : DyV w2 b2 false false (.slice none 0 0) 0 := (by refine DyV.below ?_ hb2; (repeat (with_reducible first | refine DyV.drew ?_ | refine DyV.drewN ?_ _ | refine DyV.alloc ?_ _)); exact Vr1.out); (try clear rc0 rc1 rc2 rc3 rc4); obtain ⟨rc0, rc1, rc2, rc3, rc4, rc5⟩ := Vr2; have Vr2 := Lib.hid (DyV.mk rc0 rc1 rc2 rc3 rc4 rc5); have M12 : Mag w2 a1 (nl (dman d).natAbs) c1 (dman d).natAbs := Mag.below (by repeat (with_reducible first | refine Mag.set ?_ (fun h => by have := M11 h; omega) _ _ | refine Mag.drew ?_ | refine Mag.alloc ?_ _ | refine Mag.drewN ?_ _ | exact M11)) hb2; have B2 := below_box (w := w) (by have hszw := (B1).size; repeat (with_reducible first | refine Below.setCell ?_ (by first | omega | (simp <;> omega)) _ | refine Below.alloc ?_ (by first | omega | (simp <;> omega)) _ | refine Below.drew ?_ | refine below_drewN ?_ _ | exact B1)) hb2; have hF2 : 0 < (nl (dman d').natAbs) → w1.heap.size ≤ ab a2 := (fun h => by have hq := hf2 h; (try simp at hq); omega); have fr2a : 0 < (nl (dman d').natAbs) → ab a2 ≠ b0 := (fun h => by have := hF2 h; have := Va1.out.lt; omega); have fr2b : 0 < (nl (dman d').natAbs) → ab a2 ≠ b1 := (fun h => by have := hF2 h; have := Vb1.out.lt; omega); have fr2r : 0 < (nl (dman d').natAbs) → ab a2 ≠ b2 := (fun h => by have := hF2 h; have := Vr1.out.lt; omega); have fo2 : 0 < (nl (dman d').natAbs) → w.heap.size ≤ ab a2 := (fun h => by have := hF2 h; have := B1.size; omega); clear hF2; clear hb2 hf2)
        | (go_at_call 136; refine (HN _ (hx.below (by have hszw := (B0).size; repeat (with_reducible first | refine Below.setCell ?_ (by first | omega | (simp <;> omega)) _ | refine Below.alloc ?_ (by first | omega | (simp <;> omega)) _ | refine Below.drew ?_ | refine below_drewN ?_ _ | exact B0))) (hT.below (by have hszw := (B0).size; repeat (with_reducible first | refine Below.setCell ?_ (by first | omega | (simp <;> omega)) _ | refine Below.alloc ?_ (by first | omega | (simp <;> omega)) _ | refine Below.drew ?_ | refine below_drewN ?_ _ | exact B0)))).out.mono ?_; rintro e w1 ⟨a1, c1, rfl, M11, hb1, hf1⟩; have Va1 : DyV w1 b0 bd s (.slice a n cap) e := (by refine DyV.below ?_ hb1; (repeat (with_reducible first | refine DyV.drew ?_ | refine DyV.drewN ?_ _ | refine DyV.alloc ?_ _)); exact Va0.out); (try clear ac0 ac1 ac2 ac3 ac4); obtain ⟨ac0, ac1, ac2, ac3, ac4, ac5⟩ := Va1; have Va1 := Lib.hid (DyV.mk ac0 ac1 ac2 ac3 ac4 ac5); have Vb1 : DyV w1 b1 bd' s' (.slice a' n' cap') e' := (by refine DyV.below ?_ hb1; (repeat (with_reducible first | refine DyV.drew ?_ | refine DyV.drewN ?_ _ | refine DyV.alloc ?_ _)); exact Vb0.out); (try clear bc0 bc1 bc2 bc3 bc4); obtain ⟨bc0, bc1, bc2, bc3, bc4, bc5⟩ := Vb1; have Vb1 := Lib.hid (DyV.mk bc0 bc1 bc2 bc3 bc4 bc5); have Vr1 : DyV w1 b2 false false (.slice none 0 0) 0 := (by refine DyV.below ?_ hb1; (repeat (with_reducible first | refine DyV.drew ?_ | refine DyV.drewN ?_ _ | refine DyV.alloc ?_ _)); exact Vr0.out); (try clear rc0 rc1 rc2 rc3 rc4); obtain ⟨rc0, rc1, rc2, rc3, rc4, rc5⟩ := Vr1; have Vr1 := Lib.hid (DyV.mk rc0 rc1 rc2 rc3 rc4 rc5); have B1 := below_box (w := w) (by have hszw := (B0).size; repeat (with_reducible first | refine Below.setCell ?_ (by first | omega | (simp <;> omega)) _ | refine Below.alloc ?_ (by first | omega | (simp <;> omega)) _ | refine Below.drew ?_ | refine below_drewN ?_ _ | exact B0)) hb1; have hF1 : 0 < (nl (dman d).natAbs) → w0.heap.size ≤ ab a1 := (fun h => by have hq := hf1 h; (try simp at hq); omega); have fr1a : 0 < (nl (dman d).natAbs) → ab a1 ≠ b0 := (fun h => by have := hF1 h; have := Va0.out.lt; omega); have fr1b : 0 < (nl (dman d).natAbs) → ab a1 ≠ b1 := (fun h => by have := hF1 h; have := Vb0.out.lt; omega); have fr1r : 0 < (nl (dman d).natAbs) → ab a1 ≠ b2 := (fun h => by have := hF1 h; have := Vr0.out.lt; omega); have fo1 : 0 < (nl (dman d).natAbs) → w.heap.size ≤ ab a1 := (fun h => by have := hF1 h; have := B0.size; omega); clear hF1; clear hb1 hf1)
        | fail)
  | fail "region"
  all_goals (
    go_wp2_with fail
    have Va3 := DyV.put Va2.out false (decide (dman d < 0)) (.slice a1 (nl (dman d).natAbs) c1) (dexp d)
    have Vb3 := (DyV.set (DyV.set (DyV.set (DyV.set Vb2.out nba 0 (.bool false)) nba 1 (.bool (decide (dman d < 0)))) nba 2 (.slice a1 (nl (dman d).natAbs) c1)) nba 3 (.int .i64 (dexp d)))
    have Vr3 := (DyV.set (DyV.set (DyV.set (DyV.set Vr2.out nra 0 (.bool false)) nra 1 (.bool (decide (dman d < 0)))) nra 2 (.slice a1 (nl (dman d).natAbs) c1)) nra 3 (.int .i64 (dexp d)))
    have M13 := (Mag.set (Mag.set (Mag.set (Mag.set M12 fr1a 0 (.bool false)) fr1a 1 (.bool (decide (dman d < 0)))) fr1a 2 (.slice a1 (nl (dman d).natAbs) c1)) fr1a 3 (.int .i64 (dexp d)))
    have M23 := (Mag.set (Mag.set (Mag.set (Mag.set M22 fr2a 0 (.bool false)) fr2a 1 (.bool (decide (dman d < 0)))) fr2a 2 (.slice a1 (nl (dman d).natAbs) c1)) fr2a 3 (.int .i64 (dexp d)))
    have B3 : Below w.heap.size w ((((w2.setCell ⟨b0, 0, none⟩ (.bool false)).setCell ⟨b0, 1, none⟩ (.bool (decide (dman d < 0)))).setCell ⟨b0, 2, none⟩ (.slice a1 (nl (dman d).natAbs) c1)).setCell ⟨b0, 3, none⟩ (.int .i64 (dexp d))) := (by have hszw := (B2).size; repeat (with_reducible first | refine Below.setCell ?_ (by first | omega | (simp <;> omega)) _ | refine Below.alloc ?_ (by first | omega | (simp <;> omega)) _ | refine Below.drew ?_ | refine below_drewN ?_ _ | exact B2))
    generalize ((((w2.setCell ⟨b0, 0, none⟩ (.bool false)).setCell ⟨b0, 1, none⟩ (.bool (decide (dman d < 0)))).setCell ⟨b0, 2, none⟩ (.slice a1 (nl (dman d).natAbs) c1)).setCell ⟨b0, 3, none⟩ (.int .i64 (dexp d))) = w3 at Va3 Vb3 Vr3 M13 M23 B3 ⊢
    (try clear ac0 ac1 ac2 ac3 ac4)
    obtain ⟨ac0, ac1, ac2, ac3, ac4, ac5⟩ := Va3
    have Va3 := Lib.hid (DyV.mk ac0 ac1 ac2 ac3 ac4 ac5)
    (try clear bc0 bc1 bc2 bc3 bc4)
    obtain ⟨bc0, bc1, bc2, bc3, bc4, bc5⟩ := Vb3
    have Vb3 := Lib.hid (DyV.mk bc0 bc1 bc2 bc3 bc4 bc5)
    (try clear rc0 rc1 rc2 rc3 rc4)
    obtain ⟨rc0, rc1, rc2, rc3, rc4, rc5⟩ := Vr3
    have Vr3 := Lib.hid (DyV.mk rc0 rc1 rc2 rc3 rc4 rc5)
    have Vb4 := DyV.put Vb3.out false (decide (dman d' < 0)) (.slice a2 (nl (dman d').natAbs) c2) (dexp d')
    have Va4 := (DyV.set (DyV.set (DyV.set (DyV.set Va3.out nab 0 (.bool false)) nab 1 (.bool (decide (dman d' < 0)))) nab 2 (.slice a2 (nl (dman d').natAbs) c2)) nab 3 (.int .i64 (dexp d')))
    have Vr4 := (DyV.set (DyV.set (DyV.set (DyV.set Vr3.out nrb 0 (.bool false)) nrb 1 (.bool (decide (dman d' < 0)))) nrb 2 (.slice a2 (nl (dman d').natAbs) c2)) nrb 3 (.int .i64 (dexp d')))
    have M14 := (Mag.set (Mag.set (Mag.set (Mag.set M13 fr1b 0 (.bool false)) fr1b 1 (.bool (decide (dman d' < 0)))) fr1b 2 (.slice a2 (nl (dman d').natAbs) c2)) fr1b 3 (.int .i64 (dexp d')))
    have M24 := (Mag.set (Mag.set (Mag.set (Mag.set M23 fr2b 0 (.bool false)) fr2b 1 (.bool (decide (dman d' < 0)))) fr2b 2 (.slice a2 (nl (dman d').natAbs) c2)) fr2b 3 (.int .i64 (dexp d')))
    have B4 : Below w.heap.size w ((((w3.setCell ⟨b1, 0, none⟩ (.bool false)).setCell ⟨b1, 1, none⟩ (.bool (decide (dman d' < 0)))).setCell ⟨b1, 2, none⟩ (.slice a2 (nl (dman d').natAbs) c2)).setCell ⟨b1, 3, none⟩ (.int .i64 (dexp d'))) := (by have hszw := (B3).size; repeat (with_reducible first | refine Below.setCell ?_ (by first | omega | (simp <;> omega)) _ | refine Below.alloc ?_ (by first | omega | (simp <;> omega)) _ | refine Below.drew ?_ | refine below_drewN ?_ _ | exact B3))
    generalize ((((w3.setCell ⟨b1, 0, none⟩ (.bool false)).setCell ⟨b1, 1, none⟩ (.bool (decide (dman d' < 0)))).setCell ⟨b1, 2, none⟩ (.slice a2 (nl (dman d').natAbs) c2)).setCell ⟨b1, 3, none⟩ (.int .i64 (dexp d'))) = w4 at Vb4 Va4 Vr4 M14 M24 B4 ⊢
    (try clear ac0 ac1 ac2 ac3 ac4)
    obtain ⟨ac0, ac1, ac2, ac3, ac4, ac5⟩ := Va4
    have Va4 := Lib.hid (DyV.mk ac0 ac1 ac2 ac3 ac4 ac5)
    (try clear bc0 bc1 bc2 bc3 bc4)
    obtain ⟨bc0, bc1, bc2, bc3, bc4, bc5⟩ := Vb4
    have Vb4 := Lib.hid (DyV.mk bc0 bc1 bc2 bc3 bc4 bc5)
    (try clear rc0 rc1 rc2 rc3 rc4)
    obtain ⟨rc0, rc1, rc2, rc3, rc4, rc5⟩ := Vr4
    have Vr4 := Lib.hid (DyV.mk rc0 rc1 rc2 rc3 rc4 rc5)
    first
    | go_region_held3 (fun w' => w'.cell? ⟨b0, 0, none⟩ = some (.bool false) ∧ w'.cell? ⟨b0, 1, none⟩ = some (.bool (decide (dman d < 0))) ∧ w'.cell? ⟨b0, 2, none⟩ = some ((.slice a1 (nl (dman d).natAbs) c1)) ∧ w'.cell? ⟨b0, 3, none⟩ = some (.int .i64 (dexp d)) ∧ w'.cell? ⟨b1, 0, none⟩ = some (.bool false) ∧ w'.cell? ⟨b1, 1, none⟩ = some (.bool (decide (dman d' < 0))) ∧ w'.cell? ⟨b1, 2, none⟩ = some ((.slice a2 (nl (dman d').natAbs) c2)) ∧ w'.cell? ⟨b1, 3, none⟩ = some (.int .i64 (dexp d'))) (first | (go_keep; done) | (go_simp; done))
        (first
          | (go_at_call 172; have xx := B5; refine (HM _ au cu (by repeat (with_reducible first | refine Mag.set ?_ (fun h => by have := Mu5 h; omega) _ _ | refine Mag.drew ?_ | refine Mag.alloc ?_ _ | refine Mag.drewN ?_ _ | exact Mu5)) (hT.below (by have hszw := (B5).size; repeat (with_reducible first | refine Below.setCell ?_ (by first | omega | (simp <;> omega)) _ | refine Below.alloc ?_ (by first | omega | (simp <;> omega)) _ | refine Below.drew ?_ | refine below_drewN ?_ _ | exact B5)))).out.mono ?_; rintro e w6 ⟨av, cv, rfl, Mv6, hb6, hf6⟩; have Va6 : DyV w6 b0 false (decide (dman d < 0)) (.slice a1 (nl (dman d).natAbs) c1) (dexp d) := (by refine DyV.below ?_ hb6; (repeat (with_reducible first | refine DyV.drew ?_ | refine DyV.drewN ?_ _ | refine DyV.alloc ?_ _)); exact Va5.out); (try clear ac0 ac1 ac2 ac3 ac4); obtain ⟨ac0, ac1, ac2, ac3, ac4, ac5⟩ := Va6; have Va6 := Lib.hid (DyV.mk ac0 ac1 ac2 ac3 ac4 ac5); have Vb6 : DyV w6 b1 false (decide (dman d' < 0)) (.slice a2 (nl (dman d').natAbs) c2) (dexp d') := (by refine DyV.below ?_ hb6; (repeat (with_reducible first | refine DyV.drew ?_ | refine DyV.drewN ?_ _ | refine DyV.alloc ?_ _)); exact Vb5.out); (try clear bc0 bc1 bc2 bc3 bc4); obtain ⟨bc0, bc1, bc2, bc3, bc4, bc5⟩ := Vb6; have Vb6 := Lib.hid (DyV.mk bc0 bc1 bc2 bc3 bc4 bc5); have Vr6 : DyV w6 b2 false false (.slice none 0 0) 0 := (by refine DyV.below ?_ hb6; (repeat (with_reducible first | refine DyV.drew ?_ | refine DyV.drewN ?_ _ | refine DyV.alloc ?_ _)); exact Vr5.out); (try clear rc0 rc1 rc2 rc3 rc4); obtain ⟨rc0, rc1, rc2, rc3, rc4, rc5⟩ := Vr6; have Vr6 := Lib.hid (DyV.mk rc0 rc1 rc2 rc3 rc4 rc5); have M16 : Mag w6 a1 (nl (dman d).natAbs) c1 (dman d).natAbs := Mag.below (by repeat (with_reducible first | refine Mag.set ?_ (fun h => by have := M15 h; omega) _ _ | refine Mag.drew ?_ | refine Mag.alloc ?_ _ | refine Mag.drewN ?_ _ | exact M15)) hb6; have M26 : Mag w6 a2 (nl (dman d').natAbs) c2 (dman d').natAbs := Mag.below (by repeat (with_reducible first | refine Mag.set ?_ (fun h => by have := M25 h; omega) _ _ | refine Mag.drew ?_ | refine Mag.alloc ?_ _ | refine Mag.drewN ?_ _ | exact M25)) hb6; have Mu6 : Mag w6 au (nl u.natAbs) cu u.natAbs := Mag.below (by repeat (with_reducible first | refine Mag.set ?_ (fun h => by have := Mu5 h; omega) _ _ | refine Mag.drew ?_ | refine Mag.alloc ?_ _ | refine Mag.drewN ?_ _ | exact Mu5)) hb6; have B6 := below_box (w := w) (by have hszw := (B5).size; repeat (with_reducible first | refine Below.setCell ?_ (by first | omega | (simp <;> omega)) _ | refine Below.alloc ?_ (by first | omega | (simp <;> omega)) _ | refine Below.drew ?_ | refine below_drewN ?_ _ | exact B5)) hb6; have hF6 : 0 < (nl (dman v).natAbs) → w5.heap.size ≤ ab av := (fun h => by have hq := hf6 h; (try simp at hq); omega); have frva : 0 < (nl (dman v).natAbs) → ab av ≠ b0 := (fun h => by have := hF6 h; have := Va5.out.lt; omega); have frvb : 0 < (nl (dman v).natAbs) → ab av ≠ b1 := (fun h => by have := hF6 h; have := Vb5.out.lt; omega); have frvr : 0 < (nl (dman v).natAbs) → ab av ≠ b2 := (fun h => by have := hF6 h; have := Vr5.out.lt; omega); have fov : 0 < (nl (dman v).natAbs) → w.heap.size ≤ ab av := (fun h => by have := hF6 h; have := B5.size; omega); clear hF6; clear hb6 hf6)
          | (go_at_call 231; have xx := B4; refine (HC _ a1 c1 a2 c2 (by repeat (with_reducible first | refine Mag.set ?_ (fun h => by have := M14 h; omega) _ _ | refine Mag.drew ?_ | refine Mag.alloc ?_ _ | refine Mag.drewN ?_ _ | exact M14)) (by repeat (with_reducible first | refine Mag.set ?_ (fun h => by have := M24 h; omega) _ _ | refine Mag.drew ?_ | refine Mag.alloc ?_ _ | refine Mag.drewN ?_ _ | exact M24))).out.mono ?_; rintro e w5 ⟨au, cu, rfl, Mu5, hb5, hf5⟩; have Va5 : DyV w5 b0 false (decide (dman d < 0)) (.slice a1 (nl (dman d).natAbs) c1) (dexp d) := (by refine DyV.below ?_ hb5; (repeat (with_reducible first | refine DyV.drew ?_ | refine DyV.drewN ?_ _ | refine DyV.alloc ?_ _)); exact Va4.out); (try clear ac0 ac1 ac2 ac3 ac4); obtain ⟨ac0, ac1, ac2, ac3, ac4, ac5⟩ := Va5; have Va5 := Lib.hid (DyV.mk ac0 ac1 ac2 ac3 ac4 ac5); have Vb5 : DyV w5 b1 false (decide (dman d' < 0)) (.slice a2 (nl (dman d').natAbs) c2) (dexp d') := (by refine DyV.below ?_ hb5; (repeat (with_reducible first | refine DyV.drew ?_ | refine DyV.drewN ?_ _ | refine DyV.alloc ?_ _)); exact Vb4.out); (try clear bc0 bc1 bc2 bc3 bc4); obtain ⟨bc0, bc1, bc2, bc3, bc4, bc5⟩ := Vb5; have Vb5 := Lib.hid (DyV.mk bc0 bc1 bc2 bc3 bc4 bc5); have Vr5 : DyV w5 b2 false false (.slice none 0 0) 0 := (by refine DyV.below ?_ hb5; (repeat (with_reducible first | refine DyV.drew ?_ | refine DyV.drewN ?_ _ | refine DyV.alloc ?_ _)); exact Vr4.out); (try clear rc0 rc1 rc2 rc3 rc4); obtain ⟨rc0, rc1, rc2, rc3, rc4, rc5⟩ := Vr5; have Vr5 := Lib.hid (DyV.mk rc0 rc1 rc2 rc3 rc4 rc5); have M15 : Mag w5 a1 (nl (dman d).natAbs) c1 (dman d).natAbs := Mag.below (by repeat (with_reducible first | refine Mag.set ?_ (fun h => by have := M14 h; omega) _ _ | refine Mag.drew ?_ | refine Mag.alloc ?_ _ | refine Mag.drewN ?_ _ | exact M14)) hb5; have M25 : Mag w5 a2 (nl (dman d').natAbs) c2 (dman d').natAbs := Mag.below (by repeat (with_reducible first | refine Mag.set ?_ (fun h => by have := M24 h; omega) _ _ | refine Mag.drew ?_ | refine Mag.alloc ?_ _ | refine Mag.drewN ?_ _ | exact M24)) hb5; have B5 := below_box (w := w) (by have hszw := (B4).size; repeat (with_reducible first | refine Below.setCell ?_ (by first | omega | (simp <;> omega)) _ | refine Below.alloc ?_ (by first | omega | (simp <;> omega)) _ | refine Below.drew ?_ | refine below_drewN ?_ _ | exact B4)) hb5; have hF5 : 0 < (nl u.natAbs) → w4.heap.size ≤ ab au := (fun h => by have hq := hf5 h; (try simp at hq); omega); have frua : 0 < (nl u.natAbs) → ab au ≠ b0 := (fun h => by have := hF5 h; have := Va4.out.lt; omega); have frub : 0 < (nl u.natAbs) → ab au ≠ b1 := (fun h => by have := hF5 h; have := Vb4.out.lt; omega); have frur : 0 < (nl u.natAbs) → ab au ≠ b2 := (fun h => by have := hF5 h; have := Vr4.out.lt; omega); have fou : 0 < (nl u.natAbs) → w.heap.size ≤ ab au := (fun h => by have := hF5 h; have := B4.size; omega); clear hF5; clear hb5 hf5)
          | fail)
    | fail "region"
    go_wp2_with fail
    refine bodyPost_ret (v := .agg #[.bool (dbad v), .bool (decide (dman v < 0)), .slice av (nl (dman v).natAbs) cv, .int .i64 (dexp v)]) (by simp only [results, Tryz.results151]; go_simp) rfl ?_
    exact ⟨av, cv, rfl, (by repeat (with_reducible first | refine Mag.set ?_ frva _ _ | refine Mag.set ?_ frvb _ _ | refine Mag.set ?_ frvr _ _ | refine Mag.drew ?_ | refine Mag.drewN ?_ _ | refine Mag.alloc ?_ _ | exact Mv6)), (by have hszw := (B6).size; repeat (with_reducible first | refine Below.setCell ?_ (by first | omega | (simp <;> omega)) _ | refine Below.alloc ?_ (by first | omega | (simp <;> omega)) _ | refine Below.drew ?_ | refine below_drewN ?_ _ | exact B6)), fov⟩)

theorem rdmul_any (w : World) (bd s bd' s' : Bool) (a a' : Option Addr) (n n' cap cap' : Nat) (e e' : Int) (d d' : Option (Int × Int)) (hx : DyIs w bd s a n cap e d) (hy : DyIs w bd' s' a' n' cap' e' d') (hT : Tab w) :
    Calls Tryz.prog 151 #[.agg #[.bool bd, .bool s, .slice a n cap, .int .i64 e], .agg #[.bool bd', .bool s', .slice a' n' cap', .int .i64 e']] w (RetDy w (dmul d d')) := by
  cases hb : dbad d with
  | true => have h := rdmul_bad1 w bd s bd' s' a a' n n' cap cap' e e' d d' hx hy hT hb; rw [dbad_none hb]; exact h
  | false =>
    cases hb' : dbad d' with
    | true => have h := rdmul_bad2 w bd s bd' s' a a' n n' cap cap' e e' d d' hx hy hT hb hb'; rw [dbad_none hb', some_of hb]; exact h
    | false =>
      refine rdmul_ok w bd s bd' s' a a' n n' cap cap' e e' d d' hx hy hT hb hb' _ ?_
      conv => lhs; rw [some_of hb, some_of hb']
      rfl

end Go.Proofs.YtakbappmkdaioaaGreatDoor

