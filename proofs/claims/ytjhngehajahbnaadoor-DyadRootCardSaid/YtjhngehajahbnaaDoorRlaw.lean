/-
  Walks: the law DyadRoot.
-/
import Derived.Test.YtjhngehajahbnaaDoorSl
import Derived.Test.YtjhngehajahbnaaDoorSqt
import Derived.Test.YtjhngehajahbnaaDoorAw
namespace Go.Proofs.YtjhngehajahbnaaDoor
open Go.RowKit Sp

theorem isN_sqrt (a : Option (Int × Int)) (p mode : Int) : IsN (dsqrt a p mode) := by
  unfold dsqrt
  split
  · split
    · exact isN_none
    · split
      · exact isN_none
      · split
        · exact isN_some (Or.inl ⟨rfl, rfl⟩)
        · exact isN_nrm _ _
  · exact isN_none

set_option maxRecDepth 100000 in
set_option maxHeartbeats 20000000 in
theorem rlaw_na (w : World) (hT : Tab w) (bda sa : Bool) (aa : Option Addr) (na pa : Nat) (ea : Int) (q : Int) (ma : na ≤ 9223372036854775807) (hsa : slimB na ea = false) :
    Calls Tryd.prog 9 #[.agg #[.bool bda, .bool sa, .slice aa na pa, .int .i64 ea], .int .i64 q] w fun o w' => o = .returned (.bool true) ∧ Below w.heap.size w w' := by
  have HSa := fun W => Lib.hid (slim_any W bda sa aa na pa ea ma false hsa)
  have HW := fun W ht => Lib.hid (awake_any W ht)
  go_enter Tryd.func9, Tryd.ntmps9
  go_wp2_with fail
  have I0 := DyV.made w 27 bda sa (.slice aa na pa) ea
  have B0 : Below w.heap.size w (w.alloc (.cells #[.bool bda, .bool sa, .slice aa na pa, .int .i64 ea] 27)) := (by repeat (with_reducible first | refine Below.setCell ?_ (by simp <;> omega) _ | refine Below.alloc ?_ (by simp <;> omega) _ | refine Below.drew ?_ | refine below_drewN ?_ _ | exact Below.refl _ _))
  generalize (w.alloc (.cells #[.bool bda, .bool sa, .slice aa na pa, .int .i64 ea] 27)) = w0 at I0 B0 ⊢
  generalize hb0 : w.heap.size = b0 at I0 ⊢
  obtain ⟨ac0, ac1, ac2, ac3, ac4, ac5⟩ := I0
  have Va0 := Lib.hid (DyV.mk ac0 ac1 ac2 ac3 ac4 ac5)
  refine (HSa _).out.mono ?_
  rintro e w1 ⟨rfl, hb1⟩
  have Va1 : DyV w1 b0 bda sa (.slice aa na pa) ea := (by refine DyV.below ?_ hb1; (repeat (with_reducible first | refine DyV.drew ?_ | refine DyV.drewN ?_ _ | refine DyV.alloc ?_ _)); exact Va0.out)
  obtain ⟨ac0, ac1, ac2, ac3, ac4, ac5⟩ := Va1
  have Va1 := Lib.hid (DyV.mk ac0 ac1 ac2 ac3 ac4 ac5)
  have B1 := below_box (w := w) (by have hszw := (B0).size; repeat (with_reducible first | refine Below.setCell ?_ (by first | omega | (simp <;> omega)) _ | refine Below.alloc ?_ (by first | omega | (simp <;> omega)) _ | refine Below.drew ?_ | refine below_drewN ?_ _ | exact B0)) hb1
  clear hb1
  go_wp2_with fail
  refine (HW _ (hT.below (by have hszw := (B1).size; repeat (with_reducible first | refine Below.setCell ?_ (by first | omega | (simp <;> omega)) _ | refine Below.alloc ?_ (by first | omega | (simp <;> omega)) _ | refine Below.drew ?_ | refine below_drewN ?_ _ | exact B1)))).out.mono ?_
  rintro e w2 ⟨rfl, hb2⟩
  have Va2 : DyV w2 b0 bda sa (.slice aa na pa) ea := (by refine DyV.below ?_ hb2; (repeat (with_reducible first | refine DyV.drew ?_ | refine DyV.drewN ?_ _ | refine DyV.alloc ?_ _)); exact Va1.out)
  obtain ⟨ac0, ac1, ac2, ac3, ac4, ac5⟩ := Va2
  have Va2 := Lib.hid (DyV.mk ac0 ac1 ac2 ac3 ac4 ac5)
  have B2 := below_box (w := w) (by have hszw := (B1).size; repeat (with_reducible first | refine Below.setCell ?_ (by first | omega | (simp <;> omega)) _ | refine Below.alloc ?_ (by first | omega | (simp <;> omega)) _ | refine Below.drew ?_ | refine below_drewN ?_ _ | exact B1)) hb2
  clear hb2
  go_wp2_with fail
  go_ret
  exact ⟨rfl, (by have hszw := (B2).size; repeat (with_reducible first | refine Below.setCell ?_ (by first | omega | (simp <;> omega)) _ | refine Below.alloc ?_ (by first | omega | (simp <;> omega)) _ | refine Below.drew ?_ | refine below_drewN ?_ _ | exact B2))⟩

set_option maxRecDepth 100000 in
set_option maxHeartbeats 20000000 in
theorem rlaw_va (w : World) (hT : Tab w) (bda sa : Bool) (aa : Option Addr) (na pa : Nat) (ea : Int) (da : Option (Int × Int)) (Ha : DyIs w bda sa aa na pa ea da) (q : Int) (ma : na ≤ 9223372036854775807) (hsa : slimB na ea = true) (va : dbad da = true) :
    Calls Tryd.prog 9 #[.agg #[.bool bda, .bool sa, .slice aa na pa, .int .i64 ea], .int .i64 q] w fun o w' => o = .returned (.bool true) ∧ Below w.heap.size w w' := by
  have HSa := fun W => Lib.hid (slim_any W bda sa aa na pa ea ma true hsa)
  have HW := fun W ht => Lib.hid (awake_any W ht)
  have Ga := Lib.hid Ha
  have HVa := fun W h ht => Lib.hid (rvalid_any W bda sa aa na pa ea da h ht)
  rw [va] at HVa
  have nva : (!true) = false := rfl
  rw [nva] at HVa
  clear hsa va Ha
  go_enter Tryd.func9, Tryd.ntmps9
  go_wp2_with fail
  have I0 := DyV.made w 27 bda sa (.slice aa na pa) ea
  have B0 : Below w.heap.size w (w.alloc (.cells #[.bool bda, .bool sa, .slice aa na pa, .int .i64 ea] 27)) := (by repeat (with_reducible first | refine Below.setCell ?_ (by simp <;> omega) _ | refine Below.alloc ?_ (by simp <;> omega) _ | refine Below.drew ?_ | refine below_drewN ?_ _ | exact Below.refl _ _))
  generalize (w.alloc (.cells #[.bool bda, .bool sa, .slice aa na pa, .int .i64 ea] 27)) = w0 at I0 B0 ⊢
  generalize hb0 : w.heap.size = b0 at I0 ⊢
  obtain ⟨ac0, ac1, ac2, ac3, ac4, ac5⟩ := I0
  have Va0 := Lib.hid (DyV.mk ac0 ac1 ac2 ac3 ac4 ac5)
  refine (HSa _).out.mono ?_
  rintro e w1 ⟨rfl, hb1⟩
  have Va1 : DyV w1 b0 bda sa (.slice aa na pa) ea := (by refine DyV.below ?_ hb1; (repeat (with_reducible first | refine DyV.drew ?_ | refine DyV.drewN ?_ _ | refine DyV.alloc ?_ _)); exact Va0.out)
  obtain ⟨ac0, ac1, ac2, ac3, ac4, ac5⟩ := Va1
  have Va1 := Lib.hid (DyV.mk ac0 ac1 ac2 ac3 ac4 ac5)
  have B1 := below_box (w := w) (by have hszw := (B0).size; repeat (with_reducible first | refine Below.setCell ?_ (by first | omega | (simp <;> omega)) _ | refine Below.alloc ?_ (by first | omega | (simp <;> omega)) _ | refine Below.drew ?_ | refine below_drewN ?_ _ | exact B0)) hb1
  clear hb1
  go_wp2_with fail
  refine (HVa _ (Ga.out.below (by have hszw := (B1).size; repeat (with_reducible first | refine Below.setCell ?_ (by first | omega | (simp <;> omega)) _ | refine Below.alloc ?_ (by first | omega | (simp <;> omega)) _ | refine Below.drew ?_ | refine below_drewN ?_ _ | exact B1))) (hT.below (by have hszw := (B1).size; repeat (with_reducible first | refine Below.setCell ?_ (by first | omega | (simp <;> omega)) _ | refine Below.alloc ?_ (by first | omega | (simp <;> omega)) _ | refine Below.drew ?_ | refine below_drewN ?_ _ | exact B1)))).out.mono ?_
  rintro e w2 ⟨rfl, hb2⟩
  have Va2 : DyV w2 b0 bda sa (.slice aa na pa) ea := (by refine DyV.below ?_ hb2; (repeat (with_reducible first | refine DyV.drew ?_ | refine DyV.drewN ?_ _ | refine DyV.alloc ?_ _)); exact Va1.out)
  obtain ⟨ac0, ac1, ac2, ac3, ac4, ac5⟩ := Va2
  have Va2 := Lib.hid (DyV.mk ac0 ac1 ac2 ac3 ac4 ac5)
  have B2 := below_box (w := w) (by have hszw := (B1).size; repeat (with_reducible first | refine Below.setCell ?_ (by first | omega | (simp <;> omega)) _ | refine Below.alloc ?_ (by first | omega | (simp <;> omega)) _ | refine Below.drew ?_ | refine below_drewN ?_ _ | exact B1)) hb2
  clear hb2
  go_wp2_with fail
  refine (HW _ (hT.below (by have hszw := (B2).size; repeat (with_reducible first | refine Below.setCell ?_ (by first | omega | (simp <;> omega)) _ | refine Below.alloc ?_ (by first | omega | (simp <;> omega)) _ | refine Below.drew ?_ | refine below_drewN ?_ _ | exact B2)))).out.mono ?_
  rintro e w3 ⟨rfl, hb3⟩
  have Va3 : DyV w3 b0 bda sa (.slice aa na pa) ea := (by refine DyV.below ?_ hb3; (repeat (with_reducible first | refine DyV.drew ?_ | refine DyV.drewN ?_ _ | refine DyV.alloc ?_ _)); exact Va2.out)
  obtain ⟨ac0, ac1, ac2, ac3, ac4, ac5⟩ := Va3
  have Va3 := Lib.hid (DyV.mk ac0 ac1 ac2 ac3 ac4 ac5)
  have B3 := below_box (w := w) (by have hszw := (B2).size; repeat (with_reducible first | refine Below.setCell ?_ (by first | omega | (simp <;> omega)) _ | refine Below.alloc ?_ (by first | omega | (simp <;> omega)) _ | refine Below.drew ?_ | refine below_drewN ?_ _ | exact B2)) hb3
  clear hb3
  go_wp2_with fail
  go_ret
  exact ⟨rfl, (by have hszw := (B3).size; repeat (with_reducible first | refine Below.setCell ?_ (by first | omega | (simp <;> omega)) _ | refine Below.alloc ?_ (by first | omega | (simp <;> omega)) _ | refine Below.drew ?_ | refine below_drewN ?_ _ | exact B3))⟩

set_option maxRecDepth 100000 in
set_option maxHeartbeats 20000000 in
theorem rlaw_main (w : World) (hT : Tab w) (bda sa : Bool) (aa : Option Addr) (na pa : Nat) (ea : Int) (da : Option (Int × Int)) (Ha : DyIs w bda sa aa na pa ea da) (q : Int) (ma : na ≤ 9223372036854775807) (hsa : slimB na ea = true) (va : dbad da = false) (r : Int) (hr : r = 1 + placeI q 80) (hr0 : 1 ≤ r) (hr1 : r ≤ 80) (dp dl dh m1 m2 ds dx dn : Option (Int × Int)) (vx vy g : Int) (bx : Bool) (f0 : dabs da = dp) (f1 : dsqrt dp r 1 = dl) (f2 : dsqrt dp r 2 = dh) (f3 : dmul dl dl = m1) (f4 : dcmp m1 dp = vx) (f5 : (!dbad m1 && !dbad dp) = true) (f6 : dmul dh dh = m2) (f7 : dcmp dp m2 = vy) (f8 : (!dbad dp && !dbad m2) = true) (f9 : bx = decide (dl = dh)) (f10 : dmul da da = ds) (f11 : dsqrt ds 700 0 = dx) (f12 : dx = dp) (f13 : cmpI (dman da) 0 = g) (f14 : dsqrt da r 0 = dn) (f15 : (vx == 0) = bx) (f16 : vx ≤ 0) (f17 : vy ≤ 0) (f18 : g < 0 → dbad dn = true) (fa : IsN da) :
    Calls Tryd.prog 9 #[.agg #[.bool bda, .bool sa, .slice aa na pa, .int .i64 ea], .int .i64 q] w fun o w' => o = .returned (.bool true) ∧ Below w.heap.size w w' := by
  have HSa := fun W => Lib.hid (slim_any W bda sa aa na pa ea ma true hsa)
  have HW := fun W ht => Lib.hid (awake_any W ht)
  have Ga := Lib.hid Ha
  have Ndp := Lib.hid (show IsN dp from f0 ▸ isN_abs fa)
  have Ndl := Lib.hid (show IsN dl from f1 ▸ isN_sqrt _ _ _)
  have Ndh := Lib.hid (show IsN dh from f2 ▸ isN_sqrt _ _ _)
  have Nm1 := Lib.hid (show IsN m1 from f3 ▸ isN_mul _ _)
  have Nm2 := Lib.hid (show IsN m2 from f6 ▸ isN_mul _ _)
  have Nds := Lib.hid (show IsN ds from f10 ▸ isN_mul _ _)
  have Ndx := Lib.hid (show IsN dx from f11 ▸ isN_sqrt _ _ _)
  have HVa := fun W h ht => Lib.hid (rvalid_any W bda sa aa na pa ea da h ht)
  rw [va] at HVa
  have nva : (!false) = true := rfl
  rw [nva] at HVa
  have H1 := fun W (h0 : DyIn W bda sa aa na pa ea da) ht => Lib.hid (dabs_any W _ _ _ _ _ _ _ h0 ht )
  rw [f0] at H1
  have H2 := fun W b0 q0 (h0 : Mag W b0 (nl (dman dp).natAbs) q0 (dman dp).natAbs) ht => Lib.hid (dsqrt_any W _ _ _ _ _ _ r 1 _ (dyin_of Ndp.out h0) ht )
  rw [f1] at H2
  have H3 := fun W b0 q0 (h0 : Mag W b0 (nl (dman dp).natAbs) q0 (dman dp).natAbs) ht => Lib.hid (dsqrt_any W _ _ _ _ _ _ r 2 _ (dyin_of Ndp.out h0) ht )
  rw [f2] at H3
  have H4 := fun W b0 q0 (h0 : Mag W b0 (nl (dman dl).natAbs) q0 (dman dl).natAbs) b1 q1 (h1 : Mag W b1 (nl (dman dl).natAbs) q1 (dman dl).natAbs) ht => Lib.hid (dmul_any W _ _ _ _ _ _ _ _ _ _ _ _ _ _ (dyin_of Ndl.out h0) (dyin_of Ndl.out h1) ht )
  rw [f3] at H4
  have H5 := fun W b0 q0 (h0 : Mag W b0 (nl (dman m1).natAbs) q0 (dman m1).natAbs) b1 q1 (h1 : Mag W b1 (nl (dman dp).natAbs) q1 (dman dp).natAbs) ht => Lib.hid (dcmp_any W _ _ _ _ _ _ _ _ _ _ _ _ _ _ (dyin_of Nm1.out h0) (dyin_of Ndp.out h1) ht )
  rw [f4, f5] at H5
  have H6 := fun W b0 q0 (h0 : Mag W b0 (nl (dman dh).natAbs) q0 (dman dh).natAbs) b1 q1 (h1 : Mag W b1 (nl (dman dh).natAbs) q1 (dman dh).natAbs) ht => Lib.hid (dmul_any W _ _ _ _ _ _ _ _ _ _ _ _ _ _ (dyin_of Ndh.out h0) (dyin_of Ndh.out h1) ht )
  rw [f6] at H6
  have H7 := fun W b0 q0 (h0 : Mag W b0 (nl (dman dp).natAbs) q0 (dman dp).natAbs) b1 q1 (h1 : Mag W b1 (nl (dman m2).natAbs) q1 (dman m2).natAbs) ht => Lib.hid (dcmp_any W _ _ _ _ _ _ _ _ _ _ _ _ _ _ (dyin_of Ndp.out h0) (dyin_of Nm2.out h1) ht )
  rw [f7, f8] at H7
  have H8 := fun W b0 q0 (h0 : Mag W b0 (nl (dman dl).natAbs) q0 (dman dl).natAbs) b1 q1 (h1 : Mag W b1 (nl (dman dh).natAbs) q1 (dman dh).natAbs) ht => Lib.hid (same_any W _ _ _ _ _ _ _ _ _ _ _ _ _ _ (dyin_of Ndl.out h0) (dyin_of Ndh.out h1) ht bx f9)
  have H9 := fun W (h0 : DyIn W bda sa aa na pa ea da) (h1 : DyIn W bda sa aa na pa ea da) ht => Lib.hid (dmul_any W _ _ _ _ _ _ _ _ _ _ _ _ _ _ h0 h1 ht )
  rw [f10] at H9
  have H10 := fun W b0 q0 (h0 : Mag W b0 (nl (dman ds).natAbs) q0 (dman ds).natAbs) ht => Lib.hid (dsqrt_any W _ _ _ _ _ _ 700 0 _ (dyin_of Nds.out h0) ht )
  rw [f11] at H10
  have H11 := fun W b0 q0 (h0 : Mag W b0 (nl (dman dx).natAbs) q0 (dman dx).natAbs) b1 q1 (h1 : Mag W b1 (nl (dman dp).natAbs) q1 (dman dp).natAbs) ht => Lib.hid (same_any W _ _ _ _ _ _ _ _ _ _ _ _ _ _ (dyin_of Ndx.out h0) (dyin_of Ndp.out h1) ht true (by rw [f12]; simp))
  have H12 := fun W (h0 : DyIn W bda sa aa na pa ea da) ht => Lib.hid (dsign_any W _ _ _ _ _ _ _ h0 ht )
  rw [f13] at H12
  have H13 := fun W (h0 : DyIn W bda sa aa na pa ea da) ht => Lib.hid (dsqrt_any W _ _ _ _ _ _ r 0 _ h0 ht )
  rw [f14] at H13
  have HP := fun W => Lib.hid (place_any W q 80 (by omega) (by omega))
  have hp0 : IntKind.i64.wrap (1 + placeI q 80) = r := by rw [← hr, IntKind.wrap_i64]; omega
  generalize placeI q 80 = pq at HP hp0
  have hx1 : decide (0 < vx) = false := by simp; omega
  have hy1 : decide (0 < vy) = false := by simp; omega
  have HF := fld_bad
  have HG := Lib.hid f18
  clear hsa va Ha hr hr0 hr1 f0 f1 f2 f3 f4 f5 f6 f7 f8 f9 f10 f11 f12 f13 f14 f16 f17 f18 fa
  go_enter Tryd.func9, Tryd.ntmps9
  go_wp2_with fail
  have I0 := DyV.made w 27 bda sa (.slice aa na pa) ea
  have B0 : Below w.heap.size w (w.alloc (.cells #[.bool bda, .bool sa, .slice aa na pa, .int .i64 ea] 27)) := (by repeat (with_reducible first | refine Below.setCell ?_ (by simp <;> omega) _ | refine Below.alloc ?_ (by simp <;> omega) _ | refine Below.drew ?_ | refine below_drewN ?_ _ | exact Below.refl _ _))
  generalize (w.alloc (.cells #[.bool bda, .bool sa, .slice aa na pa, .int .i64 ea] 27)) = w0 at I0 B0 ⊢
  generalize hb0 : w.heap.size = b0 at I0 ⊢
  obtain ⟨ac0, ac1, ac2, ac3, ac4, ac5⟩ := I0
  have Va0 := Lib.hid (DyV.mk ac0 ac1 ac2 ac3 ac4 ac5)
  refine (HSa _).out.mono ?_
  rintro e w1 ⟨rfl, hb1⟩
  have Va1 : DyV w1 b0 bda sa (.slice aa na pa) ea := (by refine DyV.below ?_ hb1; (repeat (with_reducible first | refine DyV.drew ?_ | refine DyV.drewN ?_ _ | refine DyV.alloc ?_ _)); exact Va0.out)
  obtain ⟨ac0, ac1, ac2, ac3, ac4, ac5⟩ := Va1
  have Va1 := Lib.hid (DyV.mk ac0 ac1 ac2 ac3 ac4 ac5)
  have B1 := below_box (w := w) (by have hszw := (B0).size; repeat (with_reducible first | refine Below.setCell ?_ (by first | omega | (simp <;> omega)) _ | refine Below.alloc ?_ (by first | omega | (simp <;> omega)) _ | refine Below.drew ?_ | refine below_drewN ?_ _ | exact B0)) hb1
  clear hb1
  go_wp2_with fail
  refine (HVa _ (Ga.out.below (by have hszw := (B1).size; repeat (with_reducible first | refine Below.setCell ?_ (by first | omega | (simp <;> omega)) _ | refine Below.alloc ?_ (by first | omega | (simp <;> omega)) _ | refine Below.drew ?_ | refine below_drewN ?_ _ | exact B1))) (hT.below (by have hszw := (B1).size; repeat (with_reducible first | refine Below.setCell ?_ (by first | omega | (simp <;> omega)) _ | refine Below.alloc ?_ (by first | omega | (simp <;> omega)) _ | refine Below.drew ?_ | refine below_drewN ?_ _ | exact B1)))).out.mono ?_
  rintro e w2 ⟨rfl, hb2⟩
  have Va2 : DyV w2 b0 bda sa (.slice aa na pa) ea := (by refine DyV.below ?_ hb2; (repeat (with_reducible first | refine DyV.drew ?_ | refine DyV.drewN ?_ _ | refine DyV.alloc ?_ _)); exact Va1.out)
  obtain ⟨ac0, ac1, ac2, ac3, ac4, ac5⟩ := Va2
  have Va2 := Lib.hid (DyV.mk ac0 ac1 ac2 ac3 ac4 ac5)
  have B2 := below_box (w := w) (by have hszw := (B1).size; repeat (with_reducible first | refine Below.setCell ?_ (by first | omega | (simp <;> omega)) _ | refine Below.alloc ?_ (by first | omega | (simp <;> omega)) _ | refine Below.drew ?_ | refine below_drewN ?_ _ | exact B1)) hb2
  clear hb2
  go_wp2_with fail
  refine (HP _).out.mono ?_
  rintro e w' ⟨rfl, rfl⟩
  go_wp2_with fail
  refine (H1 _ (Ga.out.1.below (by have hszw := (B2).size; repeat (with_reducible first | refine Below.setCell ?_ (by first | omega | (simp <;> omega)) _ | refine Below.alloc ?_ (by first | omega | (simp <;> omega)) _ | refine Below.drew ?_ | refine below_drewN ?_ _ | exact B2))) (hT.below (by have hszw := (B2).size; repeat (with_reducible first | refine Below.setCell ?_ (by first | omega | (simp <;> omega)) _ | refine Below.alloc ?_ (by first | omega | (simp <;> omega)) _ | refine Below.drew ?_ | refine below_drewN ?_ _ | exact B2)))).out.mono ?_
  rintro e w3 ⟨av, cv, rfl, Mv3, hb3, hf3⟩
  have Va3 : DyV w3 b0 bda sa (.slice aa na pa) ea := (by refine DyV.below ?_ hb3; (repeat (with_reducible first | refine DyV.drew ?_ | refine DyV.drewN ?_ _ | refine DyV.alloc ?_ _)); exact Va2.out)
  obtain ⟨ac0, ac1, ac2, ac3, ac4, ac5⟩ := Va3
  have Va3 := Lib.hid (DyV.mk ac0 ac1 ac2 ac3 ac4 ac5)
  have B3 := below_box (w := w) (by have hszw := (B2).size; repeat (with_reducible first | refine Below.setCell ?_ (by first | omega | (simp <;> omega)) _ | refine Below.alloc ?_ (by first | omega | (simp <;> omega)) _ | refine Below.drew ?_ | refine below_drewN ?_ _ | exact B2)) hb3
  clear hb3
  clear hf3
  go_wp2_with fail
  have Vv4 := DyV.made w3 27 (dbad dp) (decide (dman dp < 0)) (.slice av (nl (dman dp).natAbs) cv) (dexp dp)
  have Va4 := DyV.alloc Va3.out (.cells #[.bool (dbad dp), .bool (decide (dman dp < 0)), (.slice av (nl (dman dp).natAbs) cv), .int .i64 (dexp dp)] 27)
  have Mv4 := Mv3.alloc (.cells #[.bool (dbad dp), .bool (decide (dman dp < 0)), (.slice av (nl (dman dp).natAbs) cv), .int .i64 (dexp dp)] 27)
  have B4 : Below w.heap.size w (w3.alloc (.cells #[.bool (dbad dp), .bool (decide (dman dp < 0)), (.slice av (nl (dman dp).natAbs) cv), .int .i64 (dexp dp)] 27)) := B3.alloc B3.size _
  generalize (w3.alloc (.cells #[.bool (dbad dp), .bool (decide (dman dp < 0)), (.slice av (nl (dman dp).natAbs) cv), .int .i64 (dexp dp)] 27)) = w4 at Vv4 Va4 Mv4 B4 ⊢
  generalize w3.heap.size = zv at Vv4 ⊢
  obtain ⟨ac0, ac1, ac2, ac3, ac4, ac5⟩ := Va4
  have Va4 := Lib.hid (DyV.mk ac0 ac1 ac2 ac3 ac4 ac5)
  obtain ⟨vc0, vc1, vc2, vc3, vc4, vc5⟩ := Vv4
  have Vv4 := Lib.hid (DyV.mk vc0 vc1 vc2 vc3 vc4 vc5)
  go_cut [6, 7] (fun ptl pth wx => ∃ zl al cl zh ah ch, ptl = .pointer (some ⟨zl, 0, none⟩) ∧ pth = .pointer (some ⟨zh, 0, none⟩) ∧ Below w4.heap.size w4 wx ∧ DyV wx zl (dbad dl) (decide (dman dl < 0)) (.slice al (nl (dman dl).natAbs) cl) (dexp dl) ∧ Mag wx al (nl (dman dl).natAbs) cl (dman dl).natAbs ∧ DyV wx zh (dbad dh) (decide (dman dh < 0)) (.slice ah (nl (dman dh).natAbs) ch) (dexp dh) ∧ Mag wx ah (nl (dman dh).natAbs) ch (dman dh).natAbs)
  case first =>
    have hBz4 : Below w4.heap.size w4 w4 := Below.refl _ _
    go_region_held3 (fun w' => w'.cell? ⟨zv, 0, none⟩ = some (.bool (dbad dp)) ∧ w'.cell? ⟨zv, 1, none⟩ = some (.bool (decide (dman dp < 0))) ∧ w'.cell? ⟨zv, 2, none⟩ = some ((.slice av (nl (dman dp).natAbs) cv)) ∧ w'.cell? ⟨zv, 3, none⟩ = some (.int .i64 (dexp dp))) (first | (go_keep; done) | (go_simp; done))
      (first
        | (go_at_call 38; have xx := B5; refine (H3 _ av cv (by repeat (with_reducible first | refine Mag.set ?_ (fun h => by have := Mv5 h; omega) _ _ | refine Mag.drew ?_ | refine Mag.alloc ?_ _ | refine Mag.drewN ?_ _ | refine Mag.below ?_ (Below.drew (Below.refl _ _)) | refine Mag.below ?_ ((Below.refl _ _).alloc (Nat.le_refl _) _) | exact Mv5)) (hT.below (by have hszw := (B5).size; repeat (with_reducible first | refine Below.setCell ?_ (by first | omega | (simp <;> omega)) _ | refine Below.alloc ?_ (by first | omega | (simp <;> omega)) _ | refine Below.drew ?_ | refine below_drewN ?_ _ | exact B5)))).out.mono ?_; rintro e w6 ⟨ah, ch, rfl, Mh6, hb6, hf6⟩; have hs6 := hb6.size; (try simp at hs6 hf6); have o6 := Mh6.old; have Va6 : DyV w6 b0 bda sa (.slice aa na pa) ea := (by refine DyV.below ?_ hb6; (repeat (with_reducible first | refine DyV.drew ?_ | refine DyV.drewN ?_ _ | refine DyV.alloc ?_ _)); exact Va5.out); obtain ⟨ac0, ac1, ac2, ac3, ac4, ac5⟩ := Va6; have Va6 := Lib.hid (DyV.mk ac0 ac1 ac2 ac3 ac4 ac5); have Vv6 : DyV w6 zv (dbad dp) (decide (dman dp < 0)) (.slice av (nl (dman dp).natAbs) cv) (dexp dp) := (by refine DyV.below ?_ hb6; (repeat (with_reducible first | refine DyV.drew ?_ | refine DyV.drewN ?_ _ | refine DyV.alloc ?_ _)); exact Vv5.out); obtain ⟨vc0, vc1, vc2, vc3, vc4, vc5⟩ := Vv6; have Vv6 := Lib.hid (DyV.mk vc0 vc1 vc2 vc3 vc4 vc5); have Ml6 : Mag w6 al (nl (dman dl).natAbs) cl (dman dl).natAbs := Mag.below (by repeat (with_reducible first | refine Mag.set ?_ (fun h => by have := Ml5 h; omega) _ _ | refine Mag.drew ?_ | refine Mag.alloc ?_ _ | refine Mag.drewN ?_ _ | refine Mag.below ?_ (Below.drew (Below.refl _ _)) | refine Mag.below ?_ ((Below.refl _ _).alloc (Nat.le_refl _) _) | exact Ml5)) hb6; have Mv6 : Mag w6 av (nl (dman dp).natAbs) cv (dman dp).natAbs := Mag.below (by repeat (with_reducible first | refine Mag.set ?_ (fun h => by have := Mv5 h; omega) _ _ | refine Mag.drew ?_ | refine Mag.alloc ?_ _ | refine Mag.drewN ?_ _ | refine Mag.below ?_ (Below.drew (Below.refl _ _)) | refine Mag.below ?_ ((Below.refl _ _).alloc (Nat.le_refl _) _) | exact Mv5)) hb6; have B6 := below_box (w := w) (by have hszw := (B5).size; repeat (with_reducible first | refine Below.setCell ?_ (by first | omega | (simp <;> omega)) _ | refine Below.alloc ?_ (by first | omega | (simp <;> omega)) _ | refine Below.drew ?_ | refine below_drewN ?_ _ | exact B5)) hb6; have hBz6 : Below w4.heap.size w4 w6 := Below.trans (by have hszw := (hBz5).size; repeat (with_reducible first | refine Below.setCell ?_ (by first | omega | (simp <;> omega)) _ | refine Below.alloc ?_ (by first | omega | (simp <;> omega)) _ | refine Below.drew ?_ | refine below_drewN ?_ _ | exact hBz5)) (hb6.mono (by first | exact Nat.le_refl _ | (simp; done) | omega | (simp <;> omega))); (try (have F0x0 : DyV w6 (w4.heap.size) false false (.slice none 0 0) 0 := (by first | (refine DyV.below ?_ hb6; (repeat (first | exact F0x0.out | (refine DyV.made' _ _ _ _ _ _ ?_; first | rfl | (simp; done)) | with_reducible refine DyV.drew ?_ | with_reducible refine DyV.alloc ?_ _)); done) | fail); obtain ⟨F0x0c0, F0x0c1, F0x0c2, F0x0c3, F0x0c4, F0x0c5⟩ := F0x0; have F0x0 := Lib.hid (DyV.mk F0x0c0 F0x0c1 F0x0c2 F0x0c3 F0x0c4 F0x0c5))); (try (have F0x1 : DyV w6 (w4.heap.size + 1) false false (.slice none 0 0) 0 := (by first | (refine DyV.below ?_ hb6; (repeat (first | exact F0x1.out | (refine DyV.made' _ _ _ _ _ _ ?_; first | rfl | (simp; done)) | with_reducible refine DyV.drew ?_ | with_reducible refine DyV.alloc ?_ _)); done) | fail); obtain ⟨F0x1c0, F0x1c1, F0x1c2, F0x1c3, F0x1c4, F0x1c5⟩ := F0x1; have F0x1 := Lib.hid (DyV.mk F0x1c0 F0x1c1 F0x1c2 F0x1c3 F0x1c4 F0x1c5))); (try (have F1x0 : DyV w6 (w5.heap.size) false false (.slice none 0 0) 0 := (by first | (refine DyV.below ?_ hb6; (repeat (first | exact F1x0.out | (refine DyV.made' _ _ _ _ _ _ ?_; first | rfl | (simp; done)) | with_reducible refine DyV.drew ?_ | with_reducible refine DyV.alloc ?_ _)); done) | fail); obtain ⟨F1x0c0, F1x0c1, F1x0c2, F1x0c3, F1x0c4, F1x0c5⟩ := F1x0; have F1x0 := Lib.hid (DyV.mk F1x0c0 F1x0c1 F1x0c2 F1x0c3 F1x0c4 F1x0c5))); (try (have F1x1 : DyV w6 (w5.heap.size + 1) false false (.slice none 0 0) 0 := (by first | (refine DyV.below ?_ hb6; (repeat (first | exact F1x1.out | (refine DyV.made' _ _ _ _ _ _ ?_; first | rfl | (simp; done)) | with_reducible refine DyV.drew ?_ | with_reducible refine DyV.alloc ?_ _)); done) | fail); obtain ⟨F1x1c0, F1x1c1, F1x1c2, F1x1c3, F1x1c4, F1x1c5⟩ := F1x1; have F1x1 := Lib.hid (DyV.mk F1x1c0 F1x1c1 F1x1c2 F1x1c3 F1x1c4 F1x1c5))))
        | (go_at_call 38; refine (H2 _ av cv (by repeat (with_reducible first | refine Mag.set ?_ (fun h => by have := Mv4 h; omega) _ _ | refine Mag.drew ?_ | refine Mag.alloc ?_ _ | refine Mag.drewN ?_ _ | refine Mag.below ?_ (Below.drew (Below.refl _ _)) | refine Mag.below ?_ ((Below.refl _ _).alloc (Nat.le_refl _) _) | exact Mv4)) (hT.below (by have hszw := (B4).size; repeat (with_reducible first | refine Below.setCell ?_ (by first | omega | (simp <;> omega)) _ | refine Below.alloc ?_ (by first | omega | (simp <;> omega)) _ | refine Below.drew ?_ | refine below_drewN ?_ _ | exact B4)))).out.mono ?_; rintro e w5 ⟨al, cl, rfl, Ml5, hb5, hf5⟩; have hs5 := hb5.size; (try simp at hs5 hf5); have o5 := Ml5.old; have Va5 : DyV w5 b0 bda sa (.slice aa na pa) ea := (by refine DyV.below ?_ hb5; (repeat (with_reducible first | refine DyV.drew ?_ | refine DyV.drewN ?_ _ | refine DyV.alloc ?_ _)); exact Va4.out); obtain ⟨ac0, ac1, ac2, ac3, ac4, ac5⟩ := Va5; have Va5 := Lib.hid (DyV.mk ac0 ac1 ac2 ac3 ac4 ac5); have Vv5 : DyV w5 zv (dbad dp) (decide (dman dp < 0)) (.slice av (nl (dman dp).natAbs) cv) (dexp dp) := (by refine DyV.below ?_ hb5; (repeat (with_reducible first | refine DyV.drew ?_ | refine DyV.drewN ?_ _ | refine DyV.alloc ?_ _)); exact Vv4.out); obtain ⟨vc0, vc1, vc2, vc3, vc4, vc5⟩ := Vv5; have Vv5 := Lib.hid (DyV.mk vc0 vc1 vc2 vc3 vc4 vc5); have Mv5 : Mag w5 av (nl (dman dp).natAbs) cv (dman dp).natAbs := Mag.below (by repeat (with_reducible first | refine Mag.set ?_ (fun h => by have := Mv4 h; omega) _ _ | refine Mag.drew ?_ | refine Mag.alloc ?_ _ | refine Mag.drewN ?_ _ | refine Mag.below ?_ (Below.drew (Below.refl _ _)) | refine Mag.below ?_ ((Below.refl _ _).alloc (Nat.le_refl _) _) | exact Mv4)) hb5; have B5 := below_box (w := w) (by have hszw := (B4).size; repeat (with_reducible first | refine Below.setCell ?_ (by first | omega | (simp <;> omega)) _ | refine Below.alloc ?_ (by first | omega | (simp <;> omega)) _ | refine Below.drew ?_ | refine below_drewN ?_ _ | exact B4)) hb5; have hBz5 : Below w4.heap.size w4 w5 := Below.trans (by have hszw := (hBz4).size; repeat (with_reducible first | refine Below.setCell ?_ (by first | omega | (simp <;> omega)) _ | refine Below.alloc ?_ (by first | omega | (simp <;> omega)) _ | refine Below.drew ?_ | refine below_drewN ?_ _ | exact hBz4)) (hb5.mono (by first | exact Nat.le_refl _ | (simp; done) | omega | (simp <;> omega))); (try (have F0x0 : DyV w5 (w4.heap.size) false false (.slice none 0 0) 0 := (by first | (refine DyV.below ?_ hb5; (repeat (first | exact F0x0.out | (refine DyV.made' _ _ _ _ _ _ ?_; first | rfl | (simp; done)) | with_reducible refine DyV.drew ?_ | with_reducible refine DyV.alloc ?_ _)); done) | fail); obtain ⟨F0x0c0, F0x0c1, F0x0c2, F0x0c3, F0x0c4, F0x0c5⟩ := F0x0; have F0x0 := Lib.hid (DyV.mk F0x0c0 F0x0c1 F0x0c2 F0x0c3 F0x0c4 F0x0c5))); (try (have F0x1 : DyV w5 (w4.heap.size + 1) false false (.slice none 0 0) 0 := (by first | (refine DyV.below ?_ hb5; (repeat (first | exact F0x1.out | (refine DyV.made' _ _ _ _ _ _ ?_; first | rfl | (simp; done)) | with_reducible refine DyV.drew ?_ | with_reducible refine DyV.alloc ?_ _)); done) | fail); obtain ⟨F0x1c0, F0x1c1, F0x1c2, F0x1c3, F0x1c4, F0x1c5⟩ := F0x1; have F0x1 := Lib.hid (DyV.mk F0x1c0 F0x1c1 F0x1c2 F0x1c3 F0x1c4 F0x1c5))))
        | fail)
    all_goals as_aux_lemma => (
      have ne0x1 : ¬ w4.heap.size = w4.heap.size + 1 := by omega
      have me0x1 : ¬ w4.heap.size + 1 = w4.heap.size := by omega
      (try have ne0x2 : ¬ w4.heap.size = w5.heap.size := by omega)
      (try have me0x2 : ¬ w5.heap.size = w4.heap.size := by omega)
      (try have ne0x3 : ¬ w4.heap.size = w5.heap.size + 1 := by omega)
      (try have me0x3 : ¬ w5.heap.size + 1 = w4.heap.size := by omega)
      (try have ne0x4 : ¬ w4.heap.size = w6.heap.size := by omega)
      (try have me0x4 : ¬ w6.heap.size = w4.heap.size := by omega)
      (try have ne0x5 : ¬ w4.heap.size = w6.heap.size + 1 := by omega)
      (try have me0x5 : ¬ w6.heap.size + 1 = w4.heap.size := by omega)
      (try have ne1x2 : ¬ w4.heap.size + 1 = w5.heap.size := by omega)
      (try have me1x2 : ¬ w5.heap.size = w4.heap.size + 1 := by omega)
      (try have ne1x3 : ¬ w4.heap.size + 1 = w5.heap.size + 1 := by omega)
      (try have me1x3 : ¬ w5.heap.size + 1 = w4.heap.size + 1 := by omega)
      (try have ne1x4 : ¬ w4.heap.size + 1 = w6.heap.size := by omega)
      (try have me1x4 : ¬ w6.heap.size = w4.heap.size + 1 := by omega)
      (try have ne1x5 : ¬ w4.heap.size + 1 = w6.heap.size + 1 := by omega)
      (try have me1x5 : ¬ w6.heap.size + 1 = w4.heap.size + 1 := by omega)
      have ne2x3 : ¬ w5.heap.size = w5.heap.size + 1 := by omega
      have me2x3 : ¬ w5.heap.size + 1 = w5.heap.size := by omega
      (try have ne2x4 : ¬ w5.heap.size = w6.heap.size := by omega)
      (try have me2x4 : ¬ w6.heap.size = w5.heap.size := by omega)
      (try have ne2x5 : ¬ w5.heap.size = w6.heap.size + 1 := by omega)
      (try have me2x5 : ¬ w6.heap.size + 1 = w5.heap.size := by omega)
      (try have ne3x4 : ¬ w5.heap.size + 1 = w6.heap.size := by omega)
      (try have me3x4 : ¬ w6.heap.size = w5.heap.size + 1 := by omega)
      (try have ne3x5 : ¬ w5.heap.size + 1 = w6.heap.size + 1 := by omega)
      (try have me3x5 : ¬ w6.heap.size + 1 = w5.heap.size + 1 := by omega)
      have ne4x5 : ¬ w6.heap.size = w6.heap.size + 1 := by omega
      have me4x5 : ¬ w6.heap.size + 1 = w6.heap.size := by omega
      go_wp2_with fail
      go_meet
      refine ⟨_, al, cl, _, ah, ch, rfl, rfl, ?_, ⟨?_, ?_, ?_, ?_, ?_, ?_⟩, ?_, ⟨?_, ?_, ?_, ?_, ?_, ?_⟩, ?_⟩
      · exact (by have hszw := (hBz6).size; repeat (with_reducible first | refine Below.setCell ?_ (by first | omega | (simp <;> omega)) _ | refine Below.alloc ?_ (by first | omega | (simp <;> omega)) _ | refine Below.drew ?_ | refine below_drewN ?_ _ | exact hBz6))
      · go_simp
      · go_simp
      · go_simp
      · go_simp
      · intro i; go_simp
      · first | (simp; done) | omega | (simp <;> omega)
      · repeat (with_reducible first | refine Mag.set ?_ (fun h => by have := hf5 h; have := o5 h; first | omega | (simp; omega)) _ _ | refine Mag.drew ?_ | refine Mag.alloc ?_ _ | exact Ml6)
      · go_simp
      · go_simp
      · go_simp
      · go_simp
      · intro i; go_simp
      · first | (simp; done) | omega | (simp <;> omega)
      · repeat (with_reducible first | refine Mag.set ?_ (fun h => by have := hf6 h; have := o6 h; first | omega | (simp; omega)) _ _ | refine Mag.drew ?_ | refine Mag.alloc ?_ _ | exact Mh6))
  case rest =>
  obtain ⟨w5, hww⟩ : ∃ w5, w5 = wc := ⟨_, rfl⟩
  subst hww
  obtain ⟨zl, al, cl, zh, ah, ch, rfl, rfl, hbz, Vl5, Ml5, Vh5, Mh5⟩ := hcut
  have Va5 : DyV w5 b0 bda sa (.slice aa na pa) ea := DyV.below Va4.out hbz
  obtain ⟨ac0, ac1, ac2, ac3, ac4, ac5⟩ := Va5
  have Va5 := Lib.hid (DyV.mk ac0 ac1 ac2 ac3 ac4 ac5)
  have Vv5 : DyV w5 zv (dbad dp) (decide (dman dp < 0)) (.slice av (nl (dman dp).natAbs) cv) (dexp dp) := DyV.below Vv4.out hbz
  obtain ⟨vc0, vc1, vc2, vc3, vc4, vc5⟩ := Vv5
  have Vv5 := Lib.hid (DyV.mk vc0 vc1 vc2 vc3 vc4 vc5)
  obtain ⟨lc0, lc1, lc2, lc3, lc4, lc5⟩ := Vl5
  have Vl5 := Lib.hid (DyV.mk lc0 lc1 lc2 lc3 lc4 lc5)
  obtain ⟨hc0, hc1, hc2, hc3, hc4, hc5⟩ := Vh5
  have Vh5 := Lib.hid (DyV.mk hc0 hc1 hc2 hc3 hc4 hc5)
  have Mv5 : Mag w5 av (nl (dman dp).natAbs) cv (dman dp).natAbs := Mv4.below hbz
  have B5 := below_box (w := w) B4 hbz
  clear hbz
  go_wp2_with fail
  first
  | go_region_held3 (fun w' => w'.cell? ⟨zv, 0, none⟩ = some (.bool (dbad dp)) ∧ w'.cell? ⟨zv, 1, none⟩ = some (.bool (decide (dman dp < 0))) ∧ w'.cell? ⟨zv, 2, none⟩ = some ((.slice av (nl (dman dp).natAbs) cv)) ∧ w'.cell? ⟨zv, 3, none⟩ = some (.int .i64 (dexp dp)) ∧ w'.cell? ⟨zl, 0, none⟩ = some (.bool (dbad dl)) ∧ w'.cell? ⟨zl, 1, none⟩ = some (.bool (decide (dman dl < 0))) ∧ w'.cell? ⟨zl, 2, none⟩ = some ((.slice al (nl (dman dl).natAbs) cl)) ∧ w'.cell? ⟨zl, 3, none⟩ = some (.int .i64 (dexp dl))) (first | (go_keep; done) | (go_simp; done))
      (first
        | (go_at_call 24; have xx := B6; refine (H5 _ a1 c1 (by repeat (with_reducible first | refine Mag.set ?_ (fun h => by have := M16 h; omega) _ _ | refine Mag.drew ?_ | refine Mag.alloc ?_ _ | refine Mag.drewN ?_ _ | refine Mag.below ?_ (Below.drew (Below.refl _ _)) | refine Mag.below ?_ ((Below.refl _ _).alloc (Nat.le_refl _) _) | exact M16)) av cv (by repeat (with_reducible first | refine Mag.set ?_ (fun h => by have := Mv6 h; omega) _ _ | refine Mag.drew ?_ | refine Mag.alloc ?_ _ | refine Mag.drewN ?_ _ | refine Mag.below ?_ (Below.drew (Below.refl _ _)) | refine Mag.below ?_ ((Below.refl _ _).alloc (Nat.le_refl _) _) | exact Mv6)) (hT.below (by have hszw := (B6).size; repeat (with_reducible first | refine Below.setCell ?_ (by first | omega | (simp <;> omega)) _ | refine Below.alloc ?_ (by first | omega | (simp <;> omega)) _ | refine Below.drew ?_ | refine below_drewN ?_ _ | exact B6)))).out.mono ?_; rintro e w7 ⟨rfl, hb7⟩; have Va7 : DyV w7 b0 bda sa (.slice aa na pa) ea := (by refine DyV.below ?_ hb7; (repeat (with_reducible first | refine DyV.drew ?_ | refine DyV.drewN ?_ _ | refine DyV.alloc ?_ _)); exact Va6.out); obtain ⟨ac0, ac1, ac2, ac3, ac4, ac5⟩ := Va7; have Va7 := Lib.hid (DyV.mk ac0 ac1 ac2 ac3 ac4 ac5); have Vv7 : DyV w7 zv (dbad dp) (decide (dman dp < 0)) (.slice av (nl (dman dp).natAbs) cv) (dexp dp) := (by refine DyV.below ?_ hb7; (repeat (with_reducible first | refine DyV.drew ?_ | refine DyV.drewN ?_ _ | refine DyV.alloc ?_ _)); exact Vv6.out); obtain ⟨vc0, vc1, vc2, vc3, vc4, vc5⟩ := Vv7; have Vv7 := Lib.hid (DyV.mk vc0 vc1 vc2 vc3 vc4 vc5); have Vl7 : DyV w7 zl (dbad dl) (decide (dman dl < 0)) (.slice al (nl (dman dl).natAbs) cl) (dexp dl) := (by refine DyV.below ?_ hb7; (repeat (with_reducible first | refine DyV.drew ?_ | refine DyV.drewN ?_ _ | refine DyV.alloc ?_ _)); exact Vl6.out); obtain ⟨lc0, lc1, lc2, lc3, lc4, lc5⟩ := Vl7; have Vl7 := Lib.hid (DyV.mk lc0 lc1 lc2 lc3 lc4 lc5); have Vh7 : DyV w7 zh (dbad dh) (decide (dman dh < 0)) (.slice ah (nl (dman dh).natAbs) ch) (dexp dh) := (by refine DyV.below ?_ hb7; (repeat (with_reducible first | refine DyV.drew ?_ | refine DyV.drewN ?_ _ | refine DyV.alloc ?_ _)); exact Vh6.out); obtain ⟨hc0, hc1, hc2, hc3, hc4, hc5⟩ := Vh7; have Vh7 := Lib.hid (DyV.mk hc0 hc1 hc2 hc3 hc4 hc5); have Mv7 : Mag w7 av (nl (dman dp).natAbs) cv (dman dp).natAbs := Mag.below (by repeat (with_reducible first | refine Mag.set ?_ (fun h => by have := Mv6 h; omega) _ _ | refine Mag.drew ?_ | refine Mag.alloc ?_ _ | refine Mag.drewN ?_ _ | refine Mag.below ?_ (Below.drew (Below.refl _ _)) | refine Mag.below ?_ ((Below.refl _ _).alloc (Nat.le_refl _) _) | exact Mv6)) hb7; have Ml7 : Mag w7 al (nl (dman dl).natAbs) cl (dman dl).natAbs := Mag.below (by repeat (with_reducible first | refine Mag.set ?_ (fun h => by have := Ml6 h; omega) _ _ | refine Mag.drew ?_ | refine Mag.alloc ?_ _ | refine Mag.drewN ?_ _ | refine Mag.below ?_ (Below.drew (Below.refl _ _)) | refine Mag.below ?_ ((Below.refl _ _).alloc (Nat.le_refl _) _) | exact Ml6)) hb7; have Mh7 : Mag w7 ah (nl (dman dh).natAbs) ch (dman dh).natAbs := Mag.below (by repeat (with_reducible first | refine Mag.set ?_ (fun h => by have := Mh6 h; omega) _ _ | refine Mag.drew ?_ | refine Mag.alloc ?_ _ | refine Mag.drewN ?_ _ | refine Mag.below ?_ (Below.drew (Below.refl _ _)) | refine Mag.below ?_ ((Below.refl _ _).alloc (Nat.le_refl _) _) | exact Mh6)) hb7; have M17 : Mag w7 a1 (nl (dman m1).natAbs) c1 (dman m1).natAbs := Mag.below (by repeat (with_reducible first | refine Mag.set ?_ (fun h => by have := M16 h; omega) _ _ | refine Mag.drew ?_ | refine Mag.alloc ?_ _ | refine Mag.drewN ?_ _ | refine Mag.below ?_ (Below.drew (Below.refl _ _)) | refine Mag.below ?_ ((Below.refl _ _).alloc (Nat.le_refl _) _) | exact M16)) hb7; have B7 := below_box (w := w) (by have hszw := (B6).size; repeat (with_reducible first | refine Below.setCell ?_ (by first | omega | (simp <;> omega)) _ | refine Below.alloc ?_ (by first | omega | (simp <;> omega)) _ | refine Below.drew ?_ | refine below_drewN ?_ _ | exact B6)) hb7; clear hb7)
        | (go_at_call 25; have xx := B5; refine (H4 _ al cl (by repeat (with_reducible first | refine Mag.set ?_ (fun h => by have := Ml5 h; omega) _ _ | refine Mag.drew ?_ | refine Mag.alloc ?_ _ | refine Mag.drewN ?_ _ | refine Mag.below ?_ (Below.drew (Below.refl _ _)) | refine Mag.below ?_ ((Below.refl _ _).alloc (Nat.le_refl _) _) | exact Ml5)) al cl (by repeat (with_reducible first | refine Mag.set ?_ (fun h => by have := Ml5 h; omega) _ _ | refine Mag.drew ?_ | refine Mag.alloc ?_ _ | refine Mag.drewN ?_ _ | refine Mag.below ?_ (Below.drew (Below.refl _ _)) | refine Mag.below ?_ ((Below.refl _ _).alloc (Nat.le_refl _) _) | exact Ml5)) (hT.below (by have hszw := (B5).size; repeat (with_reducible first | refine Below.setCell ?_ (by first | omega | (simp <;> omega)) _ | refine Below.alloc ?_ (by first | omega | (simp <;> omega)) _ | refine Below.drew ?_ | refine below_drewN ?_ _ | exact B5)))).out.mono ?_; rintro e w6 ⟨a1, c1, rfl, M16, hb6, hf6⟩; have Va6 : DyV w6 b0 bda sa (.slice aa na pa) ea := (by refine DyV.below ?_ hb6; (repeat (with_reducible first | refine DyV.drew ?_ | refine DyV.drewN ?_ _ | refine DyV.alloc ?_ _)); exact Va5.out); obtain ⟨ac0, ac1, ac2, ac3, ac4, ac5⟩ := Va6; have Va6 := Lib.hid (DyV.mk ac0 ac1 ac2 ac3 ac4 ac5); have Vv6 : DyV w6 zv (dbad dp) (decide (dman dp < 0)) (.slice av (nl (dman dp).natAbs) cv) (dexp dp) := (by refine DyV.below ?_ hb6; (repeat (with_reducible first | refine DyV.drew ?_ | refine DyV.drewN ?_ _ | refine DyV.alloc ?_ _)); exact Vv5.out); obtain ⟨vc0, vc1, vc2, vc3, vc4, vc5⟩ := Vv6; have Vv6 := Lib.hid (DyV.mk vc0 vc1 vc2 vc3 vc4 vc5); have Vl6 : DyV w6 zl (dbad dl) (decide (dman dl < 0)) (.slice al (nl (dman dl).natAbs) cl) (dexp dl) := (by refine DyV.below ?_ hb6; (repeat (with_reducible first | refine DyV.drew ?_ | refine DyV.drewN ?_ _ | refine DyV.alloc ?_ _)); exact Vl5.out); obtain ⟨lc0, lc1, lc2, lc3, lc4, lc5⟩ := Vl6; have Vl6 := Lib.hid (DyV.mk lc0 lc1 lc2 lc3 lc4 lc5); have Vh6 : DyV w6 zh (dbad dh) (decide (dman dh < 0)) (.slice ah (nl (dman dh).natAbs) ch) (dexp dh) := (by refine DyV.below ?_ hb6; (repeat (with_reducible first | refine DyV.drew ?_ | refine DyV.drewN ?_ _ | refine DyV.alloc ?_ _)); exact Vh5.out); obtain ⟨hc0, hc1, hc2, hc3, hc4, hc5⟩ := Vh6; have Vh6 := Lib.hid (DyV.mk hc0 hc1 hc2 hc3 hc4 hc5); have Mv6 : Mag w6 av (nl (dman dp).natAbs) cv (dman dp).natAbs := Mag.below (by repeat (with_reducible first | refine Mag.set ?_ (fun h => by have := Mv5 h; omega) _ _ | refine Mag.drew ?_ | refine Mag.alloc ?_ _ | refine Mag.drewN ?_ _ | refine Mag.below ?_ (Below.drew (Below.refl _ _)) | refine Mag.below ?_ ((Below.refl _ _).alloc (Nat.le_refl _) _) | exact Mv5)) hb6; have Ml6 : Mag w6 al (nl (dman dl).natAbs) cl (dman dl).natAbs := Mag.below (by repeat (with_reducible first | refine Mag.set ?_ (fun h => by have := Ml5 h; omega) _ _ | refine Mag.drew ?_ | refine Mag.alloc ?_ _ | refine Mag.drewN ?_ _ | refine Mag.below ?_ (Below.drew (Below.refl _ _)) | refine Mag.below ?_ ((Below.refl _ _).alloc (Nat.le_refl _) _) | exact Ml5)) hb6; have Mh6 : Mag w6 ah (nl (dman dh).natAbs) ch (dman dh).natAbs := Mag.below (by repeat (with_reducible first | refine Mag.set ?_ (fun h => by have := Mh5 h; omega) _ _ | refine Mag.drew ?_ | refine Mag.alloc ?_ _ | refine Mag.drewN ?_ _ | refine Mag.below ?_ (Below.drew (Below.refl _ _)) | refine Mag.below ?_ ((Below.refl _ _).alloc (Nat.le_refl _) _) | exact Mh5)) hb6; have B6 := below_box (w := w) (by have hszw := (B5).size; repeat (with_reducible first | refine Below.setCell ?_ (by first | omega | (simp <;> omega)) _ | refine Below.alloc ?_ (by first | omega | (simp <;> omega)) _ | refine Below.drew ?_ | refine below_drewN ?_ _ | exact B5)) hb6; clear hb6; clear hf6)
        | fail)
  | fail "region"
  go_wp2_with fail
  first
  | go_region_held3 (fun w' => w'.cell? ⟨zv, 0, none⟩ = some (.bool (dbad dp)) ∧ w'.cell? ⟨zv, 1, none⟩ = some (.bool (decide (dman dp < 0))) ∧ w'.cell? ⟨zv, 2, none⟩ = some ((.slice av (nl (dman dp).natAbs) cv)) ∧ w'.cell? ⟨zv, 3, none⟩ = some (.int .i64 (dexp dp)) ∧ w'.cell? ⟨zh, 0, none⟩ = some (.bool (dbad dh)) ∧ w'.cell? ⟨zh, 1, none⟩ = some (.bool (decide (dman dh < 0))) ∧ w'.cell? ⟨zh, 2, none⟩ = some ((.slice ah (nl (dman dh).natAbs) ch)) ∧ w'.cell? ⟨zh, 3, none⟩ = some (.int .i64 (dexp dh))) (first | (go_keep; done) | (go_simp; done))
      (first
        | (go_at_call 24; have xx := B8; refine (H7 _ av cv (by repeat (with_reducible first | refine Mag.set ?_ (fun h => by have := Mv8 h; omega) _ _ | refine Mag.drew ?_ | refine Mag.alloc ?_ _ | refine Mag.drewN ?_ _ | refine Mag.below ?_ (Below.drew (Below.refl _ _)) | refine Mag.below ?_ ((Below.refl _ _).alloc (Nat.le_refl _) _) | exact Mv8)) a2 c2 (by repeat (with_reducible first | refine Mag.set ?_ (fun h => by have := M28 h; omega) _ _ | refine Mag.drew ?_ | refine Mag.alloc ?_ _ | refine Mag.drewN ?_ _ | refine Mag.below ?_ (Below.drew (Below.refl _ _)) | refine Mag.below ?_ ((Below.refl _ _).alloc (Nat.le_refl _) _) | exact M28)) (hT.below (by have hszw := (B8).size; repeat (with_reducible first | refine Below.setCell ?_ (by first | omega | (simp <;> omega)) _ | refine Below.alloc ?_ (by first | omega | (simp <;> omega)) _ | refine Below.drew ?_ | refine below_drewN ?_ _ | exact B8)))).out.mono ?_; rintro e w9 ⟨rfl, hb9⟩; have Va9 : DyV w9 b0 bda sa (.slice aa na pa) ea := (by refine DyV.below ?_ hb9; (repeat (with_reducible first | refine DyV.drew ?_ | refine DyV.drewN ?_ _ | refine DyV.alloc ?_ _)); exact Va8.out); obtain ⟨ac0, ac1, ac2, ac3, ac4, ac5⟩ := Va9; have Va9 := Lib.hid (DyV.mk ac0 ac1 ac2 ac3 ac4 ac5); have Vv9 : DyV w9 zv (dbad dp) (decide (dman dp < 0)) (.slice av (nl (dman dp).natAbs) cv) (dexp dp) := (by refine DyV.below ?_ hb9; (repeat (with_reducible first | refine DyV.drew ?_ | refine DyV.drewN ?_ _ | refine DyV.alloc ?_ _)); exact Vv8.out); obtain ⟨vc0, vc1, vc2, vc3, vc4, vc5⟩ := Vv9; have Vv9 := Lib.hid (DyV.mk vc0 vc1 vc2 vc3 vc4 vc5); have Vl9 : DyV w9 zl (dbad dl) (decide (dman dl < 0)) (.slice al (nl (dman dl).natAbs) cl) (dexp dl) := (by refine DyV.below ?_ hb9; (repeat (with_reducible first | refine DyV.drew ?_ | refine DyV.drewN ?_ _ | refine DyV.alloc ?_ _)); exact Vl8.out); obtain ⟨lc0, lc1, lc2, lc3, lc4, lc5⟩ := Vl9; have Vl9 := Lib.hid (DyV.mk lc0 lc1 lc2 lc3 lc4 lc5); have Vh9 : DyV w9 zh (dbad dh) (decide (dman dh < 0)) (.slice ah (nl (dman dh).natAbs) ch) (dexp dh) := (by refine DyV.below ?_ hb9; (repeat (with_reducible first | refine DyV.drew ?_ | refine DyV.drewN ?_ _ | refine DyV.alloc ?_ _)); exact Vh8.out); obtain ⟨hc0, hc1, hc2, hc3, hc4, hc5⟩ := Vh9; have Vh9 := Lib.hid (DyV.mk hc0 hc1 hc2 hc3 hc4 hc5); have Mv9 : Mag w9 av (nl (dman dp).natAbs) cv (dman dp).natAbs := Mag.below (by repeat (with_reducible first | refine Mag.set ?_ (fun h => by have := Mv8 h; omega) _ _ | refine Mag.drew ?_ | refine Mag.alloc ?_ _ | refine Mag.drewN ?_ _ | refine Mag.below ?_ (Below.drew (Below.refl _ _)) | refine Mag.below ?_ ((Below.refl _ _).alloc (Nat.le_refl _) _) | exact Mv8)) hb9; have Ml9 : Mag w9 al (nl (dman dl).natAbs) cl (dman dl).natAbs := Mag.below (by repeat (with_reducible first | refine Mag.set ?_ (fun h => by have := Ml8 h; omega) _ _ | refine Mag.drew ?_ | refine Mag.alloc ?_ _ | refine Mag.drewN ?_ _ | refine Mag.below ?_ (Below.drew (Below.refl _ _)) | refine Mag.below ?_ ((Below.refl _ _).alloc (Nat.le_refl _) _) | exact Ml8)) hb9; have Mh9 : Mag w9 ah (nl (dman dh).natAbs) ch (dman dh).natAbs := Mag.below (by repeat (with_reducible first | refine Mag.set ?_ (fun h => by have := Mh8 h; omega) _ _ | refine Mag.drew ?_ | refine Mag.alloc ?_ _ | refine Mag.drewN ?_ _ | refine Mag.below ?_ (Below.drew (Below.refl _ _)) | refine Mag.below ?_ ((Below.refl _ _).alloc (Nat.le_refl _) _) | exact Mh8)) hb9; have M29 : Mag w9 a2 (nl (dman m2).natAbs) c2 (dman m2).natAbs := Mag.below (by repeat (with_reducible first | refine Mag.set ?_ (fun h => by have := M28 h; omega) _ _ | refine Mag.drew ?_ | refine Mag.alloc ?_ _ | refine Mag.drewN ?_ _ | refine Mag.below ?_ (Below.drew (Below.refl _ _)) | refine Mag.below ?_ ((Below.refl _ _).alloc (Nat.le_refl _) _) | exact M28)) hb9; have B9 := below_box (w := w) (by have hszw := (B8).size; repeat (with_reducible first | refine Below.setCell ?_ (by first | omega | (simp <;> omega)) _ | refine Below.alloc ?_ (by first | omega | (simp <;> omega)) _ | refine Below.drew ?_ | refine below_drewN ?_ _ | exact B8)) hb9; clear hb9)
        | (go_at_call 25; have xx := B7; refine (H6 _ ah ch (by repeat (with_reducible first | refine Mag.set ?_ (fun h => by have := Mh7 h; omega) _ _ | refine Mag.drew ?_ | refine Mag.alloc ?_ _ | refine Mag.drewN ?_ _ | refine Mag.below ?_ (Below.drew (Below.refl _ _)) | refine Mag.below ?_ ((Below.refl _ _).alloc (Nat.le_refl _) _) | exact Mh7)) ah ch (by repeat (with_reducible first | refine Mag.set ?_ (fun h => by have := Mh7 h; omega) _ _ | refine Mag.drew ?_ | refine Mag.alloc ?_ _ | refine Mag.drewN ?_ _ | refine Mag.below ?_ (Below.drew (Below.refl _ _)) | refine Mag.below ?_ ((Below.refl _ _).alloc (Nat.le_refl _) _) | exact Mh7)) (hT.below (by have hszw := (B7).size; repeat (with_reducible first | refine Below.setCell ?_ (by first | omega | (simp <;> omega)) _ | refine Below.alloc ?_ (by first | omega | (simp <;> omega)) _ | refine Below.drew ?_ | refine below_drewN ?_ _ | exact B7)))).out.mono ?_; rintro e w8 ⟨a2, c2, rfl, M28, hb8, hf8⟩; have Va8 : DyV w8 b0 bda sa (.slice aa na pa) ea := (by refine DyV.below ?_ hb8; (repeat (with_reducible first | refine DyV.drew ?_ | refine DyV.drewN ?_ _ | refine DyV.alloc ?_ _)); exact Va7.out); obtain ⟨ac0, ac1, ac2, ac3, ac4, ac5⟩ := Va8; have Va8 := Lib.hid (DyV.mk ac0 ac1 ac2 ac3 ac4 ac5); have Vv8 : DyV w8 zv (dbad dp) (decide (dman dp < 0)) (.slice av (nl (dman dp).natAbs) cv) (dexp dp) := (by refine DyV.below ?_ hb8; (repeat (with_reducible first | refine DyV.drew ?_ | refine DyV.drewN ?_ _ | refine DyV.alloc ?_ _)); exact Vv7.out); obtain ⟨vc0, vc1, vc2, vc3, vc4, vc5⟩ := Vv8; have Vv8 := Lib.hid (DyV.mk vc0 vc1 vc2 vc3 vc4 vc5); have Vl8 : DyV w8 zl (dbad dl) (decide (dman dl < 0)) (.slice al (nl (dman dl).natAbs) cl) (dexp dl) := (by refine DyV.below ?_ hb8; (repeat (with_reducible first | refine DyV.drew ?_ | refine DyV.drewN ?_ _ | refine DyV.alloc ?_ _)); exact Vl7.out); obtain ⟨lc0, lc1, lc2, lc3, lc4, lc5⟩ := Vl8; have Vl8 := Lib.hid (DyV.mk lc0 lc1 lc2 lc3 lc4 lc5); have Vh8 : DyV w8 zh (dbad dh) (decide (dman dh < 0)) (.slice ah (nl (dman dh).natAbs) ch) (dexp dh) := (by refine DyV.below ?_ hb8; (repeat (with_reducible first | refine DyV.drew ?_ | refine DyV.drewN ?_ _ | refine DyV.alloc ?_ _)); exact Vh7.out); obtain ⟨hc0, hc1, hc2, hc3, hc4, hc5⟩ := Vh8; have Vh8 := Lib.hid (DyV.mk hc0 hc1 hc2 hc3 hc4 hc5); have Mv8 : Mag w8 av (nl (dman dp).natAbs) cv (dman dp).natAbs := Mag.below (by repeat (with_reducible first | refine Mag.set ?_ (fun h => by have := Mv7 h; omega) _ _ | refine Mag.drew ?_ | refine Mag.alloc ?_ _ | refine Mag.drewN ?_ _ | refine Mag.below ?_ (Below.drew (Below.refl _ _)) | refine Mag.below ?_ ((Below.refl _ _).alloc (Nat.le_refl _) _) | exact Mv7)) hb8; have Ml8 : Mag w8 al (nl (dman dl).natAbs) cl (dman dl).natAbs := Mag.below (by repeat (with_reducible first | refine Mag.set ?_ (fun h => by have := Ml7 h; omega) _ _ | refine Mag.drew ?_ | refine Mag.alloc ?_ _ | refine Mag.drewN ?_ _ | refine Mag.below ?_ (Below.drew (Below.refl _ _)) | refine Mag.below ?_ ((Below.refl _ _).alloc (Nat.le_refl _) _) | exact Ml7)) hb8; have Mh8 : Mag w8 ah (nl (dman dh).natAbs) ch (dman dh).natAbs := Mag.below (by repeat (with_reducible first | refine Mag.set ?_ (fun h => by have := Mh7 h; omega) _ _ | refine Mag.drew ?_ | refine Mag.alloc ?_ _ | refine Mag.drewN ?_ _ | refine Mag.below ?_ (Below.drew (Below.refl _ _)) | refine Mag.below ?_ ((Below.refl _ _).alloc (Nat.le_refl _) _) | exact Mh7)) hb8; have B8 := below_box (w := w) (by have hszw := (B7).size; repeat (with_reducible first | refine Below.setCell ?_ (by first | omega | (simp <;> omega)) _ | refine Below.alloc ?_ (by first | omega | (simp <;> omega)) _ | refine Below.drew ?_ | refine below_drewN ?_ _ | exact B7)) hb8; clear hb8; clear hf8)
        | fail)
  | fail "region"
  go_wp2_with fail
  refine (H8 _ al cl (by repeat (with_reducible first | refine Mag.set ?_ (fun h => by have := Ml9 h; omega) _ _ | refine Mag.drew ?_ | refine Mag.alloc ?_ _ | refine Mag.drewN ?_ _ | refine Mag.below ?_ (Below.drew (Below.refl _ _)) | refine Mag.below ?_ ((Below.refl _ _).alloc (Nat.le_refl _) _) | exact Ml9)) ah ch (by repeat (with_reducible first | refine Mag.set ?_ (fun h => by have := Mh9 h; omega) _ _ | refine Mag.drew ?_ | refine Mag.alloc ?_ _ | refine Mag.drewN ?_ _ | refine Mag.below ?_ (Below.drew (Below.refl _ _)) | refine Mag.below ?_ ((Below.refl _ _).alloc (Nat.le_refl _) _) | exact Mh9)) (hT.below (by have hszw := (B9).size; repeat (with_reducible first | refine Below.setCell ?_ (by first | omega | (simp <;> omega)) _ | refine Below.alloc ?_ (by first | omega | (simp <;> omega)) _ | refine Below.drew ?_ | refine below_drewN ?_ _ | exact B9)))).out.mono ?_
  rintro e w10 ⟨rfl, hb10⟩
  have Va10 : DyV w10 b0 bda sa (.slice aa na pa) ea := (by refine DyV.below ?_ hb10; (repeat (with_reducible first | refine DyV.drew ?_ | refine DyV.drewN ?_ _ | refine DyV.alloc ?_ _)); exact Va9.out)
  obtain ⟨ac0, ac1, ac2, ac3, ac4, ac5⟩ := Va10
  have Va10 := Lib.hid (DyV.mk ac0 ac1 ac2 ac3 ac4 ac5)
  have Vv10 : DyV w10 zv (dbad dp) (decide (dman dp < 0)) (.slice av (nl (dman dp).natAbs) cv) (dexp dp) := (by refine DyV.below ?_ hb10; (repeat (with_reducible first | refine DyV.drew ?_ | refine DyV.drewN ?_ _ | refine DyV.alloc ?_ _)); exact Vv9.out)
  obtain ⟨vc0, vc1, vc2, vc3, vc4, vc5⟩ := Vv10
  have Vv10 := Lib.hid (DyV.mk vc0 vc1 vc2 vc3 vc4 vc5)
  have Vl10 : DyV w10 zl (dbad dl) (decide (dman dl < 0)) (.slice al (nl (dman dl).natAbs) cl) (dexp dl) := (by refine DyV.below ?_ hb10; (repeat (with_reducible first | refine DyV.drew ?_ | refine DyV.drewN ?_ _ | refine DyV.alloc ?_ _)); exact Vl9.out)
  obtain ⟨lc0, lc1, lc2, lc3, lc4, lc5⟩ := Vl10
  have Vl10 := Lib.hid (DyV.mk lc0 lc1 lc2 lc3 lc4 lc5)
  have Vh10 : DyV w10 zh (dbad dh) (decide (dman dh < 0)) (.slice ah (nl (dman dh).natAbs) ch) (dexp dh) := (by refine DyV.below ?_ hb10; (repeat (with_reducible first | refine DyV.drew ?_ | refine DyV.drewN ?_ _ | refine DyV.alloc ?_ _)); exact Vh9.out)
  obtain ⟨hc0, hc1, hc2, hc3, hc4, hc5⟩ := Vh10
  have Vh10 := Lib.hid (DyV.mk hc0 hc1 hc2 hc3 hc4 hc5)
  have Mv10 : Mag w10 av (nl (dman dp).natAbs) cv (dman dp).natAbs := Mag.below (by repeat (with_reducible first | refine Mag.set ?_ (fun h => by have := Mv9 h; omega) _ _ | refine Mag.drew ?_ | refine Mag.alloc ?_ _ | refine Mag.drewN ?_ _ | refine Mag.below ?_ (Below.drew (Below.refl _ _)) | refine Mag.below ?_ ((Below.refl _ _).alloc (Nat.le_refl _) _) | exact Mv9)) hb10
  have Ml10 : Mag w10 al (nl (dman dl).natAbs) cl (dman dl).natAbs := Mag.below (by repeat (with_reducible first | refine Mag.set ?_ (fun h => by have := Ml9 h; omega) _ _ | refine Mag.drew ?_ | refine Mag.alloc ?_ _ | refine Mag.drewN ?_ _ | refine Mag.below ?_ (Below.drew (Below.refl _ _)) | refine Mag.below ?_ ((Below.refl _ _).alloc (Nat.le_refl _) _) | exact Ml9)) hb10
  have Mh10 : Mag w10 ah (nl (dman dh).natAbs) ch (dman dh).natAbs := Mag.below (by repeat (with_reducible first | refine Mag.set ?_ (fun h => by have := Mh9 h; omega) _ _ | refine Mag.drew ?_ | refine Mag.alloc ?_ _ | refine Mag.drewN ?_ _ | refine Mag.below ?_ (Below.drew (Below.refl _ _)) | refine Mag.below ?_ ((Below.refl _ _).alloc (Nat.le_refl _) _) | exact Mh9)) hb10
  have B10 := below_box (w := w) (by have hszw := (B9).size; repeat (with_reducible first | refine Below.setCell ?_ (by first | omega | (simp <;> omega)) _ | refine Below.alloc ?_ (by first | omega | (simp <;> omega)) _ | refine Below.drew ?_ | refine below_drewN ?_ _ | exact B9)) hb10
  clear hb10
  go_wp2_with fail
  refine (H9 _ (Ga.out.1.below (by have hszw := (B10).size; repeat (with_reducible first | refine Below.setCell ?_ (by first | omega | (simp <;> omega)) _ | refine Below.alloc ?_ (by first | omega | (simp <;> omega)) _ | refine Below.drew ?_ | refine below_drewN ?_ _ | exact B10))) (Ga.out.1.below (by have hszw := (B10).size; repeat (with_reducible first | refine Below.setCell ?_ (by first | omega | (simp <;> omega)) _ | refine Below.alloc ?_ (by first | omega | (simp <;> omega)) _ | refine Below.drew ?_ | refine below_drewN ?_ _ | exact B10))) (hT.below (by have hszw := (B10).size; repeat (with_reducible first | refine Below.setCell ?_ (by first | omega | (simp <;> omega)) _ | refine Below.alloc ?_ (by first | omega | (simp <;> omega)) _ | refine Below.drew ?_ | refine below_drewN ?_ _ | exact B10)))).out.mono ?_
  rintro e w11 ⟨ak, ck, rfl, Mk11, hb11, hf11⟩
  have Va11 : DyV w11 b0 bda sa (.slice aa na pa) ea := (by refine DyV.below ?_ hb11; (repeat (with_reducible first | refine DyV.drew ?_ | refine DyV.drewN ?_ _ | refine DyV.alloc ?_ _)); exact Va10.out)
  obtain ⟨ac0, ac1, ac2, ac3, ac4, ac5⟩ := Va11
  have Va11 := Lib.hid (DyV.mk ac0 ac1 ac2 ac3 ac4 ac5)
  have Vv11 : DyV w11 zv (dbad dp) (decide (dman dp < 0)) (.slice av (nl (dman dp).natAbs) cv) (dexp dp) := (by refine DyV.below ?_ hb11; (repeat (with_reducible first | refine DyV.drew ?_ | refine DyV.drewN ?_ _ | refine DyV.alloc ?_ _)); exact Vv10.out)
  obtain ⟨vc0, vc1, vc2, vc3, vc4, vc5⟩ := Vv11
  have Vv11 := Lib.hid (DyV.mk vc0 vc1 vc2 vc3 vc4 vc5)
  have Mv11 : Mag w11 av (nl (dman dp).natAbs) cv (dman dp).natAbs := Mag.below (by repeat (with_reducible first | refine Mag.set ?_ (fun h => by have := Mv10 h; omega) _ _ | refine Mag.drew ?_ | refine Mag.alloc ?_ _ | refine Mag.drewN ?_ _ | refine Mag.below ?_ (Below.drew (Below.refl _ _)) | refine Mag.below ?_ ((Below.refl _ _).alloc (Nat.le_refl _) _) | exact Mv10)) hb11
  have B11 := below_box (w := w) (by have hszw := (B10).size; repeat (with_reducible first | refine Below.setCell ?_ (by first | omega | (simp <;> omega)) _ | refine Below.alloc ?_ (by first | omega | (simp <;> omega)) _ | refine Below.drew ?_ | refine below_drewN ?_ _ | exact B10)) hb11
  clear hb11
  clear hf11
  go_wp2_with fail
  refine (H10 _ ak ck (by repeat (with_reducible first | refine Mag.set ?_ (fun h => by have := Mk11 h; omega) _ _ | refine Mag.drew ?_ | refine Mag.alloc ?_ _ | refine Mag.drewN ?_ _ | refine Mag.below ?_ (Below.drew (Below.refl _ _)) | refine Mag.below ?_ ((Below.refl _ _).alloc (Nat.le_refl _) _) | exact Mk11)) (hT.below (by have hszw := (B11).size; repeat (with_reducible first | refine Below.setCell ?_ (by first | omega | (simp <;> omega)) _ | refine Below.alloc ?_ (by first | omega | (simp <;> omega)) _ | refine Below.drew ?_ | refine below_drewN ?_ _ | exact B11)))).out.mono ?_
  rintro e w12 ⟨ax, cx, rfl, Mx12, hb12, hf12⟩
  have Va12 : DyV w12 b0 bda sa (.slice aa na pa) ea := (by refine DyV.below ?_ hb12; (repeat (with_reducible first | refine DyV.drew ?_ | refine DyV.drewN ?_ _ | refine DyV.alloc ?_ _)); exact Va11.out)
  obtain ⟨ac0, ac1, ac2, ac3, ac4, ac5⟩ := Va12
  have Va12 := Lib.hid (DyV.mk ac0 ac1 ac2 ac3 ac4 ac5)
  have Vv12 : DyV w12 zv (dbad dp) (decide (dman dp < 0)) (.slice av (nl (dman dp).natAbs) cv) (dexp dp) := (by refine DyV.below ?_ hb12; (repeat (with_reducible first | refine DyV.drew ?_ | refine DyV.drewN ?_ _ | refine DyV.alloc ?_ _)); exact Vv11.out)
  obtain ⟨vc0, vc1, vc2, vc3, vc4, vc5⟩ := Vv12
  have Vv12 := Lib.hid (DyV.mk vc0 vc1 vc2 vc3 vc4 vc5)
  have Mv12 : Mag w12 av (nl (dman dp).natAbs) cv (dman dp).natAbs := Mag.below (by repeat (with_reducible first | refine Mag.set ?_ (fun h => by have := Mv11 h; omega) _ _ | refine Mag.drew ?_ | refine Mag.alloc ?_ _ | refine Mag.drewN ?_ _ | refine Mag.below ?_ (Below.drew (Below.refl _ _)) | refine Mag.below ?_ ((Below.refl _ _).alloc (Nat.le_refl _) _) | exact Mv11)) hb12
  have Mk12 : Mag w12 ak (nl (dman ds).natAbs) ck (dman ds).natAbs := Mag.below (by repeat (with_reducible first | refine Mag.set ?_ (fun h => by have := Mk11 h; omega) _ _ | refine Mag.drew ?_ | refine Mag.alloc ?_ _ | refine Mag.drewN ?_ _ | refine Mag.below ?_ (Below.drew (Below.refl _ _)) | refine Mag.below ?_ ((Below.refl _ _).alloc (Nat.le_refl _) _) | exact Mk11)) hb12
  have B12 := below_box (w := w) (by have hszw := (B11).size; repeat (with_reducible first | refine Below.setCell ?_ (by first | omega | (simp <;> omega)) _ | refine Below.alloc ?_ (by first | omega | (simp <;> omega)) _ | refine Below.drew ?_ | refine below_drewN ?_ _ | exact B11)) hb12
  clear hb12
  clear hf12
  go_wp2_with fail
  have Vx13 := DyV.made w12 27 (dbad dx) (decide (dman dx < 0)) (.slice ax (nl (dman dx).natAbs) cx) (dexp dx)
  have Va13 := DyV.alloc Va12.out (.cells #[.bool (dbad dx), .bool (decide (dman dx < 0)), (.slice ax (nl (dman dx).natAbs) cx), .int .i64 (dexp dx)] 27)
  have Vv13 := DyV.alloc Vv12.out (.cells #[.bool (dbad dx), .bool (decide (dman dx < 0)), (.slice ax (nl (dman dx).natAbs) cx), .int .i64 (dexp dx)] 27)
  have Mv13 := Mv12.alloc (.cells #[.bool (dbad dx), .bool (decide (dman dx < 0)), (.slice ax (nl (dman dx).natAbs) cx), .int .i64 (dexp dx)] 27)
  have Mx13 := Mx12.alloc (.cells #[.bool (dbad dx), .bool (decide (dman dx < 0)), (.slice ax (nl (dman dx).natAbs) cx), .int .i64 (dexp dx)] 27)
  have B13 : Below w.heap.size w (w12.alloc (.cells #[.bool (dbad dx), .bool (decide (dman dx < 0)), (.slice ax (nl (dman dx).natAbs) cx), .int .i64 (dexp dx)] 27)) := B12.alloc B12.size _
  generalize (w12.alloc (.cells #[.bool (dbad dx), .bool (decide (dman dx < 0)), (.slice ax (nl (dman dx).natAbs) cx), .int .i64 (dexp dx)] 27)) = w13 at Vx13 Va13 Vv13 Mv13 Mx13 B13 ⊢
  generalize w12.heap.size = zx at Vx13 ⊢
  obtain ⟨ac0, ac1, ac2, ac3, ac4, ac5⟩ := Va13
  have Va13 := Lib.hid (DyV.mk ac0 ac1 ac2 ac3 ac4 ac5)
  obtain ⟨vc0, vc1, vc2, vc3, vc4, vc5⟩ := Vv13
  have Vv13 := Lib.hid (DyV.mk vc0 vc1 vc2 vc3 vc4 vc5)
  obtain ⟨xc0, xc1, xc2, xc3, xc4, xc5⟩ := Vx13
  have Vx13 := Lib.hid (DyV.mk xc0 xc1 xc2 xc3 xc4 xc5)
  refine (H11 _ ax cx (by repeat (with_reducible first | refine Mag.set ?_ (fun h => by have := Mx13 h; omega) _ _ | refine Mag.drew ?_ | refine Mag.alloc ?_ _ | refine Mag.drewN ?_ _ | refine Mag.below ?_ (Below.drew (Below.refl _ _)) | refine Mag.below ?_ ((Below.refl _ _).alloc (Nat.le_refl _) _) | exact Mx13)) av cv (by repeat (with_reducible first | refine Mag.set ?_ (fun h => by have := Mv13 h; omega) _ _ | refine Mag.drew ?_ | refine Mag.alloc ?_ _ | refine Mag.drewN ?_ _ | refine Mag.below ?_ (Below.drew (Below.refl _ _)) | refine Mag.below ?_ ((Below.refl _ _).alloc (Nat.le_refl _) _) | exact Mv13)) (hT.below (by have hszw := (B13).size; repeat (with_reducible first | refine Below.setCell ?_ (by first | omega | (simp <;> omega)) _ | refine Below.alloc ?_ (by first | omega | (simp <;> omega)) _ | refine Below.drew ?_ | refine below_drewN ?_ _ | exact B13)))).out.mono ?_
  rintro e w14 ⟨rfl, hb14⟩
  have Va14 : DyV w14 b0 bda sa (.slice aa na pa) ea := (by refine DyV.below ?_ hb14; (repeat (with_reducible first | refine DyV.drew ?_ | refine DyV.drewN ?_ _ | refine DyV.alloc ?_ _)); exact Va13.out)
  obtain ⟨ac0, ac1, ac2, ac3, ac4, ac5⟩ := Va14
  have Va14 := Lib.hid (DyV.mk ac0 ac1 ac2 ac3 ac4 ac5)
  have Vv14 : DyV w14 zv (dbad dp) (decide (dman dp < 0)) (.slice av (nl (dman dp).natAbs) cv) (dexp dp) := (by refine DyV.below ?_ hb14; (repeat (with_reducible first | refine DyV.drew ?_ | refine DyV.drewN ?_ _ | refine DyV.alloc ?_ _)); exact Vv13.out)
  obtain ⟨vc0, vc1, vc2, vc3, vc4, vc5⟩ := Vv14
  have Vv14 := Lib.hid (DyV.mk vc0 vc1 vc2 vc3 vc4 vc5)
  have Vx14 : DyV w14 zx (dbad dx) (decide (dman dx < 0)) (.slice ax (nl (dman dx).natAbs) cx) (dexp dx) := (by refine DyV.below ?_ hb14; (repeat (with_reducible first | refine DyV.drew ?_ | refine DyV.drewN ?_ _ | refine DyV.alloc ?_ _)); exact Vx13.out)
  obtain ⟨xc0, xc1, xc2, xc3, xc4, xc5⟩ := Vx14
  have Vx14 := Lib.hid (DyV.mk xc0 xc1 xc2 xc3 xc4 xc5)
  have Mv14 : Mag w14 av (nl (dman dp).natAbs) cv (dman dp).natAbs := Mag.below (by repeat (with_reducible first | refine Mag.set ?_ (fun h => by have := Mv13 h; omega) _ _ | refine Mag.drew ?_ | refine Mag.alloc ?_ _ | refine Mag.drewN ?_ _ | refine Mag.below ?_ (Below.drew (Below.refl _ _)) | refine Mag.below ?_ ((Below.refl _ _).alloc (Nat.le_refl _) _) | exact Mv13)) hb14
  have Mx14 : Mag w14 ax (nl (dman dx).natAbs) cx (dman dx).natAbs := Mag.below (by repeat (with_reducible first | refine Mag.set ?_ (fun h => by have := Mx13 h; omega) _ _ | refine Mag.drew ?_ | refine Mag.alloc ?_ _ | refine Mag.drewN ?_ _ | refine Mag.below ?_ (Below.drew (Below.refl _ _)) | refine Mag.below ?_ ((Below.refl _ _).alloc (Nat.le_refl _) _) | exact Mx13)) hb14
  have B14 := below_box (w := w) (by have hszw := (B13).size; repeat (with_reducible first | refine Below.setCell ?_ (by first | omega | (simp <;> omega)) _ | refine Below.alloc ?_ (by first | omega | (simp <;> omega)) _ | refine Below.drew ?_ | refine below_drewN ?_ _ | exact B13)) hb14
  clear hb14
  go_wp2_with fail
  refine (H12 _ (Ga.out.1.below (by have hszw := (B14).size; repeat (with_reducible first | refine Below.setCell ?_ (by first | omega | (simp <;> omega)) _ | refine Below.alloc ?_ (by first | omega | (simp <;> omega)) _ | refine Below.drew ?_ | refine below_drewN ?_ _ | exact B14))) (hT.below (by have hszw := (B14).size; repeat (with_reducible first | refine Below.setCell ?_ (by first | omega | (simp <;> omega)) _ | refine Below.alloc ?_ (by first | omega | (simp <;> omega)) _ | refine Below.drew ?_ | refine below_drewN ?_ _ | exact B14)))).out.mono ?_
  rintro e w15 ⟨rfl, hb15⟩
  have Va15 : DyV w15 b0 bda sa (.slice aa na pa) ea := (by refine DyV.below ?_ hb15; (repeat (with_reducible first | refine DyV.drew ?_ | refine DyV.drewN ?_ _ | refine DyV.alloc ?_ _)); exact Va14.out)
  obtain ⟨ac0, ac1, ac2, ac3, ac4, ac5⟩ := Va15
  have Va15 := Lib.hid (DyV.mk ac0 ac1 ac2 ac3 ac4 ac5)
  have Vv15 : DyV w15 zv (dbad dp) (decide (dman dp < 0)) (.slice av (nl (dman dp).natAbs) cv) (dexp dp) := (by refine DyV.below ?_ hb15; (repeat (with_reducible first | refine DyV.drew ?_ | refine DyV.drewN ?_ _ | refine DyV.alloc ?_ _)); exact Vv14.out)
  obtain ⟨vc0, vc1, vc2, vc3, vc4, vc5⟩ := Vv15
  have Vv15 := Lib.hid (DyV.mk vc0 vc1 vc2 vc3 vc4 vc5)
  have Vx15 : DyV w15 zx (dbad dx) (decide (dman dx < 0)) (.slice ax (nl (dman dx).natAbs) cx) (dexp dx) := (by refine DyV.below ?_ hb15; (repeat (with_reducible first | refine DyV.drew ?_ | refine DyV.drewN ?_ _ | refine DyV.alloc ?_ _)); exact Vx14.out)
  obtain ⟨xc0, xc1, xc2, xc3, xc4, xc5⟩ := Vx15
  have Vx15 := Lib.hid (DyV.mk xc0 xc1 xc2 xc3 xc4 xc5)
  have Mv15 : Mag w15 av (nl (dman dp).natAbs) cv (dman dp).natAbs := Mag.below (by repeat (with_reducible first | refine Mag.set ?_ (fun h => by have := Mv14 h; omega) _ _ | refine Mag.drew ?_ | refine Mag.alloc ?_ _ | refine Mag.drewN ?_ _ | refine Mag.below ?_ (Below.drew (Below.refl _ _)) | refine Mag.below ?_ ((Below.refl _ _).alloc (Nat.le_refl _) _) | exact Mv14)) hb15
  have Mx15 : Mag w15 ax (nl (dman dx).natAbs) cx (dman dx).natAbs := Mag.below (by repeat (with_reducible first | refine Mag.set ?_ (fun h => by have := Mx14 h; omega) _ _ | refine Mag.drew ?_ | refine Mag.alloc ?_ _ | refine Mag.drewN ?_ _ | refine Mag.below ?_ (Below.drew (Below.refl _ _)) | refine Mag.below ?_ ((Below.refl _ _).alloc (Nat.le_refl _) _) | exact Mx14)) hb15
  have B15 := below_box (w := w) (by have hszw := (B14).size; repeat (with_reducible first | refine Below.setCell ?_ (by first | omega | (simp <;> omega)) _ | refine Below.alloc ?_ (by first | omega | (simp <;> omega)) _ | refine Below.drew ?_ | refine below_drewN ?_ _ | exact B14)) hb15
  clear hb15
  by_cases hg : g < 0
  · have hg1 : decide (0 ≤ g) = false := by simp; omega
    have hgb := HG.out hg
    clear hg
    go_wp2_with fail
    refine (H13 _ (Ga.out.1.below (by have hszw := (B15).size; repeat (with_reducible first | refine Below.setCell ?_ (by first | omega | (simp <;> omega)) _ | refine Below.alloc ?_ (by first | omega | (simp <;> omega)) _ | refine Below.drew ?_ | refine below_drewN ?_ _ | exact B15))) (hT.below (by have hszw := (B15).size; repeat (with_reducible first | refine Below.setCell ?_ (by first | omega | (simp <;> omega)) _ | refine Below.alloc ?_ (by first | omega | (simp <;> omega)) _ | refine Below.drew ?_ | refine below_drewN ?_ _ | exact B15)))).out.mono ?_
    rintro e w16 ⟨an, cn, rfl, Mn16, hb16, hf16⟩
    have Va16 : DyV w16 b0 bda sa (.slice aa na pa) ea := (by refine DyV.below ?_ hb16; (repeat (with_reducible first | refine DyV.drew ?_ | refine DyV.drewN ?_ _ | refine DyV.alloc ?_ _)); exact Va15.out)
    obtain ⟨ac0, ac1, ac2, ac3, ac4, ac5⟩ := Va16
    have Va16 := Lib.hid (DyV.mk ac0 ac1 ac2 ac3 ac4 ac5)
    have Vv16 : DyV w16 zv (dbad dp) (decide (dman dp < 0)) (.slice av (nl (dman dp).natAbs) cv) (dexp dp) := (by refine DyV.below ?_ hb16; (repeat (with_reducible first | refine DyV.drew ?_ | refine DyV.drewN ?_ _ | refine DyV.alloc ?_ _)); exact Vv15.out)
    obtain ⟨vc0, vc1, vc2, vc3, vc4, vc5⟩ := Vv16
    have Vv16 := Lib.hid (DyV.mk vc0 vc1 vc2 vc3 vc4 vc5)
    have Vx16 : DyV w16 zx (dbad dx) (decide (dman dx < 0)) (.slice ax (nl (dman dx).natAbs) cx) (dexp dx) := (by refine DyV.below ?_ hb16; (repeat (with_reducible first | refine DyV.drew ?_ | refine DyV.drewN ?_ _ | refine DyV.alloc ?_ _)); exact Vx15.out)
    obtain ⟨xc0, xc1, xc2, xc3, xc4, xc5⟩ := Vx16
    have Vx16 := Lib.hid (DyV.mk xc0 xc1 xc2 xc3 xc4 xc5)
    have Mv16 : Mag w16 av (nl (dman dp).natAbs) cv (dman dp).natAbs := Mag.below (by repeat (with_reducible first | refine Mag.set ?_ (fun h => by have := Mv15 h; omega) _ _ | refine Mag.drew ?_ | refine Mag.alloc ?_ _ | refine Mag.drewN ?_ _ | refine Mag.below ?_ (Below.drew (Below.refl _ _)) | refine Mag.below ?_ ((Below.refl _ _).alloc (Nat.le_refl _) _) | exact Mv15)) hb16
    have Mx16 : Mag w16 ax (nl (dman dx).natAbs) cx (dman dx).natAbs := Mag.below (by repeat (with_reducible first | refine Mag.set ?_ (fun h => by have := Mx15 h; omega) _ _ | refine Mag.drew ?_ | refine Mag.alloc ?_ _ | refine Mag.drewN ?_ _ | refine Mag.below ?_ (Below.drew (Below.refl _ _)) | refine Mag.below ?_ ((Below.refl _ _).alloc (Nat.le_refl _) _) | exact Mx15)) hb16
    have B16 := below_box (w := w) (by have hszw := (B15).size; repeat (with_reducible first | refine Below.setCell ?_ (by first | omega | (simp <;> omega)) _ | refine Below.alloc ?_ (by first | omega | (simp <;> omega)) _ | refine Below.drew ?_ | refine below_drewN ?_ _ | exact B15)) hb16
    clear hb16
    clear hf16
    go_wp2_with fail
    refine (HW _ (hT.below (by have hszw := (B16).size; repeat (with_reducible first | refine Below.setCell ?_ (by first | omega | (simp <;> omega)) _ | refine Below.alloc ?_ (by first | omega | (simp <;> omega)) _ | refine Below.drew ?_ | refine below_drewN ?_ _ | exact B16)))).out.mono ?_
    rintro e w17 ⟨rfl, hb17⟩
    have Va17 : DyV w17 b0 bda sa (.slice aa na pa) ea := (by refine DyV.below ?_ hb17; (repeat (with_reducible first | refine DyV.drew ?_ | refine DyV.drewN ?_ _ | refine DyV.alloc ?_ _)); exact Va16.out)
    obtain ⟨ac0, ac1, ac2, ac3, ac4, ac5⟩ := Va17
    have Va17 := Lib.hid (DyV.mk ac0 ac1 ac2 ac3 ac4 ac5)
    have Vv17 : DyV w17 zv (dbad dp) (decide (dman dp < 0)) (.slice av (nl (dman dp).natAbs) cv) (dexp dp) := (by refine DyV.below ?_ hb17; (repeat (with_reducible first | refine DyV.drew ?_ | refine DyV.drewN ?_ _ | refine DyV.alloc ?_ _)); exact Vv16.out)
    obtain ⟨vc0, vc1, vc2, vc3, vc4, vc5⟩ := Vv17
    have Vv17 := Lib.hid (DyV.mk vc0 vc1 vc2 vc3 vc4 vc5)
    have Vx17 : DyV w17 zx (dbad dx) (decide (dman dx < 0)) (.slice ax (nl (dman dx).natAbs) cx) (dexp dx) := (by refine DyV.below ?_ hb17; (repeat (with_reducible first | refine DyV.drew ?_ | refine DyV.drewN ?_ _ | refine DyV.alloc ?_ _)); exact Vx16.out)
    obtain ⟨xc0, xc1, xc2, xc3, xc4, xc5⟩ := Vx17
    have Vx17 := Lib.hid (DyV.mk xc0 xc1 xc2 xc3 xc4 xc5)
    have Mv17 : Mag w17 av (nl (dman dp).natAbs) cv (dman dp).natAbs := Mag.below (by repeat (with_reducible first | refine Mag.set ?_ (fun h => by have := Mv16 h; omega) _ _ | refine Mag.drew ?_ | refine Mag.alloc ?_ _ | refine Mag.drewN ?_ _ | refine Mag.below ?_ (Below.drew (Below.refl _ _)) | refine Mag.below ?_ ((Below.refl _ _).alloc (Nat.le_refl _) _) | exact Mv16)) hb17
    have Mx17 : Mag w17 ax (nl (dman dx).natAbs) cx (dman dx).natAbs := Mag.below (by repeat (with_reducible first | refine Mag.set ?_ (fun h => by have := Mx16 h; omega) _ _ | refine Mag.drew ?_ | refine Mag.alloc ?_ _ | refine Mag.drewN ?_ _ | refine Mag.below ?_ (Below.drew (Below.refl _ _)) | refine Mag.below ?_ ((Below.refl _ _).alloc (Nat.le_refl _) _) | exact Mx16)) hb17
    have Mn17 : Mag w17 an (nl (dman dn).natAbs) cn (dman dn).natAbs := Mag.below (by repeat (with_reducible first | refine Mag.set ?_ (fun h => by have := Mn16 h; omega) _ _ | refine Mag.drew ?_ | refine Mag.alloc ?_ _ | refine Mag.drewN ?_ _ | refine Mag.below ?_ (Below.drew (Below.refl _ _)) | refine Mag.below ?_ ((Below.refl _ _).alloc (Nat.le_refl _) _) | exact Mn16)) hb17
    have B17 := below_box (w := w) (by have hszw := (B16).size; repeat (with_reducible first | refine Below.setCell ?_ (by first | omega | (simp <;> omega)) _ | refine Below.alloc ?_ (by first | omega | (simp <;> omega)) _ | refine Below.drew ?_ | refine below_drewN ?_ _ | exact B16)) hb17
    clear hb17
    go_wp2_with fail
    go_ret
    exact ⟨rfl, (by have hszw := (B17).size; repeat (with_reducible first | refine Below.setCell ?_ (by first | omega | (simp <;> omega)) _ | refine Below.alloc ?_ (by first | omega | (simp <;> omega)) _ | refine Below.drew ?_ | refine below_drewN ?_ _ | exact B17))⟩
  · have hg1 : decide (0 ≤ g) = true := by simp; omega
    clear hg
    go_wp2_with fail
    refine (HW _ (hT.below (by have hszw := (B15).size; repeat (with_reducible first | refine Below.setCell ?_ (by first | omega | (simp <;> omega)) _ | refine Below.alloc ?_ (by first | omega | (simp <;> omega)) _ | refine Below.drew ?_ | refine below_drewN ?_ _ | exact B15)))).out.mono ?_
    rintro e w16 ⟨rfl, hb16⟩
    have Va16 : DyV w16 b0 bda sa (.slice aa na pa) ea := (by refine DyV.below ?_ hb16; (repeat (with_reducible first | refine DyV.drew ?_ | refine DyV.drewN ?_ _ | refine DyV.alloc ?_ _)); exact Va15.out)
    obtain ⟨ac0, ac1, ac2, ac3, ac4, ac5⟩ := Va16
    have Va16 := Lib.hid (DyV.mk ac0 ac1 ac2 ac3 ac4 ac5)
    have Vv16 : DyV w16 zv (dbad dp) (decide (dman dp < 0)) (.slice av (nl (dman dp).natAbs) cv) (dexp dp) := (by refine DyV.below ?_ hb16; (repeat (with_reducible first | refine DyV.drew ?_ | refine DyV.drewN ?_ _ | refine DyV.alloc ?_ _)); exact Vv15.out)
    obtain ⟨vc0, vc1, vc2, vc3, vc4, vc5⟩ := Vv16
    have Vv16 := Lib.hid (DyV.mk vc0 vc1 vc2 vc3 vc4 vc5)
    have Vx16 : DyV w16 zx (dbad dx) (decide (dman dx < 0)) (.slice ax (nl (dman dx).natAbs) cx) (dexp dx) := (by refine DyV.below ?_ hb16; (repeat (with_reducible first | refine DyV.drew ?_ | refine DyV.drewN ?_ _ | refine DyV.alloc ?_ _)); exact Vx15.out)
    obtain ⟨xc0, xc1, xc2, xc3, xc4, xc5⟩ := Vx16
    have Vx16 := Lib.hid (DyV.mk xc0 xc1 xc2 xc3 xc4 xc5)
    have Mv16 : Mag w16 av (nl (dman dp).natAbs) cv (dman dp).natAbs := Mag.below (by repeat (with_reducible first | refine Mag.set ?_ (fun h => by have := Mv15 h; omega) _ _ | refine Mag.drew ?_ | refine Mag.alloc ?_ _ | refine Mag.drewN ?_ _ | refine Mag.below ?_ (Below.drew (Below.refl _ _)) | refine Mag.below ?_ ((Below.refl _ _).alloc (Nat.le_refl _) _) | exact Mv15)) hb16
    have Mx16 : Mag w16 ax (nl (dman dx).natAbs) cx (dman dx).natAbs := Mag.below (by repeat (with_reducible first | refine Mag.set ?_ (fun h => by have := Mx15 h; omega) _ _ | refine Mag.drew ?_ | refine Mag.alloc ?_ _ | refine Mag.drewN ?_ _ | refine Mag.below ?_ (Below.drew (Below.refl _ _)) | refine Mag.below ?_ ((Below.refl _ _).alloc (Nat.le_refl _) _) | exact Mx15)) hb16
    have B16 := below_box (w := w) (by have hszw := (B15).size; repeat (with_reducible first | refine Below.setCell ?_ (by first | omega | (simp <;> omega)) _ | refine Below.alloc ?_ (by first | omega | (simp <;> omega)) _ | refine Below.drew ?_ | refine below_drewN ?_ _ | exact B15)) hb16
    clear hb16
    go_wp2_with fail
    go_ret
    exact ⟨rfl, (by have hszw := (B16).size; repeat (with_reducible first | refine Below.setCell ?_ (by first | omega | (simp <;> omega)) _ | refine Below.alloc ?_ (by first | omega | (simp <;> omega)) _ | refine Below.drew ?_ | refine below_drewN ?_ _ | exact B16))⟩

theorem slim_ni {n : Nat} {e : Int} (h : slimB n e = true) : n ≤ 20 := by
  simp only [slimB, Bool.and_eq_true, decide_eq_true_eq] at h; exact h.1
theorem dyis_of {w : World} {bd s : Bool} {a : Option Addr} {n p x : Nat} {e : Int} (hm : Mag w a n p x) (hs : slimB n e = true) (h0 : -9223372036854775808 ≤ e) (h1 : e ≤ 9223372036854775807) : DyIs w bd s a n p e (nrmB bd (sgn s x) e) := by
  have hn := slim_ni hs
  have hb := slim_pow x n hm.lt
  exact ⟨⟨x, hm, by omega, by omega, h0, h1, rfl⟩, by omega⟩

theorem slim_abs {m e : Int} (h : Slim m e) : Slim (m.natAbs : Int) e := by
  rcases h with ⟨h1, h2⟩ | ⟨h1, h2, h3, h4⟩
  · left; omega
  · right
    refine ⟨by omega, ?_, h3, ?_⟩
    · rw [Int.natAbs_natCast]; exact h2
    · rw [Int.natAbs_natCast]; exact h4
theorem rlaw_any (w : World) (hT : Tab w) (bda sa : Bool) (aa : Option Addr) (na pa xa : Nat) (ea q : Int)
    (Ma : Mag w aa na pa xa) (ua : -9223372036854775808 ≤ ea ∧ ea ≤ 9223372036854775807) (_uq : -9223372036854775808 ≤ q ∧ q ≤ 9223372036854775807) :
    Calls Tryd.prog 9 #[.agg #[.bool bda, .bool sa, .slice aa na pa, .int .i64 ea], .int .i64 q] w fun o w' => o = .returned (.bool true) ∧ Below w.heap.size w w' := by
  have ma := Nat.le_trans Ma.fits Ma.lim
  cases hsa : slimB na ea with
  | false => exact rlaw_na w hT _ _ _ _ _ _ _ ma hsa
  | true =>
    have Ha := dyis_of (bd := bda) (s := sa) Ma hsa ua.1 ua.2
    cases va : nrmB bda (sgn sa xa) ea with
    | none =>
      rw [va] at Ha
      exact rlaw_va w hT _ _ _ _ _ _ _ Ha _ ma hsa rfl
    | some v =>
      obtain ⟨m, e⟩ := v
      rw [va] at Ha
      have Sa := slim_nrm hsa Ma.lt va
      obtain ⟨k, hk⟩ : ∃ k : Nat, placeI q 80 = k := Int.eq_ofNat_of_zero_le (by unfold placeI; exact Int.emod_nonneg _ (by omega))
      have hk1 : k < 80 := by
        have h2 : placeI q 80 < 80 := by unfold placeI; exact Int.emod_lt_of_pos _ (by omega)
        omega
      have hr : ((k + 1 : Nat) : Int) = 1 + placeI q 80 := by rw [hk]; omega
      obtain ⟨l, kk, h, j, h1, h2, h3, h4, h5, h6, h7⟩ := root_law (m.natAbs : Int) e (k + 1) (slim_abs Sa) (by omega) (by omega) (by omega)
      obtain ⟨h8, _⟩ := root_exact m e Sa
      have eb1 : (!dbad (dmul (some (l, kk)) (some (l, kk))) && !dbad (some ((m.natAbs : Int), e))) = true := by
        cases hd : dmul (some (l, kk)) (some (l, kk)) with
        | none => exact absurd hd h6
        | some _ => rfl
      have eb2 : (!dbad (some ((m.natAbs : Int), e)) && !dbad (dmul (some (h, j)) (some (h, j)))) = true := by
        cases hd : dmul (some (h, j)) (some (h, j)) with
        | none => exact absurd hd h7
        | some _ => rfl
      refine rlaw_main w hT _ _ _ _ _ _ _ Ha q ma hsa rfl ((k + 1 : Nat) : Int) hr (by omega) (by omega) (some ((m.natAbs : Int), e)) _ _ _ _ _ _ _ _ _ _ (decide ((some (l, kk) : Option (Int × Int)) = some (h, j))) rfl h1 h2 rfl rfl eb1 rfl rfl eb2 rfl rfl h8 rfl rfl rfl ?_ h3 h4 ?_ Ha.1.isN
      · rw [Bool.eq_iff_iff, beq_iff_eq, decide_eq_true_eq, ← h5]; simp
      · intro hg
        have hm : m < 0 := cmpI_neg_iff.1 hg
        have hp : prc ((k + 1 : Nat) : Int) = true := by unfold prc; simp; omega
        show dbad (dsqrt (some (m, e)) ((k + 1 : Nat) : Int) 0) = true
        simp only [dsqrt, hp, if_pos hm, Bool.true_eq_false, if_false]
        rfl

end Go.Proofs.YtjhngehajahbnaaDoor
