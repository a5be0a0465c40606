/-
  Walks: the law DyadScales.
-/
import Derived.Test.YtjhngehajahbnaaDoorSl
import Derived.Test.YtjhngehajahbnaaDoorFl
import Derived.Test.YtjhngehajahbnaaDoorAw
import Derived.Test.YtjhngehajahbnaaDoorScaleLaw
namespace Go.Proofs.YtjhngehajahbnaaDoor
open Go.RowKit Sp

theorem isN_scale (a : Option (Int × Int)) (k : Int) : IsN (dscale a k) := by
  unfold dscale; split
  · exact isN_nrm _ _
  · exact isN_none
set_option maxRecDepth 100000 in
set_option maxHeartbeats 12000000 in
theorem scal_na (w : World) (hT : Tab w) (bda sa : Bool) (aa : Option Addr) (na pa : Nat) (ea : Int) (q : Int) (ma : na ≤ 9223372036854775807) (hsa : slimB na ea = false) :
    Calls Tryd.prog 8 #[.agg #[.bool bda, .bool sa, .slice aa na pa, .int .i64 ea], .int .i64 q] w fun o w' => o = .returned (.bool true) ∧ Below w.heap.size w w' := by
  have HSa := fun W => Lib.hid (slim_any W bda sa aa na pa ea ma false hsa)
  have HW := fun W ht => Lib.hid (awake_any W ht)
  go_enter Tryd.func8, Tryd.ntmps8
  go_wp2_with fail
  have I0 := DyV.made w 27 bda sa (.slice aa na pa) ea
  have B0 : Below w.heap.size w (w.alloc (.cells #[.bool bda, .bool sa, .slice aa na pa, .int .i64 ea] 27)) := (by repeat (with_reducible first | refine Below.setCell ?_ (by simp <;> omega) _ | refine Below.alloc ?_ (by simp <;> omega) _ | refine Below.drew ?_ | refine below_drewN ?_ _ | exact Below.refl _ _))
  generalize (w.alloc (.cells #[.bool bda, .bool sa, .slice aa na pa, .int .i64 ea] 27)) = w0 at I0 B0 ⊢
  generalize hb0 : w.heap.size = b0 at I0 ⊢
  obtain ⟨ac0, ac1, ac2, ac3, ac4, ac5⟩ := I0
  have Va0 := Lib.hid (DyV.mk ac0 ac1 ac2 ac3 ac4 ac5)
  refine (HSa _).out.mono ?_
  rintro e w1 ⟨rfl, hb1⟩
  have Va1 : DyV w1 b0 bda sa (.slice aa na pa) ea := (by refine DyV.below ?_ hb1; (repeat (with_reducible first | refine DyV.drew ?_ | refine DyV.drewN ?_ _ | refine DyV.alloc ?_ _)); exact Va0.out)
  obtain ⟨ac0, ac1, ac2, ac3, ac4, ac5⟩ := Va1
  have Va1 := Lib.hid (DyV.mk ac0 ac1 ac2 ac3 ac4 ac5)
  have B1 := below_box (w := w) (by have hszw := (B0).size; repeat (with_reducible first | refine Below.setCell ?_ (by first | omega | (simp <;> omega)) _ | refine Below.alloc ?_ (by first | omega | (simp <;> omega)) _ | refine Below.drew ?_ | refine below_drewN ?_ _ | exact B0)) hb1
  clear hb1
  go_wp2_with fail
  refine (HW _ (hT.below (by have hszw := (B1).size; repeat (with_reducible first | refine Below.setCell ?_ (by first | omega | (simp <;> omega)) _ | refine Below.alloc ?_ (by first | omega | (simp <;> omega)) _ | refine Below.drew ?_ | refine below_drewN ?_ _ | exact B1)))).out.mono ?_
  rintro e w2 ⟨rfl, hb2⟩
  have Va2 : DyV w2 b0 bda sa (.slice aa na pa) ea := (by refine DyV.below ?_ hb2; (repeat (with_reducible first | refine DyV.drew ?_ | refine DyV.drewN ?_ _ | refine DyV.alloc ?_ _)); exact Va1.out)
  obtain ⟨ac0, ac1, ac2, ac3, ac4, ac5⟩ := Va2
  have Va2 := Lib.hid (DyV.mk ac0 ac1 ac2 ac3 ac4 ac5)
  have B2 := below_box (w := w) (by have hszw := (B1).size; repeat (with_reducible first | refine Below.setCell ?_ (by first | omega | (simp <;> omega)) _ | refine Below.alloc ?_ (by first | omega | (simp <;> omega)) _ | refine Below.drew ?_ | refine below_drewN ?_ _ | exact B1)) hb2
  clear hb2
  go_wp2_with fail
  go_ret
  exact ⟨rfl, (by have hszw := (B2).size; repeat (with_reducible first | refine Below.setCell ?_ (by first | omega | (simp <;> omega)) _ | refine Below.alloc ?_ (by first | omega | (simp <;> omega)) _ | refine Below.drew ?_ | refine below_drewN ?_ _ | exact B2))⟩

set_option maxRecDepth 100000 in
set_option maxHeartbeats 12000000 in
theorem scal_va (w : World) (hT : Tab w) (bda sa : Bool) (aa : Option Addr) (na pa : Nat) (ea : Int) (da : Option (Int × Int)) (Ha : DyIs w bda sa aa na pa ea da) (q : Int) (ma : na ≤ 9223372036854775807) (hsa : slimB na ea = true) (va : dbad da = true) :
    Calls Tryd.prog 8 #[.agg #[.bool bda, .bool sa, .slice aa na pa, .int .i64 ea], .int .i64 q] w fun o w' => o = .returned (.bool true) ∧ Below w.heap.size w w' := by
  have HSa := fun W => Lib.hid (slim_any W bda sa aa na pa ea ma true hsa)
  have HW := fun W ht => Lib.hid (awake_any W ht)
  have Ga := Lib.hid Ha
  have HVa := fun W h ht => Lib.hid (rvalid_any W bda sa aa na pa ea da h ht)
  rw [va] at HVa
  have nva : (!true) = false := rfl
  rw [nva] at HVa
  clear hsa va Ha
  go_enter Tryd.func8, Tryd.ntmps8
  go_wp2_with fail
  have I0 := DyV.made w 27 bda sa (.slice aa na pa) ea
  have B0 : Below w.heap.size w (w.alloc (.cells #[.bool bda, .bool sa, .slice aa na pa, .int .i64 ea] 27)) := (by repeat (with_reducible first | refine Below.setCell ?_ (by simp <;> omega) _ | refine Below.alloc ?_ (by simp <;> omega) _ | refine Below.drew ?_ | refine below_drewN ?_ _ | exact Below.refl _ _))
  generalize (w.alloc (.cells #[.bool bda, .bool sa, .slice aa na pa, .int .i64 ea] 27)) = w0 at I0 B0 ⊢
  generalize hb0 : w.heap.size = b0 at I0 ⊢
  obtain ⟨ac0, ac1, ac2, ac3, ac4, ac5⟩ := I0
  have Va0 := Lib.hid (DyV.mk ac0 ac1 ac2 ac3 ac4 ac5)
  refine (HSa _).out.mono ?_
  rintro e w1 ⟨rfl, hb1⟩
  have Va1 : DyV w1 b0 bda sa (.slice aa na pa) ea := (by refine DyV.below ?_ hb1; (repeat (with_reducible first | refine DyV.drew ?_ | refine DyV.drewN ?_ _ | refine DyV.alloc ?_ _)); exact Va0.out)
  obtain ⟨ac0, ac1, ac2, ac3, ac4, ac5⟩ := Va1
  have Va1 := Lib.hid (DyV.mk ac0 ac1 ac2 ac3 ac4 ac5)
  have B1 := below_box (w := w) (by have hszw := (B0).size; repeat (with_reducible first | refine Below.setCell ?_ (by first | omega | (simp <;> omega)) _ | refine Below.alloc ?_ (by first | omega | (simp <;> omega)) _ | refine Below.drew ?_ | refine below_drewN ?_ _ | exact B0)) hb1
  clear hb1
  go_wp2_with fail
  refine (HVa _ (Ga.out.below (by have hszw := (B1).size; repeat (with_reducible first | refine Below.setCell ?_ (by first | omega | (simp <;> omega)) _ | refine Below.alloc ?_ (by first | omega | (simp <;> omega)) _ | refine Below.drew ?_ | refine below_drewN ?_ _ | exact B1))) (hT.below (by have hszw := (B1).size; repeat (with_reducible first | refine Below.setCell ?_ (by first | omega | (simp <;> omega)) _ | refine Below.alloc ?_ (by first | omega | (simp <;> omega)) _ | refine Below.drew ?_ | refine below_drewN ?_ _ | exact B1)))).out.mono ?_
  rintro e w2 ⟨rfl, hb2⟩
  have Va2 : DyV w2 b0 bda sa (.slice aa na pa) ea := (by refine DyV.below ?_ hb2; (repeat (with_reducible first | refine DyV.drew ?_ | refine DyV.drewN ?_ _ | refine DyV.alloc ?_ _)); exact Va1.out)
  obtain ⟨ac0, ac1, ac2, ac3, ac4, ac5⟩ := Va2
  have Va2 := Lib.hid (DyV.mk ac0 ac1 ac2 ac3 ac4 ac5)
  have B2 := below_box (w := w) (by have hszw := (B1).size; repeat (with_reducible first | refine Below.setCell ?_ (by first | omega | (simp <;> omega)) _ | refine Below.alloc ?_ (by first | omega | (simp <;> omega)) _ | refine Below.drew ?_ | refine below_drewN ?_ _ | exact B1)) hb2
  clear hb2
  go_wp2_with fail
  refine (HW _ (hT.below (by have hszw := (B2).size; repeat (with_reducible first | refine Below.setCell ?_ (by first | omega | (simp <;> omega)) _ | refine Below.alloc ?_ (by first | omega | (simp <;> omega)) _ | refine Below.drew ?_ | refine below_drewN ?_ _ | exact B2)))).out.mono ?_
  rintro e w3 ⟨rfl, hb3⟩
  have Va3 : DyV w3 b0 bda sa (.slice aa na pa) ea := (by refine DyV.below ?_ hb3; (repeat (with_reducible first | refine DyV.drew ?_ | refine DyV.drewN ?_ _ | refine DyV.alloc ?_ _)); exact Va2.out)
  obtain ⟨ac0, ac1, ac2, ac3, ac4, ac5⟩ := Va3
  have Va3 := Lib.hid (DyV.mk ac0 ac1 ac2 ac3 ac4 ac5)
  have B3 := below_box (w := w) (by have hszw := (B2).size; repeat (with_reducible first | refine Below.setCell ?_ (by first | omega | (simp <;> omega)) _ | refine Below.alloc ?_ (by first | omega | (simp <;> omega)) _ | refine Below.drew ?_ | refine below_drewN ?_ _ | exact B2)) hb3
  clear hb3
  go_wp2_with fail
  go_ret
  exact ⟨rfl, (by have hszw := (B3).size; repeat (with_reducible first | refine Below.setCell ?_ (by first | omega | (simp <;> omega)) _ | refine Below.alloc ?_ (by first | omega | (simp <;> omega)) _ | refine Below.drew ?_ | refine below_drewN ?_ _ | exact B3))⟩

set_option maxRecDepth 100000 in
set_option maxHeartbeats 12000000 in
theorem scal_zero (w : World) (hT : Tab w) (bda sa : Bool) (aa : Option Addr) (na pa : Nat) (ea : Int) (da : Option (Int × Int)) (Ha : DyIs w bda sa aa na pa ea da) (q : Int) (ma : na ≤ 9223372036854775807) (hsa : slimB na ea = true) (va : dbad da = false) (r rn y c g k ga : Int) (hr : r = placeI q 4000 - 2000) (hr0 : -2000 ≤ r) (hr1 : r ≤ 2000) (hrn : rn = -r) (du df de do1 dx : Option (Int × Int)) (f1 : dscale da r = du) (f2 : dfloor da = y) (f3 : nrm y 0 = df) (f4 : dsub da df = de) (f5 : dcmp de do1 = c) (f6 : dscale du rn = dx) (f7 : dx = da) (f8 : cmpI (dman de) 0 = g) (f9 : dlog da = k) (f10 : nrm 1 0 = do1) (f11 : blen y.natAbs ≤ 2640) (f12 : c < 0) (f13 : ¬ g < 0) (f14 : cmpI (dman da) 0 = ga) (_fa : IsN da) (fz : dnz da = false) (gz : ga = 0) (kz : k = 0) :
    Calls Tryd.prog 8 #[.agg #[.bool bda, .bool sa, .slice aa na pa, .int .i64 ea], .int .i64 q] w fun o w' => o = .returned (.bool true) ∧ Below w.heap.size w w' := by
  have HSa := fun W => Lib.hid (slim_any W bda sa aa na pa ea ma true hsa)
  have HW := fun W ht => Lib.hid (awake_any W ht)
  have Ga := Lib.hid Ha
  have Ndu := Lib.hid (show IsN du from f1 ▸ isN_scale _ _)
  have Ndf := Lib.hid (show IsN df from f3 ▸ isN_nrm _ _)
  have Nde := Lib.hid (show IsN de from f4 ▸ isN_add _ _)
  have Ndo1 := Lib.hid (show IsN do1 from f10 ▸ isN_nrm _ _)
  have Ndx := Lib.hid (show IsN dx from f6 ▸ isN_scale _ _)
  have HVa := fun W h ht => Lib.hid (rvalid_any W bda sa aa na pa ea da h ht)
  rw [va] at HVa
  have nva : (!false) = true := rfl
  rw [nva] at HVa
  have H1 := fun W (h0 : DyIn W bda sa aa na pa ea da) ht => Lib.hid (dscale_any W _ _ _ _ _ _ r _ h0 ht (by omega) (by omega))
  rw [f1] at H1
  have HFl := fun W h ht => Lib.hid (dfloor_any W bda sa aa na pa ea da h ht)
  rw [f2, va, show (!false) = true from rfl] at HFl
  have HFb := fun W b c (h : Mag W b (nl y.natAbs) c y.natAbs) ht => Lib.hid (fromBig_any W (decide (y < 0)) b _ c _ h (by have := nl_le_blen y.natAbs; omega) ht (by omega) (tz_lim (by omega)))
  rw [sgn_self, f3] at HFb
  have H2 := fun W (h0 : DyIn W bda sa aa na pa ea da) b1 q1 (h1 : Mag W b1 (nl (dman df).natAbs) q1 (dman df).natAbs) ht => Lib.hid (dsub_any W _ _ _ _ _ _ _ _ _ _ _ _ _ _ h0 (dyin_of Ndf.out h1) ht )
  rw [f4] at H2
  have HOn := fun W ht => Lib.hid (dfromInt_any W 1 ht (by omega) (by omega))
  rw [f10] at HOn
  have H3 := fun W b0 q0 (h0 : Mag W b0 (nl (dman de).natAbs) q0 (dman de).natAbs) b1 q1 (h1 : Mag W b1 (nl (dman do1).natAbs) q1 (dman do1).natAbs) ht => Lib.hid (dcmp_any W _ _ _ _ _ _ _ _ _ _ _ _ _ _ (dyin_of Nde.out h0) (dyin_of Ndo1.out h1) ht )
  rw [f5] at H3
  have H4 := fun W b0 q0 (h0 : Mag W b0 (nl (dman du).natAbs) q0 (dman du).natAbs) ht => Lib.hid (dscale_any W _ _ _ _ _ _ rn _ (dyin_of Ndu.out h0) ht (by omega) (by omega))
  rw [f6] at H4
  have H5 := fun W b0 q0 (h0 : Mag W b0 (nl (dman dx).natAbs) q0 (dman dx).natAbs) (h1 : DyIn W bda sa aa na pa ea da) ht => Lib.hid (same_any W _ _ _ _ _ _ _ _ _ _ _ _ _ _ (dyin_of Ndx.out h0) h1 ht true (by rw [f7]; simp))
  have H6 := fun W b0 q0 (h0 : Mag W b0 (nl (dman de).natAbs) q0 (dman de).natAbs) ht => Lib.hid (dsign_any W _ _ _ _ _ _ _ (dyin_of Nde.out h0) ht )
  rw [f8] at H6
  have H7 := fun W (h0 : DyIn W bda sa aa na pa ea da) ht => Lib.hid (dlog_any W _ _ _ _ _ _ _ h0 ht )
  rw [f9, fz] at H7
  have H8 := fun W (h0 : DyIn W bda sa aa na pa ea da) ht => Lib.hid (dsign_any W _ _ _ _ _ _ _ h0 ht )
  rw [f14] at H8
  have HP := fun W => Lib.hid (place_any W q 4000 (by omega) (by omega))
  have hp0 : IntKind.i64.wrap (placeI q 4000 - 2000) = r := by rw [← hr, IntKind.wrap_i64]; omega
  generalize placeI q 4000 = pq at HP hp0
  have hn0 : -r = rn := hrn.symm
  have hn1 : IntKind.i64.wrap (-r) = rn := by rw [hn0, IntKind.wrap_i64]; omega
  have hn2 : IntKind.i64.wrap rn = rn := by rw [IntKind.wrap_i64]; omega
  have hn3 : -2000 ≤ rn := by omega
  have hn4 : rn ≤ 2000 := by omega
  have hc1 : decide (0 ≤ c) = false := by simp; omega
  have hc2 : decide (g < 0) = false := by simpa using f13
  have hga : (ga == 0) = true := by rw [gz]; rfl
  have hkk : (k == 0) = true := by rw [kz]; rfl
  clear hsa va Ha hr hrn hr0 hr1 f1 f2 f3 f4 f5 f6 f7 f8 f9 f10 f11 f12 f13 f14 _fa fz gz kz
  go_enter Tryd.func8, Tryd.ntmps8
  go_wp2_with fail
  have I0 := DyV.made w 27 bda sa (.slice aa na pa) ea
  have B0 : Below w.heap.size w (w.alloc (.cells #[.bool bda, .bool sa, .slice aa na pa, .int .i64 ea] 27)) := (by repeat (with_reducible first | refine Below.setCell ?_ (by simp <;> omega) _ | refine Below.alloc ?_ (by simp <;> omega) _ | refine Below.drew ?_ | refine below_drewN ?_ _ | exact Below.refl _ _))
  generalize (w.alloc (.cells #[.bool bda, .bool sa, .slice aa na pa, .int .i64 ea] 27)) = w0 at I0 B0 ⊢
  generalize hb0 : w.heap.size = b0 at I0 ⊢
  obtain ⟨ac0, ac1, ac2, ac3, ac4, ac5⟩ := I0
  have Va0 := Lib.hid (DyV.mk ac0 ac1 ac2 ac3 ac4 ac5)
  refine (HSa _).out.mono ?_
  rintro e w1 ⟨rfl, hb1⟩
  have Va1 : DyV w1 b0 bda sa (.slice aa na pa) ea := (by refine DyV.below ?_ hb1; (repeat (with_reducible first | refine DyV.drew ?_ | refine DyV.drewN ?_ _ | refine DyV.alloc ?_ _)); exact Va0.out)
  obtain ⟨ac0, ac1, ac2, ac3, ac4, ac5⟩ := Va1
  have Va1 := Lib.hid (DyV.mk ac0 ac1 ac2 ac3 ac4 ac5)
  have B1 := below_box (w := w) (by have hszw := (B0).size; repeat (with_reducible first | refine Below.setCell ?_ (by first | omega | (simp <;> omega)) _ | refine Below.alloc ?_ (by first | omega | (simp <;> omega)) _ | refine Below.drew ?_ | refine below_drewN ?_ _ | exact B0)) hb1
  clear hb1
  go_wp2_with fail
  refine (HVa _ (Ga.out.below (by have hszw := (B1).size; repeat (with_reducible first | refine Below.setCell ?_ (by first | omega | (simp <;> omega)) _ | refine Below.alloc ?_ (by first | omega | (simp <;> omega)) _ | refine Below.drew ?_ | refine below_drewN ?_ _ | exact B1))) (hT.below (by have hszw := (B1).size; repeat (with_reducible first | refine Below.setCell ?_ (by first | omega | (simp <;> omega)) _ | refine Below.alloc ?_ (by first | omega | (simp <;> omega)) _ | refine Below.drew ?_ | refine below_drewN ?_ _ | exact B1)))).out.mono ?_
  rintro e w2 ⟨rfl, hb2⟩
  have Va2 : DyV w2 b0 bda sa (.slice aa na pa) ea := (by refine DyV.below ?_ hb2; (repeat (with_reducible first | refine DyV.drew ?_ | refine DyV.drewN ?_ _ | refine DyV.alloc ?_ _)); exact Va1.out)
  obtain ⟨ac0, ac1, ac2, ac3, ac4, ac5⟩ := Va2
  have Va2 := Lib.hid (DyV.mk ac0 ac1 ac2 ac3 ac4 ac5)
  have B2 := below_box (w := w) (by have hszw := (B1).size; repeat (with_reducible first | refine Below.setCell ?_ (by first | omega | (simp <;> omega)) _ | refine Below.alloc ?_ (by first | omega | (simp <;> omega)) _ | refine Below.drew ?_ | refine below_drewN ?_ _ | exact B1)) hb2
  clear hb2
  go_wp2_with fail
  refine (HP _).out.mono ?_
  rintro e w' ⟨rfl, rfl⟩
  go_wp2_with fail
  refine (H1 _ (Ga.out.1.below (by have hszw := (B2).size; repeat (with_reducible first | refine Below.setCell ?_ (by first | omega | (simp <;> omega)) _ | refine Below.alloc ?_ (by first | omega | (simp <;> omega)) _ | refine Below.drew ?_ | refine below_drewN ?_ _ | exact B2))) (hT.below (by have hszw := (B2).size; repeat (with_reducible first | refine Below.setCell ?_ (by first | omega | (simp <;> omega)) _ | refine Below.alloc ?_ (by first | omega | (simp <;> omega)) _ | refine Below.drew ?_ | refine below_drewN ?_ _ | exact B2)))).out.mono ?_
  rintro e w3 ⟨au, cu, rfl, Mu3, hb3, hf3⟩
  have Va3 : DyV w3 b0 bda sa (.slice aa na pa) ea := (by refine DyV.below ?_ hb3; (repeat (with_reducible first | refine DyV.drew ?_ | refine DyV.drewN ?_ _ | refine DyV.alloc ?_ _)); exact Va2.out)
  obtain ⟨ac0, ac1, ac2, ac3, ac4, ac5⟩ := Va3
  have Va3 := Lib.hid (DyV.mk ac0 ac1 ac2 ac3 ac4 ac5)
  have B3 := below_box (w := w) (by have hszw := (B2).size; repeat (with_reducible first | refine Below.setCell ?_ (by first | omega | (simp <;> omega)) _ | refine Below.alloc ?_ (by first | omega | (simp <;> omega)) _ | refine Below.drew ?_ | refine below_drewN ?_ _ | exact B2)) hb3
  clear hb3
  clear hf3
  go_wp2_with fail
  have Vu4 := DyV.made w3 27 (dbad du) (decide (dman du < 0)) (.slice au (nl (dman du).natAbs) cu) (dexp du)
  have Va4 := DyV.alloc Va3.out (.cells #[.bool (dbad du), .bool (decide (dman du < 0)), (.slice au (nl (dman du).natAbs) cu), .int .i64 (dexp du)] 27)
  have Mu4 := Mu3.alloc (.cells #[.bool (dbad du), .bool (decide (dman du < 0)), (.slice au (nl (dman du).natAbs) cu), .int .i64 (dexp du)] 27)
  have B4 : Below w.heap.size w (w3.alloc (.cells #[.bool (dbad du), .bool (decide (dman du < 0)), (.slice au (nl (dman du).natAbs) cu), .int .i64 (dexp du)] 27)) := B3.alloc B3.size _
  generalize (w3.alloc (.cells #[.bool (dbad du), .bool (decide (dman du < 0)), (.slice au (nl (dman du).natAbs) cu), .int .i64 (dexp du)] 27)) = w4 at Vu4 Va4 Mu4 B4 ⊢
  generalize w3.heap.size = zu at Vu4 ⊢
  obtain ⟨ac0, ac1, ac2, ac3, ac4, ac5⟩ := Va4
  have Va4 := Lib.hid (DyV.mk ac0 ac1 ac2 ac3 ac4 ac5)
  obtain ⟨uc0, uc1, uc2, uc3, uc4, uc5⟩ := Vu4
  have Vu4 := Lib.hid (DyV.mk uc0 uc1 uc2 uc3 uc4 uc5)
  refine (HFl _ (Ga.out.1.below (by have hszw := (B4).size; repeat (with_reducible first | refine Below.setCell ?_ (by first | omega | (simp <;> omega)) _ | refine Below.alloc ?_ (by first | omega | (simp <;> omega)) _ | refine Below.drew ?_ | refine below_drewN ?_ _ | exact B4))) (hT.below (by have hszw := (B4).size; repeat (with_reducible first | refine Below.setCell ?_ (by first | omega | (simp <;> omega)) _ | refine Below.alloc ?_ (by first | omega | (simp <;> omega)) _ | refine Below.drew ?_ | refine below_drewN ?_ _ | exact B4)))).out.mono ?_
  rintro e w5 ⟨af, cf, rfl, Mf5, hb5, hf5⟩
  have Va5 : DyV w5 b0 bda sa (.slice aa na pa) ea := (by refine DyV.below ?_ hb5; (repeat (with_reducible first | refine DyV.drew ?_ | refine DyV.drewN ?_ _ | refine DyV.alloc ?_ _)); exact Va4.out)
  obtain ⟨ac0, ac1, ac2, ac3, ac4, ac5⟩ := Va5
  have Va5 := Lib.hid (DyV.mk ac0 ac1 ac2 ac3 ac4 ac5)
  have Vu5 : DyV w5 zu (dbad du) (decide (dman du < 0)) (.slice au (nl (dman du).natAbs) cu) (dexp du) := (by refine DyV.below ?_ hb5; (repeat (with_reducible first | refine DyV.drew ?_ | refine DyV.drewN ?_ _ | refine DyV.alloc ?_ _)); exact Vu4.out)
  obtain ⟨uc0, uc1, uc2, uc3, uc4, uc5⟩ := Vu5
  have Vu5 := Lib.hid (DyV.mk uc0 uc1 uc2 uc3 uc4 uc5)
  have Mu5 : Mag w5 au (nl (dman du).natAbs) cu (dman du).natAbs := Mag.below (by repeat (with_reducible first | refine Mag.set ?_ (fun h => by have := Mu4 h; omega) _ _ | refine Mag.drew ?_ | refine Mag.alloc ?_ _ | refine Mag.drewN ?_ _ | refine Mag.below ?_ (Below.drew (Below.refl _ _)) | refine Mag.below ?_ ((Below.refl _ _).alloc (Nat.le_refl _) _) | exact Mu4)) hb5
  have B5 := below_box (w := w) (by have hszw := (B4).size; repeat (with_reducible first | refine Below.setCell ?_ (by first | omega | (simp <;> omega)) _ | refine Below.alloc ?_ (by first | omega | (simp <;> omega)) _ | refine Below.drew ?_ | refine below_drewN ?_ _ | exact B4)) hb5
  clear hb5 hf5
  go_wp2_with fail
  have Vf6 := BgV.made w5 25 (decide (y < 0)) (.slice af (nl y.natAbs) cf)
  have Va6 := DyV.alloc Va5.out (.cells #[.bool (decide (y < 0)), (.slice af (nl y.natAbs) cf)] 25)
  have Vu6 := DyV.alloc Vu5.out (.cells #[.bool (decide (y < 0)), (.slice af (nl y.natAbs) cf)] 25)
  have Mu6 := Mu5.alloc (.cells #[.bool (decide (y < 0)), (.slice af (nl y.natAbs) cf)] 25)
  have Mf6 := Mf5.alloc (.cells #[.bool (decide (y < 0)), (.slice af (nl y.natAbs) cf)] 25)
  have B6 : Below w.heap.size w (w5.alloc (.cells #[.bool (decide (y < 0)), (.slice af (nl y.natAbs) cf)] 25)) := B5.alloc B5.size _
  generalize (w5.alloc (.cells #[.bool (decide (y < 0)), (.slice af (nl y.natAbs) cf)] 25)) = w6 at Vf6 Va6 Vu6 Mu6 Mf6 B6 ⊢
  generalize w5.heap.size = zf at Vf6 ⊢
  obtain ⟨ac0, ac1, ac2, ac3, ac4, ac5⟩ := Va6
  have Va6 := Lib.hid (DyV.mk ac0 ac1 ac2 ac3 ac4 ac5)
  obtain ⟨uc0, uc1, uc2, uc3, uc4, uc5⟩ := Vu6
  have Vu6 := Lib.hid (DyV.mk uc0 uc1 uc2 uc3 uc4 uc5)
  obtain ⟨fc0, fc1, fc2, fc3⟩ := Vf6
  have Vf6 := Lib.hid (BgV.mk fc0 fc1 fc2 fc3)
  go_cut [8] (fun pte wx => ∃ ze ae ce, pte = .pointer (some ⟨ze, 0, none⟩) ∧ Below w6.heap.size w6 wx ∧ DyV wx ze (dbad de) (decide (dman de < 0)) (.slice ae (nl (dman de).natAbs) ce) (dexp de) ∧ Mag wx ae (nl (dman de).natAbs) ce (dman de).natAbs)
  case first =>
    as_aux_lemma =>
      have hBz6 : Below w6.heap.size w6 w6 := Below.refl _ _
      go_region_held3 (fun w' => w'.cell? ⟨b0, 0, none⟩ = some (.bool bda) ∧ w'.cell? ⟨b0, 1, none⟩ = some (.bool sa) ∧ w'.cell? ⟨b0, 2, none⟩ = some ((.slice aa na pa)) ∧ w'.cell? ⟨b0, 3, none⟩ = some (.int .i64 ea) ∧ w'.cell? ⟨zf, 0, none⟩ = some (.bool (decide (y < 0))) ∧ w'.cell? ⟨zf, 1, none⟩ = some ((.slice af (nl y.natAbs) cf))) (first | (go_keep; done) | (go_simp; done))
        (first
          | (go_at_call 30; have xx := B7; refine (H2 _ (Ga.out.1.below (by have hszw := (B7).size; repeat (with_reducible first | refine Below.setCell ?_ (by first | omega | (simp <;> omega)) _ | refine Below.alloc ?_ (by first | omega | (simp <;> omega)) _ | refine Below.drew ?_ | refine below_drewN ?_ _ | exact B7))) av cv (by repeat (with_reducible first | refine Mag.set ?_ (fun h => by have := Mv7 h; omega) _ _ | refine Mag.drew ?_ | refine Mag.alloc ?_ _ | refine Mag.drewN ?_ _ | refine Mag.below ?_ (Below.drew (Below.refl _ _)) | refine Mag.below ?_ ((Below.refl _ _).alloc (Nat.le_refl _) _) | exact Mv7)) (hT.below (by have hszw := (B7).size; repeat (with_reducible first | refine Below.setCell ?_ (by first | omega | (simp <;> omega)) _ | refine Below.alloc ?_ (by first | omega | (simp <;> omega)) _ | refine Below.drew ?_ | refine below_drewN ?_ _ | exact B7)))).out.mono ?_; rintro e w8 ⟨ae, ce, rfl, Me8, hb8, hf8⟩; have hs8 := hb8.size; (try simp at hs8 hf8); have o8 := Me8.old; have Va8 : DyV w8 b0 bda sa (.slice aa na pa) ea := (by refine DyV.below ?_ hb8; (repeat (with_reducible first | refine DyV.drew ?_ | refine DyV.drewN ?_ _ | refine DyV.alloc ?_ _)); exact Va7.out); obtain ⟨ac0, ac1, ac2, ac3, ac4, ac5⟩ := Va8; have Va8 := Lib.hid (DyV.mk ac0 ac1 ac2 ac3 ac4 ac5); have Vu8 : DyV w8 zu (dbad du) (decide (dman du < 0)) (.slice au (nl (dman du).natAbs) cu) (dexp du) := (by refine DyV.below ?_ hb8; (repeat (with_reducible first | refine DyV.drew ?_ | refine DyV.drewN ?_ _ | refine DyV.alloc ?_ _)); exact Vu7.out); obtain ⟨uc0, uc1, uc2, uc3, uc4, uc5⟩ := Vu8; have Vu8 := Lib.hid (DyV.mk uc0 uc1 uc2 uc3 uc4 uc5); have Vf8 : BgV w8 zf (decide (y < 0)) (.slice af (nl y.natAbs) cf) := (by refine BgV.below ?_ hb8; (repeat (with_reducible first | refine BgV.drew ?_ | refine BgV.drewN ?_ _ | refine BgV.alloc ?_ _)); exact Vf7.out); obtain ⟨fc0, fc1, fc2, fc3⟩ := Vf8; have Vf8 := Lib.hid (BgV.mk fc0 fc1 fc2 fc3); have Mv8 : Mag w8 av (nl (dman df).natAbs) cv (dman df).natAbs := Mag.below (by repeat (with_reducible first | refine Mag.set ?_ (fun h => by have := Mv7 h; omega) _ _ | refine Mag.drew ?_ | refine Mag.alloc ?_ _ | refine Mag.drewN ?_ _ | refine Mag.below ?_ (Below.drew (Below.refl _ _)) | refine Mag.below ?_ ((Below.refl _ _).alloc (Nat.le_refl _) _) | exact Mv7)) hb8; have Mu8 : Mag w8 au (nl (dman du).natAbs) cu (dman du).natAbs := Mag.below (by repeat (with_reducible first | refine Mag.set ?_ (fun h => by have := Mu7 h; omega) _ _ | refine Mag.drew ?_ | refine Mag.alloc ?_ _ | refine Mag.drewN ?_ _ | refine Mag.below ?_ (Below.drew (Below.refl _ _)) | refine Mag.below ?_ ((Below.refl _ _).alloc (Nat.le_refl _) _) | exact Mu7)) hb8; have Mf8 : Mag w8 af (nl y.natAbs) cf y.natAbs := Mag.below (by repeat (with_reducible first | refine Mag.set ?_ (fun h => by have := Mf7 h; omega) _ _ | refine Mag.drew ?_ | refine Mag.alloc ?_ _ | refine Mag.drewN ?_ _ | refine Mag.below ?_ (Below.drew (Below.refl _ _)) | refine Mag.below ?_ ((Below.refl _ _).alloc (Nat.le_refl _) _) | exact Mf7)) hb8; have B8 := below_box (w := w) (by have hszw := (B7).size; repeat (with_reducible first | refine Below.setCell ?_ (by first | omega | (simp <;> omega)) _ | refine Below.alloc ?_ (by first | omega | (simp <;> omega)) _ | refine Below.drew ?_ | refine below_drewN ?_ _ | exact B7)) hb8; have hBz8 : Below w6.heap.size w6 w8 := Below.trans (by have hszw := (hBz7).size; repeat (with_reducible first | refine Below.setCell ?_ (by first | omega | (simp <;> omega)) _ | refine Below.alloc ?_ (by first | omega | (simp <;> omega)) _ | refine Below.drew ?_ | refine below_drewN ?_ _ | exact hBz7)) (hb8.mono (by first | exact Nat.le_refl _ | (simp; done) | omega | (simp <;> omega))); (try (have F0x0 : DyV w8 (w6.heap.size) false false (.slice none 0 0) 0 := (by first | (refine DyV.below ?_ hb8; (repeat (first | exact F0x0.out | (refine DyV.made' _ _ _ _ _ _ ?_; first | rfl | (simp; done)) | with_reducible refine DyV.drew ?_ | with_reducible refine DyV.alloc ?_ _)); done) | fail); obtain ⟨F0x0c0, F0x0c1, F0x0c2, F0x0c3, F0x0c4, F0x0c5⟩ := F0x0; have F0x0 := Lib.hid (DyV.mk F0x0c0 F0x0c1 F0x0c2 F0x0c3 F0x0c4 F0x0c5))); (try (have F1x0 : DyV w8 (w7.heap.size) false false (.slice none 0 0) 0 := (by first | (refine DyV.below ?_ hb8; (repeat (first | exact F1x0.out | (refine DyV.made' _ _ _ _ _ _ ?_; first | rfl | (simp; done)) | with_reducible refine DyV.drew ?_ | with_reducible refine DyV.alloc ?_ _)); done) | fail); obtain ⟨F1x0c0, F1x0c1, F1x0c2, F1x0c3, F1x0c4, F1x0c5⟩ := F1x0; have F1x0 := Lib.hid (DyV.mk F1x0c0 F1x0c1 F1x0c2 F1x0c3 F1x0c4 F1x0c5))))
          | (go_at_call 35; refine (HFb _ af cf (by repeat (with_reducible first | refine Mag.set ?_ (fun h => by have := Mf6 h; omega) _ _ | refine Mag.drew ?_ | refine Mag.alloc ?_ _ | refine Mag.drewN ?_ _ | refine Mag.below ?_ (Below.drew (Below.refl _ _)) | refine Mag.below ?_ ((Below.refl _ _).alloc (Nat.le_refl _) _) | exact Mf6)) (hT.below (by have hszw := (B6).size; repeat (with_reducible first | refine Below.setCell ?_ (by first | omega | (simp <;> omega)) _ | refine Below.alloc ?_ (by first | omega | (simp <;> omega)) _ | refine Below.drew ?_ | refine below_drewN ?_ _ | exact B6)))).out.mono ?_; rintro e w7 ⟨av, cv, rfl, Mv7, hb7, hf7⟩; have hs7 := hb7.size; (try simp at hs7 hf7); have o7 := Mv7.old; have Va7 : DyV w7 b0 bda sa (.slice aa na pa) ea := (by refine DyV.below ?_ hb7; (repeat (with_reducible first | refine DyV.drew ?_ | refine DyV.drewN ?_ _ | refine DyV.alloc ?_ _)); exact Va6.out); obtain ⟨ac0, ac1, ac2, ac3, ac4, ac5⟩ := Va7; have Va7 := Lib.hid (DyV.mk ac0 ac1 ac2 ac3 ac4 ac5); have Vu7 : DyV w7 zu (dbad du) (decide (dman du < 0)) (.slice au (nl (dman du).natAbs) cu) (dexp du) := (by refine DyV.below ?_ hb7; (repeat (with_reducible first | refine DyV.drew ?_ | refine DyV.drewN ?_ _ | refine DyV.alloc ?_ _)); exact Vu6.out); obtain ⟨uc0, uc1, uc2, uc3, uc4, uc5⟩ := Vu7; have Vu7 := Lib.hid (DyV.mk uc0 uc1 uc2 uc3 uc4 uc5); have Vf7 : BgV w7 zf (decide (y < 0)) (.slice af (nl y.natAbs) cf) := (by refine BgV.below ?_ hb7; (repeat (with_reducible first | refine BgV.drew ?_ | refine BgV.drewN ?_ _ | refine BgV.alloc ?_ _)); exact Vf6.out); obtain ⟨fc0, fc1, fc2, fc3⟩ := Vf7; have Vf7 := Lib.hid (BgV.mk fc0 fc1 fc2 fc3); have Mu7 : Mag w7 au (nl (dman du).natAbs) cu (dman du).natAbs := Mag.below (by repeat (with_reducible first | refine Mag.set ?_ (fun h => by have := Mu6 h; omega) _ _ | refine Mag.drew ?_ | refine Mag.alloc ?_ _ | refine Mag.drewN ?_ _ | refine Mag.below ?_ (Below.drew (Below.refl _ _)) | refine Mag.below ?_ ((Below.refl _ _).alloc (Nat.le_refl _) _) | exact Mu6)) hb7; have Mf7 : Mag w7 af (nl y.natAbs) cf y.natAbs := Mag.below (by repeat (with_reducible first | refine Mag.set ?_ (fun h => by have := Mf6 h; omega) _ _ | refine Mag.drew ?_ | refine Mag.alloc ?_ _ | refine Mag.drewN ?_ _ | refine Mag.below ?_ (Below.drew (Below.refl _ _)) | refine Mag.below ?_ ((Below.refl _ _).alloc (Nat.le_refl _) _) | exact Mf6)) hb7; have B7 := below_box (w := w) (by have hszw := (B6).size; repeat (with_reducible first | refine Below.setCell ?_ (by first | omega | (simp <;> omega)) _ | refine Below.alloc ?_ (by first | omega | (simp <;> omega)) _ | refine Below.drew ?_ | refine below_drewN ?_ _ | exact B6)) hb7; have hBz7 : Below w6.heap.size w6 w7 := Below.trans (by have hszw := (hBz6).size; repeat (with_reducible first | refine Below.setCell ?_ (by first | omega | (simp <;> omega)) _ | refine Below.alloc ?_ (by first | omega | (simp <;> omega)) _ | refine Below.drew ?_ | refine below_drewN ?_ _ | exact hBz6)) (hb7.mono (by first | exact Nat.le_refl _ | (simp; done) | omega | (simp <;> omega))); (try (have F0x0 : DyV w7 (w6.heap.size) false false (.slice none 0 0) 0 := (by first | (refine DyV.below ?_ hb7; (repeat (first | exact F0x0.out | (refine DyV.made' _ _ _ _ _ _ ?_; first | rfl | (simp; done)) | with_reducible refine DyV.drew ?_ | with_reducible refine DyV.alloc ?_ _)); done) | fail); obtain ⟨F0x0c0, F0x0c1, F0x0c2, F0x0c3, F0x0c4, F0x0c5⟩ := F0x0; have F0x0 := Lib.hid (DyV.mk F0x0c0 F0x0c1 F0x0c2 F0x0c3 F0x0c4 F0x0c5))))
          | fail)
      all_goals as_aux_lemma => (
        (try have ne0x1 : ¬ w6.heap.size = w7.heap.size := by omega)
        (try have me0x1 : ¬ w7.heap.size = w6.heap.size := by omega)
        (try have ne0x2 : ¬ w6.heap.size = w8.heap.size := by omega)
        (try have me0x2 : ¬ w8.heap.size = w6.heap.size := by omega)
        (try have ne1x2 : ¬ w7.heap.size = w8.heap.size := by omega)
        (try have me1x2 : ¬ w8.heap.size = w7.heap.size := by omega)
        go_wp2_with fail
        go_meet
        refine ⟨_, ae, ce, rfl, ?_, ⟨?_, ?_, ?_, ?_, ?_, ?_⟩, ?_⟩
        · exact (by have hszw := (hBz8).size; repeat (with_reducible first | refine Below.setCell ?_ (by first | omega | (simp <;> omega)) _ | refine Below.alloc ?_ (by first | omega | (simp <;> omega)) _ | refine Below.drew ?_ | refine below_drewN ?_ _ | exact hBz8))
        · go_simp
        · go_simp
        · go_simp
        · go_simp
        · intro i; go_simp
        · first | (simp; done) | omega | (simp <;> omega)
        · repeat (with_reducible first | refine Mag.set ?_ (fun h => by have := hf8 h; have := o8 h; first | omega | (simp; omega)) _ _ | refine Mag.drew ?_ | refine Mag.alloc ?_ _ | exact Me8))
  case rest =>
  obtain ⟨w7, hww⟩ : ∃ w7, w7 = wc := ⟨_, rfl⟩
  subst hww
  obtain ⟨ze, ae, ce, rfl, hbz, Ve7, Me7⟩ := hcut
  have Va7 : DyV w7 b0 bda sa (.slice aa na pa) ea := DyV.below Va6.out hbz
  obtain ⟨ac0, ac1, ac2, ac3, ac4, ac5⟩ := Va7
  have Va7 := Lib.hid (DyV.mk ac0 ac1 ac2 ac3 ac4 ac5)
  have Vu7 : DyV w7 zu (dbad du) (decide (dman du < 0)) (.slice au (nl (dman du).natAbs) cu) (dexp du) := DyV.below Vu6.out hbz
  obtain ⟨uc0, uc1, uc2, uc3, uc4, uc5⟩ := Vu7
  have Vu7 := Lib.hid (DyV.mk uc0 uc1 uc2 uc3 uc4 uc5)
  have Vf7 : BgV w7 zf (decide (y < 0)) (.slice af (nl y.natAbs) cf) := BgV.below Vf6.out hbz
  obtain ⟨fc0, fc1, fc2, fc3⟩ := Vf7
  have Vf7 := Lib.hid (BgV.mk fc0 fc1 fc2 fc3)
  obtain ⟨ec0, ec1, ec2, ec3, ec4, ec5⟩ := Ve7
  have Ve7 := Lib.hid (DyV.mk ec0 ec1 ec2 ec3 ec4 ec5)
  have Mu7 : Mag w7 au (nl (dman du).natAbs) cu (dman du).natAbs := Mu6.below hbz
  have Mf7 : Mag w7 af (nl y.natAbs) cf y.natAbs := Mf6.below hbz
  have B7 := below_box (w := w) B6 hbz
  clear hbz
  go_wp2_with fail
  refine (HOn _ (hT.below (by have hszw := (B7).size; repeat (with_reducible first | refine Below.setCell ?_ (by first | omega | (simp <;> omega)) _ | refine Below.alloc ?_ (by first | omega | (simp <;> omega)) _ | refine Below.drew ?_ | refine below_drewN ?_ _ | exact B7)))).out.mono ?_
  rintro e w8 ⟨ai, ci, rfl, Mi8, hb8, hf8⟩
  have Va8 : DyV w8 b0 bda sa (.slice aa na pa) ea := (by refine DyV.below ?_ hb8; (repeat (with_reducible first | refine DyV.drew ?_ | refine DyV.drewN ?_ _ | refine DyV.alloc ?_ _)); exact Va7.out)
  obtain ⟨ac0, ac1, ac2, ac3, ac4, ac5⟩ := Va8
  have Va8 := Lib.hid (DyV.mk ac0 ac1 ac2 ac3 ac4 ac5)
  have Vu8 : DyV w8 zu (dbad du) (decide (dman du < 0)) (.slice au (nl (dman du).natAbs) cu) (dexp du) := (by refine DyV.below ?_ hb8; (repeat (with_reducible first | refine DyV.drew ?_ | refine DyV.drewN ?_ _ | refine DyV.alloc ?_ _)); exact Vu7.out)
  obtain ⟨uc0, uc1, uc2, uc3, uc4, uc5⟩ := Vu8
  have Vu8 := Lib.hid (DyV.mk uc0 uc1 uc2 uc3 uc4 uc5)
  have Vf8 : BgV w8 zf (decide (y < 0)) (.slice af (nl y.natAbs) cf) := (by refine BgV.below ?_ hb8; (repeat (with_reducible first | refine BgV.drew ?_ | refine BgV.drewN ?_ _ | refine BgV.alloc ?_ _)); exact Vf7.out)
  obtain ⟨fc0, fc1, fc2, fc3⟩ := Vf8
  have Vf8 := Lib.hid (BgV.mk fc0 fc1 fc2 fc3)
  have Ve8 : DyV w8 ze (dbad de) (decide (dman de < 0)) (.slice ae (nl (dman de).natAbs) ce) (dexp de) := (by refine DyV.below ?_ hb8; (repeat (with_reducible first | refine DyV.drew ?_ | refine DyV.drewN ?_ _ | refine DyV.alloc ?_ _)); exact Ve7.out)
  obtain ⟨ec0, ec1, ec2, ec3, ec4, ec5⟩ := Ve8
  have Ve8 := Lib.hid (DyV.mk ec0 ec1 ec2 ec3 ec4 ec5)
  have Mu8 : Mag w8 au (nl (dman du).natAbs) cu (dman du).natAbs := Mag.below (by repeat (with_reducible first | refine Mag.set ?_ (fun h => by have := Mu7 h; omega) _ _ | refine Mag.drew ?_ | refine Mag.alloc ?_ _ | refine Mag.drewN ?_ _ | refine Mag.below ?_ (Below.drew (Below.refl _ _)) | refine Mag.below ?_ ((Below.refl _ _).alloc (Nat.le_refl _) _) | exact Mu7)) hb8
  have Mf8 : Mag w8 af (nl y.natAbs) cf y.natAbs := Mag.below (by repeat (with_reducible first | refine Mag.set ?_ (fun h => by have := Mf7 h; omega) _ _ | refine Mag.drew ?_ | refine Mag.alloc ?_ _ | refine Mag.drewN ?_ _ | refine Mag.below ?_ (Below.drew (Below.refl _ _)) | refine Mag.below ?_ ((Below.refl _ _).alloc (Nat.le_refl _) _) | exact Mf7)) hb8
  have Me8 : Mag w8 ae (nl (dman de).natAbs) ce (dman de).natAbs := Mag.below (by repeat (with_reducible first | refine Mag.set ?_ (fun h => by have := Me7 h; omega) _ _ | refine Mag.drew ?_ | refine Mag.alloc ?_ _ | refine Mag.drewN ?_ _ | refine Mag.below ?_ (Below.drew (Below.refl _ _)) | refine Mag.below ?_ ((Below.refl _ _).alloc (Nat.le_refl _) _) | exact Me7)) hb8
  have B8 := below_box (w := w) (by have hszw := (B7).size; repeat (with_reducible first | refine Below.setCell ?_ (by first | omega | (simp <;> omega)) _ | refine Below.alloc ?_ (by first | omega | (simp <;> omega)) _ | refine Below.drew ?_ | refine below_drewN ?_ _ | exact B7)) hb8
  clear hb8
  clear hf8
  go_wp2_with fail
  have Vi9 := DyV.made w8 27 (dbad do1) (decide (dman do1 < 0)) (.slice ai (nl (dman do1).natAbs) ci) (dexp do1)
  have Va9 := DyV.alloc Va8.out (.cells #[.bool (dbad do1), .bool (decide (dman do1 < 0)), (.slice ai (nl (dman do1).natAbs) ci), .int .i64 (dexp do1)] 27)
  have Vu9 := DyV.alloc Vu8.out (.cells #[.bool (dbad do1), .bool (decide (dman do1 < 0)), (.slice ai (nl (dman do1).natAbs) ci), .int .i64 (dexp do1)] 27)
  have Vf9 := BgV.alloc Vf8.out (.cells #[.bool (dbad do1), .bool (decide (dman do1 < 0)), (.slice ai (nl (dman do1).natAbs) ci), .int .i64 (dexp do1)] 27)
  have Ve9 := DyV.alloc Ve8.out (.cells #[.bool (dbad do1), .bool (decide (dman do1 < 0)), (.slice ai (nl (dman do1).natAbs) ci), .int .i64 (dexp do1)] 27)
  have Mu9 := Mu8.alloc (.cells #[.bool (dbad do1), .bool (decide (dman do1 < 0)), (.slice ai (nl (dman do1).natAbs) ci), .int .i64 (dexp do1)] 27)
  have Mf9 := Mf8.alloc (.cells #[.bool (dbad do1), .bool (decide (dman do1 < 0)), (.slice ai (nl (dman do1).natAbs) ci), .int .i64 (dexp do1)] 27)
  have Me9 := Me8.alloc (.cells #[.bool (dbad do1), .bool (decide (dman do1 < 0)), (.slice ai (nl (dman do1).natAbs) ci), .int .i64 (dexp do1)] 27)
  have Mi9 := Mi8.alloc (.cells #[.bool (dbad do1), .bool (decide (dman do1 < 0)), (.slice ai (nl (dman do1).natAbs) ci), .int .i64 (dexp do1)] 27)
  have B9 : Below w.heap.size w (w8.alloc (.cells #[.bool (dbad do1), .bool (decide (dman do1 < 0)), (.slice ai (nl (dman do1).natAbs) ci), .int .i64 (dexp do1)] 27)) := B8.alloc B8.size _
  generalize (w8.alloc (.cells #[.bool (dbad do1), .bool (decide (dman do1 < 0)), (.slice ai (nl (dman do1).natAbs) ci), .int .i64 (dexp do1)] 27)) = w9 at Vi9 Va9 Vu9 Vf9 Ve9 Mu9 Mf9 Me9 Mi9 B9 ⊢
  generalize w8.heap.size = zi at Vi9 ⊢
  obtain ⟨ac0, ac1, ac2, ac3, ac4, ac5⟩ := Va9
  have Va9 := Lib.hid (DyV.mk ac0 ac1 ac2 ac3 ac4 ac5)
  obtain ⟨uc0, uc1, uc2, uc3, uc4, uc5⟩ := Vu9
  have Vu9 := Lib.hid (DyV.mk uc0 uc1 uc2 uc3 uc4 uc5)
  obtain ⟨fc0, fc1, fc2, fc3⟩ := Vf9
  have Vf9 := Lib.hid (BgV.mk fc0 fc1 fc2 fc3)
  obtain ⟨ec0, ec1, ec2, ec3, ec4, ec5⟩ := Ve9
  have Ve9 := Lib.hid (DyV.mk ec0 ec1 ec2 ec3 ec4 ec5)
  obtain ⟨ic0, ic1, ic2, ic3, ic4, ic5⟩ := Vi9
  have Vi9 := Lib.hid (DyV.mk ic0 ic1 ic2 ic3 ic4 ic5)
  refine (H3 _ ae ce (by repeat (with_reducible first | refine Mag.set ?_ (fun h => by have := Me9 h; omega) _ _ | refine Mag.drew ?_ | refine Mag.alloc ?_ _ | refine Mag.drewN ?_ _ | refine Mag.below ?_ (Below.drew (Below.refl _ _)) | refine Mag.below ?_ ((Below.refl _ _).alloc (Nat.le_refl _) _) | exact Me9)) ai ci (by repeat (with_reducible first | refine Mag.set ?_ (fun h => by have := Mi9 h; omega) _ _ | refine Mag.drew ?_ | refine Mag.alloc ?_ _ | refine Mag.drewN ?_ _ | refine Mag.below ?_ (Below.drew (Below.refl _ _)) | refine Mag.below ?_ ((Below.refl _ _).alloc (Nat.le_refl _) _) | exact Mi9)) (hT.below (by have hszw := (B9).size; repeat (with_reducible first | refine Below.setCell ?_ (by first | omega | (simp <;> omega)) _ | refine Below.alloc ?_ (by first | omega | (simp <;> omega)) _ | refine Below.drew ?_ | refine below_drewN ?_ _ | exact B9)))).out.mono ?_
  rintro e w10 ⟨rfl, hb10⟩
  have Va10 : DyV w10 b0 bda sa (.slice aa na pa) ea := (by refine DyV.below ?_ hb10; (repeat (with_reducible first | refine DyV.drew ?_ | refine DyV.drewN ?_ _ | refine DyV.alloc ?_ _)); exact Va9.out)
  obtain ⟨ac0, ac1, ac2, ac3, ac4, ac5⟩ := Va10
  have Va10 := Lib.hid (DyV.mk ac0 ac1 ac2 ac3 ac4 ac5)
  have Vu10 : DyV w10 zu (dbad du) (decide (dman du < 0)) (.slice au (nl (dman du).natAbs) cu) (dexp du) := (by refine DyV.below ?_ hb10; (repeat (with_reducible first | refine DyV.drew ?_ | refine DyV.drewN ?_ _ | refine DyV.alloc ?_ _)); exact Vu9.out)
  obtain ⟨uc0, uc1, uc2, uc3, uc4, uc5⟩ := Vu10
  have Vu10 := Lib.hid (DyV.mk uc0 uc1 uc2 uc3 uc4 uc5)
  have Vf10 : BgV w10 zf (decide (y < 0)) (.slice af (nl y.natAbs) cf) := (by refine BgV.below ?_ hb10; (repeat (with_reducible first | refine BgV.drew ?_ | refine BgV.drewN ?_ _ | refine BgV.alloc ?_ _)); exact Vf9.out)
  obtain ⟨fc0, fc1, fc2, fc3⟩ := Vf10
  have Vf10 := Lib.hid (BgV.mk fc0 fc1 fc2 fc3)
  have Ve10 : DyV w10 ze (dbad de) (decide (dman de < 0)) (.slice ae (nl (dman de).natAbs) ce) (dexp de) := (by refine DyV.below ?_ hb10; (repeat (with_reducible first | refine DyV.drew ?_ | refine DyV.drewN ?_ _ | refine DyV.alloc ?_ _)); exact Ve9.out)
  obtain ⟨ec0, ec1, ec2, ec3, ec4, ec5⟩ := Ve10
  have Ve10 := Lib.hid (DyV.mk ec0 ec1 ec2 ec3 ec4 ec5)
  have Vi10 : DyV w10 zi (dbad do1) (decide (dman do1 < 0)) (.slice ai (nl (dman do1).natAbs) ci) (dexp do1) := (by refine DyV.below ?_ hb10; (repeat (with_reducible first | refine DyV.drew ?_ | refine DyV.drewN ?_ _ | refine DyV.alloc ?_ _)); exact Vi9.out)
  obtain ⟨ic0, ic1, ic2, ic3, ic4, ic5⟩ := Vi10
  have Vi10 := Lib.hid (DyV.mk ic0 ic1 ic2 ic3 ic4 ic5)
  have Mu10 : Mag w10 au (nl (dman du).natAbs) cu (dman du).natAbs := Mag.below (by repeat (with_reducible first | refine Mag.set ?_ (fun h => by have := Mu9 h; omega) _ _ | refine Mag.drew ?_ | refine Mag.alloc ?_ _ | refine Mag.drewN ?_ _ | refine Mag.below ?_ (Below.drew (Below.refl _ _)) | refine Mag.below ?_ ((Below.refl _ _).alloc (Nat.le_refl _) _) | exact Mu9)) hb10
  have Mf10 : Mag w10 af (nl y.natAbs) cf y.natAbs := Mag.below (by repeat (with_reducible first | refine Mag.set ?_ (fun h => by have := Mf9 h; omega) _ _ | refine Mag.drew ?_ | refine Mag.alloc ?_ _ | refine Mag.drewN ?_ _ | refine Mag.below ?_ (Below.drew (Below.refl _ _)) | refine Mag.below ?_ ((Below.refl _ _).alloc (Nat.le_refl _) _) | exact Mf9)) hb10
  have Me10 : Mag w10 ae (nl (dman de).natAbs) ce (dman de).natAbs := Mag.below (by repeat (with_reducible first | refine Mag.set ?_ (fun h => by have := Me9 h; omega) _ _ | refine Mag.drew ?_ | refine Mag.alloc ?_ _ | refine Mag.drewN ?_ _ | refine Mag.below ?_ (Below.drew (Below.refl _ _)) | refine Mag.below ?_ ((Below.refl _ _).alloc (Nat.le_refl _) _) | exact Me9)) hb10
  have Mi10 : Mag w10 ai (nl (dman do1).natAbs) ci (dman do1).natAbs := Mag.below (by repeat (with_reducible first | refine Mag.set ?_ (fun h => by have := Mi9 h; omega) _ _ | refine Mag.drew ?_ | refine Mag.alloc ?_ _ | refine Mag.drewN ?_ _ | refine Mag.below ?_ (Below.drew (Below.refl _ _)) | refine Mag.below ?_ ((Below.refl _ _).alloc (Nat.le_refl _) _) | exact Mi9)) hb10
  have B10 := below_box (w := w) (by have hszw := (B9).size; repeat (with_reducible first | refine Below.setCell ?_ (by first | omega | (simp <;> omega)) _ | refine Below.alloc ?_ (by first | omega | (simp <;> omega)) _ | refine Below.drew ?_ | refine below_drewN ?_ _ | exact B9)) hb10
  clear hb10
  go_wp2_with fail
  first
  | go_region_held3 (fun w' => w'.cell? ⟨b0, 0, none⟩ = some (.bool bda) ∧ w'.cell? ⟨b0, 1, none⟩ = some (.bool sa) ∧ w'.cell? ⟨b0, 2, none⟩ = some ((.slice aa na pa)) ∧ w'.cell? ⟨b0, 3, none⟩ = some (.int .i64 ea) ∧ w'.cell? ⟨zu, 0, none⟩ = some (.bool (dbad du)) ∧ w'.cell? ⟨zu, 1, none⟩ = some (.bool (decide (dman du < 0))) ∧ w'.cell? ⟨zu, 2, none⟩ = some ((.slice au (nl (dman du).natAbs) cu)) ∧ w'.cell? ⟨zu, 3, none⟩ = some (.int .i64 (dexp du)) ∧ w'.cell? ⟨ze, 0, none⟩ = some (.bool (dbad de)) ∧ w'.cell? ⟨ze, 1, none⟩ = some (.bool (decide (dman de < 0))) ∧ w'.cell? ⟨ze, 2, none⟩ = some ((.slice ae (nl (dman de).natAbs) ce)) ∧ w'.cell? ⟨ze, 3, none⟩ = some (.int .i64 (dexp de))) (first | (go_keep; done) | (go_simp; done))
      (first
        | (go_at_call 31; have xx := B12; refine (H6 _ ae ce (by repeat (with_reducible first | refine Mag.set ?_ (fun h => by have := Me12 h; omega) _ _ | refine Mag.drew ?_ | refine Mag.alloc ?_ _ | refine Mag.drewN ?_ _ | refine Mag.below ?_ (Below.drew (Below.refl _ _)) | refine Mag.below ?_ ((Below.refl _ _).alloc (Nat.le_refl _) _) | exact Me12)) (hT.below (by have hszw := (B12).size; repeat (with_reducible first | refine Below.setCell ?_ (by first | omega | (simp <;> omega)) _ | refine Below.alloc ?_ (by first | omega | (simp <;> omega)) _ | refine Below.drew ?_ | refine below_drewN ?_ _ | exact B12)))).out.mono ?_; rintro e w13 ⟨rfl, hb13⟩; have Va13 : DyV w13 b0 bda sa (.slice aa na pa) ea := (by refine DyV.below ?_ hb13; (repeat (with_reducible first | refine DyV.drew ?_ | refine DyV.drewN ?_ _ | refine DyV.alloc ?_ _)); exact Va12.out); obtain ⟨ac0, ac1, ac2, ac3, ac4, ac5⟩ := Va13; have Va13 := Lib.hid (DyV.mk ac0 ac1 ac2 ac3 ac4 ac5); have Vu13 : DyV w13 zu (dbad du) (decide (dman du < 0)) (.slice au (nl (dman du).natAbs) cu) (dexp du) := (by refine DyV.below ?_ hb13; (repeat (with_reducible first | refine DyV.drew ?_ | refine DyV.drewN ?_ _ | refine DyV.alloc ?_ _)); exact Vu12.out); obtain ⟨uc0, uc1, uc2, uc3, uc4, uc5⟩ := Vu13; have Vu13 := Lib.hid (DyV.mk uc0 uc1 uc2 uc3 uc4 uc5); have Vf13 : BgV w13 zf (decide (y < 0)) (.slice af (nl y.natAbs) cf) := (by refine BgV.below ?_ hb13; (repeat (with_reducible first | refine BgV.drew ?_ | refine BgV.drewN ?_ _ | refine BgV.alloc ?_ _)); exact Vf12.out); obtain ⟨fc0, fc1, fc2, fc3⟩ := Vf13; have Vf13 := Lib.hid (BgV.mk fc0 fc1 fc2 fc3); have Ve13 : DyV w13 ze (dbad de) (decide (dman de < 0)) (.slice ae (nl (dman de).natAbs) ce) (dexp de) := (by refine DyV.below ?_ hb13; (repeat (with_reducible first | refine DyV.drew ?_ | refine DyV.drewN ?_ _ | refine DyV.alloc ?_ _)); exact Ve12.out); obtain ⟨ec0, ec1, ec2, ec3, ec4, ec5⟩ := Ve13; have Ve13 := Lib.hid (DyV.mk ec0 ec1 ec2 ec3 ec4 ec5); have Vi13 : DyV w13 zi (dbad do1) (decide (dman do1 < 0)) (.slice ai (nl (dman do1).natAbs) ci) (dexp do1) := (by refine DyV.below ?_ hb13; (repeat (with_reducible first | refine DyV.drew ?_ | refine DyV.drewN ?_ _ | refine DyV.alloc ?_ _)); exact Vi12.out); obtain ⟨ic0, ic1, ic2, ic3, ic4, ic5⟩ := Vi13; have Vi13 := Lib.hid (DyV.mk ic0 ic1 ic2 ic3 ic4 ic5); have Mu13 : Mag w13 au (nl (dman du).natAbs) cu (dman du).natAbs := Mag.below (by repeat (with_reducible first | refine Mag.set ?_ (fun h => by have := Mu12 h; omega) _ _ | refine Mag.drew ?_ | refine Mag.alloc ?_ _ | refine Mag.drewN ?_ _ | refine Mag.below ?_ (Below.drew (Below.refl _ _)) | refine Mag.below ?_ ((Below.refl _ _).alloc (Nat.le_refl _) _) | exact Mu12)) hb13; have Mf13 : Mag w13 af (nl y.natAbs) cf y.natAbs := Mag.below (by repeat (with_reducible first | refine Mag.set ?_ (fun h => by have := Mf12 h; omega) _ _ | refine Mag.drew ?_ | refine Mag.alloc ?_ _ | refine Mag.drewN ?_ _ | refine Mag.below ?_ (Below.drew (Below.refl _ _)) | refine Mag.below ?_ ((Below.refl _ _).alloc (Nat.le_refl _) _) | exact Mf12)) hb13; have Me13 : Mag w13 ae (nl (dman de).natAbs) ce (dman de).natAbs := Mag.below (by repeat (with_reducible first | refine Mag.set ?_ (fun h => by have := Me12 h; omega) _ _ | refine Mag.drew ?_ | refine Mag.alloc ?_ _ | refine Mag.drewN ?_ _ | refine Mag.below ?_ (Below.drew (Below.refl _ _)) | refine Mag.below ?_ ((Below.refl _ _).alloc (Nat.le_refl _) _) | exact Me12)) hb13; have Mi13 : Mag w13 ai (nl (dman do1).natAbs) ci (dman do1).natAbs := Mag.below (by repeat (with_reducible first | refine Mag.set ?_ (fun h => by have := Mi12 h; omega) _ _ | refine Mag.drew ?_ | refine Mag.alloc ?_ _ | refine Mag.drewN ?_ _ | refine Mag.below ?_ (Below.drew (Below.refl _ _)) | refine Mag.below ?_ ((Below.refl _ _).alloc (Nat.le_refl _) _) | exact Mi12)) hb13; have Mx13 : Mag w13 ax (nl (dman dx).natAbs) cx (dman dx).natAbs := Mag.below (by repeat (with_reducible first | refine Mag.set ?_ (fun h => by have := Mx12 h; omega) _ _ | refine Mag.drew ?_ | refine Mag.alloc ?_ _ | refine Mag.drewN ?_ _ | refine Mag.below ?_ (Below.drew (Below.refl _ _)) | refine Mag.below ?_ ((Below.refl _ _).alloc (Nat.le_refl _) _) | exact Mx12)) hb13; have B13 := below_box (w := w) (by have hszw := (B12).size; repeat (with_reducible first | refine Below.setCell ?_ (by first | omega | (simp <;> omega)) _ | refine Below.alloc ?_ (by first | omega | (simp <;> omega)) _ | refine Below.drew ?_ | refine below_drewN ?_ _ | exact B12)) hb13; clear hb13)
        | (go_at_call 27; have xx := B11; refine (H5 _ ax cx (by repeat (with_reducible first | refine Mag.set ?_ (fun h => by have := Mx11 h; omega) _ _ | refine Mag.drew ?_ | refine Mag.alloc ?_ _ | refine Mag.drewN ?_ _ | refine Mag.below ?_ (Below.drew (Below.refl _ _)) | refine Mag.below ?_ ((Below.refl _ _).alloc (Nat.le_refl _) _) | exact Mx11)) (Ga.out.1.below (by have hszw := (B11).size; repeat (with_reducible first | refine Below.setCell ?_ (by first | omega | (simp <;> omega)) _ | refine Below.alloc ?_ (by first | omega | (simp <;> omega)) _ | refine Below.drew ?_ | refine below_drewN ?_ _ | exact B11))) (hT.below (by have hszw := (B11).size; repeat (with_reducible first | refine Below.setCell ?_ (by first | omega | (simp <;> omega)) _ | refine Below.alloc ?_ (by first | omega | (simp <;> omega)) _ | refine Below.drew ?_ | refine below_drewN ?_ _ | exact B11)))).out.mono ?_; rintro e w12 ⟨rfl, hb12⟩; have Va12 : DyV w12 b0 bda sa (.slice aa na pa) ea := (by refine DyV.below ?_ hb12; (repeat (with_reducible first | refine DyV.drew ?_ | refine DyV.drewN ?_ _ | refine DyV.alloc ?_ _)); exact Va11.out); obtain ⟨ac0, ac1, ac2, ac3, ac4, ac5⟩ := Va12; have Va12 := Lib.hid (DyV.mk ac0 ac1 ac2 ac3 ac4 ac5); have Vu12 : DyV w12 zu (dbad du) (decide (dman du < 0)) (.slice au (nl (dman du).natAbs) cu) (dexp du) := (by refine DyV.below ?_ hb12; (repeat (with_reducible first | refine DyV.drew ?_ | refine DyV.drewN ?_ _ | refine DyV.alloc ?_ _)); exact Vu11.out); obtain ⟨uc0, uc1, uc2, uc3, uc4, uc5⟩ := Vu12; have Vu12 := Lib.hid (DyV.mk uc0 uc1 uc2 uc3 uc4 uc5); have Vf12 : BgV w12 zf (decide (y < 0)) (.slice af (nl y.natAbs) cf) := (by refine BgV.below ?_ hb12; (repeat (with_reducible first | refine BgV.drew ?_ | refine BgV.drewN ?_ _ | refine BgV.alloc ?_ _)); exact Vf11.out); obtain ⟨fc0, fc1, fc2, fc3⟩ := Vf12; have Vf12 := Lib.hid (BgV.mk fc0 fc1 fc2 fc3); have Ve12 : DyV w12 ze (dbad de) (decide (dman de < 0)) (.slice ae (nl (dman de).natAbs) ce) (dexp de) := (by refine DyV.below ?_ hb12; (repeat (with_reducible first | refine DyV.drew ?_ | refine DyV.drewN ?_ _ | refine DyV.alloc ?_ _)); exact Ve11.out); obtain ⟨ec0, ec1, ec2, ec3, ec4, ec5⟩ := Ve12; have Ve12 := Lib.hid (DyV.mk ec0 ec1 ec2 ec3 ec4 ec5); have Vi12 : DyV w12 zi (dbad do1) (decide (dman do1 < 0)) (.slice ai (nl (dman do1).natAbs) ci) (dexp do1) := (by refine DyV.below ?_ hb12; (repeat (with_reducible first | refine DyV.drew ?_ | refine DyV.drewN ?_ _ | refine DyV.alloc ?_ _)); exact Vi11.out); obtain ⟨ic0, ic1, ic2, ic3, ic4, ic5⟩ := Vi12; have Vi12 := Lib.hid (DyV.mk ic0 ic1 ic2 ic3 ic4 ic5); have Mu12 : Mag w12 au (nl (dman du).natAbs) cu (dman du).natAbs := Mag.below (by repeat (with_reducible first | refine Mag.set ?_ (fun h => by have := Mu11 h; omega) _ _ | refine Mag.drew ?_ | refine Mag.alloc ?_ _ | refine Mag.drewN ?_ _ | refine Mag.below ?_ (Below.drew (Below.refl _ _)) | refine Mag.below ?_ ((Below.refl _ _).alloc (Nat.le_refl _) _) | exact Mu11)) hb12; have Mf12 : Mag w12 af (nl y.natAbs) cf y.natAbs := Mag.below (by repeat (with_reducible first | refine Mag.set ?_ (fun h => by have := Mf11 h; omega) _ _ | refine Mag.drew ?_ | refine Mag.alloc ?_ _ | refine Mag.drewN ?_ _ | refine Mag.below ?_ (Below.drew (Below.refl _ _)) | refine Mag.below ?_ ((Below.refl _ _).alloc (Nat.le_refl _) _) | exact Mf11)) hb12; have Me12 : Mag w12 ae (nl (dman de).natAbs) ce (dman de).natAbs := Mag.below (by repeat (with_reducible first | refine Mag.set ?_ (fun h => by have := Me11 h; omega) _ _ | refine Mag.drew ?_ | refine Mag.alloc ?_ _ | refine Mag.drewN ?_ _ | refine Mag.below ?_ (Below.drew (Below.refl _ _)) | refine Mag.below ?_ ((Below.refl _ _).alloc (Nat.le_refl _) _) | exact Me11)) hb12; have Mi12 : Mag w12 ai (nl (dman do1).natAbs) ci (dman do1).natAbs := Mag.below (by repeat (with_reducible first | refine Mag.set ?_ (fun h => by have := Mi11 h; omega) _ _ | refine Mag.drew ?_ | refine Mag.alloc ?_ _ | refine Mag.drewN ?_ _ | refine Mag.below ?_ (Below.drew (Below.refl _ _)) | refine Mag.below ?_ ((Below.refl _ _).alloc (Nat.le_refl _) _) | exact Mi11)) hb12; have Mx12 : Mag w12 ax (nl (dman dx).natAbs) cx (dman dx).natAbs := Mag.below (by repeat (with_reducible first | refine Mag.set ?_ (fun h => by have := Mx11 h; omega) _ _ | refine Mag.drew ?_ | refine Mag.alloc ?_ _ | refine Mag.drewN ?_ _ | refine Mag.below ?_ (Below.drew (Below.refl _ _)) | refine Mag.below ?_ ((Below.refl _ _).alloc (Nat.le_refl _) _) | exact Mx11)) hb12; have B12 := below_box (w := w) (by have hszw := (B11).size; repeat (with_reducible first | refine Below.setCell ?_ (by first | omega | (simp <;> omega)) _ | refine Below.alloc ?_ (by first | omega | (simp <;> omega)) _ | refine Below.drew ?_ | refine below_drewN ?_ _ | exact B11)) hb12; clear hb12)
        | (go_at_call 33; have xx := B10; refine (H4 _ au cu (by repeat (with_reducible first | refine Mag.set ?_ (fun h => by have := Mu10 h; omega) _ _ | refine Mag.drew ?_ | refine Mag.alloc ?_ _ | refine Mag.drewN ?_ _ | refine Mag.below ?_ (Below.drew (Below.refl _ _)) | refine Mag.below ?_ ((Below.refl _ _).alloc (Nat.le_refl _) _) | exact Mu10)) (hT.below (by have hszw := (B10).size; repeat (with_reducible first | refine Below.setCell ?_ (by first | omega | (simp <;> omega)) _ | refine Below.alloc ?_ (by first | omega | (simp <;> omega)) _ | refine Below.drew ?_ | refine below_drewN ?_ _ | exact B10)))).out.mono ?_; rintro e w11 ⟨ax, cx, rfl, Mx11, hb11, hf11⟩; have Va11 : DyV w11 b0 bda sa (.slice aa na pa) ea := (by refine DyV.below ?_ hb11; (repeat (with_reducible first | refine DyV.drew ?_ | refine DyV.drewN ?_ _ | refine DyV.alloc ?_ _)); exact Va10.out); obtain ⟨ac0, ac1, ac2, ac3, ac4, ac5⟩ := Va11; have Va11 := Lib.hid (DyV.mk ac0 ac1 ac2 ac3 ac4 ac5); have Vu11 : DyV w11 zu (dbad du) (decide (dman du < 0)) (.slice au (nl (dman du).natAbs) cu) (dexp du) := (by refine DyV.below ?_ hb11; (repeat (with_reducible first | refine DyV.drew ?_ | refine DyV.drewN ?_ _ | refine DyV.alloc ?_ _)); exact Vu10.out); obtain ⟨uc0, uc1, uc2, uc3, uc4, uc5⟩ := Vu11; have Vu11 := Lib.hid (DyV.mk uc0 uc1 uc2 uc3 uc4 uc5); have Vf11 : BgV w11 zf (decide (y < 0)) (.slice af (nl y.natAbs) cf) := (by refine BgV.below ?_ hb11; (repeat (with_reducible first | refine BgV.drew ?_ | refine BgV.drewN ?_ _ | refine BgV.alloc ?_ _)); exact Vf10.out); obtain ⟨fc0, fc1, fc2, fc3⟩ := Vf11; have Vf11 := Lib.hid (BgV.mk fc0 fc1 fc2 fc3); have Ve11 : DyV w11 ze (dbad de) (decide (dman de < 0)) (.slice ae (nl (dman de).natAbs) ce) (dexp de) := (by refine DyV.below ?_ hb11; (repeat (with_reducible first | refine DyV.drew ?_ | refine DyV.drewN ?_ _ | refine DyV.alloc ?_ _)); exact Ve10.out); obtain ⟨ec0, ec1, ec2, ec3, ec4, ec5⟩ := Ve11; have Ve11 := Lib.hid (DyV.mk ec0 ec1 ec2 ec3 ec4 ec5); have Vi11 : DyV w11 zi (dbad do1) (decide (dman do1 < 0)) (.slice ai (nl (dman do1).natAbs) ci) (dexp do1) := (by refine DyV.below ?_ hb11; (repeat (with_reducible first | refine DyV.drew ?_ | refine DyV.drewN ?_ _ | refine DyV.alloc ?_ _)); exact Vi10.out); obtain ⟨ic0, ic1, ic2, ic3, ic4, ic5⟩ := Vi11; have Vi11 := Lib.hid (DyV.mk ic0 ic1 ic2 ic3 ic4 ic5); have Mu11 : Mag w11 au (nl (dman du).natAbs) cu (dman du).natAbs := Mag.below (by repeat (with_reducible first | refine Mag.set ?_ (fun h => by have := Mu10 h; omega) _ _ | refine Mag.drew ?_ | refine Mag.alloc ?_ _ | refine Mag.drewN ?_ _ | refine Mag.below ?_ (Below.drew (Below.refl _ _)) | refine Mag.below ?_ ((Below.refl _ _).alloc (Nat.le_refl _) _) | exact Mu10)) hb11; have Mf11 : Mag w11 af (nl y.natAbs) cf y.natAbs := Mag.below (by repeat (with_reducible first | refine Mag.set ?_ (fun h => by have := Mf10 h; omega) _ _ | refine Mag.drew ?_ | refine Mag.alloc ?_ _ | refine Mag.drewN ?_ _ | refine Mag.below ?_ (Below.drew (Below.refl _ _)) | refine Mag.below ?_ ((Below.refl _ _).alloc (Nat.le_refl _) _) | exact Mf10)) hb11; have Me11 : Mag w11 ae (nl (dman de).natAbs) ce (dman de).natAbs := Mag.below (by repeat (with_reducible first | refine Mag.set ?_ (fun h => by have := Me10 h; omega) _ _ | refine Mag.drew ?_ | refine Mag.alloc ?_ _ | refine Mag.drewN ?_ _ | refine Mag.below ?_ (Below.drew (Below.refl _ _)) | refine Mag.below ?_ ((Below.refl _ _).alloc (Nat.le_refl _) _) | exact Me10)) hb11; have Mi11 : Mag w11 ai (nl (dman do1).natAbs) ci (dman do1).natAbs := Mag.below (by repeat (with_reducible first | refine Mag.set ?_ (fun h => by have := Mi10 h; omega) _ _ | refine Mag.drew ?_ | refine Mag.alloc ?_ _ | refine Mag.drewN ?_ _ | refine Mag.below ?_ (Below.drew (Below.refl _ _)) | refine Mag.below ?_ ((Below.refl _ _).alloc (Nat.le_refl _) _) | exact Mi10)) hb11; have B11 := below_box (w := w) (by have hszw := (B10).size; repeat (with_reducible first | refine Below.setCell ?_ (by first | omega | (simp <;> omega)) _ | refine Below.alloc ?_ (by first | omega | (simp <;> omega)) _ | refine Below.drew ?_ | refine below_drewN ?_ _ | exact B10)) hb11; clear hb11; clear hf11)
        | fail)
  | fail "region"
  go_wp2_with fail
  refine (H7 _ (Ga.out.1.below (by have hszw := (B13).size; repeat (with_reducible first | refine Below.setCell ?_ (by first | omega | (simp <;> omega)) _ | refine Below.alloc ?_ (by first | omega | (simp <;> omega)) _ | refine Below.drew ?_ | refine below_drewN ?_ _ | exact B13))) (hT.below (by have hszw := (B13).size; repeat (with_reducible first | refine Below.setCell ?_ (by first | omega | (simp <;> omega)) _ | refine Below.alloc ?_ (by first | omega | (simp <;> omega)) _ | refine Below.drew ?_ | refine below_drewN ?_ _ | exact B13)))).out.mono ?_
  rintro e w14 ⟨rfl, hb14⟩
  have Va14 : DyV w14 b0 bda sa (.slice aa na pa) ea := (by refine DyV.below ?_ hb14; (repeat (with_reducible first | refine DyV.drew ?_ | refine DyV.drewN ?_ _ | refine DyV.alloc ?_ _)); exact Va13.out)
  obtain ⟨ac0, ac1, ac2, ac3, ac4, ac5⟩ := Va14
  have Va14 := Lib.hid (DyV.mk ac0 ac1 ac2 ac3 ac4 ac5)
  have Vu14 : DyV w14 zu (dbad du) (decide (dman du < 0)) (.slice au (nl (dman du).natAbs) cu) (dexp du) := (by refine DyV.below ?_ hb14; (repeat (with_reducible first | refine DyV.drew ?_ | refine DyV.drewN ?_ _ | refine DyV.alloc ?_ _)); exact Vu13.out)
  obtain ⟨uc0, uc1, uc2, uc3, uc4, uc5⟩ := Vu14
  have Vu14 := Lib.hid (DyV.mk uc0 uc1 uc2 uc3 uc4 uc5)
  have Vf14 : BgV w14 zf (decide (y < 0)) (.slice af (nl y.natAbs) cf) := (by refine BgV.below ?_ hb14; (repeat (with_reducible first | refine BgV.drew ?_ | refine BgV.drewN ?_ _ | refine BgV.alloc ?_ _)); exact Vf13.out)
  obtain ⟨fc0, fc1, fc2, fc3⟩ := Vf14
  have Vf14 := Lib.hid (BgV.mk fc0 fc1 fc2 fc3)
  have Ve14 : DyV w14 ze (dbad de) (decide (dman de < 0)) (.slice ae (nl (dman de).natAbs) ce) (dexp de) := (by refine DyV.below ?_ hb14; (repeat (with_reducible first | refine DyV.drew ?_ | refine DyV.drewN ?_ _ | refine DyV.alloc ?_ _)); exact Ve13.out)
  obtain ⟨ec0, ec1, ec2, ec3, ec4, ec5⟩ := Ve14
  have Ve14 := Lib.hid (DyV.mk ec0 ec1 ec2 ec3 ec4 ec5)
  have Vi14 : DyV w14 zi (dbad do1) (decide (dman do1 < 0)) (.slice ai (nl (dman do1).natAbs) ci) (dexp do1) := (by refine DyV.below ?_ hb14; (repeat (with_reducible first | refine DyV.drew ?_ | refine DyV.drewN ?_ _ | refine DyV.alloc ?_ _)); exact Vi13.out)
  obtain ⟨ic0, ic1, ic2, ic3, ic4, ic5⟩ := Vi14
  have Vi14 := Lib.hid (DyV.mk ic0 ic1 ic2 ic3 ic4 ic5)
  have Mu14 : Mag w14 au (nl (dman du).natAbs) cu (dman du).natAbs := Mag.below (by repeat (with_reducible first | refine Mag.set ?_ (fun h => by have := Mu13 h; omega) _ _ | refine Mag.drew ?_ | refine Mag.alloc ?_ _ | refine Mag.drewN ?_ _ | refine Mag.below ?_ (Below.drew (Below.refl _ _)) | refine Mag.below ?_ ((Below.refl _ _).alloc (Nat.le_refl _) _) | exact Mu13)) hb14
  have Mf14 : Mag w14 af (nl y.natAbs) cf y.natAbs := Mag.below (by repeat (with_reducible first | refine Mag.set ?_ (fun h => by have := Mf13 h; omega) _ _ | refine Mag.drew ?_ | refine Mag.alloc ?_ _ | refine Mag.drewN ?_ _ | refine Mag.below ?_ (Below.drew (Below.refl _ _)) | refine Mag.below ?_ ((Below.refl _ _).alloc (Nat.le_refl _) _) | exact Mf13)) hb14
  have Me14 : Mag w14 ae (nl (dman de).natAbs) ce (dman de).natAbs := Mag.below (by repeat (with_reducible first | refine Mag.set ?_ (fun h => by have := Me13 h; omega) _ _ | refine Mag.drew ?_ | refine Mag.alloc ?_ _ | refine Mag.drewN ?_ _ | refine Mag.below ?_ (Below.drew (Below.refl _ _)) | refine Mag.below ?_ ((Below.refl _ _).alloc (Nat.le_refl _) _) | exact Me13)) hb14
  have Mi14 : Mag w14 ai (nl (dman do1).natAbs) ci (dman do1).natAbs := Mag.below (by repeat (with_reducible first | refine Mag.set ?_ (fun h => by have := Mi13 h; omega) _ _ | refine Mag.drew ?_ | refine Mag.alloc ?_ _ | refine Mag.drewN ?_ _ | refine Mag.below ?_ (Below.drew (Below.refl _ _)) | refine Mag.below ?_ ((Below.refl _ _).alloc (Nat.le_refl _) _) | exact Mi13)) hb14
  have B14 := below_box (w := w) (by have hszw := (B13).size; repeat (with_reducible first | refine Below.setCell ?_ (by first | omega | (simp <;> omega)) _ | refine Below.alloc ?_ (by first | omega | (simp <;> omega)) _ | refine Below.drew ?_ | refine below_drewN ?_ _ | exact B13)) hb14
  clear hb14
  go_wp2_with fail
  refine (H8 _ (Ga.out.1.below (by have hszw := (B14).size; repeat (with_reducible first | refine Below.setCell ?_ (by first | omega | (simp <;> omega)) _ | refine Below.alloc ?_ (by first | omega | (simp <;> omega)) _ | refine Below.drew ?_ | refine below_drewN ?_ _ | exact B14))) (hT.below (by have hszw := (B14).size; repeat (with_reducible first | refine Below.setCell ?_ (by first | omega | (simp <;> omega)) _ | refine Below.alloc ?_ (by first | omega | (simp <;> omega)) _ | refine Below.drew ?_ | refine below_drewN ?_ _ | exact B14)))).out.mono ?_
  rintro e w15 ⟨rfl, hb15⟩
  have Va15 : DyV w15 b0 bda sa (.slice aa na pa) ea := (by refine DyV.below ?_ hb15; (repeat (with_reducible first | refine DyV.drew ?_ | refine DyV.drewN ?_ _ | refine DyV.alloc ?_ _)); exact Va14.out)
  obtain ⟨ac0, ac1, ac2, ac3, ac4, ac5⟩ := Va15
  have Va15 := Lib.hid (DyV.mk ac0 ac1 ac2 ac3 ac4 ac5)
  have Vu15 : DyV w15 zu (dbad du) (decide (dman du < 0)) (.slice au (nl (dman du).natAbs) cu) (dexp du) := (by refine DyV.below ?_ hb15; (repeat (with_reducible first | refine DyV.drew ?_ | refine DyV.drewN ?_ _ | refine DyV.alloc ?_ _)); exact Vu14.out)
  obtain ⟨uc0, uc1, uc2, uc3, uc4, uc5⟩ := Vu15
  have Vu15 := Lib.hid (DyV.mk uc0 uc1 uc2 uc3 uc4 uc5)
  have Vf15 : BgV w15 zf (decide (y < 0)) (.slice af (nl y.natAbs) cf) := (by refine BgV.below ?_ hb15; (repeat (with_reducible first | refine BgV.drew ?_ | refine BgV.drewN ?_ _ | refine BgV.alloc ?_ _)); exact Vf14.out)
  obtain ⟨fc0, fc1, fc2, fc3⟩ := Vf15
  have Vf15 := Lib.hid (BgV.mk fc0 fc1 fc2 fc3)
  have Ve15 : DyV w15 ze (dbad de) (decide (dman de < 0)) (.slice ae (nl (dman de).natAbs) ce) (dexp de) := (by refine DyV.below ?_ hb15; (repeat (with_reducible first | refine DyV.drew ?_ | refine DyV.drewN ?_ _ | refine DyV.alloc ?_ _)); exact Ve14.out)
  obtain ⟨ec0, ec1, ec2, ec3, ec4, ec5⟩ := Ve15
  have Ve15 := Lib.hid (DyV.mk ec0 ec1 ec2 ec3 ec4 ec5)
  have Vi15 : DyV w15 zi (dbad do1) (decide (dman do1 < 0)) (.slice ai (nl (dman do1).natAbs) ci) (dexp do1) := (by refine DyV.below ?_ hb15; (repeat (with_reducible first | refine DyV.drew ?_ | refine DyV.drewN ?_ _ | refine DyV.alloc ?_ _)); exact Vi14.out)
  obtain ⟨ic0, ic1, ic2, ic3, ic4, ic5⟩ := Vi15
  have Vi15 := Lib.hid (DyV.mk ic0 ic1 ic2 ic3 ic4 ic5)
  have Mu15 : Mag w15 au (nl (dman du).natAbs) cu (dman du).natAbs := Mag.below (by repeat (with_reducible first | refine Mag.set ?_ (fun h => by have := Mu14 h; omega) _ _ | refine Mag.drew ?_ | refine Mag.alloc ?_ _ | refine Mag.drewN ?_ _ | refine Mag.below ?_ (Below.drew (Below.refl _ _)) | refine Mag.below ?_ ((Below.refl _ _).alloc (Nat.le_refl _) _) | exact Mu14)) hb15
  have Mf15 : Mag w15 af (nl y.natAbs) cf y.natAbs := Mag.below (by repeat (with_reducible first | refine Mag.set ?_ (fun h => by have := Mf14 h; omega) _ _ | refine Mag.drew ?_ | refine Mag.alloc ?_ _ | refine Mag.drewN ?_ _ | refine Mag.below ?_ (Below.drew (Below.refl _ _)) | refine Mag.below ?_ ((Below.refl _ _).alloc (Nat.le_refl _) _) | exact Mf14)) hb15
  have Me15 : Mag w15 ae (nl (dman de).natAbs) ce (dman de).natAbs := Mag.below (by repeat (with_reducible first | refine Mag.set ?_ (fun h => by have := Me14 h; omega) _ _ | refine Mag.drew ?_ | refine Mag.alloc ?_ _ | refine Mag.drewN ?_ _ | refine Mag.below ?_ (Below.drew (Below.refl _ _)) | refine Mag.below ?_ ((Below.refl _ _).alloc (Nat.le_refl _) _) | exact Me14)) hb15
  have Mi15 : Mag w15 ai (nl (dman do1).natAbs) ci (dman do1).natAbs := Mag.below (by repeat (with_reducible first | refine Mag.set ?_ (fun h => by have := Mi14 h; omega) _ _ | refine Mag.drew ?_ | refine Mag.alloc ?_ _ | refine Mag.drewN ?_ _ | refine Mag.below ?_ (Below.drew (Below.refl _ _)) | refine Mag.below ?_ ((Below.refl _ _).alloc (Nat.le_refl _) _) | exact Mi14)) hb15
  have B15 := below_box (w := w) (by have hszw := (B14).size; repeat (with_reducible first | refine Below.setCell ?_ (by first | omega | (simp <;> omega)) _ | refine Below.alloc ?_ (by first | omega | (simp <;> omega)) _ | refine Below.drew ?_ | refine below_drewN ?_ _ | exact B14)) hb15
  clear hb15
  go_wp2_with fail
  refine (HW _ (hT.below (by have hszw := (B15).size; repeat (with_reducible first | refine Below.setCell ?_ (by first | omega | (simp <;> omega)) _ | refine Below.alloc ?_ (by first | omega | (simp <;> omega)) _ | refine Below.drew ?_ | refine below_drewN ?_ _ | exact B15)))).out.mono ?_
  rintro e w16 ⟨rfl, hb16⟩
  have Va16 : DyV w16 b0 bda sa (.slice aa na pa) ea := (by refine DyV.below ?_ hb16; (repeat (with_reducible first | refine DyV.drew ?_ | refine DyV.drewN ?_ _ | refine DyV.alloc ?_ _)); exact Va15.out)
  obtain ⟨ac0, ac1, ac2, ac3, ac4, ac5⟩ := Va16
  have Va16 := Lib.hid (DyV.mk ac0 ac1 ac2 ac3 ac4 ac5)
  have Vu16 : DyV w16 zu (dbad du) (decide (dman du < 0)) (.slice au (nl (dman du).natAbs) cu) (dexp du) := (by refine DyV.below ?_ hb16; (repeat (with_reducible first | refine DyV.drew ?_ | refine DyV.drewN ?_ _ | refine DyV.alloc ?_ _)); exact Vu15.out)
  obtain ⟨uc0, uc1, uc2, uc3, uc4, uc5⟩ := Vu16
  have Vu16 := Lib.hid (DyV.mk uc0 uc1 uc2 uc3 uc4 uc5)
  have Vf16 : BgV w16 zf (decide (y < 0)) (.slice af (nl y.natAbs) cf) := (by refine BgV.below ?_ hb16; (repeat (with_reducible first | refine BgV.drew ?_ | refine BgV.drewN ?_ _ | refine BgV.alloc ?_ _)); exact Vf15.out)
  obtain ⟨fc0, fc1, fc2, fc3⟩ := Vf16
  have Vf16 := Lib.hid (BgV.mk fc0 fc1 fc2 fc3)
  have Ve16 : DyV w16 ze (dbad de) (decide (dman de < 0)) (.slice ae (nl (dman de).natAbs) ce) (dexp de) := (by refine DyV.below ?_ hb16; (repeat (with_reducible first | refine DyV.drew ?_ | refine DyV.drewN ?_ _ | refine DyV.alloc ?_ _)); exact Ve15.out)
  obtain ⟨ec0, ec1, ec2, ec3, ec4, ec5⟩ := Ve16
  have Ve16 := Lib.hid (DyV.mk ec0 ec1 ec2 ec3 ec4 ec5)
  have Vi16 : DyV w16 zi (dbad do1) (decide (dman do1 < 0)) (.slice ai (nl (dman do1).natAbs) ci) (dexp do1) := (by refine DyV.below ?_ hb16; (repeat (with_reducible first | refine DyV.drew ?_ | refine DyV.drewN ?_ _ | refine DyV.alloc ?_ _)); exact Vi15.out)
  obtain ⟨ic0, ic1, ic2, ic3, ic4, ic5⟩ := Vi16
  have Vi16 := Lib.hid (DyV.mk ic0 ic1 ic2 ic3 ic4 ic5)
  have Mu16 : Mag w16 au (nl (dman du).natAbs) cu (dman du).natAbs := Mag.below (by repeat (with_reducible first | refine Mag.set ?_ (fun h => by have := Mu15 h; omega) _ _ | refine Mag.drew ?_ | refine Mag.alloc ?_ _ | refine Mag.drewN ?_ _ | refine Mag.below ?_ (Below.drew (Below.refl _ _)) | refine Mag.below ?_ ((Below.refl _ _).alloc (Nat.le_refl _) _) | exact Mu15)) hb16
  have Mf16 : Mag w16 af (nl y.natAbs) cf y.natAbs := Mag.below (by repeat (with_reducible first | refine Mag.set ?_ (fun h => by have := Mf15 h; omega) _ _ | refine Mag.drew ?_ | refine Mag.alloc ?_ _ | refine Mag.drewN ?_ _ | refine Mag.below ?_ (Below.drew (Below.refl _ _)) | refine Mag.below ?_ ((Below.refl _ _).alloc (Nat.le_refl _) _) | exact Mf15)) hb16
  have Me16 : Mag w16 ae (nl (dman de).natAbs) ce (dman de).natAbs := Mag.below (by repeat (with_reducible first | refine Mag.set ?_ (fun h => by have := Me15 h; omega) _ _ | refine Mag.drew ?_ | refine Mag.alloc ?_ _ | refine Mag.drewN ?_ _ | refine Mag.below ?_ (Below.drew (Below.refl _ _)) | refine Mag.below ?_ ((Below.refl _ _).alloc (Nat.le_refl _) _) | exact Me15)) hb16
  have Mi16 : Mag w16 ai (nl (dman do1).natAbs) ci (dman do1).natAbs := Mag.below (by repeat (with_reducible first | refine Mag.set ?_ (fun h => by have := Mi15 h; omega) _ _ | refine Mag.drew ?_ | refine Mag.alloc ?_ _ | refine Mag.drewN ?_ _ | refine Mag.below ?_ (Below.drew (Below.refl _ _)) | refine Mag.below ?_ ((Below.refl _ _).alloc (Nat.le_refl _) _) | exact Mi15)) hb16
  have B16 := below_box (w := w) (by have hszw := (B15).size; repeat (with_reducible first | refine Below.setCell ?_ (by first | omega | (simp <;> omega)) _ | refine Below.alloc ?_ (by first | omega | (simp <;> omega)) _ | refine Below.drew ?_ | refine below_drewN ?_ _ | exact B15)) hb16
  clear hb16
  go_wp2_with fail
  go_ret
  exact ⟨rfl, (by have hszw := (B16).size; repeat (with_reducible first | refine Below.setCell ?_ (by first | omega | (simp <;> omega)) _ | refine Below.alloc ?_ (by first | omega | (simp <;> omega)) _ | refine Below.drew ?_ | refine below_drewN ?_ _ | exact B16))⟩

set_option maxRecDepth 100000 in
set_option maxHeartbeats 12000000 in
theorem scal_main (w : World) (hT : Tab w) (bda sa : Bool) (aa : Option Addr) (na pa : Nat) (ea : Int) (da : Option (Int × Int)) (Ha : DyIs w bda sa aa na pa ea da) (q : Int) (ma : na ≤ 9223372036854775807) (hsa : slimB na ea = true) (va : dbad da = false) (r rn y c g k ga : Int) (hr : r = placeI q 4000 - 2000) (hr0 : -2000 ≤ r) (hr1 : r ≤ 2000) (hrn : rn = -r) (du df de do1 dx : Option (Int × Int)) (d1 d2 d3 : Option (Int × Int)) (x1 y1 : Int) (f1 : dscale da r = du) (f2 : dfloor da = y) (f3 : nrm y 0 = df) (f4 : dsub da df = de) (f5 : dcmp de do1 = c) (f6 : dscale du rn = dx) (f7 : dx = da) (f8 : cmpI (dman de) 0 = g) (f9 : dlog da = k) (f10 : nrm 1 0 = do1) (f11 : blen y.natAbs ≤ 2640) (f12 : c < 0) (f13 : ¬ g < 0) (f14 : cmpI (dman da) 0 = ga) (fa : IsN da) (fz : dnz da = true) (gz : ga ≠ 0) (kz : -200000 ≤ k) (kz2 : k ≤ 200000) (g1 : dscale do1 k = d1) (g2 : dabs da = d2) (g3 : dcmp d1 d2 = x1) (g4 : dscale do1 (k + 1) = d3) (g5 : dcmp d2 d3 = y1) (g6 : x1 ≤ 0) (g7 : y1 < 0) :
    Calls Tryd.prog 8 #[.agg #[.bool bda, .bool sa, .slice aa na pa, .int .i64 ea], .int .i64 q] w fun o w' => o = .returned (.bool true) ∧ Below w.heap.size w w' := by
  have HSa := fun W => Lib.hid (slim_any W bda sa aa na pa ea ma true hsa)
  have HW := fun W ht => Lib.hid (awake_any W ht)
  have Ga := Lib.hid Ha
  have Ndu := Lib.hid (show IsN du from f1 ▸ isN_scale _ _)
  have Ndf := Lib.hid (show IsN df from f3 ▸ isN_nrm _ _)
  have Nde := Lib.hid (show IsN de from f4 ▸ isN_add _ _)
  have Ndo1 := Lib.hid (show IsN do1 from f10 ▸ isN_nrm _ _)
  have Ndx := Lib.hid (show IsN dx from f6 ▸ isN_scale _ _)
  have Nd1 := Lib.hid (show IsN d1 from g1 ▸ isN_scale _ _)
  have Nd2 := Lib.hid (show IsN d2 from g2 ▸ isN_abs fa)
  have Nd3 := Lib.hid (show IsN d3 from g4 ▸ isN_scale _ _)
  have HVa := fun W h ht => Lib.hid (rvalid_any W bda sa aa na pa ea da h ht)
  rw [va] at HVa
  have nva : (!false) = true := rfl
  rw [nva] at HVa
  have H1 := fun W (h0 : DyIn W bda sa aa na pa ea da) ht => Lib.hid (dscale_any W _ _ _ _ _ _ r _ h0 ht (by omega) (by omega))
  rw [f1] at H1
  have HFl := fun W h ht => Lib.hid (dfloor_any W bda sa aa na pa ea da h ht)
  rw [f2, va, show (!false) = true from rfl] at HFl
  have HFb := fun W b c (h : Mag W b (nl y.natAbs) c y.natAbs) ht => Lib.hid (fromBig_any W (decide (y < 0)) b _ c _ h (by have := nl_le_blen y.natAbs; omega) ht (by omega) (tz_lim (by omega)))
  rw [sgn_self, f3] at HFb
  have H2 := fun W (h0 : DyIn W bda sa aa na pa ea da) b1 q1 (h1 : Mag W b1 (nl (dman df).natAbs) q1 (dman df).natAbs) ht => Lib.hid (dsub_any W _ _ _ _ _ _ _ _ _ _ _ _ _ _ h0 (dyin_of Ndf.out h1) ht )
  rw [f4] at H2
  have HOn := fun W ht => Lib.hid (dfromInt_any W 1 ht (by omega) (by omega))
  rw [f10] at HOn
  have H3 := fun W b0 q0 (h0 : Mag W b0 (nl (dman de).natAbs) q0 (dman de).natAbs) b1 q1 (h1 : Mag W b1 (nl (dman do1).natAbs) q1 (dman do1).natAbs) ht => Lib.hid (dcmp_any W _ _ _ _ _ _ _ _ _ _ _ _ _ _ (dyin_of Nde.out h0) (dyin_of Ndo1.out h1) ht )
  rw [f5] at H3
  have H4 := fun W b0 q0 (h0 : Mag W b0 (nl (dman du).natAbs) q0 (dman du).natAbs) ht => Lib.hid (dscale_any W _ _ _ _ _ _ rn _ (dyin_of Ndu.out h0) ht (by omega) (by omega))
  rw [f6] at H4
  have H5 := fun W b0 q0 (h0 : Mag W b0 (nl (dman dx).natAbs) q0 (dman dx).natAbs) (h1 : DyIn W bda sa aa na pa ea da) ht => Lib.hid (same_any W _ _ _ _ _ _ _ _ _ _ _ _ _ _ (dyin_of Ndx.out h0) h1 ht true (by rw [f7]; simp))
  have H6 := fun W b0 q0 (h0 : Mag W b0 (nl (dman de).natAbs) q0 (dman de).natAbs) ht => Lib.hid (dsign_any W _ _ _ _ _ _ _ (dyin_of Nde.out h0) ht )
  rw [f8] at H6
  have H7 := fun W (h0 : DyIn W bda sa aa na pa ea da) ht => Lib.hid (dlog_any W _ _ _ _ _ _ _ h0 ht )
  rw [f9, fz] at H7
  have H8 := fun W (h0 : DyIn W bda sa aa na pa ea da) ht => Lib.hid (dsign_any W _ _ _ _ _ _ _ h0 ht )
  rw [f14] at H8
  have H9 := fun W b0 q0 (h0 : Mag W b0 (nl (dman do1).natAbs) q0 (dman do1).natAbs) ht => Lib.hid (dscale_any W _ _ _ _ _ _ k _ (dyin_of Ndo1.out h0) ht (by omega) (by omega))
  rw [g1] at H9
  have H10 := fun W (h0 : DyIn W bda sa aa na pa ea da) ht => Lib.hid (dabs_any W _ _ _ _ _ _ _ h0 ht )
  rw [g2] at H10
  have H11 := fun W b0 q0 (h0 : Mag W b0 (nl (dman d1).natAbs) q0 (dman d1).natAbs) b1 q1 (h1 : Mag W b1 (nl (dman d2).natAbs) q1 (dman d2).natAbs) ht => Lib.hid (dcmp_any W _ _ _ _ _ _ _ _ _ _ _ _ _ _ (dyin_of Nd1.out h0) (dyin_of Nd2.out h1) ht )
  rw [g3] at H11
  have H12 := fun W (h0 : DyIn W bda sa aa na pa ea da) ht => Lib.hid (dabs_any W _ _ _ _ _ _ _ h0 ht )
  rw [g2] at H12
  have H13 := fun W b0 q0 (h0 : Mag W b0 (nl (dman do1).natAbs) q0 (dman do1).natAbs) ht => Lib.hid (dscale_any W _ _ _ _ _ _ (k + 1) _ (dyin_of Ndo1.out h0) ht (by omega) (by omega))
  rw [g4] at H13
  have H14 := fun W b0 q0 (h0 : Mag W b0 (nl (dman d2).natAbs) q0 (dman d2).natAbs) b1 q1 (h1 : Mag W b1 (nl (dman d3).natAbs) q1 (dman d3).natAbs) ht => Lib.hid (dcmp_any W _ _ _ _ _ _ _ _ _ _ _ _ _ _ (dyin_of Nd2.out h0) (dyin_of Nd3.out h1) ht )
  rw [g5] at H14
  have HP := fun W => Lib.hid (place_any W q 4000 (by omega) (by omega))
  have hp0 : IntKind.i64.wrap (placeI q 4000 - 2000) = r := by rw [← hr, IntKind.wrap_i64]; omega
  generalize placeI q 4000 = pq at HP hp0
  have hn0 : -r = rn := hrn.symm
  have hn1 : IntKind.i64.wrap (-r) = rn := by rw [hn0, IntKind.wrap_i64]; omega
  have hn2 : IntKind.i64.wrap rn = rn := by rw [IntKind.wrap_i64]; omega
  have hn3 : -2000 ≤ rn := by omega
  have hn4 : rn ≤ 2000 := by omega
  have hc1 : decide (0 ≤ c) = false := by simp; omega
  have hc2 : decide (g < 0) = false := by simpa using f13
  have hga : (ga == 0) = false := by rw [beq_eq_false_iff_ne]; exact gz
  have hx1 : decide (x1 ≤ 0) = true := by simpa using g6
  have hy1 : decide (y1 < 0) = true := by simpa using g7
  have hk1 : IntKind.i64.wrap (k + 1) = k + 1 := by rw [IntKind.wrap_i64]; omega
  clear hsa va Ha hr hrn hr0 hr1 f1 f2 f3 f4 f5 f6 f7 f8 f9 f10 f11 f12 f13 f14 fa fz gz kz kz2 g1 g2 g3 g4 g5 g6 g7
  go_enter Tryd.func8, Tryd.ntmps8
  go_wp2_with fail
  have I0 := DyV.made w 27 bda sa (.slice aa na pa) ea
  have B0 : Below w.heap.size w (w.alloc (.cells #[.bool bda, .bool sa, .slice aa na pa, .int .i64 ea] 27)) := (by repeat (with_reducible first | refine Below.setCell ?_ (by simp <;> omega) _ | refine Below.alloc ?_ (by simp <;> omega) _ | refine Below.drew ?_ | refine below_drewN ?_ _ | exact Below.refl _ _))
  generalize (w.alloc (.cells #[.bool bda, .bool sa, .slice aa na pa, .int .i64 ea] 27)) = w0 at I0 B0 ⊢
  generalize hb0 : w.heap.size = b0 at I0 ⊢
  obtain ⟨ac0, ac1, ac2, ac3, ac4, ac5⟩ := I0
  have Va0 := Lib.hid (DyV.mk ac0 ac1 ac2 ac3 ac4 ac5)
  refine (HSa _).out.mono ?_
  rintro e w1 ⟨rfl, hb1⟩
  have Va1 : DyV w1 b0 bda sa (.slice aa na pa) ea := (by refine DyV.below ?_ hb1; (repeat (with_reducible first | refine DyV.drew ?_ | refine DyV.drewN ?_ _ | refine DyV.alloc ?_ _)); exact Va0.out)
  obtain ⟨ac0, ac1, ac2, ac3, ac4, ac5⟩ := Va1
  have Va1 := Lib.hid (DyV.mk ac0 ac1 ac2 ac3 ac4 ac5)
  have B1 := below_box (w := w) (by have hszw := (B0).size; repeat (with_reducible first | refine Below.setCell ?_ (by first | omega | (simp <;> omega)) _ | refine Below.alloc ?_ (by first | omega | (simp <;> omega)) _ | refine Below.drew ?_ | refine below_drewN ?_ _ | exact B0)) hb1
  clear hb1
  go_wp2_with fail
  refine (HVa _ (Ga.out.below (by have hszw := (B1).size; repeat (with_reducible first | refine Below.setCell ?_ (by first | omega | (simp <;> omega)) _ | refine Below.alloc ?_ (by first | omega | (simp <;> omega)) _ | refine Below.drew ?_ | refine below_drewN ?_ _ | exact B1))) (hT.below (by have hszw := (B1).size; repeat (with_reducible first | refine Below.setCell ?_ (by first | omega | (simp <;> omega)) _ | refine Below.alloc ?_ (by first | omega | (simp <;> omega)) _ | refine Below.drew ?_ | refine below_drewN ?_ _ | exact B1)))).out.mono ?_
  rintro e w2 ⟨rfl, hb2⟩
  have Va2 : DyV w2 b0 bda sa (.slice aa na pa) ea := (by refine DyV.below ?_ hb2; (repeat (with_reducible first | refine DyV.drew ?_ | refine DyV.drewN ?_ _ | refine DyV.alloc ?_ _)); exact Va1.out)
  obtain ⟨ac0, ac1, ac2, ac3, ac4, ac5⟩ := Va2
  have Va2 := Lib.hid (DyV.mk ac0 ac1 ac2 ac3 ac4 ac5)
  have B2 := below_box (w := w) (by have hszw := (B1).size; repeat (with_reducible first | refine Below.setCell ?_ (by first | omega | (simp <;> omega)) _ | refine Below.alloc ?_ (by first | omega | (simp <;> omega)) _ | refine Below.drew ?_ | refine below_drewN ?_ _ | exact B1)) hb2
  clear hb2
  go_wp2_with fail
  refine (HP _).out.mono ?_
  rintro e w' ⟨rfl, rfl⟩
  go_wp2_with fail
  refine (H1 _ (Ga.out.1.below (by have hszw := (B2).size; repeat (with_reducible first | refine Below.setCell ?_ (by first | omega | (simp <;> omega)) _ | refine Below.alloc ?_ (by first | omega | (simp <;> omega)) _ | refine Below.drew ?_ | refine below_drewN ?_ _ | exact B2))) (hT.below (by have hszw := (B2).size; repeat (with_reducible first | refine Below.setCell ?_ (by first | omega | (simp <;> omega)) _ | refine Below.alloc ?_ (by first | omega | (simp <;> omega)) _ | refine Below.drew ?_ | refine below_drewN ?_ _ | exact B2)))).out.mono ?_
  rintro e w3 ⟨au, cu, rfl, Mu3, hb3, hf3⟩
  have Va3 : DyV w3 b0 bda sa (.slice aa na pa) ea := (by refine DyV.below ?_ hb3; (repeat (with_reducible first | refine DyV.drew ?_ | refine DyV.drewN ?_ _ | refine DyV.alloc ?_ _)); exact Va2.out)
  obtain ⟨ac0, ac1, ac2, ac3, ac4, ac5⟩ := Va3
  have Va3 := Lib.hid (DyV.mk ac0 ac1 ac2 ac3 ac4 ac5)
  have B3 := below_box (w := w) (by have hszw := (B2).size; repeat (with_reducible first | refine Below.setCell ?_ (by first | omega | (simp <;> omega)) _ | refine Below.alloc ?_ (by first | omega | (simp <;> omega)) _ | refine Below.drew ?_ | refine below_drewN ?_ _ | exact B2)) hb3
  clear hb3
  clear hf3
  go_wp2_with fail
  have Vu4 := DyV.made w3 27 (dbad du) (decide (dman du < 0)) (.slice au (nl (dman du).natAbs) cu) (dexp du)
  have Va4 := DyV.alloc Va3.out (.cells #[.bool (dbad du), .bool (decide (dman du < 0)), (.slice au (nl (dman du).natAbs) cu), .int .i64 (dexp du)] 27)
  have Mu4 := Mu3.alloc (.cells #[.bool (dbad du), .bool (decide (dman du < 0)), (.slice au (nl (dman du).natAbs) cu), .int .i64 (dexp du)] 27)
  have B4 : Below w.heap.size w (w3.alloc (.cells #[.bool (dbad du), .bool (decide (dman du < 0)), (.slice au (nl (dman du).natAbs) cu), .int .i64 (dexp du)] 27)) := B3.alloc B3.size _
  generalize (w3.alloc (.cells #[.bool (dbad du), .bool (decide (dman du < 0)), (.slice au (nl (dman du).natAbs) cu), .int .i64 (dexp du)] 27)) = w4 at Vu4 Va4 Mu4 B4 ⊢
  generalize w3.heap.size = zu at Vu4 ⊢
  obtain ⟨ac0, ac1, ac2, ac3, ac4, ac5⟩ := Va4
  have Va4 := Lib.hid (DyV.mk ac0 ac1 ac2 ac3 ac4 ac5)
  obtain ⟨uc0, uc1, uc2, uc3, uc4, uc5⟩ := Vu4
  have Vu4 := Lib.hid (DyV.mk uc0 uc1 uc2 uc3 uc4 uc5)
  refine (HFl _ (Ga.out.1.below (by have hszw := (B4).size; repeat (with_reducible first | refine Below.setCell ?_ (by first | omega | (simp <;> omega)) _ | refine Below.alloc ?_ (by first | omega | (simp <;> omega)) _ | refine Below.drew ?_ | refine below_drewN ?_ _ | exact B4))) (hT.below (by have hszw := (B4).size; repeat (with_reducible first | refine Below.setCell ?_ (by first | omega | (simp <;> omega)) _ | refine Below.alloc ?_ (by first | omega | (simp <;> omega)) _ | refine Below.drew ?_ | refine below_drewN ?_ _ | exact B4)))).out.mono ?_
  rintro e w5 ⟨af, cf, rfl, Mf5, hb5, hf5⟩
  have Va5 : DyV w5 b0 bda sa (.slice aa na pa) ea := (by refine DyV.below ?_ hb5; (repeat (with_reducible first | refine DyV.drew ?_ | refine DyV.drewN ?_ _ | refine DyV.alloc ?_ _)); exact Va4.out)
  obtain ⟨ac0, ac1, ac2, ac3, ac4, ac5⟩ := Va5
  have Va5 := Lib.hid (DyV.mk ac0 ac1 ac2 ac3 ac4 ac5)
  have Vu5 : DyV w5 zu (dbad du) (decide (dman du < 0)) (.slice au (nl (dman du).natAbs) cu) (dexp du) := (by refine DyV.below ?_ hb5; (repeat (with_reducible first | refine DyV.drew ?_ | refine DyV.drewN ?_ _ | refine DyV.alloc ?_ _)); exact Vu4.out)
  obtain ⟨uc0, uc1, uc2, uc3, uc4, uc5⟩ := Vu5
  have Vu5 := Lib.hid (DyV.mk uc0 uc1 uc2 uc3 uc4 uc5)
  have Mu5 : Mag w5 au (nl (dman du).natAbs) cu (dman du).natAbs := Mag.below (by repeat (with_reducible first | refine Mag.set ?_ (fun h => by have := Mu4 h; omega) _ _ | refine Mag.drew ?_ | refine Mag.alloc ?_ _ | refine Mag.drewN ?_ _ | refine Mag.below ?_ (Below.drew (Below.refl _ _)) | refine Mag.below ?_ ((Below.refl _ _).alloc (Nat.le_refl _) _) | exact Mu4)) hb5
  have B5 := below_box (w := w) (by have hszw := (B4).size; repeat (with_reducible first | refine Below.setCell ?_ (by first | omega | (simp <;> omega)) _ | refine Below.alloc ?_ (by first | omega | (simp <;> omega)) _ | refine Below.drew ?_ | refine below_drewN ?_ _ | exact B4)) hb5
  clear hb5 hf5
  go_wp2_with fail
  have Vf6 := BgV.made w5 25 (decide (y < 0)) (.slice af (nl y.natAbs) cf)
  have Va6 := DyV.alloc Va5.out (.cells #[.bool (decide (y < 0)), (.slice af (nl y.natAbs) cf)] 25)
  have Vu6 := DyV.alloc Vu5.out (.cells #[.bool (decide (y < 0)), (.slice af (nl y.natAbs) cf)] 25)
  have Mu6 := Mu5.alloc (.cells #[.bool (decide (y < 0)), (.slice af (nl y.natAbs) cf)] 25)
  have Mf6 := Mf5.alloc (.cells #[.bool (decide (y < 0)), (.slice af (nl y.natAbs) cf)] 25)
  have B6 : Below w.heap.size w (w5.alloc (.cells #[.bool (decide (y < 0)), (.slice af (nl y.natAbs) cf)] 25)) := B5.alloc B5.size _
  generalize (w5.alloc (.cells #[.bool (decide (y < 0)), (.slice af (nl y.natAbs) cf)] 25)) = w6 at Vf6 Va6 Vu6 Mu6 Mf6 B6 ⊢
  generalize w5.heap.size = zf at Vf6 ⊢
  obtain ⟨ac0, ac1, ac2, ac3, ac4, ac5⟩ := Va6
  have Va6 := Lib.hid (DyV.mk ac0 ac1 ac2 ac3 ac4 ac5)
  obtain ⟨uc0, uc1, uc2, uc3, uc4, uc5⟩ := Vu6
  have Vu6 := Lib.hid (DyV.mk uc0 uc1 uc2 uc3 uc4 uc5)
  obtain ⟨fc0, fc1, fc2, fc3⟩ := Vf6
  have Vf6 := Lib.hid (BgV.mk fc0 fc1 fc2 fc3)
  go_cut [8] (fun pte wx => ∃ ze ae ce, pte = .pointer (some ⟨ze, 0, none⟩) ∧ Below w6.heap.size w6 wx ∧ DyV wx ze (dbad de) (decide (dman de < 0)) (.slice ae (nl (dman de).natAbs) ce) (dexp de) ∧ Mag wx ae (nl (dman de).natAbs) ce (dman de).natAbs)
  case first =>
    as_aux_lemma =>
      have hBz6 : Below w6.heap.size w6 w6 := Below.refl _ _
      go_region_held3 (fun w' => w'.cell? ⟨b0, 0, none⟩ = some (.bool bda) ∧ w'.cell? ⟨b0, 1, none⟩ = some (.bool sa) ∧ w'.cell? ⟨b0, 2, none⟩ = some ((.slice aa na pa)) ∧ w'.cell? ⟨b0, 3, none⟩ = some (.int .i64 ea) ∧ w'.cell? ⟨zf, 0, none⟩ = some (.bool (decide (y < 0))) ∧ w'.cell? ⟨zf, 1, none⟩ = some ((.slice af (nl y.natAbs) cf))) (first | (go_keep; done) | (go_simp; done))
        (first
          | (go_at_call 30; have xx := B7; refine (H2 _ (Ga.out.1.below (by have hszw := (B7).size; repeat (with_reducible first | refine Below.setCell ?_ (by first | omega | (simp <;> omega)) _ | refine Below.alloc ?_ (by first | omega | (simp <;> omega)) _ | refine Below.drew ?_ | refine below_drewN ?_ _ | exact B7))) av cv (by repeat (with_reducible first | refine Mag.set ?_ (fun h => by have := Mv7 h; omega) _ _ | refine Mag.drew ?_ | refine Mag.alloc ?_ _ | refine Mag.drewN ?_ _ | refine Mag.below ?_ (Below.drew (Below.refl _ _)) | refine Mag.below ?_ ((Below.refl _ _).alloc (Nat.le_refl _) _) | exact Mv7)) (hT.below (by have hszw := (B7).size; repeat (with_reducible first | refine Below.setCell ?_ (by first | omega | (simp <;> omega)) _ | refine Below.alloc ?_ (by first | omega | (simp <;> omega)) _ | refine Below.drew ?_ | refine below_drewN ?_ _ | exact B7)))).out.mono ?_; rintro e w8 ⟨ae, ce, rfl, Me8, hb8, hf8⟩; have hs8 := hb8.size; (try simp at hs8 hf8); have o8 := Me8.old; have Va8 : DyV w8 b0 bda sa (.slice aa na pa) ea := (by refine DyV.below ?_ hb8; (repeat (with_reducible first | refine DyV.drew ?_ | refine DyV.drewN ?_ _ | refine DyV.alloc ?_ _)); exact Va7.out); obtain ⟨ac0, ac1, ac2, ac3, ac4, ac5⟩ := Va8; have Va8 := Lib.hid (DyV.mk ac0 ac1 ac2 ac3 ac4 ac5); have Vu8 : DyV w8 zu (dbad du) (decide (dman du < 0)) (.slice au (nl (dman du).natAbs) cu) (dexp du) := (by refine DyV.below ?_ hb8; (repeat (with_reducible first | refine DyV.drew ?_ | refine DyV.drewN ?_ _ | refine DyV.alloc ?_ _)); exact Vu7.out); obtain ⟨uc0, uc1, uc2, uc3, uc4, uc5⟩ := Vu8; have Vu8 := Lib.hid (DyV.mk uc0 uc1 uc2 uc3 uc4 uc5); have Vf8 : BgV w8 zf (decide (y < 0)) (.slice af (nl y.natAbs) cf) := (by refine BgV.below ?_ hb8; (repeat (with_reducible first | refine BgV.drew ?_ | refine BgV.drewN ?_ _ | refine BgV.alloc ?_ _)); exact Vf7.out); obtain ⟨fc0, fc1, fc2, fc3⟩ := Vf8; have Vf8 := Lib.hid (BgV.mk fc0 fc1 fc2 fc3); have Mv8 : Mag w8 av (nl (dman df).natAbs) cv (dman df).natAbs := Mag.below (by repeat (with_reducible first | refine Mag.set ?_ (fun h => by have := Mv7 h; omega) _ _ | refine Mag.drew ?_ | refine Mag.alloc ?_ _ | refine Mag.drewN ?_ _ | refine Mag.below ?_ (Below.drew (Below.refl _ _)) | refine Mag.below ?_ ((Below.refl _ _).alloc (Nat.le_refl _) _) | exact Mv7)) hb8; have Mu8 : Mag w8 au (nl (dman du).natAbs) cu (dman du).natAbs := Mag.below (by repeat (with_reducible first | refine Mag.set ?_ (fun h => by have := Mu7 h; omega) _ _ | refine Mag.drew ?_ | refine Mag.alloc ?_ _ | refine Mag.drewN ?_ _ | refine Mag.below ?_ (Below.drew (Below.refl _ _)) | refine Mag.below ?_ ((Below.refl _ _).alloc (Nat.le_refl _) _) | exact Mu7)) hb8; have Mf8 : Mag w8 af (nl y.natAbs) cf y.natAbs := Mag.below (by repeat (with_reducible first | refine Mag.set ?_ (fun h => by have := Mf7 h; omega) _ _ | refine Mag.drew ?_ | refine Mag.alloc ?_ _ | refine Mag.drewN ?_ _ | refine Mag.below ?_ (Below.drew (Below.refl _ _)) | refine Mag.below ?_ ((Below.refl _ _).alloc (Nat.le_refl _) _) | exact Mf7)) hb8; have B8 := below_box (w := w) (by have hszw := (B7).size; repeat (with_reducible first | refine Below.setCell ?_ (by first | omega | (simp <;> omega)) _ | refine Below.alloc ?_ (by first | omega | (simp <;> omega)) _ | refine Below.drew ?_ | refine below_drewN ?_ _ | exact B7)) hb8; have hBz8 : Below w6.heap.size w6 w8 := Below.trans (by have hszw := (hBz7).size; repeat (with_reducible first | refine Below.setCell ?_ (by first | omega | (simp <;> omega)) _ | refine Below.alloc ?_ (by first | omega | (simp <;> omega)) _ | refine Below.drew ?_ | refine below_drewN ?_ _ | exact hBz7)) (hb8.mono (by first | exact Nat.le_refl _ | (simp; done) | omega | (simp <;> omega))); (try (have F0x0 : DyV w8 (w6.heap.size) false false (.slice none 0 0) 0 := (by first | (refine DyV.below ?_ hb8; (repeat (first | exact F0x0.out | (refine DyV.made' _ _ _ _ _ _ ?_; first | rfl | (simp; done)) | with_reducible refine DyV.drew ?_ | with_reducible refine DyV.alloc ?_ _)); done) | fail); obtain ⟨F0x0c0, F0x0c1, F0x0c2, F0x0c3, F0x0c4, F0x0c5⟩ := F0x0; have F0x0 := Lib.hid (DyV.mk F0x0c0 F0x0c1 F0x0c2 F0x0c3 F0x0c4 F0x0c5))); (try (have F1x0 : DyV w8 (w7.heap.size) false false (.slice none 0 0) 0 := (by first | (refine DyV.below ?_ hb8; (repeat (first | exact F1x0.out | (refine DyV.made' _ _ _ _ _ _ ?_; first | rfl | (simp; done)) | with_reducible refine DyV.drew ?_ | with_reducible refine DyV.alloc ?_ _)); done) | fail); obtain ⟨F1x0c0, F1x0c1, F1x0c2, F1x0c3, F1x0c4, F1x0c5⟩ := F1x0; have F1x0 := Lib.hid (DyV.mk F1x0c0 F1x0c1 F1x0c2 F1x0c3 F1x0c4 F1x0c5))))
          | (go_at_call 35; refine (HFb _ af cf (by repeat (with_reducible first | refine Mag.set ?_ (fun h => by have := Mf6 h; omega) _ _ | refine Mag.drew ?_ | refine Mag.alloc ?_ _ | refine Mag.drewN ?_ _ | refine Mag.below ?_ (Below.drew (Below.refl _ _)) | refine Mag.below ?_ ((Below.refl _ _).alloc (Nat.le_refl _) _) | exact Mf6)) (hT.below (by have hszw := (B6).size; repeat (with_reducible first | refine Below.setCell ?_ (by first | omega | (simp <;> omega)) _ | refine Below.alloc ?_ (by first | omega | (simp <;> omega)) _ | refine Below.drew ?_ | refine below_drewN ?_ _ | exact B6)))).out.mono ?_; rintro e w7 ⟨av, cv, rfl, Mv7, hb7, hf7⟩; have hs7 := hb7.size; (try simp at hs7 hf7); have o7 := Mv7.old; have Va7 : DyV w7 b0 bda sa (.slice aa na pa) ea := (by refine DyV.below ?_ hb7; (repeat (with_reducible first | refine DyV.drew ?_ | refine DyV.drewN ?_ _ | refine DyV.alloc ?_ _)); exact Va6.out); obtain ⟨ac0, ac1, ac2, ac3, ac4, ac5⟩ := Va7; have Va7 := Lib.hid (DyV.mk ac0 ac1 ac2 ac3 ac4 ac5); have Vu7 : DyV w7 zu (dbad du) (decide (dman du < 0)) (.slice au (nl (dman du).natAbs) cu) (dexp du) := (by refine DyV.below ?_ hb7; (repeat (with_reducible first | refine DyV.drew ?_ | refine DyV.drewN ?_ _ | refine DyV.alloc ?_ _)); exact Vu6.out); obtain ⟨uc0, uc1, uc2, uc3, uc4, uc5⟩ := Vu7; have Vu7 := Lib.hid (DyV.mk uc0 uc1 uc2 uc3 uc4 uc5); have Vf7 : BgV w7 zf (decide (y < 0)) (.slice af (nl y.natAbs) cf) := (by refine BgV.below ?_ hb7; (repeat (with_reducible first | refine BgV.drew ?_ | refine BgV.drewN ?_ _ | refine BgV.alloc ?_ _)); exact Vf6.out); obtain ⟨fc0, fc1, fc2, fc3⟩ := Vf7; have Vf7 := Lib.hid (BgV.mk fc0 fc1 fc2 fc3); have Mu7 : Mag w7 au (nl (dman du).natAbs) cu (dman du).natAbs := Mag.below (by repeat (with_reducible first | refine Mag.set ?_ (fun h => by have := Mu6 h; omega) _ _ | refine Mag.drew ?_ | refine Mag.alloc ?_ _ | refine Mag.drewN ?_ _ | refine Mag.below ?_ (Below.drew (Below.refl _ _)) | refine Mag.below ?_ ((Below.refl _ _).alloc (Nat.le_refl _) _) | exact Mu6)) hb7; have Mf7 : Mag w7 af (nl y.natAbs) cf y.natAbs := Mag.below (by repeat (with_reducible first | refine Mag.set ?_ (fun h => by have := Mf6 h; omega) _ _ | refine Mag.drew ?_ | refine Mag.alloc ?_ _ | refine Mag.drewN ?_ _ | refine Mag.below ?_ (Below.drew (Below.refl _ _)) | refine Mag.below ?_ ((Below.refl _ _).alloc (Nat.le_refl _) _) | exact Mf6)) hb7; have B7 := below_box (w := w) (by have hszw := (B6).size; repeat (with_reducible first | refine Below.setCell ?_ (by first | omega | (simp <;> omega)) _ | refine Below.alloc ?_ (by first | omega | (simp <;> omega)) _ | refine Below.drew ?_ | refine below_drewN ?_ _ | exact B6)) hb7; have hBz7 : Below w6.heap.size w6 w7 := Below.trans (by have hszw := (hBz6).size; repeat (with_reducible first | refine Below.setCell ?_ (by first | omega | (simp <;> omega)) _ | refine Below.alloc ?_ (by first | omega | (simp <;> omega)) _ | refine Below.drew ?_ | refine below_drewN ?_ _ | exact hBz6)) (hb7.mono (by first | exact Nat.le_refl _ | (simp; done) | omega | (simp <;> omega))); (try (have F0x0 : DyV w7 (w6.heap.size) false false (.slice none 0 0) 0 := (by first | (refine DyV.below ?_ hb7; (repeat (first | exact F0x0.out | (refine DyV.made' _ _ _ _ _ _ ?_; first | rfl | (simp; done)) | with_reducible refine DyV.drew ?_ | with_reducible refine DyV.alloc ?_ _)); done) | fail); obtain ⟨F0x0c0, F0x0c1, F0x0c2, F0x0c3, F0x0c4, F0x0c5⟩ := F0x0; have F0x0 := Lib.hid (DyV.mk F0x0c0 F0x0c1 F0x0c2 F0x0c3 F0x0c4 F0x0c5))))
          | fail)
      all_goals as_aux_lemma => (
        (try have ne0x1 : ¬ w6.heap.size = w7.heap.size := by omega)
        (try have me0x1 : ¬ w7.heap.size = w6.heap.size := by omega)
        (try have ne0x2 : ¬ w6.heap.size = w8.heap.size := by omega)
        (try have me0x2 : ¬ w8.heap.size = w6.heap.size := by omega)
        (try have ne1x2 : ¬ w7.heap.size = w8.heap.size := by omega)
        (try have me1x2 : ¬ w8.heap.size = w7.heap.size := by omega)
        go_wp2_with fail
        go_meet
        refine ⟨_, ae, ce, rfl, ?_, ⟨?_, ?_, ?_, ?_, ?_, ?_⟩, ?_⟩
        · exact (by have hszw := (hBz8).size; repeat (with_reducible first | refine Below.setCell ?_ (by first | omega | (simp <;> omega)) _ | refine Below.alloc ?_ (by first | omega | (simp <;> omega)) _ | refine Below.drew ?_ | refine below_drewN ?_ _ | exact hBz8))
        · go_simp
        · go_simp
        · go_simp
        · go_simp
        · intro i; go_simp
        · first | (simp; done) | omega | (simp <;> omega)
        · repeat (with_reducible first | refine Mag.set ?_ (fun h => by have := hf8 h; have := o8 h; first | omega | (simp; omega)) _ _ | refine Mag.drew ?_ | refine Mag.alloc ?_ _ | exact Me8))
  case rest =>
  obtain ⟨w7, hww⟩ : ∃ w7, w7 = wc := ⟨_, rfl⟩
  subst hww
  obtain ⟨ze, ae, ce, rfl, hbz, Ve7, Me7⟩ := hcut
  have Va7 : DyV w7 b0 bda sa (.slice aa na pa) ea := DyV.below Va6.out hbz
  obtain ⟨ac0, ac1, ac2, ac3, ac4, ac5⟩ := Va7
  have Va7 := Lib.hid (DyV.mk ac0 ac1 ac2 ac3 ac4 ac5)
  have Vu7 : DyV w7 zu (dbad du) (decide (dman du < 0)) (.slice au (nl (dman du).natAbs) cu) (dexp du) := DyV.below Vu6.out hbz
  obtain ⟨uc0, uc1, uc2, uc3, uc4, uc5⟩ := Vu7
  have Vu7 := Lib.hid (DyV.mk uc0 uc1 uc2 uc3 uc4 uc5)
  have Vf7 : BgV w7 zf (decide (y < 0)) (.slice af (nl y.natAbs) cf) := BgV.below Vf6.out hbz
  obtain ⟨fc0, fc1, fc2, fc3⟩ := Vf7
  have Vf7 := Lib.hid (BgV.mk fc0 fc1 fc2 fc3)
  obtain ⟨ec0, ec1, ec2, ec3, ec4, ec5⟩ := Ve7
  have Ve7 := Lib.hid (DyV.mk ec0 ec1 ec2 ec3 ec4 ec5)
  have Mu7 : Mag w7 au (nl (dman du).natAbs) cu (dman du).natAbs := Mu6.below hbz
  have Mf7 : Mag w7 af (nl y.natAbs) cf y.natAbs := Mf6.below hbz
  have B7 := below_box (w := w) B6 hbz
  clear hbz
  go_wp2_with fail
  refine (HOn _ (hT.below (by have hszw := (B7).size; repeat (with_reducible first | refine Below.setCell ?_ (by first | omega | (simp <;> omega)) _ | refine Below.alloc ?_ (by first | omega | (simp <;> omega)) _ | refine Below.drew ?_ | refine below_drewN ?_ _ | exact B7)))).out.mono ?_
  rintro e w8 ⟨ai, ci, rfl, Mi8, hb8, hf8⟩
  have Va8 : DyV w8 b0 bda sa (.slice aa na pa) ea := (by refine DyV.below ?_ hb8; (repeat (with_reducible first | refine DyV.drew ?_ | refine DyV.drewN ?_ _ | refine DyV.alloc ?_ _)); exact Va7.out)
  obtain ⟨ac0, ac1, ac2, ac3, ac4, ac5⟩ := Va8
  have Va8 := Lib.hid (DyV.mk ac0 ac1 ac2 ac3 ac4 ac5)
  have Vu8 : DyV w8 zu (dbad du) (decide (dman du < 0)) (.slice au (nl (dman du).natAbs) cu) (dexp du) := (by refine DyV.below ?_ hb8; (repeat (with_reducible first | refine DyV.drew ?_ | refine DyV.drewN ?_ _ | refine DyV.alloc ?_ _)); exact Vu7.out)
  obtain ⟨uc0, uc1, uc2, uc3, uc4, uc5⟩ := Vu8
  have Vu8 := Lib.hid (DyV.mk uc0 uc1 uc2 uc3 uc4 uc5)
  have Vf8 : BgV w8 zf (decide (y < 0)) (.slice af (nl y.natAbs) cf) := (by refine BgV.below ?_ hb8; (repeat (with_reducible first | refine BgV.drew ?_ | refine BgV.drewN ?_ _ | refine BgV.alloc ?_ _)); exact Vf7.out)
  obtain ⟨fc0, fc1, fc2, fc3⟩ := Vf8
  have Vf8 := Lib.hid (BgV.mk fc0 fc1 fc2 fc3)
  have Ve8 : DyV w8 ze (dbad de) (decide (dman de < 0)) (.slice ae (nl (dman de).natAbs) ce) (dexp de) := (by refine DyV.below ?_ hb8; (repeat (with_reducible first | refine DyV.drew ?_ | refine DyV.drewN ?_ _ | refine DyV.alloc ?_ _)); exact Ve7.out)
  obtain ⟨ec0, ec1, ec2, ec3, ec4, ec5⟩ := Ve8
  have Ve8 := Lib.hid (DyV.mk ec0 ec1 ec2 ec3 ec4 ec5)
  have Mu8 : Mag w8 au (nl (dman du).natAbs) cu (dman du).natAbs := Mag.below (by repeat (with_reducible first | refine Mag.set ?_ (fun h => by have := Mu7 h; omega) _ _ | refine Mag.drew ?_ | refine Mag.alloc ?_ _ | refine Mag.drewN ?_ _ | refine Mag.below ?_ (Below.drew (Below.refl _ _)) | refine Mag.below ?_ ((Below.refl _ _).alloc (Nat.le_refl _) _) | exact Mu7)) hb8
  have Mf8 : Mag w8 af (nl y.natAbs) cf y.natAbs := Mag.below (by repeat (with_reducible first | refine Mag.set ?_ (fun h => by have := Mf7 h; omega) _ _ | refine Mag.drew ?_ | refine Mag.alloc ?_ _ | refine Mag.drewN ?_ _ | refine Mag.below ?_ (Below.drew (Below.refl _ _)) | refine Mag.below ?_ ((Below.refl _ _).alloc (Nat.le_refl _) _) | exact Mf7)) hb8
  have Me8 : Mag w8 ae (nl (dman de).natAbs) ce (dman de).natAbs := Mag.below (by repeat (with_reducible first | refine Mag.set ?_ (fun h => by have := Me7 h; omega) _ _ | refine Mag.drew ?_ | refine Mag.alloc ?_ _ | refine Mag.drewN ?_ _ | refine Mag.below ?_ (Below.drew (Below.refl _ _)) | refine Mag.below ?_ ((Below.refl _ _).alloc (Nat.le_refl _) _) | exact Me7)) hb8
  have B8 := below_box (w := w) (by have hszw := (B7).size; repeat (with_reducible first | refine Below.setCell ?_ (by first | omega | (simp <;> omega)) _ | refine Below.alloc ?_ (by first | omega | (simp <;> omega)) _ | refine Below.drew ?_ | refine below_drewN ?_ _ | exact B7)) hb8
  clear hb8
  clear hf8
  go_wp2_with fail
  have Vi9 := DyV.made w8 27 (dbad do1) (decide (dman do1 < 0)) (.slice ai (nl (dman do1).natAbs) ci) (dexp do1)
  have Va9 := DyV.alloc Va8.out (.cells #[.bool (dbad do1), .bool (decide (dman do1 < 0)), (.slice ai (nl (dman do1).natAbs) ci), .int .i64 (dexp do1)] 27)
  have Vu9 := DyV.alloc Vu8.out (.cells #[.bool (dbad do1), .bool (decide (dman do1 < 0)), (.slice ai (nl (dman do1).natAbs) ci), .int .i64 (dexp do1)] 27)
  have Vf9 := BgV.alloc Vf8.out (.cells #[.bool (dbad do1), .bool (decide (dman do1 < 0)), (.slice ai (nl (dman do1).natAbs) ci), .int .i64 (dexp do1)] 27)
  have Ve9 := DyV.alloc Ve8.out (.cells #[.bool (dbad do1), .bool (decide (dman do1 < 0)), (.slice ai (nl (dman do1).natAbs) ci), .int .i64 (dexp do1)] 27)
  have Mu9 := Mu8.alloc (.cells #[.bool (dbad do1), .bool (decide (dman do1 < 0)), (.slice ai (nl (dman do1).natAbs) ci), .int .i64 (dexp do1)] 27)
  have Mf9 := Mf8.alloc (.cells #[.bool (dbad do1), .bool (decide (dman do1 < 0)), (.slice ai (nl (dman do1).natAbs) ci), .int .i64 (dexp do1)] 27)
  have Me9 := Me8.alloc (.cells #[.bool (dbad do1), .bool (decide (dman do1 < 0)), (.slice ai (nl (dman do1).natAbs) ci), .int .i64 (dexp do1)] 27)
  have Mi9 := Mi8.alloc (.cells #[.bool (dbad do1), .bool (decide (dman do1 < 0)), (.slice ai (nl (dman do1).natAbs) ci), .int .i64 (dexp do1)] 27)
  have B9 : Below w.heap.size w (w8.alloc (.cells #[.bool (dbad do1), .bool (decide (dman do1 < 0)), (.slice ai (nl (dman do1).natAbs) ci), .int .i64 (dexp do1)] 27)) := B8.alloc B8.size _
  generalize (w8.alloc (.cells #[.bool (dbad do1), .bool (decide (dman do1 < 0)), (.slice ai (nl (dman do1).natAbs) ci), .int .i64 (dexp do1)] 27)) = w9 at Vi9 Va9 Vu9 Vf9 Ve9 Mu9 Mf9 Me9 Mi9 B9 ⊢
  generalize w8.heap.size = zi at Vi9 ⊢
  obtain ⟨ac0, ac1, ac2, ac3, ac4, ac5⟩ := Va9
  have Va9 := Lib.hid (DyV.mk ac0 ac1 ac2 ac3 ac4 ac5)
  obtain ⟨uc0, uc1, uc2, uc3, uc4, uc5⟩ := Vu9
  have Vu9 := Lib.hid (DyV.mk uc0 uc1 uc2 uc3 uc4 uc5)
  obtain ⟨fc0, fc1, fc2, fc3⟩ := Vf9
  have Vf9 := Lib.hid (BgV.mk fc0 fc1 fc2 fc3)
  obtain ⟨ec0, ec1, ec2, ec3, ec4, ec5⟩ := Ve9
  have Ve9 := Lib.hid (DyV.mk ec0 ec1 ec2 ec3 ec4 ec5)
  obtain ⟨ic0, ic1, ic2, ic3, ic4, ic5⟩ := Vi9
  have Vi9 := Lib.hid (DyV.mk ic0 ic1 ic2 ic3 ic4 ic5)
  refine (H3 _ ae ce (by repeat (with_reducible first | refine Mag.set ?_ (fun h => by have := Me9 h; omega) _ _ | refine Mag.drew ?_ | refine Mag.alloc ?_ _ | refine Mag.drewN ?_ _ | refine Mag.below ?_ (Below.drew (Below.refl _ _)) | refine Mag.below ?_ ((Below.refl _ _).alloc (Nat.le_refl _) _) | exact Me9)) ai ci (by repeat (with_reducible first | refine Mag.set ?_ (fun h => by have := Mi9 h; omega) _ _ | refine Mag.drew ?_ | refine Mag.alloc ?_ _ | refine Mag.drewN ?_ _ | refine Mag.below ?_ (Below.drew (Below.refl _ _)) | refine Mag.below ?_ ((Below.refl _ _).alloc (Nat.le_refl _) _) | exact Mi9)) (hT.below (by have hszw := (B9).size; repeat (with_reducible first | refine Below.setCell ?_ (by first | omega | (simp <;> omega)) _ | refine Below.alloc ?_ (by first | omega | (simp <;> omega)) _ | refine Below.drew ?_ | refine below_drewN ?_ _ | exact B9)))).out.mono ?_
  rintro e w10 ⟨rfl, hb10⟩
  have Va10 : DyV w10 b0 bda sa (.slice aa na pa) ea := (by refine DyV.below ?_ hb10; (repeat (with_reducible first | refine DyV.drew ?_ | refine DyV.drewN ?_ _ | refine DyV.alloc ?_ _)); exact Va9.out)
  obtain ⟨ac0, ac1, ac2, ac3, ac4, ac5⟩ := Va10
  have Va10 := Lib.hid (DyV.mk ac0 ac1 ac2 ac3 ac4 ac5)
  have Vu10 : DyV w10 zu (dbad du) (decide (dman du < 0)) (.slice au (nl (dman du).natAbs) cu) (dexp du) := (by refine DyV.below ?_ hb10; (repeat (with_reducible first | refine DyV.drew ?_ | refine DyV.drewN ?_ _ | refine DyV.alloc ?_ _)); exact Vu9.out)
  obtain ⟨uc0, uc1, uc2, uc3, uc4, uc5⟩ := Vu10
  have Vu10 := Lib.hid (DyV.mk uc0 uc1 uc2 uc3 uc4 uc5)
  have Vf10 : BgV w10 zf (decide (y < 0)) (.slice af (nl y.natAbs) cf) := (by refine BgV.below ?_ hb10; (repeat (with_reducible first | refine BgV.drew ?_ | refine BgV.drewN ?_ _ | refine BgV.alloc ?_ _)); exact Vf9.out)
  obtain ⟨fc0, fc1, fc2, fc3⟩ := Vf10
  have Vf10 := Lib.hid (BgV.mk fc0 fc1 fc2 fc3)
  have Ve10 : DyV w10 ze (dbad de) (decide (dman de < 0)) (.slice ae (nl (dman de).natAbs) ce) (dexp de) := (by refine DyV.below ?_ hb10; (repeat (with_reducible first | refine DyV.drew ?_ | refine DyV.drewN ?_ _ | refine DyV.alloc ?_ _)); exact Ve9.out)
  obtain ⟨ec0, ec1, ec2, ec3, ec4, ec5⟩ := Ve10
  have Ve10 := Lib.hid (DyV.mk ec0 ec1 ec2 ec3 ec4 ec5)
  have Vi10 : DyV w10 zi (dbad do1) (decide (dman do1 < 0)) (.slice ai (nl (dman do1).natAbs) ci) (dexp do1) := (by refine DyV.below ?_ hb10; (repeat (with_reducible first | refine DyV.drew ?_ | refine DyV.drewN ?_ _ | refine DyV.alloc ?_ _)); exact Vi9.out)
  obtain ⟨ic0, ic1, ic2, ic3, ic4, ic5⟩ := Vi10
  have Vi10 := Lib.hid (DyV.mk ic0 ic1 ic2 ic3 ic4 ic5)
  have Mu10 : Mag w10 au (nl (dman du).natAbs) cu (dman du).natAbs := Mag.below (by repeat (with_reducible first | refine Mag.set ?_ (fun h => by have := Mu9 h; omega) _ _ | refine Mag.drew ?_ | refine Mag.alloc ?_ _ | refine Mag.drewN ?_ _ | refine Mag.below ?_ (Below.drew (Below.refl _ _)) | refine Mag.below ?_ ((Below.refl _ _).alloc (Nat.le_refl _) _) | exact Mu9)) hb10
  have Mf10 : Mag w10 af (nl y.natAbs) cf y.natAbs := Mag.below (by repeat (with_reducible first | refine Mag.set ?_ (fun h => by have := Mf9 h; omega) _ _ | refine Mag.drew ?_ | refine Mag.alloc ?_ _ | refine Mag.drewN ?_ _ | refine Mag.below ?_ (Below.drew (Below.refl _ _)) | refine Mag.below ?_ ((Below.refl _ _).alloc (Nat.le_refl _) _) | exact Mf9)) hb10
  have Me10 : Mag w10 ae (nl (dman de).natAbs) ce (dman de).natAbs := Mag.below (by repeat (with_reducible first | refine Mag.set ?_ (fun h => by have := Me9 h; omega) _ _ | refine Mag.drew ?_ | refine Mag.alloc ?_ _ | refine Mag.drewN ?_ _ | refine Mag.below ?_ (Below.drew (Below.refl _ _)) | refine Mag.below ?_ ((Below.refl _ _).alloc (Nat.le_refl _) _) | exact Me9)) hb10
  have Mi10 : Mag w10 ai (nl (dman do1).natAbs) ci (dman do1).natAbs := Mag.below (by repeat (with_reducible first | refine Mag.set ?_ (fun h => by have := Mi9 h; omega) _ _ | refine Mag.drew ?_ | refine Mag.alloc ?_ _ | refine Mag.drewN ?_ _ | refine Mag.below ?_ (Below.drew (Below.refl _ _)) | refine Mag.below ?_ ((Below.refl _ _).alloc (Nat.le_refl _) _) | exact Mi9)) hb10
  have B10 := below_box (w := w) (by have hszw := (B9).size; repeat (with_reducible first | refine Below.setCell ?_ (by first | omega | (simp <;> omega)) _ | refine Below.alloc ?_ (by first | omega | (simp <;> omega)) _ | refine Below.drew ?_ | refine below_drewN ?_ _ | exact B9)) hb10
  clear hb10
  go_wp2_with fail
  first
  | go_region_held3 (fun w' => w'.cell? ⟨b0, 0, none⟩ = some (.bool bda) ∧ w'.cell? ⟨b0, 1, none⟩ = some (.bool sa) ∧ w'.cell? ⟨b0, 2, none⟩ = some ((.slice aa na pa)) ∧ w'.cell? ⟨b0, 3, none⟩ = some (.int .i64 ea) ∧ w'.cell? ⟨zu, 0, none⟩ = some (.bool (dbad du)) ∧ w'.cell? ⟨zu, 1, none⟩ = some (.bool (decide (dman du < 0))) ∧ w'.cell? ⟨zu, 2, none⟩ = some ((.slice au (nl (dman du).natAbs) cu)) ∧ w'.cell? ⟨zu, 3, none⟩ = some (.int .i64 (dexp du)) ∧ w'.cell? ⟨ze, 0, none⟩ = some (.bool (dbad de)) ∧ w'.cell? ⟨ze, 1, none⟩ = some (.bool (decide (dman de < 0))) ∧ w'.cell? ⟨ze, 2, none⟩ = some ((.slice ae (nl (dman de).natAbs) ce)) ∧ w'.cell? ⟨ze, 3, none⟩ = some (.int .i64 (dexp de))) (first | (go_keep; done) | (go_simp; done))
      (first
        | (go_at_call 31; have xx := B12; refine (H6 _ ae ce (by repeat (with_reducible first | refine Mag.set ?_ (fun h => by have := Me12 h; omega) _ _ | refine Mag.drew ?_ | refine Mag.alloc ?_ _ | refine Mag.drewN ?_ _ | refine Mag.below ?_ (Below.drew (Below.refl _ _)) | refine Mag.below ?_ ((Below.refl _ _).alloc (Nat.le_refl _) _) | exact Me12)) (hT.below (by have hszw := (B12).size; repeat (with_reducible first | refine Below.setCell ?_ (by first | omega | (simp <;> omega)) _ | refine Below.alloc ?_ (by first | omega | (simp <;> omega)) _ | refine Below.drew ?_ | refine below_drewN ?_ _ | exact B12)))).out.mono ?_; rintro e w13 ⟨rfl, hb13⟩; have Va13 : DyV w13 b0 bda sa (.slice aa na pa) ea := (by refine DyV.below ?_ hb13; (repeat (with_reducible first | refine DyV.drew ?_ | refine DyV.drewN ?_ _ | refine DyV.alloc ?_ _)); exact Va12.out); obtain ⟨ac0, ac1, ac2, ac3, ac4, ac5⟩ := Va13; have Va13 := Lib.hid (DyV.mk ac0 ac1 ac2 ac3 ac4 ac5); have Vu13 : DyV w13 zu (dbad du) (decide (dman du < 0)) (.slice au (nl (dman du).natAbs) cu) (dexp du) := (by refine DyV.below ?_ hb13; (repeat (with_reducible first | refine DyV.drew ?_ | refine DyV.drewN ?_ _ | refine DyV.alloc ?_ _)); exact Vu12.out); obtain ⟨uc0, uc1, uc2, uc3, uc4, uc5⟩ := Vu13; have Vu13 := Lib.hid (DyV.mk uc0 uc1 uc2 uc3 uc4 uc5); have Vf13 : BgV w13 zf (decide (y < 0)) (.slice af (nl y.natAbs) cf) := (by refine BgV.below ?_ hb13; (repeat (with_reducible first | refine BgV.drew ?_ | refine BgV.drewN ?_ _ | refine BgV.alloc ?_ _)); exact Vf12.out); obtain ⟨fc0, fc1, fc2, fc3⟩ := Vf13; have Vf13 := Lib.hid (BgV.mk fc0 fc1 fc2 fc3); have Ve13 : DyV w13 ze (dbad de) (decide (dman de < 0)) (.slice ae (nl (dman de).natAbs) ce) (dexp de) := (by refine DyV.below ?_ hb13; (repeat (with_reducible first | refine DyV.drew ?_ | refine DyV.drewN ?_ _ | refine DyV.alloc ?_ _)); exact Ve12.out); obtain ⟨ec0, ec1, ec2, ec3, ec4, ec5⟩ := Ve13; have Ve13 := Lib.hid (DyV.mk ec0 ec1 ec2 ec3 ec4 ec5); have Vi13 : DyV w13 zi (dbad do1) (decide (dman do1 < 0)) (.slice ai (nl (dman do1).natAbs) ci) (dexp do1) := (by refine DyV.below ?_ hb13; (repeat (with_reducible first | refine DyV.drew ?_ | refine DyV.drewN ?_ _ | refine DyV.alloc ?_ _)); exact Vi12.out); obtain ⟨ic0, ic1, ic2, ic3, ic4, ic5⟩ := Vi13; have Vi13 := Lib.hid (DyV.mk ic0 ic1 ic2 ic3 ic4 ic5); have Mu13 : Mag w13 au (nl (dman du).natAbs) cu (dman du).natAbs := Mag.below (by repeat (with_reducible first | refine Mag.set ?_ (fun h => by have := Mu12 h; omega) _ _ | refine Mag.drew ?_ | refine Mag.alloc ?_ _ | refine Mag.drewN ?_ _ | refine Mag.below ?_ (Below.drew (Below.refl _ _)) | refine Mag.below ?_ ((Below.refl _ _).alloc (Nat.le_refl _) _) | exact Mu12)) hb13; have Mf13 : Mag w13 af (nl y.natAbs) cf y.natAbs := Mag.below (by repeat (with_reducible first | refine Mag.set ?_ (fun h => by have := Mf12 h; omega) _ _ | refine Mag.drew ?_ | refine Mag.alloc ?_ _ | refine Mag.drewN ?_ _ | refine Mag.below ?_ (Below.drew (Below.refl _ _)) | refine Mag.below ?_ ((Below.refl _ _).alloc (Nat.le_refl _) _) | exact Mf12)) hb13; have Me13 : Mag w13 ae (nl (dman de).natAbs) ce (dman de).natAbs := Mag.below (by repeat (with_reducible first | refine Mag.set ?_ (fun h => by have := Me12 h; omega) _ _ | refine Mag.drew ?_ | refine Mag.alloc ?_ _ | refine Mag.drewN ?_ _ | refine Mag.below ?_ (Below.drew (Below.refl _ _)) | refine Mag.below ?_ ((Below.refl _ _).alloc (Nat.le_refl _) _) | exact Me12)) hb13; have Mi13 : Mag w13 ai (nl (dman do1).natAbs) ci (dman do1).natAbs := Mag.below (by repeat (with_reducible first | refine Mag.set ?_ (fun h => by have := Mi12 h; omega) _ _ | refine Mag.drew ?_ | refine Mag.alloc ?_ _ | refine Mag.drewN ?_ _ | refine Mag.below ?_ (Below.drew (Below.refl _ _)) | refine Mag.below ?_ ((Below.refl _ _).alloc (Nat.le_refl _) _) | exact Mi12)) hb13; have Mx13 : Mag w13 ax (nl (dman dx).natAbs) cx (dman dx).natAbs := Mag.below (by repeat (with_reducible first | refine Mag.set ?_ (fun h => by have := Mx12 h; omega) _ _ | refine Mag.drew ?_ | refine Mag.alloc ?_ _ | refine Mag.drewN ?_ _ | refine Mag.below ?_ (Below.drew (Below.refl _ _)) | refine Mag.below ?_ ((Below.refl _ _).alloc (Nat.le_refl _) _) | exact Mx12)) hb13; have B13 := below_box (w := w) (by have hszw := (B12).size; repeat (with_reducible first | refine Below.setCell ?_ (by first | omega | (simp <;> omega)) _ | refine Below.alloc ?_ (by first | omega | (simp <;> omega)) _ | refine Below.drew ?_ | refine below_drewN ?_ _ | exact B12)) hb13; clear hb13)
        | (go_at_call 27; have xx := B11; refine (H5 _ ax cx (by repeat (with_reducible first | refine Mag.set ?_ (fun h => by have := Mx11 h; omega) _ _ | refine Mag.drew ?_ | refine Mag.alloc ?_ _ | refine Mag.drewN ?_ _ | refine Mag.below ?_ (Below.drew (Below.refl _ _)) | refine Mag.below ?_ ((Below.refl _ _).alloc (Nat.le_refl _) _) | exact Mx11)) (Ga.out.1.below (by have hszw := (B11).size; repeat (with_reducible first | refine Below.setCell ?_ (by first | omega | (simp <;> omega)) _ | refine Below.alloc ?_ (by first | omega | (simp <;> omega)) _ | refine Below.drew ?_ | refine below_drewN ?_ _ | exact B11))) (hT.below (by have hszw := (B11).size; repeat (with_reducible first | refine Below.setCell ?_ (by first | omega | (simp <;> omega)) _ | refine Below.alloc ?_ (by first | omega | (simp <;> omega)) _ | refine Below.drew ?_ | refine below_drewN ?_ _ | exact B11)))).out.mono ?_; rintro e w12 ⟨rfl, hb12⟩; have Va12 : DyV w12 b0 bda sa (.slice aa na pa) ea := (by refine DyV.below ?_ hb12; (repeat (with_reducible first | refine DyV.drew ?_ | refine DyV.drewN ?_ _ | refine DyV.alloc ?_ _)); exact Va11.out); obtain ⟨ac0, ac1, ac2, ac3, ac4, ac5⟩ := Va12; have Va12 := Lib.hid (DyV.mk ac0 ac1 ac2 ac3 ac4 ac5); have Vu12 : DyV w12 zu (dbad du) (decide (dman du < 0)) (.slice au (nl (dman du).natAbs) cu) (dexp du) := (by refine DyV.below ?_ hb12; (repeat (with_reducible first | refine DyV.drew ?_ | refine DyV.drewN ?_ _ | refine DyV.alloc ?_ _)); exact Vu11.out); obtain ⟨uc0, uc1, uc2, uc3, uc4, uc5⟩ := Vu12; have Vu12 := Lib.hid (DyV.mk uc0 uc1 uc2 uc3 uc4 uc5); have Vf12 : BgV w12 zf (decide (y < 0)) (.slice af (nl y.natAbs) cf) := (by refine BgV.below ?_ hb12; (repeat (with_reducible first | refine BgV.drew ?_ | refine BgV.drewN ?_ _ | refine BgV.alloc ?_ _)); exact Vf11.out); obtain ⟨fc0, fc1, fc2, fc3⟩ := Vf12; have Vf12 := Lib.hid (BgV.mk fc0 fc1 fc2 fc3); have Ve12 : DyV w12 ze (dbad de) (decide (dman de < 0)) (.slice ae (nl (dman de).natAbs) ce) (dexp de) := (by refine DyV.below ?_ hb12; (repeat (with_reducible first | refine DyV.drew ?_ | refine DyV.drewN ?_ _ | refine DyV.alloc ?_ _)); exact Ve11.out); obtain ⟨ec0, ec1, ec2, ec3, ec4, ec5⟩ := Ve12; have Ve12 := Lib.hid (DyV.mk ec0 ec1 ec2 ec3 ec4 ec5); have Vi12 : DyV w12 zi (dbad do1) (decide (dman do1 < 0)) (.slice ai (nl (dman do1).natAbs) ci) (dexp do1) := (by refine DyV.below ?_ hb12; (repeat (with_reducible first | refine DyV.drew ?_ | refine DyV.drewN ?_ _ | refine DyV.alloc ?_ _)); exact Vi11.out); obtain ⟨ic0, ic1, ic2, ic3, ic4, ic5⟩ := Vi12; have Vi12 := Lib.hid (DyV.mk ic0 ic1 ic2 ic3 ic4 ic5); have Mu12 : Mag w12 au (nl (dman du).natAbs) cu (dman du).natAbs := Mag.below (by repeat (with_reducible first | refine Mag.set ?_ (fun h => by have := Mu11 h; omega) _ _ | refine Mag.drew ?_ | refine Mag.alloc ?_ _ | refine Mag.drewN ?_ _ | refine Mag.below ?_ (Below.drew (Below.refl _ _)) | refine Mag.below ?_ ((Below.refl _ _).alloc (Nat.le_refl _) _) | exact Mu11)) hb12; have Mf12 : Mag w12 af (nl y.natAbs) cf y.natAbs := Mag.below (by repeat (with_reducible first | refine Mag.set ?_ (fun h => by have := Mf11 h; omega) _ _ | refine Mag.drew ?_ | refine Mag.alloc ?_ _ | refine Mag.drewN ?_ _ | refine Mag.below ?_ (Below.drew (Below.refl _ _)) | refine Mag.below ?_ ((Below.refl _ _).alloc (Nat.le_refl _) _) | exact Mf11)) hb12; have Me12 : Mag w12 ae (nl (dman de).natAbs) ce (dman de).natAbs := Mag.below (by repeat (with_reducible first | refine Mag.set ?_ (fun h => by have := Me11 h; omega) _ _ | refine Mag.drew ?_ | refine Mag.alloc ?_ _ | refine Mag.drewN ?_ _ | refine Mag.below ?_ (Below.drew (Below.refl _ _)) | refine Mag.below ?_ ((Below.refl _ _).alloc (Nat.le_refl _) _) | exact Me11)) hb12; have Mi12 : Mag w12 ai (nl (dman do1).natAbs) ci (dman do1).natAbs := Mag.below (by repeat (with_reducible first | refine Mag.set ?_ (fun h => by have := Mi11 h; omega) _ _ | refine Mag.drew ?_ | refine Mag.alloc ?_ _ | refine Mag.drewN ?_ _ | refine Mag.below ?_ (Below.drew (Below.refl _ _)) | refine Mag.below ?_ ((Below.refl _ _).alloc (Nat.le_refl _) _) | exact Mi11)) hb12; have Mx12 : Mag w12 ax (nl (dman dx).natAbs) cx (dman dx).natAbs := Mag.below (by repeat (with_reducible first | refine Mag.set ?_ (fun h => by have := Mx11 h; omega) _ _ | refine Mag.drew ?_ | refine Mag.alloc ?_ _ | refine Mag.drewN ?_ _ | refine Mag.below ?_ (Below.drew (Below.refl _ _)) | refine Mag.below ?_ ((Below.refl _ _).alloc (Nat.le_refl _) _) | exact Mx11)) hb12; have B12 := below_box (w := w) (by have hszw := (B11).size; repeat (with_reducible first | refine Below.setCell ?_ (by first | omega | (simp <;> omega)) _ | refine Below.alloc ?_ (by first | omega | (simp <;> omega)) _ | refine Below.drew ?_ | refine below_drewN ?_ _ | exact B11)) hb12; clear hb12)
        | (go_at_call 33; have xx := B10; refine (H4 _ au cu (by repeat (with_reducible first | refine Mag.set ?_ (fun h => by have := Mu10 h; omega) _ _ | refine Mag.drew ?_ | refine Mag.alloc ?_ _ | refine Mag.drewN ?_ _ | refine Mag.below ?_ (Below.drew (Below.refl _ _)) | refine Mag.below ?_ ((Below.refl _ _).alloc (Nat.le_refl _) _) | exact Mu10)) (hT.below (by have hszw := (B10).size; repeat (with_reducible first | refine Below.setCell ?_ (by first | omega | (simp <;> omega)) _ | refine Below.alloc ?_ (by first | omega | (simp <;> omega)) _ | refine Below.drew ?_ | refine below_drewN ?_ _ | exact B10)))).out.mono ?_; rintro e w11 ⟨ax, cx, rfl, Mx11, hb11, hf11⟩; have Va11 : DyV w11 b0 bda sa (.slice aa na pa) ea := (by refine DyV.below ?_ hb11; (repeat (with_reducible first | refine DyV.drew ?_ | refine DyV.drewN ?_ _ | refine DyV.alloc ?_ _)); exact Va10.out); obtain ⟨ac0, ac1, ac2, ac3, ac4, ac5⟩ := Va11; have Va11 := Lib.hid (DyV.mk ac0 ac1 ac2 ac3 ac4 ac5); have Vu11 : DyV w11 zu (dbad du) (decide (dman du < 0)) (.slice au (nl (dman du).natAbs) cu) (dexp du) := (by refine DyV.below ?_ hb11; (repeat (with_reducible first | refine DyV.drew ?_ | refine DyV.drewN ?_ _ | refine DyV.alloc ?_ _)); exact Vu10.out); obtain ⟨uc0, uc1, uc2, uc3, uc4, uc5⟩ := Vu11; have Vu11 := Lib.hid (DyV.mk uc0 uc1 uc2 uc3 uc4 uc5); have Vf11 : BgV w11 zf (decide (y < 0)) (.slice af (nl y.natAbs) cf) := (by refine BgV.below ?_ hb11; (repeat (with_reducible first | refine BgV.drew ?_ | refine BgV.drewN ?_ _ | refine BgV.alloc ?_ _)); exact Vf10.out); obtain ⟨fc0, fc1, fc2, fc3⟩ := Vf11; have Vf11 := Lib.hid (BgV.mk fc0 fc1 fc2 fc3); have Ve11 : DyV w11 ze (dbad de) (decide (dman de < 0)) (.slice ae (nl (dman de).natAbs) ce) (dexp de) := (by refine DyV.below ?_ hb11; (repeat (with_reducible first | refine DyV.drew ?_ | refine DyV.drewN ?_ _ | refine DyV.alloc ?_ _)); exact Ve10.out); obtain ⟨ec0, ec1, ec2, ec3, ec4, ec5⟩ := Ve11; have Ve11 := Lib.hid (DyV.mk ec0 ec1 ec2 ec3 ec4 ec5); have Vi11 : DyV w11 zi (dbad do1) (decide (dman do1 < 0)) (.slice ai (nl (dman do1).natAbs) ci) (dexp do1) := (by refine DyV.below ?_ hb11; (repeat (with_reducible first | refine DyV.drew ?_ | refine DyV.drewN ?_ _ | refine DyV.alloc ?_ _)); exact Vi10.out); obtain ⟨ic0, ic1, ic2, ic3, ic4, ic5⟩ := Vi11; have Vi11 := Lib.hid (DyV.mk ic0 ic1 ic2 ic3 ic4 ic5); have Mu11 : Mag w11 au (nl (dman du).natAbs) cu (dman du).natAbs := Mag.below (by repeat (with_reducible first | refine Mag.set ?_ (fun h => by have := Mu10 h; omega) _ _ | refine Mag.drew ?_ | refine Mag.alloc ?_ _ | refine Mag.drewN ?_ _ | refine Mag.below ?_ (Below.drew (Below.refl _ _)) | refine Mag.below ?_ ((Below.refl _ _).alloc (Nat.le_refl _) _) | exact Mu10)) hb11; have Mf11 : Mag w11 af (nl y.natAbs) cf y.natAbs := Mag.below (by repeat (with_reducible first | refine Mag.set ?_ (fun h => by have := Mf10 h; omega) _ _ | refine Mag.drew ?_ | refine Mag.alloc ?_ _ | refine Mag.drewN ?_ _ | refine Mag.below ?_ (Below.drew (Below.refl _ _)) | refine Mag.below ?_ ((Below.refl _ _).alloc (Nat.le_refl _) _) | exact Mf10)) hb11; have Me11 : Mag w11 ae (nl (dman de).natAbs) ce (dman de).natAbs := Mag.below (by repeat (with_reducible first | refine Mag.set ?_ (fun h => by have := Me10 h; omega) _ _ | refine Mag.drew ?_ | refine Mag.alloc ?_ _ | refine Mag.drewN ?_ _ | refine Mag.below ?_ (Below.drew (Below.refl _ _)) | refine Mag.below ?_ ((Below.refl _ _).alloc (Nat.le_refl _) _) | exact Me10)) hb11; have Mi11 : Mag w11 ai (nl (dman do1).natAbs) ci (dman do1).natAbs := Mag.below (by repeat (with_reducible first | refine Mag.set ?_ (fun h => by have := Mi10 h; omega) _ _ | refine Mag.drew ?_ | refine Mag.alloc ?_ _ | refine Mag.drewN ?_ _ | refine Mag.below ?_ (Below.drew (Below.refl _ _)) | refine Mag.below ?_ ((Below.refl _ _).alloc (Nat.le_refl _) _) | exact Mi10)) hb11; have B11 := below_box (w := w) (by have hszw := (B10).size; repeat (with_reducible first | refine Below.setCell ?_ (by first | omega | (simp <;> omega)) _ | refine Below.alloc ?_ (by first | omega | (simp <;> omega)) _ | refine Below.drew ?_ | refine below_drewN ?_ _ | exact B10)) hb11; clear hb11; clear hf11)
        | fail)
  | fail "region"
  go_wp2_with fail
  refine (H7 _ (Ga.out.1.below (by have hszw := (B13).size; repeat (with_reducible first | refine Below.setCell ?_ (by first | omega | (simp <;> omega)) _ | refine Below.alloc ?_ (by first | omega | (simp <;> omega)) _ | refine Below.drew ?_ | refine below_drewN ?_ _ | exact B13))) (hT.below (by have hszw := (B13).size; repeat (with_reducible first | refine Below.setCell ?_ (by first | omega | (simp <;> omega)) _ | refine Below.alloc ?_ (by first | omega | (simp <;> omega)) _ | refine Below.drew ?_ | refine below_drewN ?_ _ | exact B13)))).out.mono ?_
  rintro e w14 ⟨rfl, hb14⟩
  have Va14 : DyV w14 b0 bda sa (.slice aa na pa) ea := (by refine DyV.below ?_ hb14; (repeat (with_reducible first | refine DyV.drew ?_ | refine DyV.drewN ?_ _ | refine DyV.alloc ?_ _)); exact Va13.out)
  obtain ⟨ac0, ac1, ac2, ac3, ac4, ac5⟩ := Va14
  have Va14 := Lib.hid (DyV.mk ac0 ac1 ac2 ac3 ac4 ac5)
  have Vu14 : DyV w14 zu (dbad du) (decide (dman du < 0)) (.slice au (nl (dman du).natAbs) cu) (dexp du) := (by refine DyV.below ?_ hb14; (repeat (with_reducible first | refine DyV.drew ?_ | refine DyV.drewN ?_ _ | refine DyV.alloc ?_ _)); exact Vu13.out)
  obtain ⟨uc0, uc1, uc2, uc3, uc4, uc5⟩ := Vu14
  have Vu14 := Lib.hid (DyV.mk uc0 uc1 uc2 uc3 uc4 uc5)
  have Vf14 : BgV w14 zf (decide (y < 0)) (.slice af (nl y.natAbs) cf) := (by refine BgV.below ?_ hb14; (repeat (with_reducible first | refine BgV.drew ?_ | refine BgV.drewN ?_ _ | refine BgV.alloc ?_ _)); exact Vf13.out)
  obtain ⟨fc0, fc1, fc2, fc3⟩ := Vf14
  have Vf14 := Lib.hid (BgV.mk fc0 fc1 fc2 fc3)
  have Ve14 : DyV w14 ze (dbad de) (decide (dman de < 0)) (.slice ae (nl (dman de).natAbs) ce) (dexp de) := (by refine DyV.below ?_ hb14; (repeat (with_reducible first | refine DyV.drew ?_ | refine DyV.drewN ?_ _ | refine DyV.alloc ?_ _)); exact Ve13.out)
  obtain ⟨ec0, ec1, ec2, ec3, ec4, ec5⟩ := Ve14
  have Ve14 := Lib.hid (DyV.mk ec0 ec1 ec2 ec3 ec4 ec5)
  have Vi14 : DyV w14 zi (dbad do1) (decide (dman do1 < 0)) (.slice ai (nl (dman do1).natAbs) ci) (dexp do1) := (by refine DyV.below ?_ hb14; (repeat (with_reducible first | refine DyV.drew ?_ | refine DyV.drewN ?_ _ | refine DyV.alloc ?_ _)); exact Vi13.out)
  obtain ⟨ic0, ic1, ic2, ic3, ic4, ic5⟩ := Vi14
  have Vi14 := Lib.hid (DyV.mk ic0 ic1 ic2 ic3 ic4 ic5)
  have Mu14 : Mag w14 au (nl (dman du).natAbs) cu (dman du).natAbs := Mag.below (by repeat (with_reducible first | refine Mag.set ?_ (fun h => by have := Mu13 h; omega) _ _ | refine Mag.drew ?_ | refine Mag.alloc ?_ _ | refine Mag.drewN ?_ _ | refine Mag.below ?_ (Below.drew (Below.refl _ _)) | refine Mag.below ?_ ((Below.refl _ _).alloc (Nat.le_refl _) _) | exact Mu13)) hb14
  have Mf14 : Mag w14 af (nl y.natAbs) cf y.natAbs := Mag.below (by repeat (with_reducible first | refine Mag.set ?_ (fun h => by have := Mf13 h; omega) _ _ | refine Mag.drew ?_ | refine Mag.alloc ?_ _ | refine Mag.drewN ?_ _ | refine Mag.below ?_ (Below.drew (Below.refl _ _)) | refine Mag.below ?_ ((Below.refl _ _).alloc (Nat.le_refl _) _) | exact Mf13)) hb14
  have Me14 : Mag w14 ae (nl (dman de).natAbs) ce (dman de).natAbs := Mag.below (by repeat (with_reducible first | refine Mag.set ?_ (fun h => by have := Me13 h; omega) _ _ | refine Mag.drew ?_ | refine Mag.alloc ?_ _ | refine Mag.drewN ?_ _ | refine Mag.below ?_ (Below.drew (Below.refl _ _)) | refine Mag.below ?_ ((Below.refl _ _).alloc (Nat.le_refl _) _) | exact Me13)) hb14
  have Mi14 : Mag w14 ai (nl (dman do1).natAbs) ci (dman do1).natAbs := Mag.below (by repeat (with_reducible first | refine Mag.set ?_ (fun h => by have := Mi13 h; omega) _ _ | refine Mag.drew ?_ | refine Mag.alloc ?_ _ | refine Mag.drewN ?_ _ | refine Mag.below ?_ (Below.drew (Below.refl _ _)) | refine Mag.below ?_ ((Below.refl _ _).alloc (Nat.le_refl _) _) | exact Mi13)) hb14
  have B14 := below_box (w := w) (by have hszw := (B13).size; repeat (with_reducible first | refine Below.setCell ?_ (by first | omega | (simp <;> omega)) _ | refine Below.alloc ?_ (by first | omega | (simp <;> omega)) _ | refine Below.drew ?_ | refine below_drewN ?_ _ | exact B13)) hb14
  clear hb14
  go_wp2_with fail
  refine (H8 _ (Ga.out.1.below (by have hszw := (B14).size; repeat (with_reducible first | refine Below.setCell ?_ (by first | omega | (simp <;> omega)) _ | refine Below.alloc ?_ (by first | omega | (simp <;> omega)) _ | refine Below.drew ?_ | refine below_drewN ?_ _ | exact B14))) (hT.below (by have hszw := (B14).size; repeat (with_reducible first | refine Below.setCell ?_ (by first | omega | (simp <;> omega)) _ | refine Below.alloc ?_ (by first | omega | (simp <;> omega)) _ | refine Below.drew ?_ | refine below_drewN ?_ _ | exact B14)))).out.mono ?_
  rintro e w15 ⟨rfl, hb15⟩
  have Va15 : DyV w15 b0 bda sa (.slice aa na pa) ea := (by refine DyV.below ?_ hb15; (repeat (with_reducible first | refine DyV.drew ?_ | refine DyV.drewN ?_ _ | refine DyV.alloc ?_ _)); exact Va14.out)
  obtain ⟨ac0, ac1, ac2, ac3, ac4, ac5⟩ := Va15
  have Va15 := Lib.hid (DyV.mk ac0 ac1 ac2 ac3 ac4 ac5)
  have Vu15 : DyV w15 zu (dbad du) (decide (dman du < 0)) (.slice au (nl (dman du).natAbs) cu) (dexp du) := (by refine DyV.below ?_ hb15; (repeat (with_reducible first | refine DyV.drew ?_ | refine DyV.drewN ?_ _ | refine DyV.alloc ?_ _)); exact Vu14.out)
  obtain ⟨uc0, uc1, uc2, uc3, uc4, uc5⟩ := Vu15
  have Vu15 := Lib.hid (DyV.mk uc0 uc1 uc2 uc3 uc4 uc5)
  have Vf15 : BgV w15 zf (decide (y < 0)) (.slice af (nl y.natAbs) cf) := (by refine BgV.below ?_ hb15; (repeat (with_reducible first | refine BgV.drew ?_ | refine BgV.drewN ?_ _ | refine BgV.alloc ?_ _)); exact Vf14.out)
  obtain ⟨fc0, fc1, fc2, fc3⟩ := Vf15
  have Vf15 := Lib.hid (BgV.mk fc0 fc1 fc2 fc3)
  have Ve15 : DyV w15 ze (dbad de) (decide (dman de < 0)) (.slice ae (nl (dman de).natAbs) ce) (dexp de) := (by refine DyV.below ?_ hb15; (repeat (with_reducible first | refine DyV.drew ?_ | refine DyV.drewN ?_ _ | refine DyV.alloc ?_ _)); exact Ve14.out)
  obtain ⟨ec0, ec1, ec2, ec3, ec4, ec5⟩ := Ve15
  have Ve15 := Lib.hid (DyV.mk ec0 ec1 ec2 ec3 ec4 ec5)
  have Vi15 : DyV w15 zi (dbad do1) (decide (dman do1 < 0)) (.slice ai (nl (dman do1).natAbs) ci) (dexp do1) := (by refine DyV.below ?_ hb15; (repeat (with_reducible first | refine DyV.drew ?_ | refine DyV.drewN ?_ _ | refine DyV.alloc ?_ _)); exact Vi14.out)
  obtain ⟨ic0, ic1, ic2, ic3, ic4, ic5⟩ := Vi15
  have Vi15 := Lib.hid (DyV.mk ic0 ic1 ic2 ic3 ic4 ic5)
  have Mu15 : Mag w15 au (nl (dman du).natAbs) cu (dman du).natAbs := Mag.below (by repeat (with_reducible first | refine Mag.set ?_ (fun h => by have := Mu14 h; omega) _ _ | refine Mag.drew ?_ | refine Mag.alloc ?_ _ | refine Mag.drewN ?_ _ | refine Mag.below ?_ (Below.drew (Below.refl _ _)) | refine Mag.below ?_ ((Below.refl _ _).alloc (Nat.le_refl _) _) | exact Mu14)) hb15
  have Mf15 : Mag w15 af (nl y.natAbs) cf y.natAbs := Mag.below (by repeat (with_reducible first | refine Mag.set ?_ (fun h => by have := Mf14 h; omega) _ _ | refine Mag.drew ?_ | refine Mag.alloc ?_ _ | refine Mag.drewN ?_ _ | refine Mag.below ?_ (Below.drew (Below.refl _ _)) | refine Mag.below ?_ ((Below.refl _ _).alloc (Nat.le_refl _) _) | exact Mf14)) hb15
  have Me15 : Mag w15 ae (nl (dman de).natAbs) ce (dman de).natAbs := Mag.below (by repeat (with_reducible first | refine Mag.set ?_ (fun h => by have := Me14 h; omega) _ _ | refine Mag.drew ?_ | refine Mag.alloc ?_ _ | refine Mag.drewN ?_ _ | refine Mag.below ?_ (Below.drew (Below.refl _ _)) | refine Mag.below ?_ ((Below.refl _ _).alloc (Nat.le_refl _) _) | exact Me14)) hb15
  have Mi15 : Mag w15 ai (nl (dman do1).natAbs) ci (dman do1).natAbs := Mag.below (by repeat (with_reducible first | refine Mag.set ?_ (fun h => by have := Mi14 h; omega) _ _ | refine Mag.drew ?_ | refine Mag.alloc ?_ _ | refine Mag.drewN ?_ _ | refine Mag.below ?_ (Below.drew (Below.refl _ _)) | refine Mag.below ?_ ((Below.refl _ _).alloc (Nat.le_refl _) _) | exact Mi14)) hb15
  have B15 := below_box (w := w) (by have hszw := (B14).size; repeat (with_reducible first | refine Below.setCell ?_ (by first | omega | (simp <;> omega)) _ | refine Below.alloc ?_ (by first | omega | (simp <;> omega)) _ | refine Below.drew ?_ | refine below_drewN ?_ _ | exact B14)) hb15
  clear hb15
  go_wp2_with fail
  first
  | go_region_held3 (fun w' => w'.cell? ⟨b0, 0, none⟩ = some (.bool bda) ∧ w'.cell? ⟨b0, 1, none⟩ = some (.bool sa) ∧ w'.cell? ⟨b0, 2, none⟩ = some ((.slice aa na pa)) ∧ w'.cell? ⟨b0, 3, none⟩ = some (.int .i64 ea) ∧ w'.cell? ⟨zi, 0, none⟩ = some (.bool (dbad do1)) ∧ w'.cell? ⟨zi, 1, none⟩ = some (.bool (decide (dman do1 < 0))) ∧ w'.cell? ⟨zi, 2, none⟩ = some ((.slice ai (nl (dman do1).natAbs) ci)) ∧ w'.cell? ⟨zi, 3, none⟩ = some (.int .i64 (dexp do1))) (first | (go_keep; done) | (go_simp; done))
      (first
        | (go_at_call 24; have xx := B17; refine (H11 _ a1 c1 (by repeat (with_reducible first | refine Mag.set ?_ (fun h => by have := M117 h; omega) _ _ | refine Mag.drew ?_ | refine Mag.alloc ?_ _ | refine Mag.drewN ?_ _ | refine Mag.below ?_ (Below.drew (Below.refl _ _)) | refine Mag.below ?_ ((Below.refl _ _).alloc (Nat.le_refl _) _) | exact M117)) a2 c2 (by repeat (with_reducible first | refine Mag.set ?_ (fun h => by have := M217 h; omega) _ _ | refine Mag.drew ?_ | refine Mag.alloc ?_ _ | refine Mag.drewN ?_ _ | refine Mag.below ?_ (Below.drew (Below.refl _ _)) | refine Mag.below ?_ ((Below.refl _ _).alloc (Nat.le_refl _) _) | exact M217)) (hT.below (by have hszw := (B17).size; repeat (with_reducible first | refine Below.setCell ?_ (by first | omega | (simp <;> omega)) _ | refine Below.alloc ?_ (by first | omega | (simp <;> omega)) _ | refine Below.drew ?_ | refine below_drewN ?_ _ | exact B17)))).out.mono ?_; rintro e w18 ⟨rfl, hb18⟩; have Va18 : DyV w18 b0 bda sa (.slice aa na pa) ea := (by refine DyV.below ?_ hb18; (repeat (with_reducible first | refine DyV.drew ?_ | refine DyV.drewN ?_ _ | refine DyV.alloc ?_ _)); exact Va17.out); obtain ⟨ac0, ac1, ac2, ac3, ac4, ac5⟩ := Va18; have Va18 := Lib.hid (DyV.mk ac0 ac1 ac2 ac3 ac4 ac5); have Vu18 : DyV w18 zu (dbad du) (decide (dman du < 0)) (.slice au (nl (dman du).natAbs) cu) (dexp du) := (by refine DyV.below ?_ hb18; (repeat (with_reducible first | refine DyV.drew ?_ | refine DyV.drewN ?_ _ | refine DyV.alloc ?_ _)); exact Vu17.out); obtain ⟨uc0, uc1, uc2, uc3, uc4, uc5⟩ := Vu18; have Vu18 := Lib.hid (DyV.mk uc0 uc1 uc2 uc3 uc4 uc5); have Vf18 : BgV w18 zf (decide (y < 0)) (.slice af (nl y.natAbs) cf) := (by refine BgV.below ?_ hb18; (repeat (with_reducible first | refine BgV.drew ?_ | refine BgV.drewN ?_ _ | refine BgV.alloc ?_ _)); exact Vf17.out); obtain ⟨fc0, fc1, fc2, fc3⟩ := Vf18; have Vf18 := Lib.hid (BgV.mk fc0 fc1 fc2 fc3); have Ve18 : DyV w18 ze (dbad de) (decide (dman de < 0)) (.slice ae (nl (dman de).natAbs) ce) (dexp de) := (by refine DyV.below ?_ hb18; (repeat (with_reducible first | refine DyV.drew ?_ | refine DyV.drewN ?_ _ | refine DyV.alloc ?_ _)); exact Ve17.out); obtain ⟨ec0, ec1, ec2, ec3, ec4, ec5⟩ := Ve18; have Ve18 := Lib.hid (DyV.mk ec0 ec1 ec2 ec3 ec4 ec5); have Vi18 : DyV w18 zi (dbad do1) (decide (dman do1 < 0)) (.slice ai (nl (dman do1).natAbs) ci) (dexp do1) := (by refine DyV.below ?_ hb18; (repeat (with_reducible first | refine DyV.drew ?_ | refine DyV.drewN ?_ _ | refine DyV.alloc ?_ _)); exact Vi17.out); obtain ⟨ic0, ic1, ic2, ic3, ic4, ic5⟩ := Vi18; have Vi18 := Lib.hid (DyV.mk ic0 ic1 ic2 ic3 ic4 ic5); have Mu18 : Mag w18 au (nl (dman du).natAbs) cu (dman du).natAbs := Mag.below (by repeat (with_reducible first | refine Mag.set ?_ (fun h => by have := Mu17 h; omega) _ _ | refine Mag.drew ?_ | refine Mag.alloc ?_ _ | refine Mag.drewN ?_ _ | refine Mag.below ?_ (Below.drew (Below.refl _ _)) | refine Mag.below ?_ ((Below.refl _ _).alloc (Nat.le_refl _) _) | exact Mu17)) hb18; have Mf18 : Mag w18 af (nl y.natAbs) cf y.natAbs := Mag.below (by repeat (with_reducible first | refine Mag.set ?_ (fun h => by have := Mf17 h; omega) _ _ | refine Mag.drew ?_ | refine Mag.alloc ?_ _ | refine Mag.drewN ?_ _ | refine Mag.below ?_ (Below.drew (Below.refl _ _)) | refine Mag.below ?_ ((Below.refl _ _).alloc (Nat.le_refl _) _) | exact Mf17)) hb18; have Me18 : Mag w18 ae (nl (dman de).natAbs) ce (dman de).natAbs := Mag.below (by repeat (with_reducible first | refine Mag.set ?_ (fun h => by have := Me17 h; omega) _ _ | refine Mag.drew ?_ | refine Mag.alloc ?_ _ | refine Mag.drewN ?_ _ | refine Mag.below ?_ (Below.drew (Below.refl _ _)) | refine Mag.below ?_ ((Below.refl _ _).alloc (Nat.le_refl _) _) | exact Me17)) hb18; have Mi18 : Mag w18 ai (nl (dman do1).natAbs) ci (dman do1).natAbs := Mag.below (by repeat (with_reducible first | refine Mag.set ?_ (fun h => by have := Mi17 h; omega) _ _ | refine Mag.drew ?_ | refine Mag.alloc ?_ _ | refine Mag.drewN ?_ _ | refine Mag.below ?_ (Below.drew (Below.refl _ _)) | refine Mag.below ?_ ((Below.refl _ _).alloc (Nat.le_refl _) _) | exact Mi17)) hb18; have M118 : Mag w18 a1 (nl (dman d1).natAbs) c1 (dman d1).natAbs := Mag.below (by repeat (with_reducible first | refine Mag.set ?_ (fun h => by have := M117 h; omega) _ _ | refine Mag.drew ?_ | refine Mag.alloc ?_ _ | refine Mag.drewN ?_ _ | refine Mag.below ?_ (Below.drew (Below.refl _ _)) | refine Mag.below ?_ ((Below.refl _ _).alloc (Nat.le_refl _) _) | exact M117)) hb18; have M218 : Mag w18 a2 (nl (dman d2).natAbs) c2 (dman d2).natAbs := Mag.below (by repeat (with_reducible first | refine Mag.set ?_ (fun h => by have := M217 h; omega) _ _ | refine Mag.drew ?_ | refine Mag.alloc ?_ _ | refine Mag.drewN ?_ _ | refine Mag.below ?_ (Below.drew (Below.refl _ _)) | refine Mag.below ?_ ((Below.refl _ _).alloc (Nat.le_refl _) _) | exact M217)) hb18; have B18 := below_box (w := w) (by have hszw := (B17).size; repeat (with_reducible first | refine Below.setCell ?_ (by first | omega | (simp <;> omega)) _ | refine Below.alloc ?_ (by first | omega | (simp <;> omega)) _ | refine Below.drew ?_ | refine below_drewN ?_ _ | exact B17)) hb18; clear hb18)
        | (go_at_call 37; have xx := B16; refine (H10 _ (Ga.out.1.below (by have hszw := (B16).size; repeat (with_reducible first | refine Below.setCell ?_ (by first | omega | (simp <;> omega)) _ | refine Below.alloc ?_ (by first | omega | (simp <;> omega)) _ | refine Below.drew ?_ | refine below_drewN ?_ _ | exact B16))) (hT.below (by have hszw := (B16).size; repeat (with_reducible first | refine Below.setCell ?_ (by first | omega | (simp <;> omega)) _ | refine Below.alloc ?_ (by first | omega | (simp <;> omega)) _ | refine Below.drew ?_ | refine below_drewN ?_ _ | exact B16)))).out.mono ?_; rintro e w17 ⟨a2, c2, rfl, M217, hb17, hf17⟩; have Va17 : DyV w17 b0 bda sa (.slice aa na pa) ea := (by refine DyV.below ?_ hb17; (repeat (with_reducible first | refine DyV.drew ?_ | refine DyV.drewN ?_ _ | refine DyV.alloc ?_ _)); exact Va16.out); obtain ⟨ac0, ac1, ac2, ac3, ac4, ac5⟩ := Va17; have Va17 := Lib.hid (DyV.mk ac0 ac1 ac2 ac3 ac4 ac5); have Vu17 : DyV w17 zu (dbad du) (decide (dman du < 0)) (.slice au (nl (dman du).natAbs) cu) (dexp du) := (by refine DyV.below ?_ hb17; (repeat (with_reducible first | refine DyV.drew ?_ | refine DyV.drewN ?_ _ | refine DyV.alloc ?_ _)); exact Vu16.out); obtain ⟨uc0, uc1, uc2, uc3, uc4, uc5⟩ := Vu17; have Vu17 := Lib.hid (DyV.mk uc0 uc1 uc2 uc3 uc4 uc5); have Vf17 : BgV w17 zf (decide (y < 0)) (.slice af (nl y.natAbs) cf) := (by refine BgV.below ?_ hb17; (repeat (with_reducible first | refine BgV.drew ?_ | refine BgV.drewN ?_ _ | refine BgV.alloc ?_ _)); exact Vf16.out); obtain ⟨fc0, fc1, fc2, fc3⟩ := Vf17; have Vf17 := Lib.hid (BgV.mk fc0 fc1 fc2 fc3); have Ve17 : DyV w17 ze (dbad de) (decide (dman de < 0)) (.slice ae (nl (dman de).natAbs) ce) (dexp de) := (by refine DyV.below ?_ hb17; (repeat (with_reducible first | refine DyV.drew ?_ | refine DyV.drewN ?_ _ | refine DyV.alloc ?_ _)); exact Ve16.out); obtain ⟨ec0, ec1, ec2, ec3, ec4, ec5⟩ := Ve17; have Ve17 := Lib.hid (DyV.mk ec0 ec1 ec2 ec3 ec4 ec5); have Vi17 : DyV w17 zi (dbad do1) (decide (dman do1 < 0)) (.slice ai (nl (dman do1).natAbs) ci) (dexp do1) := (by refine DyV.below ?_ hb17; (repeat (with_reducible first | refine DyV.drew ?_ | refine DyV.drewN ?_ _ | refine DyV.alloc ?_ _)); exact Vi16.out); obtain ⟨ic0, ic1, ic2, ic3, ic4, ic5⟩ := Vi17; have Vi17 := Lib.hid (DyV.mk ic0 ic1 ic2 ic3 ic4 ic5); have Mu17 : Mag w17 au (nl (dman du).natAbs) cu (dman du).natAbs := Mag.below (by repeat (with_reducible first | refine Mag.set ?_ (fun h => by have := Mu16 h; omega) _ _ | refine Mag.drew ?_ | refine Mag.alloc ?_ _ | refine Mag.drewN ?_ _ | refine Mag.below ?_ (Below.drew (Below.refl _ _)) | refine Mag.below ?_ ((Below.refl _ _).alloc (Nat.le_refl _) _) | exact Mu16)) hb17; have Mf17 : Mag w17 af (nl y.natAbs) cf y.natAbs := Mag.below (by repeat (with_reducible first | refine Mag.set ?_ (fun h => by have := Mf16 h; omega) _ _ | refine Mag.drew ?_ | refine Mag.alloc ?_ _ | refine Mag.drewN ?_ _ | refine Mag.below ?_ (Below.drew (Below.refl _ _)) | refine Mag.below ?_ ((Below.refl _ _).alloc (Nat.le_refl _) _) | exact Mf16)) hb17; have Me17 : Mag w17 ae (nl (dman de).natAbs) ce (dman de).natAbs := Mag.below (by repeat (with_reducible first | refine Mag.set ?_ (fun h => by have := Me16 h; omega) _ _ | refine Mag.drew ?_ | refine Mag.alloc ?_ _ | refine Mag.drewN ?_ _ | refine Mag.below ?_ (Below.drew (Below.refl _ _)) | refine Mag.below ?_ ((Below.refl _ _).alloc (Nat.le_refl _) _) | exact Me16)) hb17; have Mi17 : Mag w17 ai (nl (dman do1).natAbs) ci (dman do1).natAbs := Mag.below (by repeat (with_reducible first | refine Mag.set ?_ (fun h => by have := Mi16 h; omega) _ _ | refine Mag.drew ?_ | refine Mag.alloc ?_ _ | refine Mag.drewN ?_ _ | refine Mag.below ?_ (Below.drew (Below.refl _ _)) | refine Mag.below ?_ ((Below.refl _ _).alloc (Nat.le_refl _) _) | exact Mi16)) hb17; have M117 : Mag w17 a1 (nl (dman d1).natAbs) c1 (dman d1).natAbs := Mag.below (by repeat (with_reducible first | refine Mag.set ?_ (fun h => by have := M116 h; omega) _ _ | refine Mag.drew ?_ | refine Mag.alloc ?_ _ | refine Mag.drewN ?_ _ | refine Mag.below ?_ (Below.drew (Below.refl _ _)) | refine Mag.below ?_ ((Below.refl _ _).alloc (Nat.le_refl _) _) | exact M116)) hb17; have B17 := below_box (w := w) (by have hszw := (B16).size; repeat (with_reducible first | refine Below.setCell ?_ (by first | omega | (simp <;> omega)) _ | refine Below.alloc ?_ (by first | omega | (simp <;> omega)) _ | refine Below.drew ?_ | refine below_drewN ?_ _ | exact B16)) hb17; clear hb17; clear hf17)
        | (go_at_call 33; have xx := B15; refine (H9 _ ai ci (by repeat (with_reducible first | refine Mag.set ?_ (fun h => by have := Mi15 h; omega) _ _ | refine Mag.drew ?_ | refine Mag.alloc ?_ _ | refine Mag.drewN ?_ _ | refine Mag.below ?_ (Below.drew (Below.refl _ _)) | refine Mag.below ?_ ((Below.refl _ _).alloc (Nat.le_refl _) _) | exact Mi15)) (hT.below (by have hszw := (B15).size; repeat (with_reducible first | refine Below.setCell ?_ (by first | omega | (simp <;> omega)) _ | refine Below.alloc ?_ (by first | omega | (simp <;> omega)) _ | refine Below.drew ?_ | refine below_drewN ?_ _ | exact B15)))).out.mono ?_; rintro e w16 ⟨a1, c1, rfl, M116, hb16, hf16⟩; have Va16 : DyV w16 b0 bda sa (.slice aa na pa) ea := (by refine DyV.below ?_ hb16; (repeat (with_reducible first | refine DyV.drew ?_ | refine DyV.drewN ?_ _ | refine DyV.alloc ?_ _)); exact Va15.out); obtain ⟨ac0, ac1, ac2, ac3, ac4, ac5⟩ := Va16; have Va16 := Lib.hid (DyV.mk ac0 ac1 ac2 ac3 ac4 ac5); have Vu16 : DyV w16 zu (dbad du) (decide (dman du < 0)) (.slice au (nl (dman du).natAbs) cu) (dexp du) := (by refine DyV.below ?_ hb16; (repeat (with_reducible first | refine DyV.drew ?_ | refine DyV.drewN ?_ _ | refine DyV.alloc ?_ _)); exact Vu15.out); obtain ⟨uc0, uc1, uc2, uc3, uc4, uc5⟩ := Vu16; have Vu16 := Lib.hid (DyV.mk uc0 uc1 uc2 uc3 uc4 uc5); have Vf16 : BgV w16 zf (decide (y < 0)) (.slice af (nl y.natAbs) cf) := (by refine BgV.below ?_ hb16; (repeat (with_reducible first | refine BgV.drew ?_ | refine BgV.drewN ?_ _ | refine BgV.alloc ?_ _)); exact Vf15.out); obtain ⟨fc0, fc1, fc2, fc3⟩ := Vf16; have Vf16 := Lib.hid (BgV.mk fc0 fc1 fc2 fc3); have Ve16 : DyV w16 ze (dbad de) (decide (dman de < 0)) (.slice ae (nl (dman de).natAbs) ce) (dexp de) := (by refine DyV.below ?_ hb16; (repeat (with_reducible first | refine DyV.drew ?_ | refine DyV.drewN ?_ _ | refine DyV.alloc ?_ _)); exact Ve15.out); obtain ⟨ec0, ec1, ec2, ec3, ec4, ec5⟩ := Ve16; have Ve16 := Lib.hid (DyV.mk ec0 ec1 ec2 ec3 ec4 ec5); have Vi16 : DyV w16 zi (dbad do1) (decide (dman do1 < 0)) (.slice ai (nl (dman do1).natAbs) ci) (dexp do1) := (by refine DyV.below ?_ hb16; (repeat (with_reducible first | refine DyV.drew ?_ | refine DyV.drewN ?_ _ | refine DyV.alloc ?_ _)); exact Vi15.out); obtain ⟨ic0, ic1, ic2, ic3, ic4, ic5⟩ := Vi16; have Vi16 := Lib.hid (DyV.mk ic0 ic1 ic2 ic3 ic4 ic5); have Mu16 : Mag w16 au (nl (dman du).natAbs) cu (dman du).natAbs := Mag.below (by repeat (with_reducible first | refine Mag.set ?_ (fun h => by have := Mu15 h; omega) _ _ | refine Mag.drew ?_ | refine Mag.alloc ?_ _ | refine Mag.drewN ?_ _ | refine Mag.below ?_ (Below.drew (Below.refl _ _)) | refine Mag.below ?_ ((Below.refl _ _).alloc (Nat.le_refl _) _) | exact Mu15)) hb16; have Mf16 : Mag w16 af (nl y.natAbs) cf y.natAbs := Mag.below (by repeat (with_reducible first | refine Mag.set ?_ (fun h => by have := Mf15 h; omega) _ _ | refine Mag.drew ?_ | refine Mag.alloc ?_ _ | refine Mag.drewN ?_ _ | refine Mag.below ?_ (Below.drew (Below.refl _ _)) | refine Mag.below ?_ ((Below.refl _ _).alloc (Nat.le_refl _) _) | exact Mf15)) hb16; have Me16 : Mag w16 ae (nl (dman de).natAbs) ce (dman de).natAbs := Mag.below (by repeat (with_reducible first | refine Mag.set ?_ (fun h => by have := Me15 h; omega) _ _ | refine Mag.drew ?_ | refine Mag.alloc ?_ _ | refine Mag.drewN ?_ _ | refine Mag.below ?_ (Below.drew (Below.refl _ _)) | refine Mag.below ?_ ((Below.refl _ _).alloc (Nat.le_refl _) _) | exact Me15)) hb16; have Mi16 : Mag w16 ai (nl (dman do1).natAbs) ci (dman do1).natAbs := Mag.below (by repeat (with_reducible first | refine Mag.set ?_ (fun h => by have := Mi15 h; omega) _ _ | refine Mag.drew ?_ | refine Mag.alloc ?_ _ | refine Mag.drewN ?_ _ | refine Mag.below ?_ (Below.drew (Below.refl _ _)) | refine Mag.below ?_ ((Below.refl _ _).alloc (Nat.le_refl _) _) | exact Mi15)) hb16; have B16 := below_box (w := w) (by have hszw := (B15).size; repeat (with_reducible first | refine Below.setCell ?_ (by first | omega | (simp <;> omega)) _ | refine Below.alloc ?_ (by first | omega | (simp <;> omega)) _ | refine Below.drew ?_ | refine below_drewN ?_ _ | exact B15)) hb16; clear hb16; clear hf16)
        | fail)
  | fail "region"
  go_wp2_with fail
  first
  | go_region_held3 (fun w' => w'.cell? ⟨b0, 0, none⟩ = some (.bool bda) ∧ w'.cell? ⟨b0, 1, none⟩ = some (.bool sa) ∧ w'.cell? ⟨b0, 2, none⟩ = some ((.slice aa na pa)) ∧ w'.cell? ⟨b0, 3, none⟩ = some (.int .i64 ea) ∧ w'.cell? ⟨zi, 0, none⟩ = some (.bool (dbad do1)) ∧ w'.cell? ⟨zi, 1, none⟩ = some (.bool (decide (dman do1 < 0))) ∧ w'.cell? ⟨zi, 2, none⟩ = some ((.slice ai (nl (dman do1).natAbs) ci)) ∧ w'.cell? ⟨zi, 3, none⟩ = some (.int .i64 (dexp do1))) (first | (go_keep; done) | (go_simp; done))
      (first
        | (go_at_call 24; have xx := B20; refine (H14 _ a3 c3 (by repeat (with_reducible first | refine Mag.set ?_ (fun h => by have := M320 h; omega) _ _ | refine Mag.drew ?_ | refine Mag.alloc ?_ _ | refine Mag.drewN ?_ _ | refine Mag.below ?_ (Below.drew (Below.refl _ _)) | refine Mag.below ?_ ((Below.refl _ _).alloc (Nat.le_refl _) _) | exact M320)) a4 c4 (by repeat (with_reducible first | refine Mag.set ?_ (fun h => by have := M420 h; omega) _ _ | refine Mag.drew ?_ | refine Mag.alloc ?_ _ | refine Mag.drewN ?_ _ | refine Mag.below ?_ (Below.drew (Below.refl _ _)) | refine Mag.below ?_ ((Below.refl _ _).alloc (Nat.le_refl _) _) | exact M420)) (hT.below (by have hszw := (B20).size; repeat (with_reducible first | refine Below.setCell ?_ (by first | omega | (simp <;> omega)) _ | refine Below.alloc ?_ (by first | omega | (simp <;> omega)) _ | refine Below.drew ?_ | refine below_drewN ?_ _ | exact B20)))).out.mono ?_; rintro e w21 ⟨rfl, hb21⟩; have Va21 : DyV w21 b0 bda sa (.slice aa na pa) ea := (by refine DyV.below ?_ hb21; (repeat (with_reducible first | refine DyV.drew ?_ | refine DyV.drewN ?_ _ | refine DyV.alloc ?_ _)); exact Va20.out); obtain ⟨ac0, ac1, ac2, ac3, ac4, ac5⟩ := Va21; have Va21 := Lib.hid (DyV.mk ac0 ac1 ac2 ac3 ac4 ac5); have Vu21 : DyV w21 zu (dbad du) (decide (dman du < 0)) (.slice au (nl (dman du).natAbs) cu) (dexp du) := (by refine DyV.below ?_ hb21; (repeat (with_reducible first | refine DyV.drew ?_ | refine DyV.drewN ?_ _ | refine DyV.alloc ?_ _)); exact Vu20.out); obtain ⟨uc0, uc1, uc2, uc3, uc4, uc5⟩ := Vu21; have Vu21 := Lib.hid (DyV.mk uc0 uc1 uc2 uc3 uc4 uc5); have Vf21 : BgV w21 zf (decide (y < 0)) (.slice af (nl y.natAbs) cf) := (by refine BgV.below ?_ hb21; (repeat (with_reducible first | refine BgV.drew ?_ | refine BgV.drewN ?_ _ | refine BgV.alloc ?_ _)); exact Vf20.out); obtain ⟨fc0, fc1, fc2, fc3⟩ := Vf21; have Vf21 := Lib.hid (BgV.mk fc0 fc1 fc2 fc3); have Ve21 : DyV w21 ze (dbad de) (decide (dman de < 0)) (.slice ae (nl (dman de).natAbs) ce) (dexp de) := (by refine DyV.below ?_ hb21; (repeat (with_reducible first | refine DyV.drew ?_ | refine DyV.drewN ?_ _ | refine DyV.alloc ?_ _)); exact Ve20.out); obtain ⟨ec0, ec1, ec2, ec3, ec4, ec5⟩ := Ve21; have Ve21 := Lib.hid (DyV.mk ec0 ec1 ec2 ec3 ec4 ec5); have Vi21 : DyV w21 zi (dbad do1) (decide (dman do1 < 0)) (.slice ai (nl (dman do1).natAbs) ci) (dexp do1) := (by refine DyV.below ?_ hb21; (repeat (with_reducible first | refine DyV.drew ?_ | refine DyV.drewN ?_ _ | refine DyV.alloc ?_ _)); exact Vi20.out); obtain ⟨ic0, ic1, ic2, ic3, ic4, ic5⟩ := Vi21; have Vi21 := Lib.hid (DyV.mk ic0 ic1 ic2 ic3 ic4 ic5); have Mu21 : Mag w21 au (nl (dman du).natAbs) cu (dman du).natAbs := Mag.below (by repeat (with_reducible first | refine Mag.set ?_ (fun h => by have := Mu20 h; omega) _ _ | refine Mag.drew ?_ | refine Mag.alloc ?_ _ | refine Mag.drewN ?_ _ | refine Mag.below ?_ (Below.drew (Below.refl _ _)) | refine Mag.below ?_ ((Below.refl _ _).alloc (Nat.le_refl _) _) | exact Mu20)) hb21; have Mf21 : Mag w21 af (nl y.natAbs) cf y.natAbs := Mag.below (by repeat (with_reducible first | refine Mag.set ?_ (fun h => by have := Mf20 h; omega) _ _ | refine Mag.drew ?_ | refine Mag.alloc ?_ _ | refine Mag.drewN ?_ _ | refine Mag.below ?_ (Below.drew (Below.refl _ _)) | refine Mag.below ?_ ((Below.refl _ _).alloc (Nat.le_refl _) _) | exact Mf20)) hb21; have Me21 : Mag w21 ae (nl (dman de).natAbs) ce (dman de).natAbs := Mag.below (by repeat (with_reducible first | refine Mag.set ?_ (fun h => by have := Me20 h; omega) _ _ | refine Mag.drew ?_ | refine Mag.alloc ?_ _ | refine Mag.drewN ?_ _ | refine Mag.below ?_ (Below.drew (Below.refl _ _)) | refine Mag.below ?_ ((Below.refl _ _).alloc (Nat.le_refl _) _) | exact Me20)) hb21; have Mi21 : Mag w21 ai (nl (dman do1).natAbs) ci (dman do1).natAbs := Mag.below (by repeat (with_reducible first | refine Mag.set ?_ (fun h => by have := Mi20 h; omega) _ _ | refine Mag.drew ?_ | refine Mag.alloc ?_ _ | refine Mag.drewN ?_ _ | refine Mag.below ?_ (Below.drew (Below.refl _ _)) | refine Mag.below ?_ ((Below.refl _ _).alloc (Nat.le_refl _) _) | exact Mi20)) hb21; have M321 : Mag w21 a3 (nl (dman d2).natAbs) c3 (dman d2).natAbs := Mag.below (by repeat (with_reducible first | refine Mag.set ?_ (fun h => by have := M320 h; omega) _ _ | refine Mag.drew ?_ | refine Mag.alloc ?_ _ | refine Mag.drewN ?_ _ | refine Mag.below ?_ (Below.drew (Below.refl _ _)) | refine Mag.below ?_ ((Below.refl _ _).alloc (Nat.le_refl _) _) | exact M320)) hb21; have M421 : Mag w21 a4 (nl (dman d3).natAbs) c4 (dman d3).natAbs := Mag.below (by repeat (with_reducible first | refine Mag.set ?_ (fun h => by have := M420 h; omega) _ _ | refine Mag.drew ?_ | refine Mag.alloc ?_ _ | refine Mag.drewN ?_ _ | refine Mag.below ?_ (Below.drew (Below.refl _ _)) | refine Mag.below ?_ ((Below.refl _ _).alloc (Nat.le_refl _) _) | exact M420)) hb21; have B21 := below_box (w := w) (by have hszw := (B20).size; repeat (with_reducible first | refine Below.setCell ?_ (by first | omega | (simp <;> omega)) _ | refine Below.alloc ?_ (by first | omega | (simp <;> omega)) _ | refine Below.drew ?_ | refine below_drewN ?_ _ | exact B20)) hb21; clear hb21)
        | (go_at_call 33; have xx := B19; refine (H13 _ ai ci (by repeat (with_reducible first | refine Mag.set ?_ (fun h => by have := Mi19 h; omega) _ _ | refine Mag.drew ?_ | refine Mag.alloc ?_ _ | refine Mag.drewN ?_ _ | refine Mag.below ?_ (Below.drew (Below.refl _ _)) | refine Mag.below ?_ ((Below.refl _ _).alloc (Nat.le_refl _) _) | exact Mi19)) (hT.below (by have hszw := (B19).size; repeat (with_reducible first | refine Below.setCell ?_ (by first | omega | (simp <;> omega)) _ | refine Below.alloc ?_ (by first | omega | (simp <;> omega)) _ | refine Below.drew ?_ | refine below_drewN ?_ _ | exact B19)))).out.mono ?_; rintro e w20 ⟨a4, c4, rfl, M420, hb20, hf20⟩; have Va20 : DyV w20 b0 bda sa (.slice aa na pa) ea := (by refine DyV.below ?_ hb20; (repeat (with_reducible first | refine DyV.drew ?_ | refine DyV.drewN ?_ _ | refine DyV.alloc ?_ _)); exact Va19.out); obtain ⟨ac0, ac1, ac2, ac3, ac4, ac5⟩ := Va20; have Va20 := Lib.hid (DyV.mk ac0 ac1 ac2 ac3 ac4 ac5); have Vu20 : DyV w20 zu (dbad du) (decide (dman du < 0)) (.slice au (nl (dman du).natAbs) cu) (dexp du) := (by refine DyV.below ?_ hb20; (repeat (with_reducible first | refine DyV.drew ?_ | refine DyV.drewN ?_ _ | refine DyV.alloc ?_ _)); exact Vu19.out); obtain ⟨uc0, uc1, uc2, uc3, uc4, uc5⟩ := Vu20; have Vu20 := Lib.hid (DyV.mk uc0 uc1 uc2 uc3 uc4 uc5); have Vf20 : BgV w20 zf (decide (y < 0)) (.slice af (nl y.natAbs) cf) := (by refine BgV.below ?_ hb20; (repeat (with_reducible first | refine BgV.drew ?_ | refine BgV.drewN ?_ _ | refine BgV.alloc ?_ _)); exact Vf19.out); obtain ⟨fc0, fc1, fc2, fc3⟩ := Vf20; have Vf20 := Lib.hid (BgV.mk fc0 fc1 fc2 fc3); have Ve20 : DyV w20 ze (dbad de) (decide (dman de < 0)) (.slice ae (nl (dman de).natAbs) ce) (dexp de) := (by refine DyV.below ?_ hb20; (repeat (with_reducible first | refine DyV.drew ?_ | refine DyV.drewN ?_ _ | refine DyV.alloc ?_ _)); exact Ve19.out); obtain ⟨ec0, ec1, ec2, ec3, ec4, ec5⟩ := Ve20; have Ve20 := Lib.hid (DyV.mk ec0 ec1 ec2 ec3 ec4 ec5); have Vi20 : DyV w20 zi (dbad do1) (decide (dman do1 < 0)) (.slice ai (nl (dman do1).natAbs) ci) (dexp do1) := (by refine DyV.below ?_ hb20; (repeat (with_reducible first | refine DyV.drew ?_ | refine DyV.drewN ?_ _ | refine DyV.alloc ?_ _)); exact Vi19.out); obtain ⟨ic0, ic1, ic2, ic3, ic4, ic5⟩ := Vi20; have Vi20 := Lib.hid (DyV.mk ic0 ic1 ic2 ic3 ic4 ic5); have Mu20 : Mag w20 au (nl (dman du).natAbs) cu (dman du).natAbs := Mag.below (by repeat (with_reducible first | refine Mag.set ?_ (fun h => by have := Mu19 h; omega) _ _ | refine Mag.drew ?_ | refine Mag.alloc ?_ _ | refine Mag.drewN ?_ _ | refine Mag.below ?_ (Below.drew (Below.refl _ _)) | refine Mag.below ?_ ((Below.refl _ _).alloc (Nat.le_refl _) _) | exact Mu19)) hb20; have Mf20 : Mag w20 af (nl y.natAbs) cf y.natAbs := Mag.below (by repeat (with_reducible first | refine Mag.set ?_ (fun h => by have := Mf19 h; omega) _ _ | refine Mag.drew ?_ | refine Mag.alloc ?_ _ | refine Mag.drewN ?_ _ | refine Mag.below ?_ (Below.drew (Below.refl _ _)) | refine Mag.below ?_ ((Below.refl _ _).alloc (Nat.le_refl _) _) | exact Mf19)) hb20; have Me20 : Mag w20 ae (nl (dman de).natAbs) ce (dman de).natAbs := Mag.below (by repeat (with_reducible first | refine Mag.set ?_ (fun h => by have := Me19 h; omega) _ _ | refine Mag.drew ?_ | refine Mag.alloc ?_ _ | refine Mag.drewN ?_ _ | refine Mag.below ?_ (Below.drew (Below.refl _ _)) | refine Mag.below ?_ ((Below.refl _ _).alloc (Nat.le_refl _) _) | exact Me19)) hb20; have Mi20 : Mag w20 ai (nl (dman do1).natAbs) ci (dman do1).natAbs := Mag.below (by repeat (with_reducible first | refine Mag.set ?_ (fun h => by have := Mi19 h; omega) _ _ | refine Mag.drew ?_ | refine Mag.alloc ?_ _ | refine Mag.drewN ?_ _ | refine Mag.below ?_ (Below.drew (Below.refl _ _)) | refine Mag.below ?_ ((Below.refl _ _).alloc (Nat.le_refl _) _) | exact Mi19)) hb20; have M320 : Mag w20 a3 (nl (dman d2).natAbs) c3 (dman d2).natAbs := Mag.below (by repeat (with_reducible first | refine Mag.set ?_ (fun h => by have := M319 h; omega) _ _ | refine Mag.drew ?_ | refine Mag.alloc ?_ _ | refine Mag.drewN ?_ _ | refine Mag.below ?_ (Below.drew (Below.refl _ _)) | refine Mag.below ?_ ((Below.refl _ _).alloc (Nat.le_refl _) _) | exact M319)) hb20; have B20 := below_box (w := w) (by have hszw := (B19).size; repeat (with_reducible first | refine Below.setCell ?_ (by first | omega | (simp <;> omega)) _ | refine Below.alloc ?_ (by first | omega | (simp <;> omega)) _ | refine Below.drew ?_ | refine below_drewN ?_ _ | exact B19)) hb20; clear hb20; clear hf20)
        | (go_at_call 37; have xx := B18; refine (H12 _ (Ga.out.1.below (by have hszw := (B18).size; repeat (with_reducible first | refine Below.setCell ?_ (by first | omega | (simp <;> omega)) _ | refine Below.alloc ?_ (by first | omega | (simp <;> omega)) _ | refine Below.drew ?_ | refine below_drewN ?_ _ | exact B18))) (hT.below (by have hszw := (B18).size; repeat (with_reducible first | refine Below.setCell ?_ (by first | omega | (simp <;> omega)) _ | refine Below.alloc ?_ (by first | omega | (simp <;> omega)) _ | refine Below.drew ?_ | refine below_drewN ?_ _ | exact B18)))).out.mono ?_; rintro e w19 ⟨a3, c3, rfl, M319, hb19, hf19⟩; have Va19 : DyV w19 b0 bda sa (.slice aa na pa) ea := (by refine DyV.below ?_ hb19; (repeat (with_reducible first | refine DyV.drew ?_ | refine DyV.drewN ?_ _ | refine DyV.alloc ?_ _)); exact Va18.out); obtain ⟨ac0, ac1, ac2, ac3, ac4, ac5⟩ := Va19; have Va19 := Lib.hid (DyV.mk ac0 ac1 ac2 ac3 ac4 ac5); have Vu19 : DyV w19 zu (dbad du) (decide (dman du < 0)) (.slice au (nl (dman du).natAbs) cu) (dexp du) := (by refine DyV.below ?_ hb19; (repeat (with_reducible first | refine DyV.drew ?_ | refine DyV.drewN ?_ _ | refine DyV.alloc ?_ _)); exact Vu18.out); obtain ⟨uc0, uc1, uc2, uc3, uc4, uc5⟩ := Vu19; have Vu19 := Lib.hid (DyV.mk uc0 uc1 uc2 uc3 uc4 uc5); have Vf19 : BgV w19 zf (decide (y < 0)) (.slice af (nl y.natAbs) cf) := (by refine BgV.below ?_ hb19; (repeat (with_reducible first | refine BgV.drew ?_ | refine BgV.drewN ?_ _ | refine BgV.alloc ?_ _)); exact Vf18.out); obtain ⟨fc0, fc1, fc2, fc3⟩ := Vf19; have Vf19 := Lib.hid (BgV.mk fc0 fc1 fc2 fc3); have Ve19 : DyV w19 ze (dbad de) (decide (dman de < 0)) (.slice ae (nl (dman de).natAbs) ce) (dexp de) := (by refine DyV.below ?_ hb19; (repeat (with_reducible first | refine DyV.drew ?_ | refine DyV.drewN ?_ _ | refine DyV.alloc ?_ _)); exact Ve18.out); obtain ⟨ec0, ec1, ec2, ec3, ec4, ec5⟩ := Ve19; have Ve19 := Lib.hid (DyV.mk ec0 ec1 ec2 ec3 ec4 ec5); have Vi19 : DyV w19 zi (dbad do1) (decide (dman do1 < 0)) (.slice ai (nl (dman do1).natAbs) ci) (dexp do1) := (by refine DyV.below ?_ hb19; (repeat (with_reducible first | refine DyV.drew ?_ | refine DyV.drewN ?_ _ | refine DyV.alloc ?_ _)); exact Vi18.out); obtain ⟨ic0, ic1, ic2, ic3, ic4, ic5⟩ := Vi19; have Vi19 := Lib.hid (DyV.mk ic0 ic1 ic2 ic3 ic4 ic5); have Mu19 : Mag w19 au (nl (dman du).natAbs) cu (dman du).natAbs := Mag.below (by repeat (with_reducible first | refine Mag.set ?_ (fun h => by have := Mu18 h; omega) _ _ | refine Mag.drew ?_ | refine Mag.alloc ?_ _ | refine Mag.drewN ?_ _ | refine Mag.below ?_ (Below.drew (Below.refl _ _)) | refine Mag.below ?_ ((Below.refl _ _).alloc (Nat.le_refl _) _) | exact Mu18)) hb19; have Mf19 : Mag w19 af (nl y.natAbs) cf y.natAbs := Mag.below (by repeat (with_reducible first | refine Mag.set ?_ (fun h => by have := Mf18 h; omega) _ _ | refine Mag.drew ?_ | refine Mag.alloc ?_ _ | refine Mag.drewN ?_ _ | refine Mag.below ?_ (Below.drew (Below.refl _ _)) | refine Mag.below ?_ ((Below.refl _ _).alloc (Nat.le_refl _) _) | exact Mf18)) hb19; have Me19 : Mag w19 ae (nl (dman de).natAbs) ce (dman de).natAbs := Mag.below (by repeat (with_reducible first | refine Mag.set ?_ (fun h => by have := Me18 h; omega) _ _ | refine Mag.drew ?_ | refine Mag.alloc ?_ _ | refine Mag.drewN ?_ _ | refine Mag.below ?_ (Below.drew (Below.refl _ _)) | refine Mag.below ?_ ((Below.refl _ _).alloc (Nat.le_refl _) _) | exact Me18)) hb19; have Mi19 : Mag w19 ai (nl (dman do1).natAbs) ci (dman do1).natAbs := Mag.below (by repeat (with_reducible first | refine Mag.set ?_ (fun h => by have := Mi18 h; omega) _ _ | refine Mag.drew ?_ | refine Mag.alloc ?_ _ | refine Mag.drewN ?_ _ | refine Mag.below ?_ (Below.drew (Below.refl _ _)) | refine Mag.below ?_ ((Below.refl _ _).alloc (Nat.le_refl _) _) | exact Mi18)) hb19; have B19 := below_box (w := w) (by have hszw := (B18).size; repeat (with_reducible first | refine Below.setCell ?_ (by first | omega | (simp <;> omega)) _ | refine Below.alloc ?_ (by first | omega | (simp <;> omega)) _ | refine Below.drew ?_ | refine below_drewN ?_ _ | exact B18)) hb19; clear hb19; clear hf19)
        | fail)
  | fail "region"
  go_wp2_with fail
  refine (HW _ (hT.below (by have hszw := (B21).size; repeat (with_reducible first | refine Below.setCell ?_ (by first | omega | (simp <;> omega)) _ | refine Below.alloc ?_ (by first | omega | (simp <;> omega)) _ | refine Below.drew ?_ | refine below_drewN ?_ _ | exact B21)))).out.mono ?_
  rintro e w22 ⟨rfl, hb22⟩
  have Va22 : DyV w22 b0 bda sa (.slice aa na pa) ea := (by refine DyV.below ?_ hb22; (repeat (with_reducible first | refine DyV.drew ?_ | refine DyV.drewN ?_ _ | refine DyV.alloc ?_ _)); exact Va21.out)
  obtain ⟨ac0, ac1, ac2, ac3, ac4, ac5⟩ := Va22
  have Va22 := Lib.hid (DyV.mk ac0 ac1 ac2 ac3 ac4 ac5)
  have Vu22 : DyV w22 zu (dbad du) (decide (dman du < 0)) (.slice au (nl (dman du).natAbs) cu) (dexp du) := (by refine DyV.below ?_ hb22; (repeat (with_reducible first | refine DyV.drew ?_ | refine DyV.drewN ?_ _ | refine DyV.alloc ?_ _)); exact Vu21.out)
  obtain ⟨uc0, uc1, uc2, uc3, uc4, uc5⟩ := Vu22
  have Vu22 := Lib.hid (DyV.mk uc0 uc1 uc2 uc3 uc4 uc5)
  have Vf22 : BgV w22 zf (decide (y < 0)) (.slice af (nl y.natAbs) cf) := (by refine BgV.below ?_ hb22; (repeat (with_reducible first | refine BgV.drew ?_ | refine BgV.drewN ?_ _ | refine BgV.alloc ?_ _)); exact Vf21.out)
  obtain ⟨fc0, fc1, fc2, fc3⟩ := Vf22
  have Vf22 := Lib.hid (BgV.mk fc0 fc1 fc2 fc3)
  have Ve22 : DyV w22 ze (dbad de) (decide (dman de < 0)) (.slice ae (nl (dman de).natAbs) ce) (dexp de) := (by refine DyV.below ?_ hb22; (repeat (with_reducible first | refine DyV.drew ?_ | refine DyV.drewN ?_ _ | refine DyV.alloc ?_ _)); exact Ve21.out)
  obtain ⟨ec0, ec1, ec2, ec3, ec4, ec5⟩ := Ve22
  have Ve22 := Lib.hid (DyV.mk ec0 ec1 ec2 ec3 ec4 ec5)
  have Vi22 : DyV w22 zi (dbad do1) (decide (dman do1 < 0)) (.slice ai (nl (dman do1).natAbs) ci) (dexp do1) := (by refine DyV.below ?_ hb22; (repeat (with_reducible first | refine DyV.drew ?_ | refine DyV.drewN ?_ _ | refine DyV.alloc ?_ _)); exact Vi21.out)
  obtain ⟨ic0, ic1, ic2, ic3, ic4, ic5⟩ := Vi22
  have Vi22 := Lib.hid (DyV.mk ic0 ic1 ic2 ic3 ic4 ic5)
  have Mu22 : Mag w22 au (nl (dman du).natAbs) cu (dman du).natAbs := Mag.below (by repeat (with_reducible first | refine Mag.set ?_ (fun h => by have := Mu21 h; omega) _ _ | refine Mag.drew ?_ | refine Mag.alloc ?_ _ | refine Mag.drewN ?_ _ | refine Mag.below ?_ (Below.drew (Below.refl _ _)) | refine Mag.below ?_ ((Below.refl _ _).alloc (Nat.le_refl _) _) | exact Mu21)) hb22
  have Mf22 : Mag w22 af (nl y.natAbs) cf y.natAbs := Mag.below (by repeat (with_reducible first | refine Mag.set ?_ (fun h => by have := Mf21 h; omega) _ _ | refine Mag.drew ?_ | refine Mag.alloc ?_ _ | refine Mag.drewN ?_ _ | refine Mag.below ?_ (Below.drew (Below.refl _ _)) | refine Mag.below ?_ ((Below.refl _ _).alloc (Nat.le_refl _) _) | exact Mf21)) hb22
  have Me22 : Mag w22 ae (nl (dman de).natAbs) ce (dman de).natAbs := Mag.below (by repeat (with_reducible first | refine Mag.set ?_ (fun h => by have := Me21 h; omega) _ _ | refine Mag.drew ?_ | refine Mag.alloc ?_ _ | refine Mag.drewN ?_ _ | refine Mag.below ?_ (Below.drew (Below.refl _ _)) | refine Mag.below ?_ ((Below.refl _ _).alloc (Nat.le_refl _) _) | exact Me21)) hb22
  have Mi22 : Mag w22 ai (nl (dman do1).natAbs) ci (dman do1).natAbs := Mag.below (by repeat (with_reducible first | refine Mag.set ?_ (fun h => by have := Mi21 h; omega) _ _ | refine Mag.drew ?_ | refine Mag.alloc ?_ _ | refine Mag.drewN ?_ _ | refine Mag.below ?_ (Below.drew (Below.refl _ _)) | refine Mag.below ?_ ((Below.refl _ _).alloc (Nat.le_refl _) _) | exact Mi21)) hb22
  have M322 : Mag w22 a3 (nl (dman d2).natAbs) c3 (dman d2).natAbs := Mag.below (by repeat (with_reducible first | refine Mag.set ?_ (fun h => by have := M321 h; omega) _ _ | refine Mag.drew ?_ | refine Mag.alloc ?_ _ | refine Mag.drewN ?_ _ | refine Mag.below ?_ (Below.drew (Below.refl _ _)) | refine Mag.below ?_ ((Below.refl _ _).alloc (Nat.le_refl _) _) | exact M321)) hb22
  have M422 : Mag w22 a4 (nl (dman d3).natAbs) c4 (dman d3).natAbs := Mag.below (by repeat (with_reducible first | refine Mag.set ?_ (fun h => by have := M421 h; omega) _ _ | refine Mag.drew ?_ | refine Mag.alloc ?_ _ | refine Mag.drewN ?_ _ | refine Mag.below ?_ (Below.drew (Below.refl _ _)) | refine Mag.below ?_ ((Below.refl _ _).alloc (Nat.le_refl _) _) | exact M421)) hb22
  have B22 := below_box (w := w) (by have hszw := (B21).size; repeat (with_reducible first | refine Below.setCell ?_ (by first | omega | (simp <;> omega)) _ | refine Below.alloc ?_ (by first | omega | (simp <;> omega)) _ | refine Below.drew ?_ | refine below_drewN ?_ _ | exact B21)) hb22
  clear hb22
  go_wp2_with fail
  go_ret
  exact ⟨rfl, (by have hszw := (B22).size; repeat (with_reducible first | refine Below.setCell ?_ (by first | omega | (simp <;> omega)) _ | refine Below.alloc ?_ (by first | omega | (simp <;> omega)) _ | refine Below.drew ?_ | refine below_drewN ?_ _ | exact B22))⟩

theorem slim_ni {n : Nat} {e : Int} (h : slimB n e = true) : n ≤ 20 := by
  simp only [slimB, Bool.and_eq_true, decide_eq_true_eq] at h; exact h.1
theorem dyis_of {w : World} {bd s : Bool} {a : Option Addr} {n p x : Nat} {e : Int} (hm : Mag w a n p x) (hs : slimB n e = true) (h0 : -9223372036854775808 ≤ e) (h1 : e ≤ 9223372036854775807) : DyIs w bd s a n p e (nrmB bd (sgn s x) e) := by
  have hn := slim_ni hs
  have hb := slim_pow x n hm.lt
  exact ⟨⟨x, hm, by omega, by omega, h0, h1, rfl⟩, by omega⟩

theorem scal_any (w : World) (hT : Tab w) (bda sa : Bool) (aa : Option Addr) (na pa xa : Nat) (ea q : Int)
    (Ma : Mag w aa na pa xa) (ua : -9223372036854775808 ≤ ea ∧ ea ≤ 9223372036854775807) (_uq : -9223372036854775808 ≤ q ∧ q ≤ 9223372036854775807) :
    Calls Tryd.prog 8 #[.agg #[.bool bda, .bool sa, .slice aa na pa, .int .i64 ea], .int .i64 q] w fun o w' => o = .returned (.bool true) ∧ Below w.heap.size w w' := by
  have ma := Nat.le_trans Ma.fits Ma.lim
  cases hsa : slimB na ea with
  | false => exact scal_na w hT _ _ _ _ _ _ _ ma hsa
  | true =>
    have Ha := dyis_of (bd := bda) (s := sa) Ma hsa ua.1 ua.2
    cases va : nrmB bda (sgn sa xa) ea with
    | none =>
      rw [va] at Ha
      exact scal_va w hT _ _ _ _ _ _ _ Ha _ ma hsa rfl
    | some p =>
      obtain ⟨m, e⟩ := p
      rw [va] at Ha
      have Sa := slim_nrm hsa Ma.lt va
      have hp0 : 0 ≤ placeI q 4000 := by unfold placeI; exact Int.emod_nonneg _ (by omega)
      have hp1 : placeI q 4000 < 4000 := by unfold placeI; exact Int.emod_lt_of_pos _ (by omega)
      obtain ⟨_, h2⟩ := dscale_back (n := placeI q 4000 - 2000) Sa (by omega) (by omega)
      obtain ⟨g, r, h3, _, h5, h6, h7⟩ := dfloor_law Sa
      by_cases h0 : m = 0
      · have he0 : e = 0 := by rcases Sa with h | h <;> omega
        refine scal_zero w hT _ _ _ _ _ _ _ Ha q ma hsa rfl (placeI q 4000 - 2000) (-(placeI q 4000 - 2000)) _ _ _ _ _ rfl (by omega) (by omega) rfl _ _ (some (g, r)) (some (1, 0)) _ rfl rfl rfl h5 rfl rfl h2 rfl rfl (by decide) h3 h7 h6 rfl Ha.1.isN ?_ ?_ ?_
        · subst h0; rfl
        · subst h0; rfl
        · subst h0; simp [dlog]
      · obtain ⟨k1, k2, k3, k4, k5, k6⟩ := dlog_law Sa h0
        refine scal_main w hT _ _ _ _ _ _ _ Ha q ma hsa rfl (placeI q 4000 - 2000) (-(placeI q 4000 - 2000)) _ _ _ _ _ rfl (by omega) (by omega) rfl _ _ (some (g, r)) (some (1, 0)) _ _ _ _ _ _ rfl rfl rfl h5 rfl rfl h2 rfl rfl (by decide) h3 h7 h6 rfl Ha.1.isN ?_ ?_ (by omega) (by omega) rfl rfl rfl rfl rfl k3 k4
        · simp [dnz, dbad, dman, h0]
        · show cmpI m 0 ≠ 0
          intro h; exact h0 (cmpI_eq0.1 h)

end Go.Proofs.YtjhngehajahbnaaDoor
