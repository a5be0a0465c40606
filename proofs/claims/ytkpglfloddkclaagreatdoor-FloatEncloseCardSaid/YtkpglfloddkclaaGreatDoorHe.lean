/-
  Walks: the law FloatEnclose.
-/
import Derived.Test.YtkpglfloddkclaaGreatDoorHk
import Derived.Test.YtkpglfloddkclaaGreatDoorHl
namespace Go.Proofs.YtkpglfloddkclaaGreatDoor
open Go.RowKit Sp

set_option maxRecDepth 100000 in
set_option maxHeartbeats 20000000 in
theorem encl_na (w : World) (hT : Tab w) (bdd sd : Bool) (ad : Option Addr) (nd pd : Nat) (ed : Int) (md : nd ≤ 9223372036854775807) (hsd : slim3B nd ed = false) :
    Calls Tryz.prog 4 #[.agg #[.bool bdd, .bool sd, .slice ad nd pd, .int .i64 ed]] w fun o w' => o = .returned (.bool true) ∧ Below w.heap.size w w' := by
  have HSl := fun W => Lib.hid (slimDyad3_any W bdd sd ad nd pd ed md false hsd)
  have HW := fun W ht => Lib.hid (awakeF_any W ht)
  go_enter Tryz.func4, Tryz.ntmps4
  go_wp2_with fail
  have I0 := DyV.made w 26 bdd sd (.slice ad nd pd) ed
  have B0 : Below w.heap.size w (w.alloc (.cells #[.bool bdd, .bool sd, .slice ad nd pd, .int .i64 ed] 26)) := (by repeat (with_reducible first | refine Below.setCell ?_ (by simp <;> omega) _ | refine Below.alloc ?_ (by simp <;> omega) _ | refine Below.drew ?_ | refine below_drewN ?_ _ | exact Below.refl _ _))
  generalize (w.alloc (.cells #[.bool bdd, .bool sd, .slice ad nd pd, .int .i64 ed] 26)) = w0 at I0 B0 ⊢
  generalize hb0 : w.heap.size = b0 at I0 ⊢
  obtain ⟨dc0, dc1, dc2, dc3, dc4, dc5⟩ := I0
  have Vd0 := Lib.hid (DyV.mk dc0 dc1 dc2 dc3 dc4 dc5)
  refine (HSl _).out.mono ?_
  rintro e w1 ⟨rfl, hb1⟩
  have Vd1 : DyV w1 b0 bdd sd (.slice ad nd pd) ed := (by refine DyV.below ?_ hb1; (repeat (with_reducible first | refine DyV.drew ?_ | refine DyV.drewN ?_ _ | refine DyV.alloc ?_ _)); exact Vd0.out)
  (try clear dc0 dc1 dc2 dc3 dc4)
  obtain ⟨dc0, dc1, dc2, dc3, dc4, dc5⟩ := Vd1
  have Vd1 := Lib.hid (DyV.mk dc0 dc1 dc2 dc3 dc4 dc5)
  have B1 := below_box (w := w) (by have hszw := (B0).size; repeat (with_reducible first | refine Below.setCell ?_ (by first | omega | (simp <;> omega)) _ | refine Below.alloc ?_ (by first | omega | (simp <;> omega)) _ | refine Below.drew ?_ | refine below_drewN ?_ _ | exact B0)) hb1
  clear hb1
  go_wp2_with fail
  refine (HW _ (hT.below (by have hszw := (B1).size; repeat (with_reducible first | refine Below.setCell ?_ (by first | omega | (simp <;> omega)) _ | refine Below.alloc ?_ (by first | omega | (simp <;> omega)) _ | refine Below.drew ?_ | refine below_drewN ?_ _ | exact B1)))).out.mono ?_
  rintro e w2 ⟨rfl, hb2⟩
  have Vd2 : DyV w2 b0 bdd sd (.slice ad nd pd) ed := (by refine DyV.below ?_ hb2; (repeat (with_reducible first | refine DyV.drew ?_ | refine DyV.drewN ?_ _ | refine DyV.alloc ?_ _)); exact Vd1.out)
  (try clear dc0 dc1 dc2 dc3 dc4)
  obtain ⟨dc0, dc1, dc2, dc3, dc4, dc5⟩ := Vd2
  have Vd2 := Lib.hid (DyV.mk dc0 dc1 dc2 dc3 dc4 dc5)
  have B2 := below_box (w := w) (by have hszw := (B1).size; repeat (with_reducible first | refine Below.setCell ?_ (by first | omega | (simp <;> omega)) _ | refine Below.alloc ?_ (by first | omega | (simp <;> omega)) _ | refine Below.drew ?_ | refine below_drewN ?_ _ | exact B1)) hb2
  clear hb2
  go_wp2_with fail
  go_ret
  exact ⟨rfl, (by have hszw := (B2).size; repeat (with_reducible first | refine Below.setCell ?_ (by first | omega | (simp <;> omega)) _ | refine Below.alloc ?_ (by first | omega | (simp <;> omega)) _ | refine Below.drew ?_ | refine below_drewN ?_ _ | exact B2))⟩

set_option maxRecDepth 100000 in
set_option maxHeartbeats 20000000 in
theorem encl_va (w : World) (hT : Tab w) (bdd sd : Bool) (ad : Option Addr) (nd pd : Nat) (ed : Int) (dd : Option (Int × Int)) (Hd : DyIs w bdd sd ad nd pd ed dd) (md : nd ≤ 9223372036854775807) (hsd : slim3B nd ed = true) (va : dbad dd = true) :
    Calls Tryz.prog 4 #[.agg #[.bool bdd, .bool sd, .slice ad nd pd, .int .i64 ed]] w fun o w' => o = .returned (.bool true) ∧ Below w.heap.size w w' := by
  have HSl := fun W => Lib.hid (slimDyad3_any W bdd sd ad nd pd ed md true hsd)
  have HW := fun W ht => Lib.hid (awakeF_any W ht)
  have Gd := Lib.hid Hd
  have HV := fun W (h : DyIs W bdd sd ad nd pd ed dd) ht => Lib.hid (rvalid_any W bdd sd ad nd pd ed dd h ht)
  rw [va] at HV
  have nv : (!true) = false := rfl
  rw [nv] at HV
  clear nv
  clear hsd va Hd
  go_enter Tryz.func4, Tryz.ntmps4
  go_wp2_with fail
  have I0 := DyV.made w 26 bdd sd (.slice ad nd pd) ed
  have B0 : Below w.heap.size w (w.alloc (.cells #[.bool bdd, .bool sd, .slice ad nd pd, .int .i64 ed] 26)) := (by repeat (with_reducible first | refine Below.setCell ?_ (by simp <;> omega) _ | refine Below.alloc ?_ (by simp <;> omega) _ | refine Below.drew ?_ | refine below_drewN ?_ _ | exact Below.refl _ _))
  generalize (w.alloc (.cells #[.bool bdd, .bool sd, .slice ad nd pd, .int .i64 ed] 26)) = w0 at I0 B0 ⊢
  generalize hb0 : w.heap.size = b0 at I0 ⊢
  obtain ⟨dc0, dc1, dc2, dc3, dc4, dc5⟩ := I0
  have Vd0 := Lib.hid (DyV.mk dc0 dc1 dc2 dc3 dc4 dc5)
  refine (HSl _).out.mono ?_
  rintro e w1 ⟨rfl, hb1⟩
  have Vd1 : DyV w1 b0 bdd sd (.slice ad nd pd) ed := (by refine DyV.below ?_ hb1; (repeat (with_reducible first | refine DyV.drew ?_ | refine DyV.drewN ?_ _ | refine DyV.alloc ?_ _)); exact Vd0.out)
  (try clear dc0 dc1 dc2 dc3 dc4)
  obtain ⟨dc0, dc1, dc2, dc3, dc4, dc5⟩ := Vd1
  have Vd1 := Lib.hid (DyV.mk dc0 dc1 dc2 dc3 dc4 dc5)
  have B1 := below_box (w := w) (by have hszw := (B0).size; repeat (with_reducible first | refine Below.setCell ?_ (by first | omega | (simp <;> omega)) _ | refine Below.alloc ?_ (by first | omega | (simp <;> omega)) _ | refine Below.drew ?_ | refine below_drewN ?_ _ | exact B0)) hb1
  clear hb1
  go_wp2_with fail
  refine (HV _ (Gd.out.below (by have hszw := (B1).size; repeat (with_reducible first | refine Below.setCell ?_ (by first | omega | (simp <;> omega)) _ | refine Below.alloc ?_ (by first | omega | (simp <;> omega)) _ | refine Below.drew ?_ | refine below_drewN ?_ _ | exact B1))) (hT.below (by have hszw := (B1).size; repeat (with_reducible first | refine Below.setCell ?_ (by first | omega | (simp <;> omega)) _ | refine Below.alloc ?_ (by first | omega | (simp <;> omega)) _ | refine Below.drew ?_ | refine below_drewN ?_ _ | exact B1)))).out.mono ?_
  rintro e w2 ⟨rfl, hb2⟩
  have Vd2 : DyV w2 b0 bdd sd (.slice ad nd pd) ed := (by refine DyV.below ?_ hb2; (repeat (with_reducible first | refine DyV.drew ?_ | refine DyV.drewN ?_ _ | refine DyV.alloc ?_ _)); exact Vd1.out)
  (try clear dc0 dc1 dc2 dc3 dc4)
  obtain ⟨dc0, dc1, dc2, dc3, dc4, dc5⟩ := Vd2
  have Vd2 := Lib.hid (DyV.mk dc0 dc1 dc2 dc3 dc4 dc5)
  have B2 := below_box (w := w) (by have hszw := (B1).size; repeat (with_reducible first | refine Below.setCell ?_ (by first | omega | (simp <;> omega)) _ | refine Below.alloc ?_ (by first | omega | (simp <;> omega)) _ | refine Below.drew ?_ | refine below_drewN ?_ _ | exact B1)) hb2
  clear hb2
  go_wp2_with fail
  refine (HW _ (hT.below (by have hszw := (B2).size; repeat (with_reducible first | refine Below.setCell ?_ (by first | omega | (simp <;> omega)) _ | refine Below.alloc ?_ (by first | omega | (simp <;> omega)) _ | refine Below.drew ?_ | refine below_drewN ?_ _ | exact B2)))).out.mono ?_
  rintro e w3 ⟨rfl, hb3⟩
  have Vd3 : DyV w3 b0 bdd sd (.slice ad nd pd) ed := (by refine DyV.below ?_ hb3; (repeat (with_reducible first | refine DyV.drew ?_ | refine DyV.drewN ?_ _ | refine DyV.alloc ?_ _)); exact Vd2.out)
  (try clear dc0 dc1 dc2 dc3 dc4)
  obtain ⟨dc0, dc1, dc2, dc3, dc4, dc5⟩ := Vd3
  have Vd3 := Lib.hid (DyV.mk dc0 dc1 dc2 dc3 dc4 dc5)
  have B3 := below_box (w := w) (by have hszw := (B2).size; repeat (with_reducible first | refine Below.setCell ?_ (by first | omega | (simp <;> omega)) _ | refine Below.alloc ?_ (by first | omega | (simp <;> omega)) _ | refine Below.drew ?_ | refine below_drewN ?_ _ | exact B2)) hb3
  clear hb3
  go_wp2_with fail
  go_ret
  exact ⟨rfl, (by have hszw := (B3).size; repeat (with_reducible first | refine Below.setCell ?_ (by first | omega | (simp <;> omega)) _ | refine Below.alloc ?_ (by first | omega | (simp <;> omega)) _ | refine Below.drew ?_ | refine below_drewN ?_ _ | exact B3))⟩

set_option maxRecDepth 100000 in
set_option maxHeartbeats 20000000 in
theorem encl_sz (w : World) (hT : Tab w) (bdd sd : Bool) (ad : Option Addr) (nd pd : Nat) (ed : Int) (dd : Option (Int × Int)) (Hd : DyIs w bdd sd ad nd pd ed dd) (md : nd ≤ 9223372036854775807) (hsd : slim3B nd ed = true) (va : dbad dd = false) (sz : dman dd = 0) :
    Calls Tryz.prog 4 #[.agg #[.bool bdd, .bool sd, .slice ad nd pd, .int .i64 ed]] w fun o w' => o = .returned (.bool true) ∧ Below w.heap.size w w' := by
  have HSl := fun W => Lib.hid (slimDyad3_any W bdd sd ad nd pd ed md true hsd)
  have HW := fun W ht => Lib.hid (awakeF_any W ht)
  have Gd := Lib.hid Hd
  have HV := fun W (h : DyIs W bdd sd ad nd pd ed dd) ht => Lib.hid (rvalid_any W bdd sd ad nd pd ed dd h ht)
  rw [va] at HV
  have nv : (!false) = true := rfl
  rw [nv] at HV
  clear nv
  have HG := fun W (h : DyIs W bdd sd ad nd pd ed dd) ht => Lib.hid (rdsign_any W bdd sd ad nd pd ed dd h ht)
  have hsz : (sg (dman dd) == 0) = true := by rw [sz]; rfl
  generalize sg (dman dd) = gs at *
  clear hsd va Hd sz
  go_enter Tryz.func4, Tryz.ntmps4
  go_wp2_with fail
  have I0 := DyV.made w 26 bdd sd (.slice ad nd pd) ed
  have B0 : Below w.heap.size w (w.alloc (.cells #[.bool bdd, .bool sd, .slice ad nd pd, .int .i64 ed] 26)) := (by repeat (with_reducible first | refine Below.setCell ?_ (by simp <;> omega) _ | refine Below.alloc ?_ (by simp <;> omega) _ | refine Below.drew ?_ | refine below_drewN ?_ _ | exact Below.refl _ _))
  generalize (w.alloc (.cells #[.bool bdd, .bool sd, .slice ad nd pd, .int .i64 ed] 26)) = w0 at I0 B0 ⊢
  generalize hb0 : w.heap.size = b0 at I0 ⊢
  obtain ⟨dc0, dc1, dc2, dc3, dc4, dc5⟩ := I0
  have Vd0 := Lib.hid (DyV.mk dc0 dc1 dc2 dc3 dc4 dc5)
  refine (HSl _).out.mono ?_
  rintro e w1 ⟨rfl, hb1⟩
  have Vd1 : DyV w1 b0 bdd sd (.slice ad nd pd) ed := (by refine DyV.below ?_ hb1; (repeat (with_reducible first | refine DyV.drew ?_ | refine DyV.drewN ?_ _ | refine DyV.alloc ?_ _)); exact Vd0.out)
  (try clear dc0 dc1 dc2 dc3 dc4)
  obtain ⟨dc0, dc1, dc2, dc3, dc4, dc5⟩ := Vd1
  have Vd1 := Lib.hid (DyV.mk dc0 dc1 dc2 dc3 dc4 dc5)
  have B1 := below_box (w := w) (by have hszw := (B0).size; repeat (with_reducible first | refine Below.setCell ?_ (by first | omega | (simp <;> omega)) _ | refine Below.alloc ?_ (by first | omega | (simp <;> omega)) _ | refine Below.drew ?_ | refine below_drewN ?_ _ | exact B0)) hb1
  clear hb1
  go_wp2_with fail
  refine (HV _ (Gd.out.below (by have hszw := (B1).size; repeat (with_reducible first | refine Below.setCell ?_ (by first | omega | (simp <;> omega)) _ | refine Below.alloc ?_ (by first | omega | (simp <;> omega)) _ | refine Below.drew ?_ | refine below_drewN ?_ _ | exact B1))) (hT.below (by have hszw := (B1).size; repeat (with_reducible first | refine Below.setCell ?_ (by first | omega | (simp <;> omega)) _ | refine Below.alloc ?_ (by first | omega | (simp <;> omega)) _ | refine Below.drew ?_ | refine below_drewN ?_ _ | exact B1)))).out.mono ?_
  rintro e w2 ⟨rfl, hb2⟩
  have Vd2 : DyV w2 b0 bdd sd (.slice ad nd pd) ed := (by refine DyV.below ?_ hb2; (repeat (with_reducible first | refine DyV.drew ?_ | refine DyV.drewN ?_ _ | refine DyV.alloc ?_ _)); exact Vd1.out)
  (try clear dc0 dc1 dc2 dc3 dc4)
  obtain ⟨dc0, dc1, dc2, dc3, dc4, dc5⟩ := Vd2
  have Vd2 := Lib.hid (DyV.mk dc0 dc1 dc2 dc3 dc4 dc5)
  have B2 := below_box (w := w) (by have hszw := (B1).size; repeat (with_reducible first | refine Below.setCell ?_ (by first | omega | (simp <;> omega)) _ | refine Below.alloc ?_ (by first | omega | (simp <;> omega)) _ | refine Below.drew ?_ | refine below_drewN ?_ _ | exact B1)) hb2
  clear hb2
  go_wp2_with fail
  refine (HG _ (Gd.out.below (by have hszw := (B2).size; repeat (with_reducible first | refine Below.setCell ?_ (by first | omega | (simp <;> omega)) _ | refine Below.alloc ?_ (by first | omega | (simp <;> omega)) _ | refine Below.drew ?_ | refine below_drewN ?_ _ | exact B2))) (hT.below (by have hszw := (B2).size; repeat (with_reducible first | refine Below.setCell ?_ (by first | omega | (simp <;> omega)) _ | refine Below.alloc ?_ (by first | omega | (simp <;> omega)) _ | refine Below.drew ?_ | refine below_drewN ?_ _ | exact B2)))).out.mono ?_
  rintro e w3 ⟨rfl, hb3⟩
  have Vd3 : DyV w3 b0 bdd sd (.slice ad nd pd) ed := (by refine DyV.below ?_ hb3; (repeat (with_reducible first | refine DyV.drew ?_ | refine DyV.drewN ?_ _ | refine DyV.alloc ?_ _)); exact Vd2.out)
  (try clear dc0 dc1 dc2 dc3 dc4)
  obtain ⟨dc0, dc1, dc2, dc3, dc4, dc5⟩ := Vd3
  have Vd3 := Lib.hid (DyV.mk dc0 dc1 dc2 dc3 dc4 dc5)
  have B3 := below_box (w := w) (by have hszw := (B2).size; repeat (with_reducible first | refine Below.setCell ?_ (by first | omega | (simp <;> omega)) _ | refine Below.alloc ?_ (by first | omega | (simp <;> omega)) _ | refine Below.drew ?_ | refine below_drewN ?_ _ | exact B2)) hb3
  clear hb3
  go_wp2_with fail
  refine (HW _ (hT.below (by have hszw := (B3).size; repeat (with_reducible first | refine Below.setCell ?_ (by first | omega | (simp <;> omega)) _ | refine Below.alloc ?_ (by first | omega | (simp <;> omega)) _ | refine Below.drew ?_ | refine below_drewN ?_ _ | exact B3)))).out.mono ?_
  rintro e w4 ⟨rfl, hb4⟩
  have Vd4 : DyV w4 b0 bdd sd (.slice ad nd pd) ed := (by refine DyV.below ?_ hb4; (repeat (with_reducible first | refine DyV.drew ?_ | refine DyV.drewN ?_ _ | refine DyV.alloc ?_ _)); exact Vd3.out)
  (try clear dc0 dc1 dc2 dc3 dc4)
  obtain ⟨dc0, dc1, dc2, dc3, dc4, dc5⟩ := Vd4
  have Vd4 := Lib.hid (DyV.mk dc0 dc1 dc2 dc3 dc4 dc5)
  have B4 := below_box (w := w) (by have hszw := (B3).size; repeat (with_reducible first | refine Below.setCell ?_ (by first | omega | (simp <;> omega)) _ | refine Below.alloc ?_ (by first | omega | (simp <;> omega)) _ | refine Below.drew ?_ | refine below_drewN ?_ _ | exact B3)) hb4
  clear hb4
  go_wp2_with fail
  go_ret
  exact ⟨rfl, (by have hszw := (B4).size; repeat (with_reducible first | refine Below.setCell ?_ (by first | omega | (simp <;> omega)) _ | refine Below.alloc ?_ (by first | omega | (simp <;> omega)) _ | refine Below.drew ?_ | refine below_drewN ?_ _ | exact B4))⟩

set_option maxRecDepth 100000 in
set_option maxHeartbeats 20000000 in
theorem encl_zze (w : World) (hT : Tab w) (bdd sd : Bool) (ad : Option Addr) (nd pd : Nat) (ed : Int) (dd : Option (Int × Int)) (Hd : DyIs w bdd sd ad nd pd ed dd) (md : nd ≤ 9223372036854775807) (hsd : slim3B nd ed = true) (va : dbad dd = false) (sz : dman dd ≠ 0) (lo hi near : Nat) (f1 : fround dd 1 = lo) (f2 : fround dd 2 = hi) (f3 : fround dd 0 = near) (n1 : fnan lo = false) (n2 : fnan hi = false) (o1 : (!dbad (fof lo) && !dbad dd) = true) (o2 : (!dbad dd && !dbad (fof hi)) = true) (x1 : dcmp (fof lo) dd = 0) (x2 : dcmp dd (fof hi) = 0) (e1 : lo = hi) (e2 : near = lo) :
    Calls Tryz.prog 4 #[.agg #[.bool bdd, .bool sd, .slice ad nd pd, .int .i64 ed]] w fun o w' => o = .returned (.bool true) ∧ Below w.heap.size w w' := by
  have HSl := fun W => Lib.hid (slimDyad3_any W bdd sd ad nd pd ed md true hsd)
  have HW := fun W ht => Lib.hid (awakeF_any W ht)
  have Gd := Lib.hid Hd
  have HV := fun W (h : DyIs W bdd sd ad nd pd ed dd) ht => Lib.hid (rvalid_any W bdd sd ad nd pd ed dd h ht)
  rw [va] at HV
  have nv : (!false) = true := rfl
  rw [nv] at HV
  clear nv
  have HG := fun W (h : DyIs W bdd sd ad nd pd ed dd) ht => Lib.hid (rdsign_any W bdd sd ad nd pd ed dd h ht)
  have hsz : (sg (dman dd) == 0) = false := by unfold sg cmpI; split <;> (try split) <;> first | decide | (exfalso; omega)
  generalize sg (dman dd) = gs at *
  have Nd := Lib.hid Hd.1.isN
  have l1 : lo < 18446744073709551616 := f1 ▸ fround_lt _ _
  have l2 : hi < 18446744073709551616 := f2 ▸ fround_lt _ _
  have HR1 := fun W (h : DyIs W bdd sd ad nd pd ed dd) ht => Lib.hid (fround_any W bdd sd ad nd pd ed 1 dd h.1 ht)
  have HR2 := fun W (h : DyIs W bdd sd ad nd pd ed dd) ht => Lib.hid (fround_any W bdd sd ad nd pd ed 2 dd h.1 ht)
  have HR3 := fun W (h : DyIs W bdd sd ad nd pd ed dd) ht => Lib.hid (fround_any W bdd sd ad nd pd ed 0 dd h.1 ht)
  rw [f1] at HR1
  rw [f2] at HR2
  rw [f3] at HR3
  have HK1 := fun W => Lib.hid (fkind_any W lo)
  have HK2 := fun W => Lib.hid (fkind_any W hi)
  have hk1 : (fkind lo == 3) = false := by rw [(fkind_eqs lo).1]; exact n1
  have hk2 : (fkind hi == 3) = false := by rw [(fkind_eqs hi).1]; exact n2
  have HO1 := fun W ht => Lib.hid (fof_any W lo l1 ht)
  have HO2 := fun W ht => Lib.hid (fof_any W hi l2 ht)
  have N1 := Lib.hid (isN_fof lo)
  have N2 := Lib.hid (isN_fof hi)
  have g1 : decide (0 < dcmp (fof lo) dd) = false := by rw [x1]; rfl
  have h1 : (dcmp (fof lo) dd == 0) = true := by rw [x1]; rfl
  have g2 : decide (0 < dcmp dd (fof hi)) = false := by rw [x2]; rfl
  have h2 : (dcmp dd (fof hi) == 0) = true := by rw [x2]; rfl
  have HC1 := fun W (b : Option Addr) (q : Nat) (h : Mag W b (nl (dman (fof lo)).natAbs) q (dman (fof lo)).natAbs) (h' : DyIs W bdd sd ad nd pd ed dd) ht => Lib.hid (dcmp_any W _ _ _ _ _ _ _ _ _ _ _ _ _ _ (dyin_of N1.out h) h'.1 ht)
  have HC2 := fun W (b : Option Addr) (q : Nat) (h : Mag W b (nl (dman (fof hi)).natAbs) q (dman (fof hi)).natAbs) (h' : DyIs W bdd sd ad nd pd ed dd) ht => Lib.hid (dcmp_any W _ _ _ _ _ _ _ _ _ _ _ _ _ _ h'.1 (dyin_of N2.out h) ht)
  rw [o1] at HC1
  rw [o2] at HC2
  have y1 : ((lo : Int) == (hi : Int)) = true := by rw [e1]; simp
  have y2 : ((near : Int) == (lo : Int)) = true := by rw [e2]; simp
  generalize dcmp (fof lo) dd = v1 at *
  generalize dcmp dd (fof hi) = v2 at *
  generalize fof lo = dl at *
  generalize fof hi = dh at *
  generalize fkind lo = kl at *
  generalize fkind hi = kh at *
  clear f1 f2 f3 n1 n2 hsd va sz Hd l1 l2 o1 o2 x1 x2 e1 e2
  generalize (lo : Int) = jl at *
  generalize (hi : Int) = jh at *
  generalize (near : Int) = jn at *
  go_enter Tryz.func4, Tryz.ntmps4
  go_wp2_with fail
  have I0 := DyV.made w 26 bdd sd (.slice ad nd pd) ed
  have B0 : Below w.heap.size w (w.alloc (.cells #[.bool bdd, .bool sd, .slice ad nd pd, .int .i64 ed] 26)) := (by repeat (with_reducible first | refine Below.setCell ?_ (by simp <;> omega) _ | refine Below.alloc ?_ (by simp <;> omega) _ | refine Below.drew ?_ | refine below_drewN ?_ _ | exact Below.refl _ _))
  generalize (w.alloc (.cells #[.bool bdd, .bool sd, .slice ad nd pd, .int .i64 ed] 26)) = w0 at I0 B0 ⊢
  generalize hb0 : w.heap.size = b0 at I0 ⊢
  obtain ⟨dc0, dc1, dc2, dc3, dc4, dc5⟩ := I0
  have Vd0 := Lib.hid (DyV.mk dc0 dc1 dc2 dc3 dc4 dc5)
  refine (HSl _).out.mono ?_
  rintro e w1 ⟨rfl, hb1⟩
  have Vd1 : DyV w1 b0 bdd sd (.slice ad nd pd) ed := (by refine DyV.below ?_ hb1; (repeat (with_reducible first | refine DyV.drew ?_ | refine DyV.drewN ?_ _ | refine DyV.alloc ?_ _)); exact Vd0.out)
  (try clear dc0 dc1 dc2 dc3 dc4)
  obtain ⟨dc0, dc1, dc2, dc3, dc4, dc5⟩ := Vd1
  have Vd1 := Lib.hid (DyV.mk dc0 dc1 dc2 dc3 dc4 dc5)
  have B1 := below_box (w := w) (by have hszw := (B0).size; repeat (with_reducible first | refine Below.setCell ?_ (by first | omega | (simp <;> omega)) _ | refine Below.alloc ?_ (by first | omega | (simp <;> omega)) _ | refine Below.drew ?_ | refine below_drewN ?_ _ | exact B0)) hb1
  clear hb1
  go_wp2_with fail
  refine (HV _ (Gd.out.below (by have hszw := (B1).size; repeat (with_reducible first | refine Below.setCell ?_ (by first | omega | (simp <;> omega)) _ | refine Below.alloc ?_ (by first | omega | (simp <;> omega)) _ | refine Below.drew ?_ | refine below_drewN ?_ _ | exact B1))) (hT.below (by have hszw := (B1).size; repeat (with_reducible first | refine Below.setCell ?_ (by first | omega | (simp <;> omega)) _ | refine Below.alloc ?_ (by first | omega | (simp <;> omega)) _ | refine Below.drew ?_ | refine below_drewN ?_ _ | exact B1)))).out.mono ?_
  rintro e w2 ⟨rfl, hb2⟩
  have Vd2 : DyV w2 b0 bdd sd (.slice ad nd pd) ed := (by refine DyV.below ?_ hb2; (repeat (with_reducible first | refine DyV.drew ?_ | refine DyV.drewN ?_ _ | refine DyV.alloc ?_ _)); exact Vd1.out)
  (try clear dc0 dc1 dc2 dc3 dc4)
  obtain ⟨dc0, dc1, dc2, dc3, dc4, dc5⟩ := Vd2
  have Vd2 := Lib.hid (DyV.mk dc0 dc1 dc2 dc3 dc4 dc5)
  have B2 := below_box (w := w) (by have hszw := (B1).size; repeat (with_reducible first | refine Below.setCell ?_ (by first | omega | (simp <;> omega)) _ | refine Below.alloc ?_ (by first | omega | (simp <;> omega)) _ | refine Below.drew ?_ | refine below_drewN ?_ _ | exact B1)) hb2
  clear hb2
  go_wp2_with fail
  refine (HG _ (Gd.out.below (by have hszw := (B2).size; repeat (with_reducible first | refine Below.setCell ?_ (by first | omega | (simp <;> omega)) _ | refine Below.alloc ?_ (by first | omega | (simp <;> omega)) _ | refine Below.drew ?_ | refine below_drewN ?_ _ | exact B2))) (hT.below (by have hszw := (B2).size; repeat (with_reducible first | refine Below.setCell ?_ (by first | omega | (simp <;> omega)) _ | refine Below.alloc ?_ (by first | omega | (simp <;> omega)) _ | refine Below.drew ?_ | refine below_drewN ?_ _ | exact B2)))).out.mono ?_
  rintro e w3 ⟨rfl, hb3⟩
  have Vd3 : DyV w3 b0 bdd sd (.slice ad nd pd) ed := (by refine DyV.below ?_ hb3; (repeat (with_reducible first | refine DyV.drew ?_ | refine DyV.drewN ?_ _ | refine DyV.alloc ?_ _)); exact Vd2.out)
  (try clear dc0 dc1 dc2 dc3 dc4)
  obtain ⟨dc0, dc1, dc2, dc3, dc4, dc5⟩ := Vd3
  have Vd3 := Lib.hid (DyV.mk dc0 dc1 dc2 dc3 dc4 dc5)
  have B3 := below_box (w := w) (by have hszw := (B2).size; repeat (with_reducible first | refine Below.setCell ?_ (by first | omega | (simp <;> omega)) _ | refine Below.alloc ?_ (by first | omega | (simp <;> omega)) _ | refine Below.drew ?_ | refine below_drewN ?_ _ | exact B2)) hb3
  clear hb3
  go_wp2_with fail
  first
  | go_region_held3 (fun w' => w'.cell? ⟨b0, 0, none⟩ = some (.bool bdd) ∧ w'.cell? ⟨b0, 1, none⟩ = some (.bool sd) ∧ w'.cell? ⟨b0, 2, none⟩ = some ((.slice ad nd pd)) ∧ w'.cell? ⟨b0, 3, none⟩ = some (.int .i64 ed)) (first | (go_keep; done) | (go_simp; done))
      (first
        | (go_at_call 9; have xx := B5; refine (HR3 _ (Gd.out.below (by have hszw := (B5).size; repeat (with_reducible first | refine Below.setCell ?_ (by first | omega | (simp <;> omega)) _ | refine Below.alloc ?_ (by first | omega | (simp <;> omega)) _ | refine Below.drew ?_ | refine below_drewN ?_ _ | exact B5))) (hT.below (by have hszw := (B5).size; repeat (with_reducible first | refine Below.setCell ?_ (by first | omega | (simp <;> omega)) _ | refine Below.alloc ?_ (by first | omega | (simp <;> omega)) _ | refine Below.drew ?_ | refine below_drewN ?_ _ | exact B5)))).out.mono ?_; rintro e w6 ⟨rfl, hb6⟩; have Vd6 : DyV w6 b0 bdd sd (.slice ad nd pd) ed := (by refine DyV.below ?_ hb6; (repeat (with_reducible first | refine DyV.drew ?_ | refine DyV.drewN ?_ _ | refine DyV.alloc ?_ _)); exact Vd5.out); (try clear dc0 dc1 dc2 dc3 dc4); obtain ⟨dc0, dc1, dc2, dc3, dc4, dc5⟩ := Vd6; have Vd6 := Lib.hid (DyV.mk dc0 dc1 dc2 dc3 dc4 dc5); have B6 := below_box (w := w) (by have hszw := (B5).size; repeat (with_reducible first | refine Below.setCell ?_ (by first | omega | (simp <;> omega)) _ | refine Below.alloc ?_ (by first | omega | (simp <;> omega)) _ | refine Below.drew ?_ | refine below_drewN ?_ _ | exact B5)) hb6; clear hb6)
        | (go_at_call 9; have xx := B4; refine (HR2 _ (Gd.out.below (by have hszw := (B4).size; repeat (with_reducible first | refine Below.setCell ?_ (by first | omega | (simp <;> omega)) _ | refine Below.alloc ?_ (by first | omega | (simp <;> omega)) _ | refine Below.drew ?_ | refine below_drewN ?_ _ | exact B4))) (hT.below (by have hszw := (B4).size; repeat (with_reducible first | refine Below.setCell ?_ (by first | omega | (simp <;> omega)) _ | refine Below.alloc ?_ (by first | omega | (simp <;> omega)) _ | refine Below.drew ?_ | refine below_drewN ?_ _ | exact B4)))).out.mono ?_; rintro e w5 ⟨rfl, hb5⟩; have Vd5 : DyV w5 b0 bdd sd (.slice ad nd pd) ed := (by refine DyV.below ?_ hb5; (repeat (with_reducible first | refine DyV.drew ?_ | refine DyV.drewN ?_ _ | refine DyV.alloc ?_ _)); exact Vd4.out); (try clear dc0 dc1 dc2 dc3 dc4); obtain ⟨dc0, dc1, dc2, dc3, dc4, dc5⟩ := Vd5; have Vd5 := Lib.hid (DyV.mk dc0 dc1 dc2 dc3 dc4 dc5); have B5 := below_box (w := w) (by have hszw := (B4).size; repeat (with_reducible first | refine Below.setCell ?_ (by first | omega | (simp <;> omega)) _ | refine Below.alloc ?_ (by first | omega | (simp <;> omega)) _ | refine Below.drew ?_ | refine below_drewN ?_ _ | exact B4)) hb5; clear hb5)
        | (go_at_call 9; have xx := B3; refine (HR1 _ (Gd.out.below (by have hszw := (B3).size; repeat (with_reducible first | refine Below.setCell ?_ (by first | omega | (simp <;> omega)) _ | refine Below.alloc ?_ (by first | omega | (simp <;> omega)) _ | refine Below.drew ?_ | refine below_drewN ?_ _ | exact B3))) (hT.below (by have hszw := (B3).size; repeat (with_reducible first | refine Below.setCell ?_ (by first | omega | (simp <;> omega)) _ | refine Below.alloc ?_ (by first | omega | (simp <;> omega)) _ | refine Below.drew ?_ | refine below_drewN ?_ _ | exact B3)))).out.mono ?_; rintro e w4 ⟨rfl, hb4⟩; have Vd4 : DyV w4 b0 bdd sd (.slice ad nd pd) ed := (by refine DyV.below ?_ hb4; (repeat (with_reducible first | refine DyV.drew ?_ | refine DyV.drewN ?_ _ | refine DyV.alloc ?_ _)); exact Vd3.out); (try clear dc0 dc1 dc2 dc3 dc4); obtain ⟨dc0, dc1, dc2, dc3, dc4, dc5⟩ := Vd4; have Vd4 := Lib.hid (DyV.mk dc0 dc1 dc2 dc3 dc4 dc5); have B4 := below_box (w := w) (by have hszw := (B3).size; repeat (with_reducible first | refine Below.setCell ?_ (by first | omega | (simp <;> omega)) _ | refine Below.alloc ?_ (by first | omega | (simp <;> omega)) _ | refine Below.drew ?_ | refine below_drewN ?_ _ | exact B3)) hb4; clear hb4)
        | fail)
  | fail "region"
  go_wp2_with fail
  refine (HK1 _).out.mono ?_
  rintro e wq ⟨rfl, rfl⟩
  go_wp2_with fail
  refine (HK2 _).out.mono ?_
  rintro e wq ⟨rfl, rfl⟩
  go_wp2_with fail
  first
  | go_region_held3 (fun w' => w'.cell? ⟨b0, 0, none⟩ = some (.bool bdd) ∧ w'.cell? ⟨b0, 1, none⟩ = some (.bool sd) ∧ w'.cell? ⟨b0, 2, none⟩ = some ((.slice ad nd pd)) ∧ w'.cell? ⟨b0, 3, none⟩ = some (.int .i64 ed)) (first | (go_keep; done) | (go_simp; done))
      (first
        | (go_at_call 18; have xx := B7; refine (HC1 _ al cl (by repeat (with_reducible first | refine Mag.set ?_ (fun h => by have := Ml7 h; omega) _ _ | refine Mag.drew ?_ | refine Mag.alloc ?_ _ | refine Mag.drewN ?_ _ | refine Mag.below ?_ (Below.drew (Below.refl _ _)) | refine Mag.below ?_ ((Below.refl _ _).alloc (Nat.le_refl _) _) | exact Ml7)) (Gd.out.below (by have hszw := (B7).size; repeat (with_reducible first | refine Below.setCell ?_ (by first | omega | (simp <;> omega)) _ | refine Below.alloc ?_ (by first | omega | (simp <;> omega)) _ | refine Below.drew ?_ | refine below_drewN ?_ _ | exact B7))) (hT.below (by have hszw := (B7).size; repeat (with_reducible first | refine Below.setCell ?_ (by first | omega | (simp <;> omega)) _ | refine Below.alloc ?_ (by first | omega | (simp <;> omega)) _ | refine Below.drew ?_ | refine below_drewN ?_ _ | exact B7)))).out.mono ?_; rintro e w8 ⟨rfl, hb8⟩; have Vd8 : DyV w8 b0 bdd sd (.slice ad nd pd) ed := (by refine DyV.below ?_ hb8; (repeat (with_reducible first | refine DyV.drew ?_ | refine DyV.drewN ?_ _ | refine DyV.alloc ?_ _)); exact Vd7.out); (try clear dc0 dc1 dc2 dc3 dc4); obtain ⟨dc0, dc1, dc2, dc3, dc4, dc5⟩ := Vd8; have Vd8 := Lib.hid (DyV.mk dc0 dc1 dc2 dc3 dc4 dc5); have B8 := below_box (w := w) (by have hszw := (B7).size; repeat (with_reducible first | refine Below.setCell ?_ (by first | omega | (simp <;> omega)) _ | refine Below.alloc ?_ (by first | omega | (simp <;> omega)) _ | refine Below.drew ?_ | refine below_drewN ?_ _ | exact B7)) hb8; clear hb8)
        | (go_at_call 19; have xx := B6; refine (HO1 _ (hT.below (by have hszw := (B6).size; repeat (with_reducible first | refine Below.setCell ?_ (by first | omega | (simp <;> omega)) _ | refine Below.alloc ?_ (by first | omega | (simp <;> omega)) _ | refine Below.drew ?_ | refine below_drewN ?_ _ | exact B6)))).out.mono ?_; rintro e w7 ⟨al, cl, rfl, Ml7, hb7, hf7⟩; have Vd7 : DyV w7 b0 bdd sd (.slice ad nd pd) ed := (by refine DyV.below ?_ hb7; (repeat (with_reducible first | refine DyV.drew ?_ | refine DyV.drewN ?_ _ | refine DyV.alloc ?_ _)); exact Vd6.out); (try clear dc0 dc1 dc2 dc3 dc4); obtain ⟨dc0, dc1, dc2, dc3, dc4, dc5⟩ := Vd7; have Vd7 := Lib.hid (DyV.mk dc0 dc1 dc2 dc3 dc4 dc5); have B7 := below_box (w := w) (by have hszw := (B6).size; repeat (with_reducible first | refine Below.setCell ?_ (by first | omega | (simp <;> omega)) _ | refine Below.alloc ?_ (by first | omega | (simp <;> omega)) _ | refine Below.drew ?_ | refine below_drewN ?_ _ | exact B6)) hb7; clear hb7 hf7)
        | fail)
  | fail "region"
  go_wp2_with fail
  first
  | go_region_held3 (fun w' => w'.cell? ⟨b0, 0, none⟩ = some (.bool bdd) ∧ w'.cell? ⟨b0, 1, none⟩ = some (.bool sd) ∧ w'.cell? ⟨b0, 2, none⟩ = some ((.slice ad nd pd)) ∧ w'.cell? ⟨b0, 3, none⟩ = some (.int .i64 ed)) (first | (go_keep; done) | (go_simp; done))
      (first
        | (go_at_call 18; have xx := B9; refine (HC2 _ ah ch (by repeat (with_reducible first | refine Mag.set ?_ (fun h => by have := Mh9 h; omega) _ _ | refine Mag.drew ?_ | refine Mag.alloc ?_ _ | refine Mag.drewN ?_ _ | refine Mag.below ?_ (Below.drew (Below.refl _ _)) | refine Mag.below ?_ ((Below.refl _ _).alloc (Nat.le_refl _) _) | exact Mh9)) (Gd.out.below (by have hszw := (B9).size; repeat (with_reducible first | refine Below.setCell ?_ (by first | omega | (simp <;> omega)) _ | refine Below.alloc ?_ (by first | omega | (simp <;> omega)) _ | refine Below.drew ?_ | refine below_drewN ?_ _ | exact B9))) (hT.below (by have hszw := (B9).size; repeat (with_reducible first | refine Below.setCell ?_ (by first | omega | (simp <;> omega)) _ | refine Below.alloc ?_ (by first | omega | (simp <;> omega)) _ | refine Below.drew ?_ | refine below_drewN ?_ _ | exact B9)))).out.mono ?_; rintro e w10 ⟨rfl, hb10⟩; have Vd10 : DyV w10 b0 bdd sd (.slice ad nd pd) ed := (by refine DyV.below ?_ hb10; (repeat (with_reducible first | refine DyV.drew ?_ | refine DyV.drewN ?_ _ | refine DyV.alloc ?_ _)); exact Vd9.out); (try clear dc0 dc1 dc2 dc3 dc4); obtain ⟨dc0, dc1, dc2, dc3, dc4, dc5⟩ := Vd10; have Vd10 := Lib.hid (DyV.mk dc0 dc1 dc2 dc3 dc4 dc5); have B10 := below_box (w := w) (by have hszw := (B9).size; repeat (with_reducible first | refine Below.setCell ?_ (by first | omega | (simp <;> omega)) _ | refine Below.alloc ?_ (by first | omega | (simp <;> omega)) _ | refine Below.drew ?_ | refine below_drewN ?_ _ | exact B9)) hb10; clear hb10)
        | (go_at_call 19; have xx := B8; refine (HO2 _ (hT.below (by have hszw := (B8).size; repeat (with_reducible first | refine Below.setCell ?_ (by first | omega | (simp <;> omega)) _ | refine Below.alloc ?_ (by first | omega | (simp <;> omega)) _ | refine Below.drew ?_ | refine below_drewN ?_ _ | exact B8)))).out.mono ?_; rintro e w9 ⟨ah, ch, rfl, Mh9, hb9, hf9⟩; have Vd9 : DyV w9 b0 bdd sd (.slice ad nd pd) ed := (by refine DyV.below ?_ hb9; (repeat (with_reducible first | refine DyV.drew ?_ | refine DyV.drewN ?_ _ | refine DyV.alloc ?_ _)); exact Vd8.out); (try clear dc0 dc1 dc2 dc3 dc4); obtain ⟨dc0, dc1, dc2, dc3, dc4, dc5⟩ := Vd9; have Vd9 := Lib.hid (DyV.mk dc0 dc1 dc2 dc3 dc4 dc5); have B9 := below_box (w := w) (by have hszw := (B8).size; repeat (with_reducible first | refine Below.setCell ?_ (by first | omega | (simp <;> omega)) _ | refine Below.alloc ?_ (by first | omega | (simp <;> omega)) _ | refine Below.drew ?_ | refine below_drewN ?_ _ | exact B8)) hb9; clear hb9 hf9)
        | fail)
  | fail "region"
  go_wp2_with fail
  refine (HW _ (hT.below (by have hszw := (B10).size; repeat (with_reducible first | refine Below.setCell ?_ (by first | omega | (simp <;> omega)) _ | refine Below.alloc ?_ (by first | omega | (simp <;> omega)) _ | refine Below.drew ?_ | refine below_drewN ?_ _ | exact B10)))).out.mono ?_
  rintro e w11 ⟨rfl, hb11⟩
  have Vd11 : DyV w11 b0 bdd sd (.slice ad nd pd) ed := (by refine DyV.below ?_ hb11; (repeat (with_reducible first | refine DyV.drew ?_ | refine DyV.drewN ?_ _ | refine DyV.alloc ?_ _)); exact Vd10.out)
  (try clear dc0 dc1 dc2 dc3 dc4)
  obtain ⟨dc0, dc1, dc2, dc3, dc4, dc5⟩ := Vd11
  have Vd11 := Lib.hid (DyV.mk dc0 dc1 dc2 dc3 dc4 dc5)
  have B11 := below_box (w := w) (by have hszw := (B10).size; repeat (with_reducible first | refine Below.setCell ?_ (by first | omega | (simp <;> omega)) _ | refine Below.alloc ?_ (by first | omega | (simp <;> omega)) _ | refine Below.drew ?_ | refine below_drewN ?_ _ | exact B10)) hb11
  clear hb11
  go_wp2_with fail
  go_ret
  exact ⟨rfl, (by have hszw := (B11).size; repeat (with_reducible first | refine Below.setCell ?_ (by first | omega | (simp <;> omega)) _ | refine Below.alloc ?_ (by first | omega | (simp <;> omega)) _ | refine Below.drew ?_ | refine below_drewN ?_ _ | exact B11))⟩

set_option maxRecDepth 100000 in
set_option maxHeartbeats 20000000 in
theorem encl_zne (w : World) (hT : Tab w) (bdd sd : Bool) (ad : Option Addr) (nd pd : Nat) (ed : Int) (dd : Option (Int × Int)) (Hd : DyIs w bdd sd ad nd pd ed dd) (md : nd ≤ 9223372036854775807) (hsd : slim3B nd ed = true) (va : dbad dd = false) (sz : dman dd ≠ 0) (lo hi near : Nat) (f1 : fround dd 1 = lo) (f2 : fround dd 2 = hi) (f3 : fround dd 0 = near) (n1 : fnan lo = false) (n2 : fnan hi = false) (o1 : (!dbad (fof lo) && !dbad dd) = true) (o2 : (!dbad dd && !dbad (fof hi)) = true) (x1 : dcmp (fof lo) dd = 0) (x2 : dcmp dd (fof hi) < 0) (e1 : lo = hi) (e2 : near = lo) :
    Calls Tryz.prog 4 #[.agg #[.bool bdd, .bool sd, .slice ad nd pd, .int .i64 ed]] w fun o w' => o = .returned (.bool true) ∧ Below w.heap.size w w' := by
  have HSl := fun W => Lib.hid (slimDyad3_any W bdd sd ad nd pd ed md true hsd)
  have HW := fun W ht => Lib.hid (awakeF_any W ht)
  have Gd := Lib.hid Hd
  have HV := fun W (h : DyIs W bdd sd ad nd pd ed dd) ht => Lib.hid (rvalid_any W bdd sd ad nd pd ed dd h ht)
  rw [va] at HV
  have nv : (!false) = true := rfl
  rw [nv] at HV
  clear nv
  have HG := fun W (h : DyIs W bdd sd ad nd pd ed dd) ht => Lib.hid (rdsign_any W bdd sd ad nd pd ed dd h ht)
  have hsz : (sg (dman dd) == 0) = false := by unfold sg cmpI; split <;> (try split) <;> first | decide | (exfalso; omega)
  generalize sg (dman dd) = gs at *
  have Nd := Lib.hid Hd.1.isN
  have l1 : lo < 18446744073709551616 := f1 ▸ fround_lt _ _
  have l2 : hi < 18446744073709551616 := f2 ▸ fround_lt _ _
  have HR1 := fun W (h : DyIs W bdd sd ad nd pd ed dd) ht => Lib.hid (fround_any W bdd sd ad nd pd ed 1 dd h.1 ht)
  have HR2 := fun W (h : DyIs W bdd sd ad nd pd ed dd) ht => Lib.hid (fround_any W bdd sd ad nd pd ed 2 dd h.1 ht)
  have HR3 := fun W (h : DyIs W bdd sd ad nd pd ed dd) ht => Lib.hid (fround_any W bdd sd ad nd pd ed 0 dd h.1 ht)
  rw [f1] at HR1
  rw [f2] at HR2
  rw [f3] at HR3
  have HK1 := fun W => Lib.hid (fkind_any W lo)
  have HK2 := fun W => Lib.hid (fkind_any W hi)
  have hk1 : (fkind lo == 3) = false := by rw [(fkind_eqs lo).1]; exact n1
  have hk2 : (fkind hi == 3) = false := by rw [(fkind_eqs hi).1]; exact n2
  have HO1 := fun W ht => Lib.hid (fof_any W lo l1 ht)
  have HO2 := fun W ht => Lib.hid (fof_any W hi l2 ht)
  have N1 := Lib.hid (isN_fof lo)
  have N2 := Lib.hid (isN_fof hi)
  have g1 : decide (0 < dcmp (fof lo) dd) = false := by rw [x1]; rfl
  have h1 : (dcmp (fof lo) dd == 0) = true := by rw [x1]; rfl
  have g2 : decide (0 < dcmp dd (fof hi)) = false := by simp; omega
  have h2 : (dcmp dd (fof hi) == 0) = false := by rw [beq_eq_false_iff_ne]; omega
  have HC1 := fun W (b : Option Addr) (q : Nat) (h : Mag W b (nl (dman (fof lo)).natAbs) q (dman (fof lo)).natAbs) (h' : DyIs W bdd sd ad nd pd ed dd) ht => Lib.hid (dcmp_any W _ _ _ _ _ _ _ _ _ _ _ _ _ _ (dyin_of N1.out h) h'.1 ht)
  have HC2 := fun W (b : Option Addr) (q : Nat) (h : Mag W b (nl (dman (fof hi)).natAbs) q (dman (fof hi)).natAbs) (h' : DyIs W bdd sd ad nd pd ed dd) ht => Lib.hid (dcmp_any W _ _ _ _ _ _ _ _ _ _ _ _ _ _ h'.1 (dyin_of N2.out h) ht)
  rw [o1] at HC1
  rw [o2] at HC2
  have y1 : ((lo : Int) == (hi : Int)) = true := by rw [e1]; simp
  have y2 : ((near : Int) == (lo : Int)) = true := by rw [e2]; simp
  generalize dcmp (fof lo) dd = v1 at *
  generalize dcmp dd (fof hi) = v2 at *
  generalize fof lo = dl at *
  generalize fof hi = dh at *
  generalize fkind lo = kl at *
  generalize fkind hi = kh at *
  clear f1 f2 f3 n1 n2 hsd va sz Hd l1 l2 o1 o2 x1 x2 e1 e2
  generalize (lo : Int) = jl at *
  generalize (hi : Int) = jh at *
  generalize (near : Int) = jn at *
  go_enter Tryz.func4, Tryz.ntmps4
  go_wp2_with fail
  have I0 := DyV.made w 26 bdd sd (.slice ad nd pd) ed
  have B0 : Below w.heap.size w (w.alloc (.cells #[.bool bdd, .bool sd, .slice ad nd pd, .int .i64 ed] 26)) := (by repeat (with_reducible first | refine Below.setCell ?_ (by simp <;> omega) _ | refine Below.alloc ?_ (by simp <;> omega) _ | refine Below.drew ?_ | refine below_drewN ?_ _ | exact Below.refl _ _))
  generalize (w.alloc (.cells #[.bool bdd, .bool sd, .slice ad nd pd, .int .i64 ed] 26)) = w0 at I0 B0 ⊢
  generalize hb0 : w.heap.size = b0 at I0 ⊢
  obtain ⟨dc0, dc1, dc2, dc3, dc4, dc5⟩ := I0
  have Vd0 := Lib.hid (DyV.mk dc0 dc1 dc2 dc3 dc4 dc5)
  refine (HSl _).out.mono ?_
  rintro e w1 ⟨rfl, hb1⟩
  have Vd1 : DyV w1 b0 bdd sd (.slice ad nd pd) ed := (by refine DyV.below ?_ hb1; (repeat (with_reducible first | refine DyV.drew ?_ | refine DyV.drewN ?_ _ | refine DyV.alloc ?_ _)); exact Vd0.out)
  (try clear dc0 dc1 dc2 dc3 dc4)
  obtain ⟨dc0, dc1, dc2, dc3, dc4, dc5⟩ := Vd1
  have Vd1 := Lib.hid (DyV.mk dc0 dc1 dc2 dc3 dc4 dc5)
  have B1 := below_box (w := w) (by have hszw := (B0).size; repeat (with_reducible first | refine Below.setCell ?_ (by first | omega | (simp <;> omega)) _ | refine Below.alloc ?_ (by first | omega | (simp <;> omega)) _ | refine Below.drew ?_ | refine below_drewN ?_ _ | exact B0)) hb1
  clear hb1
  go_wp2_with fail
  refine (HV _ (Gd.out.below (by have hszw := (B1).size; repeat (with_reducible first | refine Below.setCell ?_ (by first | omega | (simp <;> omega)) _ | refine Below.alloc ?_ (by first | omega | (simp <;> omega)) _ | refine Below.drew ?_ | refine below_drewN ?_ _ | exact B1))) (hT.below (by have hszw := (B1).size; repeat (with_reducible first | refine Below.setCell ?_ (by first | omega | (simp <;> omega)) _ | refine Below.alloc ?_ (by first | omega | (simp <;> omega)) _ | refine Below.drew ?_ | refine below_drewN ?_ _ | exact B1)))).out.mono ?_
  rintro e w2 ⟨rfl, hb2⟩
  have Vd2 : DyV w2 b0 bdd sd (.slice ad nd pd) ed := (by refine DyV.below ?_ hb2; (repeat (with_reducible first | refine DyV.drew ?_ | refine DyV.drewN ?_ _ | refine DyV.alloc ?_ _)); exact Vd1.out)
  (try clear dc0 dc1 dc2 dc3 dc4)
  obtain ⟨dc0, dc1, dc2, dc3, dc4, dc5⟩ := Vd2
  have Vd2 := Lib.hid (DyV.mk dc0 dc1 dc2 dc3 dc4 dc5)
  have B2 := below_box (w := w) (by have hszw := (B1).size; repeat (with_reducible first | refine Below.setCell ?_ (by first | omega | (simp <;> omega)) _ | refine Below.alloc ?_ (by first | omega | (simp <;> omega)) _ | refine Below.drew ?_ | refine below_drewN ?_ _ | exact B1)) hb2
  clear hb2
  go_wp2_with fail
  refine (HG _ (Gd.out.below (by have hszw := (B2).size; repeat (with_reducible first | refine Below.setCell ?_ (by first | omega | (simp <;> omega)) _ | refine Below.alloc ?_ (by first | omega | (simp <;> omega)) _ | refine Below.drew ?_ | refine below_drewN ?_ _ | exact B2))) (hT.below (by have hszw := (B2).size; repeat (with_reducible first | refine Below.setCell ?_ (by first | omega | (simp <;> omega)) _ | refine Below.alloc ?_ (by first | omega | (simp <;> omega)) _ | refine Below.drew ?_ | refine below_drewN ?_ _ | exact B2)))).out.mono ?_
  rintro e w3 ⟨rfl, hb3⟩
  have Vd3 : DyV w3 b0 bdd sd (.slice ad nd pd) ed := (by refine DyV.below ?_ hb3; (repeat (with_reducible first | refine DyV.drew ?_ | refine DyV.drewN ?_ _ | refine DyV.alloc ?_ _)); exact Vd2.out)
  (try clear dc0 dc1 dc2 dc3 dc4)
  obtain ⟨dc0, dc1, dc2, dc3, dc4, dc5⟩ := Vd3
  have Vd3 := Lib.hid (DyV.mk dc0 dc1 dc2 dc3 dc4 dc5)
  have B3 := below_box (w := w) (by have hszw := (B2).size; repeat (with_reducible first | refine Below.setCell ?_ (by first | omega | (simp <;> omega)) _ | refine Below.alloc ?_ (by first | omega | (simp <;> omega)) _ | refine Below.drew ?_ | refine below_drewN ?_ _ | exact B2)) hb3
  clear hb3
  go_wp2_with fail
  first
  | go_region_held3 (fun w' => w'.cell? ⟨b0, 0, none⟩ = some (.bool bdd) ∧ w'.cell? ⟨b0, 1, none⟩ = some (.bool sd) ∧ w'.cell? ⟨b0, 2, none⟩ = some ((.slice ad nd pd)) ∧ w'.cell? ⟨b0, 3, none⟩ = some (.int .i64 ed)) (first | (go_keep; done) | (go_simp; done))
      (first
        | (go_at_call 9; have xx := B5; refine (HR3 _ (Gd.out.below (by have hszw := (B5).size; repeat (with_reducible first | refine Below.setCell ?_ (by first | omega | (simp <;> omega)) _ | refine Below.alloc ?_ (by first | omega | (simp <;> omega)) _ | refine Below.drew ?_ | refine below_drewN ?_ _ | exact B5))) (hT.below (by have hszw := (B5).size; repeat (with_reducible first | refine Below.setCell ?_ (by first | omega | (simp <;> omega)) _ | refine Below.alloc ?_ (by first | omega | (simp <;> omega)) _ | refine Below.drew ?_ | refine below_drewN ?_ _ | exact B5)))).out.mono ?_; rintro e w6 ⟨rfl, hb6⟩; have Vd6 : DyV w6 b0 bdd sd (.slice ad nd pd) ed := (by refine DyV.below ?_ hb6; (repeat (with_reducible first | refine DyV.drew ?_ | refine DyV.drewN ?_ _ | refine DyV.alloc ?_ _)); exact Vd5.out); (try clear dc0 dc1 dc2 dc3 dc4); obtain ⟨dc0, dc1, dc2, dc3, dc4, dc5⟩ := Vd6; have Vd6 := Lib.hid (DyV.mk dc0 dc1 dc2 dc3 dc4 dc5); have B6 := below_box (w := w) (by have hszw := (B5).size; repeat (with_reducible first | refine Below.setCell ?_ (by first | omega | (simp <;> omega)) _ | refine Below.alloc ?_ (by first | omega | (simp <;> omega)) _ | refine Below.drew ?_ | refine below_drewN ?_ _ | exact B5)) hb6; clear hb6)
        | (go_at_call 9; have xx := B4; refine (HR2 _ (Gd.out.below (by have hszw := (B4).size; repeat (with_reducible first | refine Below.setCell ?_ (by first | omega | (simp <;> omega)) _ | refine Below.alloc ?_ (by first | omega | (simp <;> omega)) _ | refine Below.drew ?_ | refine below_drewN ?_ _ | exact B4))) (hT.below (by have hszw := (B4).size; repeat (with_reducible first | refine Below.setCell ?_ (by first | omega | (simp <;> omega)) _ | refine Below.alloc ?_ (by first | omega | (simp <;> omega)) _ | refine Below.drew ?_ | refine below_drewN ?_ _ | exact B4)))).out.mono ?_; rintro e w5 ⟨rfl, hb5⟩; have Vd5 : DyV w5 b0 bdd sd (.slice ad nd pd) ed := (by refine DyV.below ?_ hb5; (repeat (with_reducible first | refine DyV.drew ?_ | refine DyV.drewN ?_ _ | refine DyV.alloc ?_ _)); exact Vd4.out); (try clear dc0 dc1 dc2 dc3 dc4); obtain ⟨dc0, dc1, dc2, dc3, dc4, dc5⟩ := Vd5; have Vd5 := Lib.hid (DyV.mk dc0 dc1 dc2 dc3 dc4 dc5); have B5 := below_box (w := w) (by have hszw := (B4).size; repeat (with_reducible first | refine Below.setCell ?_ (by first | omega | (simp <;> omega)) _ | refine Below.alloc ?_ (by first | omega | (simp <;> omega)) _ | refine Below.drew ?_ | refine below_drewN ?_ _ | exact B4)) hb5; clear hb5)
        | (go_at_call 9; have xx := B3; refine (HR1 _ (Gd.out.below (by have hszw := (B3).size; repeat (with_reducible first | refine Below.setCell ?_ (by first | omega | (simp <;> omega)) _ | refine Below.alloc ?_ (by first | omega | (simp <;> omega)) _ | refine Below.drew ?_ | refine below_drewN ?_ _ | exact B3))) (hT.below (by have hszw := (B3).size; repeat (with_reducible first | refine Below.setCell ?_ (by first | omega | (simp <;> omega)) _ | refine Below.alloc ?_ (by first | omega | (simp <;> omega)) _ | refine Below.drew ?_ | refine below_drewN ?_ _ | exact B3)))).out.mono ?_; rintro e w4 ⟨rfl, hb4⟩; have Vd4 : DyV w4 b0 bdd sd (.slice ad nd pd) ed := (by refine DyV.below ?_ hb4; (repeat (with_reducible first | refine DyV.drew ?_ | refine DyV.drewN ?_ _ | refine DyV.alloc ?_ _)); exact Vd3.out); (try clear dc0 dc1 dc2 dc3 dc4); obtain ⟨dc0, dc1, dc2, dc3, dc4, dc5⟩ := Vd4; have Vd4 := Lib.hid (DyV.mk dc0 dc1 dc2 dc3 dc4 dc5); have B4 := below_box (w := w) (by have hszw := (B3).size; repeat (with_reducible first | refine Below.setCell ?_ (by first | omega | (simp <;> omega)) _ | refine Below.alloc ?_ (by first | omega | (simp <;> omega)) _ | refine Below.drew ?_ | refine below_drewN ?_ _ | exact B3)) hb4; clear hb4)
        | fail)
  | fail "region"
  go_wp2_with fail
  refine (HK1 _).out.mono ?_
  rintro e wq ⟨rfl, rfl⟩
  go_wp2_with fail
  refine (HK2 _).out.mono ?_
  rintro e wq ⟨rfl, rfl⟩
  go_wp2_with fail
  first
  | go_region_held3 (fun w' => w'.cell? ⟨b0, 0, none⟩ = some (.bool bdd) ∧ w'.cell? ⟨b0, 1, none⟩ = some (.bool sd) ∧ w'.cell? ⟨b0, 2, none⟩ = some ((.slice ad nd pd)) ∧ w'.cell? ⟨b0, 3, none⟩ = some (.int .i64 ed)) (first | (go_keep; done) | (go_simp; done))
      (first
        | (go_at_call 18; have xx := B7; refine (HC1 _ al cl (by repeat (with_reducible first | refine Mag.set ?_ (fun h => by have := Ml7 h; omega) _ _ | refine Mag.drew ?_ | refine Mag.alloc ?_ _ | refine Mag.drewN ?_ _ | refine Mag.below ?_ (Below.drew (Below.refl _ _)) | refine Mag.below ?_ ((Below.refl _ _).alloc (Nat.le_refl _) _) | exact Ml7)) (Gd.out.below (by have hszw := (B7).size; repeat (with_reducible first | refine Below.setCell ?_ (by first | omega | (simp <;> omega)) _ | refine Below.alloc ?_ (by first | omega | (simp <;> omega)) _ | refine Below.drew ?_ | refine below_drewN ?_ _ | exact B7))) (hT.below (by have hszw := (B7).size; repeat (with_reducible first | refine Below.setCell ?_ (by first | omega | (simp <;> omega)) _ | refine Below.alloc ?_ (by first | omega | (simp <;> omega)) _ | refine Below.drew ?_ | refine below_drewN ?_ _ | exact B7)))).out.mono ?_; rintro e w8 ⟨rfl, hb8⟩; have Vd8 : DyV w8 b0 bdd sd (.slice ad nd pd) ed := (by refine DyV.below ?_ hb8; (repeat (with_reducible first | refine DyV.drew ?_ | refine DyV.drewN ?_ _ | refine DyV.alloc ?_ _)); exact Vd7.out); (try clear dc0 dc1 dc2 dc3 dc4); obtain ⟨dc0, dc1, dc2, dc3, dc4, dc5⟩ := Vd8; have Vd8 := Lib.hid (DyV.mk dc0 dc1 dc2 dc3 dc4 dc5); have B8 := below_box (w := w) (by have hszw := (B7).size; repeat (with_reducible first | refine Below.setCell ?_ (by first | omega | (simp <;> omega)) _ | refine Below.alloc ?_ (by first | omega | (simp <;> omega)) _ | refine Below.drew ?_ | refine below_drewN ?_ _ | exact B7)) hb8; clear hb8)
        | (go_at_call 19; have xx := B6; refine (HO1 _ (hT.below (by have hszw := (B6).size; repeat (with_reducible first | refine Below.setCell ?_ (by first | omega | (simp <;> omega)) _ | refine Below.alloc ?_ (by first | omega | (simp <;> omega)) _ | refine Below.drew ?_ | refine below_drewN ?_ _ | exact B6)))).out.mono ?_; rintro e w7 ⟨al, cl, rfl, Ml7, hb7, hf7⟩; have Vd7 : DyV w7 b0 bdd sd (.slice ad nd pd) ed := (by refine DyV.below ?_ hb7; (repeat (with_reducible first | refine DyV.drew ?_ | refine DyV.drewN ?_ _ | refine DyV.alloc ?_ _)); exact Vd6.out); (try clear dc0 dc1 dc2 dc3 dc4); obtain ⟨dc0, dc1, dc2, dc3, dc4, dc5⟩ := Vd7; have Vd7 := Lib.hid (DyV.mk dc0 dc1 dc2 dc3 dc4 dc5); have B7 := below_box (w := w) (by have hszw := (B6).size; repeat (with_reducible first | refine Below.setCell ?_ (by first | omega | (simp <;> omega)) _ | refine Below.alloc ?_ (by first | omega | (simp <;> omega)) _ | refine Below.drew ?_ | refine below_drewN ?_ _ | exact B6)) hb7; clear hb7 hf7)
        | fail)
  | fail "region"
  go_wp2_with fail
  first
  | go_region_held3 (fun w' => w'.cell? ⟨b0, 0, none⟩ = some (.bool bdd) ∧ w'.cell? ⟨b0, 1, none⟩ = some (.bool sd) ∧ w'.cell? ⟨b0, 2, none⟩ = some ((.slice ad nd pd)) ∧ w'.cell? ⟨b0, 3, none⟩ = some (.int .i64 ed)) (first | (go_keep; done) | (go_simp; done))
      (first
        | (go_at_call 18; have xx := B9; refine (HC2 _ ah ch (by repeat (with_reducible first | refine Mag.set ?_ (fun h => by have := Mh9 h; omega) _ _ | refine Mag.drew ?_ | refine Mag.alloc ?_ _ | refine Mag.drewN ?_ _ | refine Mag.below ?_ (Below.drew (Below.refl _ _)) | refine Mag.below ?_ ((Below.refl _ _).alloc (Nat.le_refl _) _) | exact Mh9)) (Gd.out.below (by have hszw := (B9).size; repeat (with_reducible first | refine Below.setCell ?_ (by first | omega | (simp <;> omega)) _ | refine Below.alloc ?_ (by first | omega | (simp <;> omega)) _ | refine Below.drew ?_ | refine below_drewN ?_ _ | exact B9))) (hT.below (by have hszw := (B9).size; repeat (with_reducible first | refine Below.setCell ?_ (by first | omega | (simp <;> omega)) _ | refine Below.alloc ?_ (by first | omega | (simp <;> omega)) _ | refine Below.drew ?_ | refine below_drewN ?_ _ | exact B9)))).out.mono ?_; rintro e w10 ⟨rfl, hb10⟩; have Vd10 : DyV w10 b0 bdd sd (.slice ad nd pd) ed := (by refine DyV.below ?_ hb10; (repeat (with_reducible first | refine DyV.drew ?_ | refine DyV.drewN ?_ _ | refine DyV.alloc ?_ _)); exact Vd9.out); (try clear dc0 dc1 dc2 dc3 dc4); obtain ⟨dc0, dc1, dc2, dc3, dc4, dc5⟩ := Vd10; have Vd10 := Lib.hid (DyV.mk dc0 dc1 dc2 dc3 dc4 dc5); have B10 := below_box (w := w) (by have hszw := (B9).size; repeat (with_reducible first | refine Below.setCell ?_ (by first | omega | (simp <;> omega)) _ | refine Below.alloc ?_ (by first | omega | (simp <;> omega)) _ | refine Below.drew ?_ | refine below_drewN ?_ _ | exact B9)) hb10; clear hb10)
        | (go_at_call 19; have xx := B8; refine (HO2 _ (hT.below (by have hszw := (B8).size; repeat (with_reducible first | refine Below.setCell ?_ (by first | omega | (simp <;> omega)) _ | refine Below.alloc ?_ (by first | omega | (simp <;> omega)) _ | refine Below.drew ?_ | refine below_drewN ?_ _ | exact B8)))).out.mono ?_; rintro e w9 ⟨ah, ch, rfl, Mh9, hb9, hf9⟩; have Vd9 : DyV w9 b0 bdd sd (.slice ad nd pd) ed := (by refine DyV.below ?_ hb9; (repeat (with_reducible first | refine DyV.drew ?_ | refine DyV.drewN ?_ _ | refine DyV.alloc ?_ _)); exact Vd8.out); (try clear dc0 dc1 dc2 dc3 dc4); obtain ⟨dc0, dc1, dc2, dc3, dc4, dc5⟩ := Vd9; have Vd9 := Lib.hid (DyV.mk dc0 dc1 dc2 dc3 dc4 dc5); have B9 := below_box (w := w) (by have hszw := (B8).size; repeat (with_reducible first | refine Below.setCell ?_ (by first | omega | (simp <;> omega)) _ | refine Below.alloc ?_ (by first | omega | (simp <;> omega)) _ | refine Below.drew ?_ | refine below_drewN ?_ _ | exact B8)) hb9; clear hb9 hf9)
        | fail)
  | fail "region"
  go_wp2_with fail
  refine (HW _ (hT.below (by have hszw := (B10).size; repeat (with_reducible first | refine Below.setCell ?_ (by first | omega | (simp <;> omega)) _ | refine Below.alloc ?_ (by first | omega | (simp <;> omega)) _ | refine Below.drew ?_ | refine below_drewN ?_ _ | exact B10)))).out.mono ?_
  rintro e w11 ⟨rfl, hb11⟩
  have Vd11 : DyV w11 b0 bdd sd (.slice ad nd pd) ed := (by refine DyV.below ?_ hb11; (repeat (with_reducible first | refine DyV.drew ?_ | refine DyV.drewN ?_ _ | refine DyV.alloc ?_ _)); exact Vd10.out)
  (try clear dc0 dc1 dc2 dc3 dc4)
  obtain ⟨dc0, dc1, dc2, dc3, dc4, dc5⟩ := Vd11
  have Vd11 := Lib.hid (DyV.mk dc0 dc1 dc2 dc3 dc4 dc5)
  have B11 := below_box (w := w) (by have hszw := (B10).size; repeat (with_reducible first | refine Below.setCell ?_ (by first | omega | (simp <;> omega)) _ | refine Below.alloc ?_ (by first | omega | (simp <;> omega)) _ | refine Below.drew ?_ | refine below_drewN ?_ _ | exact B10)) hb11
  clear hb11
  go_wp2_with fail
  go_ret
  exact ⟨rfl, (by have hszw := (B11).size; repeat (with_reducible first | refine Below.setCell ?_ (by first | omega | (simp <;> omega)) _ | refine Below.alloc ?_ (by first | omega | (simp <;> omega)) _ | refine Below.drew ?_ | refine below_drewN ?_ _ | exact B11))⟩

set_option maxRecDepth 100000 in
set_option maxHeartbeats 20000000 in
theorem encl_zfe (w : World) (hT : Tab w) (bdd sd : Bool) (ad : Option Addr) (nd pd : Nat) (ed : Int) (dd : Option (Int × Int)) (Hd : DyIs w bdd sd ad nd pd ed dd) (md : nd ≤ 9223372036854775807) (hsd : slim3B nd ed = true) (va : dbad dd = false) (sz : dman dd ≠ 0) (lo hi near : Nat) (f1 : fround dd 1 = lo) (f2 : fround dd 2 = hi) (f3 : fround dd 0 = near) (n1 : fnan lo = false) (n2 : fnan hi = false) (o1 : (!dbad (fof lo) && !dbad dd) = true) (o2 : (!dbad dd && !dbad (fof hi)) = false) (x1 : dcmp (fof lo) dd = 0) (i2 : hi = 9218868437227405312) (e1 : lo = hi) (e2 : near = lo) :
    Calls Tryz.prog 4 #[.agg #[.bool bdd, .bool sd, .slice ad nd pd, .int .i64 ed]] w fun o w' => o = .returned (.bool true) ∧ Below w.heap.size w w' := by
  have HSl := fun W => Lib.hid (slimDyad3_any W bdd sd ad nd pd ed md true hsd)
  have HW := fun W ht => Lib.hid (awakeF_any W ht)
  have Gd := Lib.hid Hd
  have HV := fun W (h : DyIs W bdd sd ad nd pd ed dd) ht => Lib.hid (rvalid_any W bdd sd ad nd pd ed dd h ht)
  rw [va] at HV
  have nv : (!false) = true := rfl
  rw [nv] at HV
  clear nv
  have HG := fun W (h : DyIs W bdd sd ad nd pd ed dd) ht => Lib.hid (rdsign_any W bdd sd ad nd pd ed dd h ht)
  have hsz : (sg (dman dd) == 0) = false := by unfold sg cmpI; split <;> (try split) <;> first | decide | (exfalso; omega)
  generalize sg (dman dd) = gs at *
  have Nd := Lib.hid Hd.1.isN
  have l1 : lo < 18446744073709551616 := f1 ▸ fround_lt _ _
  have l2 : hi < 18446744073709551616 := f2 ▸ fround_lt _ _
  have HR1 := fun W (h : DyIs W bdd sd ad nd pd ed dd) ht => Lib.hid (fround_any W bdd sd ad nd pd ed 1 dd h.1 ht)
  have HR2 := fun W (h : DyIs W bdd sd ad nd pd ed dd) ht => Lib.hid (fround_any W bdd sd ad nd pd ed 2 dd h.1 ht)
  have HR3 := fun W (h : DyIs W bdd sd ad nd pd ed dd) ht => Lib.hid (fround_any W bdd sd ad nd pd ed 0 dd h.1 ht)
  rw [f1] at HR1
  rw [f2] at HR2
  rw [f3] at HR3
  have HK1 := fun W => Lib.hid (fkind_any W lo)
  have HK2 := fun W => Lib.hid (fkind_any W hi)
  have hk1 : (fkind lo == 3) = false := by rw [(fkind_eqs lo).1]; exact n1
  have hk2 : (fkind hi == 3) = false := by rw [(fkind_eqs hi).1]; exact n2
  have HO1 := fun W ht => Lib.hid (fof_any W lo l1 ht)
  have HO2 := fun W ht => Lib.hid (fof_any W hi l2 ht)
  have N1 := Lib.hid (isN_fof lo)
  have N2 := Lib.hid (isN_fof hi)
  have g1 : decide (0 < dcmp (fof lo) dd) = false := by rw [x1]; rfl
  have h1 : (dcmp (fof lo) dd == 0) = true := by rw [x1]; rfl
  have j2 : ((hi : Int) != 9218868437227405312) = false := by rw [i2]; rfl
  have HC1 := fun W (b : Option Addr) (q : Nat) (h : Mag W b (nl (dman (fof lo)).natAbs) q (dman (fof lo)).natAbs) (h' : DyIs W bdd sd ad nd pd ed dd) ht => Lib.hid (dcmp_any W _ _ _ _ _ _ _ _ _ _ _ _ _ _ (dyin_of N1.out h) h'.1 ht)
  have HC2 := fun W (b : Option Addr) (q : Nat) (h : Mag W b (nl (dman (fof hi)).natAbs) q (dman (fof hi)).natAbs) (h' : DyIs W bdd sd ad nd pd ed dd) ht => Lib.hid (dcmp_any W _ _ _ _ _ _ _ _ _ _ _ _ _ _ h'.1 (dyin_of N2.out h) ht)
  rw [o1] at HC1
  rw [o2] at HC2
  have y1 : ((lo : Int) == (hi : Int)) = true := by rw [e1]; simp
  have y2 : ((near : Int) == (lo : Int)) = true := by rw [e2]; simp
  generalize dcmp (fof lo) dd = v1 at *
  generalize dcmp dd (fof hi) = v2 at *
  generalize fof lo = dl at *
  generalize fof hi = dh at *
  generalize fkind lo = kl at *
  generalize fkind hi = kh at *
  clear f1 f2 f3 n1 n2 hsd va sz Hd l1 l2 o1 o2 x1 i2 e1 e2
  generalize (lo : Int) = jl at *
  generalize (hi : Int) = jh at *
  generalize (near : Int) = jn at *
  go_enter Tryz.func4, Tryz.ntmps4
  go_wp2_with fail
  have I0 := DyV.made w 26 bdd sd (.slice ad nd pd) ed
  have B0 : Below w.heap.size w (w.alloc (.cells #[.bool bdd, .bool sd, .slice ad nd pd, .int .i64 ed] 26)) := (by repeat (with_reducible first | refine Below.setCell ?_ (by simp <;> omega) _ | refine Below.alloc ?_ (by simp <;> omega) _ | refine Below.drew ?_ | refine below_drewN ?_ _ | exact Below.refl _ _))
  generalize (w.alloc (.cells #[.bool bdd, .bool sd, .slice ad nd pd, .int .i64 ed] 26)) = w0 at I0 B0 ⊢
  generalize hb0 : w.heap.size = b0 at I0 ⊢
  obtain ⟨dc0, dc1, dc2, dc3, dc4, dc5⟩ := I0
  have Vd0 := Lib.hid (DyV.mk dc0 dc1 dc2 dc3 dc4 dc5)
  refine (HSl _).out.mono ?_
  rintro e w1 ⟨rfl, hb1⟩
  have Vd1 : DyV w1 b0 bdd sd (.slice ad nd pd) ed := (by refine DyV.below ?_ hb1; (repeat (with_reducible first | refine DyV.drew ?_ | refine DyV.drewN ?_ _ | refine DyV.alloc ?_ _)); exact Vd0.out)
  (try clear dc0 dc1 dc2 dc3 dc4)
  obtain ⟨dc0, dc1, dc2, dc3, dc4, dc5⟩ := Vd1
  have Vd1 := Lib.hid (DyV.mk dc0 dc1 dc2 dc3 dc4 dc5)
  have B1 := below_box (w := w) (by have hszw := (B0).size; repeat (with_reducible first | refine Below.setCell ?_ (by first | omega | (simp <;> omega)) _ | refine Below.alloc ?_ (by first | omega | (simp <;> omega)) _ | refine Below.drew ?_ | refine below_drewN ?_ _ | exact B0)) hb1
  clear hb1
  go_wp2_with fail
  refine (HV _ (Gd.out.below (by have hszw := (B1).size; repeat (with_reducible first | refine Below.setCell ?_ (by first | omega | (simp <;> omega)) _ | refine Below.alloc ?_ (by first | omega | (simp <;> omega)) _ | refine Below.drew ?_ | refine below_drewN ?_ _ | exact B1))) (hT.below (by have hszw := (B1).size; repeat (with_reducible first | refine Below.setCell ?_ (by first | omega | (simp <;> omega)) _ | refine Below.alloc ?_ (by first | omega | (simp <;> omega)) _ | refine Below.drew ?_ | refine below_drewN ?_ _ | exact B1)))).out.mono ?_
  rintro e w2 ⟨rfl, hb2⟩
  have Vd2 : DyV w2 b0 bdd sd (.slice ad nd pd) ed := (by refine DyV.below ?_ hb2; (repeat (with_reducible first | refine DyV.drew ?_ | refine DyV.drewN ?_ _ | refine DyV.alloc ?_ _)); exact Vd1.out)
  (try clear dc0 dc1 dc2 dc3 dc4)
  obtain ⟨dc0, dc1, dc2, dc3, dc4, dc5⟩ := Vd2
  have Vd2 := Lib.hid (DyV.mk dc0 dc1 dc2 dc3 dc4 dc5)
  have B2 := below_box (w := w) (by have hszw := (B1).size; repeat (with_reducible first | refine Below.setCell ?_ (by first | omega | (simp <;> omega)) _ | refine Below.alloc ?_ (by first | omega | (simp <;> omega)) _ | refine Below.drew ?_ | refine below_drewN ?_ _ | exact B1)) hb2
  clear hb2
  go_wp2_with fail
  refine (HG _ (Gd.out.below (by have hszw := (B2).size; repeat (with_reducible first | refine Below.setCell ?_ (by first | omega | (simp <;> omega)) _ | refine Below.alloc ?_ (by first | omega | (simp <;> omega)) _ | refine Below.drew ?_ | refine below_drewN ?_ _ | exact B2))) (hT.below (by have hszw := (B2).size; repeat (with_reducible first | refine Below.setCell ?_ (by first | omega | (simp <;> omega)) _ | refine Below.alloc ?_ (by first | omega | (simp <;> omega)) _ | refine Below.drew ?_ | refine below_drewN ?_ _ | exact B2)))).out.mono ?_
  rintro e w3 ⟨rfl, hb3⟩
  have Vd3 : DyV w3 b0 bdd sd (.slice ad nd pd) ed := (by refine DyV.below ?_ hb3; (repeat (with_reducible first | refine DyV.drew ?_ | refine DyV.drewN ?_ _ | refine DyV.alloc ?_ _)); exact Vd2.out)
  (try clear dc0 dc1 dc2 dc3 dc4)
  obtain ⟨dc0, dc1, dc2, dc3, dc4, dc5⟩ := Vd3
  have Vd3 := Lib.hid (DyV.mk dc0 dc1 dc2 dc3 dc4 dc5)
  have B3 := below_box (w := w) (by have hszw := (B2).size; repeat (with_reducible first | refine Below.setCell ?_ (by first | omega | (simp <;> omega)) _ | refine Below.alloc ?_ (by first | omega | (simp <;> omega)) _ | refine Below.drew ?_ | refine below_drewN ?_ _ | exact B2)) hb3
  clear hb3
  go_wp2_with fail
  first
  | go_region_held3 (fun w' => w'.cell? ⟨b0, 0, none⟩ = some (.bool bdd) ∧ w'.cell? ⟨b0, 1, none⟩ = some (.bool sd) ∧ w'.cell? ⟨b0, 2, none⟩ = some ((.slice ad nd pd)) ∧ w'.cell? ⟨b0, 3, none⟩ = some (.int .i64 ed)) (first | (go_keep; done) | (go_simp; done))
      (first
        | (go_at_call 9; have xx := B5; refine (HR3 _ (Gd.out.below (by have hszw := (B5).size; repeat (with_reducible first | refine Below.setCell ?_ (by first | omega | (simp <;> omega)) _ | refine Below.alloc ?_ (by first | omega | (simp <;> omega)) _ | refine Below.drew ?_ | refine below_drewN ?_ _ | exact B5))) (hT.below (by have hszw := (B5).size; repeat (with_reducible first | refine Below.setCell ?_ (by first | omega | (simp <;> omega)) _ | refine Below.alloc ?_ (by first | omega | (simp <;> omega)) _ | refine Below.drew ?_ | refine below_drewN ?_ _ | exact B5)))).out.mono ?_; rintro e w6 ⟨rfl, hb6⟩; have Vd6 : DyV w6 b0 bdd sd (.slice ad nd pd) ed := (by refine DyV.below ?_ hb6; (repeat (with_reducible first | refine DyV.drew ?_ | refine DyV.drewN ?_ _ | refine DyV.alloc ?_ _)); exact Vd5.out); (try clear dc0 dc1 dc2 dc3 dc4); obtain ⟨dc0, dc1, dc2, dc3, dc4, dc5⟩ := Vd6; have Vd6 := Lib.hid (DyV.mk dc0 dc1 dc2 dc3 dc4 dc5); have B6 := below_box (w := w) (by have hszw := (B5).size; repeat (with_reducible first | refine Below.setCell ?_ (by first | omega | (simp <;> omega)) _ | refine Below.alloc ?_ (by first | omega | (simp <;> omega)) _ | refine Below.drew ?_ | refine below_drewN ?_ _ | exact B5)) hb6; clear hb6)
        | (go_at_call 9; have xx := B4; refine (HR2 _ (Gd.out.below (by have hszw := (B4).size; repeat (with_reducible first | refine Below.setCell ?_ (by first | omega | (simp <;> omega)) _ | refine Below.alloc ?_ (by first | omega | (simp <;> omega)) _ | refine Below.drew ?_ | refine below_drewN ?_ _ | exact B4))) (hT.below (by have hszw := (B4).size; repeat (with_reducible first | refine Below.setCell ?_ (by first | omega | (simp <;> omega)) _ | refine Below.alloc ?_ (by first | omega | (simp <;> omega)) _ | refine Below.drew ?_ | refine below_drewN ?_ _ | exact B4)))).out.mono ?_; rintro e w5 ⟨rfl, hb5⟩; have Vd5 : DyV w5 b0 bdd sd (.slice ad nd pd) ed := (by refine DyV.below ?_ hb5; (repeat (with_reducible first | refine DyV.drew ?_ | refine DyV.drewN ?_ _ | refine DyV.alloc ?_ _)); exact Vd4.out); (try clear dc0 dc1 dc2 dc3 dc4); obtain ⟨dc0, dc1, dc2, dc3, dc4, dc5⟩ := Vd5; have Vd5 := Lib.hid (DyV.mk dc0 dc1 dc2 dc3 dc4 dc5); have B5 := below_box (w := w) (by have hszw := (B4).size; repeat (with_reducible first | refine Below.setCell ?_ (by first | omega | (simp <;> omega)) _ | refine Below.alloc ?_ (by first | omega | (simp <;> omega)) _ | refine Below.drew ?_ | refine below_drewN ?_ _ | exact B4)) hb5; clear hb5)
        | (go_at_call 9; have xx := B3; refine (HR1 _ (Gd.out.below (by have hszw := (B3).size; repeat (with_reducible first | refine Below.setCell ?_ (by first | omega | (simp <;> omega)) _ | refine Below.alloc ?_ (by first | omega | (simp <;> omega)) _ | refine Below.drew ?_ | refine below_drewN ?_ _ | exact B3))) (hT.below (by have hszw := (B3).size; repeat (with_reducible first | refine Below.setCell ?_ (by first | omega | (simp <;> omega)) _ | refine Below.alloc ?_ (by first | omega | (simp <;> omega)) _ | refine Below.drew ?_ | refine below_drewN ?_ _ | exact B3)))).out.mono ?_; rintro e w4 ⟨rfl, hb4⟩; have Vd4 : DyV w4 b0 bdd sd (.slice ad nd pd) ed := (by refine DyV.below ?_ hb4; (repeat (with_reducible first | refine DyV.drew ?_ | refine DyV.drewN ?_ _ | refine DyV.alloc ?_ _)); exact Vd3.out); (try clear dc0 dc1 dc2 dc3 dc4); obtain ⟨dc0, dc1, dc2, dc3, dc4, dc5⟩ := Vd4; have Vd4 := Lib.hid (DyV.mk dc0 dc1 dc2 dc3 dc4 dc5); have B4 := below_box (w := w) (by have hszw := (B3).size; repeat (with_reducible first | refine Below.setCell ?_ (by first | omega | (simp <;> omega)) _ | refine Below.alloc ?_ (by first | omega | (simp <;> omega)) _ | refine Below.drew ?_ | refine below_drewN ?_ _ | exact B3)) hb4; clear hb4)
        | fail)
  | fail "region"
  go_wp2_with fail
  refine (HK1 _).out.mono ?_
  rintro e wq ⟨rfl, rfl⟩
  go_wp2_with fail
  refine (HK2 _).out.mono ?_
  rintro e wq ⟨rfl, rfl⟩
  go_wp2_with fail
  first
  | go_region_held3 (fun w' => w'.cell? ⟨b0, 0, none⟩ = some (.bool bdd) ∧ w'.cell? ⟨b0, 1, none⟩ = some (.bool sd) ∧ w'.cell? ⟨b0, 2, none⟩ = some ((.slice ad nd pd)) ∧ w'.cell? ⟨b0, 3, none⟩ = some (.int .i64 ed)) (first | (go_keep; done) | (go_simp; done))
      (first
        | (go_at_call 18; have xx := B7; refine (HC1 _ al cl (by repeat (with_reducible first | refine Mag.set ?_ (fun h => by have := Ml7 h; omega) _ _ | refine Mag.drew ?_ | refine Mag.alloc ?_ _ | refine Mag.drewN ?_ _ | refine Mag.below ?_ (Below.drew (Below.refl _ _)) | refine Mag.below ?_ ((Below.refl _ _).alloc (Nat.le_refl _) _) | exact Ml7)) (Gd.out.below (by have hszw := (B7).size; repeat (with_reducible first | refine Below.setCell ?_ (by first | omega | (simp <;> omega)) _ | refine Below.alloc ?_ (by first | omega | (simp <;> omega)) _ | refine Below.drew ?_ | refine below_drewN ?_ _ | exact B7))) (hT.below (by have hszw := (B7).size; repeat (with_reducible first | refine Below.setCell ?_ (by first | omega | (simp <;> omega)) _ | refine Below.alloc ?_ (by first | omega | (simp <;> omega)) _ | refine Below.drew ?_ | refine below_drewN ?_ _ | exact B7)))).out.mono ?_; rintro e w8 ⟨rfl, hb8⟩; have Vd8 : DyV w8 b0 bdd sd (.slice ad nd pd) ed := (by refine DyV.below ?_ hb8; (repeat (with_reducible first | refine DyV.drew ?_ | refine DyV.drewN ?_ _ | refine DyV.alloc ?_ _)); exact Vd7.out); (try clear dc0 dc1 dc2 dc3 dc4); obtain ⟨dc0, dc1, dc2, dc3, dc4, dc5⟩ := Vd8; have Vd8 := Lib.hid (DyV.mk dc0 dc1 dc2 dc3 dc4 dc5); have B8 := below_box (w := w) (by have hszw := (B7).size; repeat (with_reducible first | refine Below.setCell ?_ (by first | omega | (simp <;> omega)) _ | refine Below.alloc ?_ (by first | omega | (simp <;> omega)) _ | refine Below.drew ?_ | refine below_drewN ?_ _ | exact B7)) hb8; clear hb8)
        | (go_at_call 19; have xx := B6; refine (HO1 _ (hT.below (by have hszw := (B6).size; repeat (with_reducible first | refine Below.setCell ?_ (by first | omega | (simp <;> omega)) _ | refine Below.alloc ?_ (by first | omega | (simp <;> omega)) _ | refine Below.drew ?_ | refine below_drewN ?_ _ | exact B6)))).out.mono ?_; rintro e w7 ⟨al, cl, rfl, Ml7, hb7, hf7⟩; have Vd7 : DyV w7 b0 bdd sd (.slice ad nd pd) ed := (by refine DyV.below ?_ hb7; (repeat (with_reducible first | refine DyV.drew ?_ | refine DyV.drewN ?_ _ | refine DyV.alloc ?_ _)); exact Vd6.out); (try clear dc0 dc1 dc2 dc3 dc4); obtain ⟨dc0, dc1, dc2, dc3, dc4, dc5⟩ := Vd7; have Vd7 := Lib.hid (DyV.mk dc0 dc1 dc2 dc3 dc4 dc5); have B7 := below_box (w := w) (by have hszw := (B6).size; repeat (with_reducible first | refine Below.setCell ?_ (by first | omega | (simp <;> omega)) _ | refine Below.alloc ?_ (by first | omega | (simp <;> omega)) _ | refine Below.drew ?_ | refine below_drewN ?_ _ | exact B6)) hb7; clear hb7 hf7)
        | fail)
  | fail "region"
  go_wp2_with fail
  first
  | go_region_held3 (fun w' => w'.cell? ⟨b0, 0, none⟩ = some (.bool bdd) ∧ w'.cell? ⟨b0, 1, none⟩ = some (.bool sd) ∧ w'.cell? ⟨b0, 2, none⟩ = some ((.slice ad nd pd)) ∧ w'.cell? ⟨b0, 3, none⟩ = some (.int .i64 ed)) (first | (go_keep; done) | (go_simp; done))
      (first
        | (go_at_call 18; have xx := B9; refine (HC2 _ ah ch (by repeat (with_reducible first | refine Mag.set ?_ (fun h => by have := Mh9 h; omega) _ _ | refine Mag.drew ?_ | refine Mag.alloc ?_ _ | refine Mag.drewN ?_ _ | refine Mag.below ?_ (Below.drew (Below.refl _ _)) | refine Mag.below ?_ ((Below.refl _ _).alloc (Nat.le_refl _) _) | exact Mh9)) (Gd.out.below (by have hszw := (B9).size; repeat (with_reducible first | refine Below.setCell ?_ (by first | omega | (simp <;> omega)) _ | refine Below.alloc ?_ (by first | omega | (simp <;> omega)) _ | refine Below.drew ?_ | refine below_drewN ?_ _ | exact B9))) (hT.below (by have hszw := (B9).size; repeat (with_reducible first | refine Below.setCell ?_ (by first | omega | (simp <;> omega)) _ | refine Below.alloc ?_ (by first | omega | (simp <;> omega)) _ | refine Below.drew ?_ | refine below_drewN ?_ _ | exact B9)))).out.mono ?_; rintro e w10 ⟨rfl, hb10⟩; have Vd10 : DyV w10 b0 bdd sd (.slice ad nd pd) ed := (by refine DyV.below ?_ hb10; (repeat (with_reducible first | refine DyV.drew ?_ | refine DyV.drewN ?_ _ | refine DyV.alloc ?_ _)); exact Vd9.out); (try clear dc0 dc1 dc2 dc3 dc4); obtain ⟨dc0, dc1, dc2, dc3, dc4, dc5⟩ := Vd10; have Vd10 := Lib.hid (DyV.mk dc0 dc1 dc2 dc3 dc4 dc5); have B10 := below_box (w := w) (by have hszw := (B9).size; repeat (with_reducible first | refine Below.setCell ?_ (by first | omega | (simp <;> omega)) _ | refine Below.alloc ?_ (by first | omega | (simp <;> omega)) _ | refine Below.drew ?_ | refine below_drewN ?_ _ | exact B9)) hb10; clear hb10)
        | (go_at_call 19; have xx := B8; refine (HO2 _ (hT.below (by have hszw := (B8).size; repeat (with_reducible first | refine Below.setCell ?_ (by first | omega | (simp <;> omega)) _ | refine Below.alloc ?_ (by first | omega | (simp <;> omega)) _ | refine Below.drew ?_ | refine below_drewN ?_ _ | exact B8)))).out.mono ?_; rintro e w9 ⟨ah, ch, rfl, Mh9, hb9, hf9⟩; have Vd9 : DyV w9 b0 bdd sd (.slice ad nd pd) ed := (by refine DyV.below ?_ hb9; (repeat (with_reducible first | refine DyV.drew ?_ | refine DyV.drewN ?_ _ | refine DyV.alloc ?_ _)); exact Vd8.out); (try clear dc0 dc1 dc2 dc3 dc4); obtain ⟨dc0, dc1, dc2, dc3, dc4, dc5⟩ := Vd9; have Vd9 := Lib.hid (DyV.mk dc0 dc1 dc2 dc3 dc4 dc5); have B9 := below_box (w := w) (by have hszw := (B8).size; repeat (with_reducible first | refine Below.setCell ?_ (by first | omega | (simp <;> omega)) _ | refine Below.alloc ?_ (by first | omega | (simp <;> omega)) _ | refine Below.drew ?_ | refine below_drewN ?_ _ | exact B8)) hb9; clear hb9 hf9)
        | fail)
  | fail "region"
  go_wp2_with fail
  refine (HW _ (hT.below (by have hszw := (B10).size; repeat (with_reducible first | refine Below.setCell ?_ (by first | omega | (simp <;> omega)) _ | refine Below.alloc ?_ (by first | omega | (simp <;> omega)) _ | refine Below.drew ?_ | refine below_drewN ?_ _ | exact B10)))).out.mono ?_
  rintro e w11 ⟨rfl, hb11⟩
  have Vd11 : DyV w11 b0 bdd sd (.slice ad nd pd) ed := (by refine DyV.below ?_ hb11; (repeat (with_reducible first | refine DyV.drew ?_ | refine DyV.drewN ?_ _ | refine DyV.alloc ?_ _)); exact Vd10.out)
  (try clear dc0 dc1 dc2 dc3 dc4)
  obtain ⟨dc0, dc1, dc2, dc3, dc4, dc5⟩ := Vd11
  have Vd11 := Lib.hid (DyV.mk dc0 dc1 dc2 dc3 dc4 dc5)
  have B11 := below_box (w := w) (by have hszw := (B10).size; repeat (with_reducible first | refine Below.setCell ?_ (by first | omega | (simp <;> omega)) _ | refine Below.alloc ?_ (by first | omega | (simp <;> omega)) _ | refine Below.drew ?_ | refine below_drewN ?_ _ | exact B10)) hb11
  clear hb11
  go_wp2_with fail
  go_ret
  exact ⟨rfl, (by have hszw := (B11).size; repeat (with_reducible first | refine Below.setCell ?_ (by first | omega | (simp <;> omega)) _ | refine Below.alloc ?_ (by first | omega | (simp <;> omega)) _ | refine Below.drew ?_ | refine below_drewN ?_ _ | exact B11))⟩

set_option maxRecDepth 100000 in
set_option maxHeartbeats 20000000 in
theorem encl_nze (w : World) (hT : Tab w) (bdd sd : Bool) (ad : Option Addr) (nd pd : Nat) (ed : Int) (dd : Option (Int × Int)) (Hd : DyIs w bdd sd ad nd pd ed dd) (md : nd ≤ 9223372036854775807) (hsd : slim3B nd ed = true) (va : dbad dd = false) (sz : dman dd ≠ 0) (lo hi near : Nat) (f1 : fround dd 1 = lo) (f2 : fround dd 2 = hi) (f3 : fround dd 0 = near) (n1 : fnan lo = false) (n2 : fnan hi = false) (o1 : (!dbad (fof lo) && !dbad dd) = true) (o2 : (!dbad dd && !dbad (fof hi)) = true) (x1 : dcmp (fof lo) dd < 0) (x2 : dcmp dd (fof hi) = 0) (e1 : lo = hi) (e2 : near = lo) :
    Calls Tryz.prog 4 #[.agg #[.bool bdd, .bool sd, .slice ad nd pd, .int .i64 ed]] w fun o w' => o = .returned (.bool true) ∧ Below w.heap.size w w' := by
  have HSl := fun W => Lib.hid (slimDyad3_any W bdd sd ad nd pd ed md true hsd)
  have HW := fun W ht => Lib.hid (awakeF_any W ht)
  have Gd := Lib.hid Hd
  have HV := fun W (h : DyIs W bdd sd ad nd pd ed dd) ht => Lib.hid (rvalid_any W bdd sd ad nd pd ed dd h ht)
  rw [va] at HV
  have nv : (!false) = true := rfl
  rw [nv] at HV
  clear nv
  have HG := fun W (h : DyIs W bdd sd ad nd pd ed dd) ht => Lib.hid (rdsign_any W bdd sd ad nd pd ed dd h ht)
  have hsz : (sg (dman dd) == 0) = false := by unfold sg cmpI; split <;> (try split) <;> first | decide | (exfalso; omega)
  generalize sg (dman dd) = gs at *
  have Nd := Lib.hid Hd.1.isN
  have l1 : lo < 18446744073709551616 := f1 ▸ fround_lt _ _
  have l2 : hi < 18446744073709551616 := f2 ▸ fround_lt _ _
  have HR1 := fun W (h : DyIs W bdd sd ad nd pd ed dd) ht => Lib.hid (fround_any W bdd sd ad nd pd ed 1 dd h.1 ht)
  have HR2 := fun W (h : DyIs W bdd sd ad nd pd ed dd) ht => Lib.hid (fround_any W bdd sd ad nd pd ed 2 dd h.1 ht)
  have HR3 := fun W (h : DyIs W bdd sd ad nd pd ed dd) ht => Lib.hid (fround_any W bdd sd ad nd pd ed 0 dd h.1 ht)
  rw [f1] at HR1
  rw [f2] at HR2
  rw [f3] at HR3
  have HK1 := fun W => Lib.hid (fkind_any W lo)
  have HK2 := fun W => Lib.hid (fkind_any W hi)
  have hk1 : (fkind lo == 3) = false := by rw [(fkind_eqs lo).1]; exact n1
  have hk2 : (fkind hi == 3) = false := by rw [(fkind_eqs hi).1]; exact n2
  have HO1 := fun W ht => Lib.hid (fof_any W lo l1 ht)
  have HO2 := fun W ht => Lib.hid (fof_any W hi l2 ht)
  have N1 := Lib.hid (isN_fof lo)
  have N2 := Lib.hid (isN_fof hi)
  have g1 : decide (0 < dcmp (fof lo) dd) = false := by simp; omega
  have h1 : (dcmp (fof lo) dd == 0) = false := by rw [beq_eq_false_iff_ne]; omega
  have g2 : decide (0 < dcmp dd (fof hi)) = false := by rw [x2]; rfl
  have h2 : (dcmp dd (fof hi) == 0) = true := by rw [x2]; rfl
  have HC1 := fun W (b : Option Addr) (q : Nat) (h : Mag W b (nl (dman (fof lo)).natAbs) q (dman (fof lo)).natAbs) (h' : DyIs W bdd sd ad nd pd ed dd) ht => Lib.hid (dcmp_any W _ _ _ _ _ _ _ _ _ _ _ _ _ _ (dyin_of N1.out h) h'.1 ht)
  have HC2 := fun W (b : Option Addr) (q : Nat) (h : Mag W b (nl (dman (fof hi)).natAbs) q (dman (fof hi)).natAbs) (h' : DyIs W bdd sd ad nd pd ed dd) ht => Lib.hid (dcmp_any W _ _ _ _ _ _ _ _ _ _ _ _ _ _ h'.1 (dyin_of N2.out h) ht)
  rw [o1] at HC1
  rw [o2] at HC2
  have y1 : ((lo : Int) == (hi : Int)) = true := by rw [e1]; simp
  have y2 : ((near : Int) == (lo : Int)) = true := by rw [e2]; simp
  generalize dcmp (fof lo) dd = v1 at *
  generalize dcmp dd (fof hi) = v2 at *
  generalize fof lo = dl at *
  generalize fof hi = dh at *
  generalize fkind lo = kl at *
  generalize fkind hi = kh at *
  clear f1 f2 f3 n1 n2 hsd va sz Hd l1 l2 o1 o2 x1 x2 e1 e2
  generalize (lo : Int) = jl at *
  generalize (hi : Int) = jh at *
  generalize (near : Int) = jn at *
  go_enter Tryz.func4, Tryz.ntmps4
  go_wp2_with fail
  have I0 := DyV.made w 26 bdd sd (.slice ad nd pd) ed
  have B0 : Below w.heap.size w (w.alloc (.cells #[.bool bdd, .bool sd, .slice ad nd pd, .int .i64 ed] 26)) := (by repeat (with_reducible first | refine Below.setCell ?_ (by simp <;> omega) _ | refine Below.alloc ?_ (by simp <;> omega) _ | refine Below.drew ?_ | refine below_drewN ?_ _ | exact Below.refl _ _))
  generalize (w.alloc (.cells #[.bool bdd, .bool sd, .slice ad nd pd, .int .i64 ed] 26)) = w0 at I0 B0 ⊢
  generalize hb0 : w.heap.size = b0 at I0 ⊢
  obtain ⟨dc0, dc1, dc2, dc3, dc4, dc5⟩ := I0
  have Vd0 := Lib.hid (DyV.mk dc0 dc1 dc2 dc3 dc4 dc5)
  refine (HSl _).out.mono ?_
  rintro e w1 ⟨rfl, hb1⟩
  have Vd1 : DyV w1 b0 bdd sd (.slice ad nd pd) ed := (by refine DyV.below ?_ hb1; (repeat (with_reducible first | refine DyV.drew ?_ | refine DyV.drewN ?_ _ | refine DyV.alloc ?_ _)); exact Vd0.out)
  (try clear dc0 dc1 dc2 dc3 dc4)
  obtain ⟨dc0, dc1, dc2, dc3, dc4, dc5⟩ := Vd1
  have Vd1 := Lib.hid (DyV.mk dc0 dc1 dc2 dc3 dc4 dc5)
  have B1 := below_box (w := w) (by have hszw := (B0).size; repeat (with_reducible first | refine Below.setCell ?_ (by first | omega | (simp <;> omega)) _ | refine Below.alloc ?_ (by first | omega | (simp <;> omega)) _ | refine Below.drew ?_ | refine below_drewN ?_ _ | exact B0)) hb1
  clear hb1
  go_wp2_with fail
  refine (HV _ (Gd.out.below (by have hszw := (B1).size; repeat (with_reducible first | refine Below.setCell ?_ (by first | omega | (simp <;> omega)) _ | refine Below.alloc ?_ (by first | omega | (simp <;> omega)) _ | refine Below.drew ?_ | refine below_drewN ?_ _ | exact B1))) (hT.below (by have hszw := (B1).size; repeat (with_reducible first | refine Below.setCell ?_ (by first | omega | (simp <;> omega)) _ | refine Below.alloc ?_ (by first | omega | (simp <;> omega)) _ | refine Below.drew ?_ | refine below_drewN ?_ _ | exact B1)))).out.mono ?_
  rintro e w2 ⟨rfl, hb2⟩
  have Vd2 : DyV w2 b0 bdd sd (.slice ad nd pd) ed := (by refine DyV.below ?_ hb2; (repeat (with_reducible first | refine DyV.drew ?_ | refine DyV.drewN ?_ _ | refine DyV.alloc ?_ _)); exact Vd1.out)
  (try clear dc0 dc1 dc2 dc3 dc4)
  obtain ⟨dc0, dc1, dc2, dc3, dc4, dc5⟩ := Vd2
  have Vd2 := Lib.hid (DyV.mk dc0 dc1 dc2 dc3 dc4 dc5)
  have B2 := below_box (w := w) (by have hszw := (B1).size; repeat (with_reducible first | refine Below.setCell ?_ (by first | omega | (simp <;> omega)) _ | refine Below.alloc ?_ (by first | omega | (simp <;> omega)) _ | refine Below.drew ?_ | refine below_drewN ?_ _ | exact B1)) hb2
  clear hb2
  go_wp2_with fail
  refine (HG _ (Gd.out.below (by have hszw := (B2).size; repeat (with_reducible first | refine Below.setCell ?_ (by first | omega | (simp <;> omega)) _ | refine Below.alloc ?_ (by first | omega | (simp <;> omega)) _ | refine Below.drew ?_ | refine below_drewN ?_ _ | exact B2))) (hT.below (by have hszw := (B2).size; repeat (with_reducible first | refine Below.setCell ?_ (by first | omega | (simp <;> omega)) _ | refine Below.alloc ?_ (by first | omega | (simp <;> omega)) _ | refine Below.drew ?_ | refine below_drewN ?_ _ | exact B2)))).out.mono ?_
  rintro e w3 ⟨rfl, hb3⟩
  have Vd3 : DyV w3 b0 bdd sd (.slice ad nd pd) ed := (by refine DyV.below ?_ hb3; (repeat (with_reducible first | refine DyV.drew ?_ | refine DyV.drewN ?_ _ | refine DyV.alloc ?_ _)); exact Vd2.out)
  (try clear dc0 dc1 dc2 dc3 dc4)
  obtain ⟨dc0, dc1, dc2, dc3, dc4, dc5⟩ := Vd3
  have Vd3 := Lib.hid (DyV.mk dc0 dc1 dc2 dc3 dc4 dc5)
  have B3 := below_box (w := w) (by have hszw := (B2).size; repeat (with_reducible first | refine Below.setCell ?_ (by first | omega | (simp <;> omega)) _ | refine Below.alloc ?_ (by first | omega | (simp <;> omega)) _ | refine Below.drew ?_ | refine below_drewN ?_ _ | exact B2)) hb3
  clear hb3
  go_wp2_with fail
  first
  | go_region_held3 (fun w' => w'.cell? ⟨b0, 0, none⟩ = some (.bool bdd) ∧ w'.cell? ⟨b0, 1, none⟩ = some (.bool sd) ∧ w'.cell? ⟨b0, 2, none⟩ = some ((.slice ad nd pd)) ∧ w'.cell? ⟨b0, 3, none⟩ = some (.int .i64 ed)) (first | (go_keep; done) | (go_simp; done))
      (first
        | (go_at_call 9; have xx := B5; refine (HR3 _ (Gd.out.below (by have hszw := (B5).size; repeat (with_reducible first | refine Below.setCell ?_ (by first | omega | (simp <;> omega)) _ | refine Below.alloc ?_ (by first | omega | (simp <;> omega)) _ | refine Below.drew ?_ | refine below_drewN ?_ _ | exact B5))) (hT.below (by have hszw := (B5).size; repeat (with_reducible first | refine Below.setCell ?_ (by first | omega | (simp <;> omega)) _ | refine Below.alloc ?_ (by first | omega | (simp <;> omega)) _ | refine Below.drew ?_ | refine below_drewN ?_ _ | exact B5)))).out.mono ?_; rintro e w6 ⟨rfl, hb6⟩; have Vd6 : DyV w6 b0 bdd sd (.slice ad nd pd) ed := (by refine DyV.below ?_ hb6; (repeat (with_reducible first | refine DyV.drew ?_ | refine DyV.drewN ?_ _ | refine DyV.alloc ?_ _)); exact Vd5.out); (try clear dc0 dc1 dc2 dc3 dc4); obtain ⟨dc0, dc1, dc2, dc3, dc4, dc5⟩ := Vd6; have Vd6 := Lib.hid (DyV.mk dc0 dc1 dc2 dc3 dc4 dc5); have B6 := below_box (w := w) (by have hszw := (B5).size; repeat (with_reducible first | refine Below.setCell ?_ (by first | omega | (simp <;> omega)) _ | refine Below.alloc ?_ (by first | omega | (simp <;> omega)) _ | refine Below.drew ?_ | refine below_drewN ?_ _ | exact B5)) hb6; clear hb6)
        | (go_at_call 9; have xx := B4; refine (HR2 _ (Gd.out.below (by have hszw := (B4).size; repeat (with_reducible first | refine Below.setCell ?_ (by first | omega | (simp <;> omega)) _ | refine Below.alloc ?_ (by first | omega | (simp <;> omega)) _ | refine Below.drew ?_ | refine below_drewN ?_ _ | exact B4))) (hT.below (by have hszw := (B4).size; repeat (with_reducible first | refine Below.setCell ?_ (by first | omega | (simp <;> omega)) _ | refine Below.alloc ?_ (by first | omega | (simp <;> omega)) _ | refine Below.drew ?_ | refine below_drewN ?_ _ | exact B4)))).out.mono ?_; rintro e w5 ⟨rfl, hb5⟩; have Vd5 : DyV w5 b0 bdd sd (.slice ad nd pd) ed := (by refine DyV.below ?_ hb5; (repeat (with_reducible first | refine DyV.drew ?_ | refine DyV.drewN ?_ _ | refine DyV.alloc ?_ _)); exact Vd4.out); (try clear dc0 dc1 dc2 dc3 dc4); obtain ⟨dc0, dc1, dc2, dc3, dc4, dc5⟩ := Vd5; have Vd5 := Lib.hid (DyV.mk dc0 dc1 dc2 dc3 dc4 dc5); have B5 := below_box (w := w) (by have hszw := (B4).size; repeat (with_reducible first | refine Below.setCell ?_ (by first | omega | (simp <;> omega)) _ | refine Below.alloc ?_ (by first | omega | (simp <;> omega)) _ | refine Below.drew ?_ | refine below_drewN ?_ _ | exact B4)) hb5; clear hb5)
        | (go_at_call 9; have xx := B3; refine (HR1 _ (Gd.out.below (by have hszw := (B3).size; repeat (with_reducible first | refine Below.setCell ?_ (by first | omega | (simp <;> omega)) _ | refine Below.alloc ?_ (by first | omega | (simp <;> omega)) _ | refine Below.drew ?_ | refine below_drewN ?_ _ | exact B3))) (hT.below (by have hszw := (B3).size; repeat (with_reducible first | refine Below.setCell ?_ (by first | omega | (simp <;> omega)) _ | refine Below.alloc ?_ (by first | omega | (simp <;> omega)) _ | refine Below.drew ?_ | refine below_drewN ?_ _ | exact B3)))).out.mono ?_; rintro e w4 ⟨rfl, hb4⟩; have Vd4 : DyV w4 b0 bdd sd (.slice ad nd pd) ed := (by refine DyV.below ?_ hb4; (repeat (with_reducible first | refine DyV.drew ?_ | refine DyV.drewN ?_ _ | refine DyV.alloc ?_ _)); exact Vd3.out); (try clear dc0 dc1 dc2 dc3 dc4); obtain ⟨dc0, dc1, dc2, dc3, dc4, dc5⟩ := Vd4; have Vd4 := Lib.hid (DyV.mk dc0 dc1 dc2 dc3 dc4 dc5); have B4 := below_box (w := w) (by have hszw := (B3).size; repeat (with_reducible first | refine Below.setCell ?_ (by first | omega | (simp <;> omega)) _ | refine Below.alloc ?_ (by first | omega | (simp <;> omega)) _ | refine Below.drew ?_ | refine below_drewN ?_ _ | exact B3)) hb4; clear hb4)
        | fail)
  | fail "region"
  go_wp2_with fail
  refine (HK1 _).out.mono ?_
  rintro e wq ⟨rfl, rfl⟩
  go_wp2_with fail
  refine (HK2 _).out.mono ?_
  rintro e wq ⟨rfl, rfl⟩
  go_wp2_with fail
  first
  | go_region_held3 (fun w' => w'.cell? ⟨b0, 0, none⟩ = some (.bool bdd) ∧ w'.cell? ⟨b0, 1, none⟩ = some (.bool sd) ∧ w'.cell? ⟨b0, 2, none⟩ = some ((.slice ad nd pd)) ∧ w'.cell? ⟨b0, 3, none⟩ = some (.int .i64 ed)) (first | (go_keep; done) | (go_simp; done))
      (first
        | (go_at_call 18; have xx := B7; refine (HC1 _ al cl (by repeat (with_reducible first | refine Mag.set ?_ (fun h => by have := Ml7 h; omega) _ _ | refine Mag.drew ?_ | refine Mag.alloc ?_ _ | refine Mag.drewN ?_ _ | refine Mag.below ?_ (Below.drew (Below.refl _ _)) | refine Mag.below ?_ ((Below.refl _ _).alloc (Nat.le_refl _) _) | exact Ml7)) (Gd.out.below (by have hszw := (B7).size; repeat (with_reducible first | refine Below.setCell ?_ (by first | omega | (simp <;> omega)) _ | refine Below.alloc ?_ (by first | omega | (simp <;> omega)) _ | refine Below.drew ?_ | refine below_drewN ?_ _ | exact B7))) (hT.below (by have hszw := (B7).size; repeat (with_reducible first | refine Below.setCell ?_ (by first | omega | (simp <;> omega)) _ | refine Below.alloc ?_ (by first | omega | (simp <;> omega)) _ | refine Below.drew ?_ | refine below_drewN ?_ _ | exact B7)))).out.mono ?_; rintro e w8 ⟨rfl, hb8⟩; have Vd8 : DyV w8 b0 bdd sd (.slice ad nd pd) ed := (by refine DyV.below ?_ hb8; (repeat (with_reducible first | refine DyV.drew ?_ | refine DyV.drewN ?_ _ | refine DyV.alloc ?_ _)); exact Vd7.out); (try clear dc0 dc1 dc2 dc3 dc4); obtain ⟨dc0, dc1, dc2, dc3, dc4, dc5⟩ := Vd8; have Vd8 := Lib.hid (DyV.mk dc0 dc1 dc2 dc3 dc4 dc5); have B8 := below_box (w := w) (by have hszw := (B7).size; repeat (with_reducible first | refine Below.setCell ?_ (by first | omega | (simp <;> omega)) _ | refine Below.alloc ?_ (by first | omega | (simp <;> omega)) _ | refine Below.drew ?_ | refine below_drewN ?_ _ | exact B7)) hb8; clear hb8)
        | (go_at_call 19; have xx := B6; refine (HO1 _ (hT.below (by have hszw := (B6).size; repeat (with_reducible first | refine Below.setCell ?_ (by first | omega | (simp <;> omega)) _ | refine Below.alloc ?_ (by first | omega | (simp <;> omega)) _ | refine Below.drew ?_ | refine below_drewN ?_ _ | exact B6)))).out.mono ?_; rintro e w7 ⟨al, cl, rfl, Ml7, hb7, hf7⟩; have Vd7 : DyV w7 b0 bdd sd (.slice ad nd pd) ed := (by refine DyV.below ?_ hb7; (repeat (with_reducible first | refine DyV.drew ?_ | refine DyV.drewN ?_ _ | refine DyV.alloc ?_ _)); exact Vd6.out); (try clear dc0 dc1 dc2 dc3 dc4); obtain ⟨dc0, dc1, dc2, dc3, dc4, dc5⟩ := Vd7; have Vd7 := Lib.hid (DyV.mk dc0 dc1 dc2 dc3 dc4 dc5); have B7 := below_box (w := w) (by have hszw := (B6).size; repeat (with_reducible first | refine Below.setCell ?_ (by first | omega | (simp <;> omega)) _ | refine Below.alloc ?_ (by first | omega | (simp <;> omega)) _ | refine Below.drew ?_ | refine below_drewN ?_ _ | exact B6)) hb7; clear hb7 hf7)
        | fail)
  | fail "region"
  go_wp2_with fail
  first
  | go_region_held3 (fun w' => w'.cell? ⟨b0, 0, none⟩ = some (.bool bdd) ∧ w'.cell? ⟨b0, 1, none⟩ = some (.bool sd) ∧ w'.cell? ⟨b0, 2, none⟩ = some ((.slice ad nd pd)) ∧ w'.cell? ⟨b0, 3, none⟩ = some (.int .i64 ed)) (first | (go_keep; done) | (go_simp; done))
      (first
        | (go_at_call 18; have xx := B9; refine (HC2 _ ah ch (by repeat (with_reducible first | refine Mag.set ?_ (fun h => by have := Mh9 h; omega) _ _ | refine Mag.drew ?_ | refine Mag.alloc ?_ _ | refine Mag.drewN ?_ _ | refine Mag.below ?_ (Below.drew (Below.refl _ _)) | refine Mag.below ?_ ((Below.refl _ _).alloc (Nat.le_refl _) _) | exact Mh9)) (Gd.out.below (by have hszw := (B9).size; repeat (with_reducible first | refine Below.setCell ?_ (by first | omega | (simp <;> omega)) _ | refine Below.alloc ?_ (by first | omega | (simp <;> omega)) _ | refine Below.drew ?_ | refine below_drewN ?_ _ | exact B9))) (hT.below (by have hszw := (B9).size; repeat (with_reducible first | refine Below.setCell ?_ (by first | omega | (simp <;> omega)) _ | refine Below.alloc ?_ (by first | omega | (simp <;> omega)) _ | refine Below.drew ?_ | refine below_drewN ?_ _ | exact B9)))).out.mono ?_; rintro e w10 ⟨rfl, hb10⟩; have Vd10 : DyV w10 b0 bdd sd (.slice ad nd pd) ed := (by refine DyV.below ?_ hb10; (repeat (with_reducible first | refine DyV.drew ?_ | refine DyV.drewN ?_ _ | refine DyV.alloc ?_ _)); exact Vd9.out); (try clear dc0 dc1 dc2 dc3 dc4); obtain ⟨dc0, dc1, dc2, dc3, dc4, dc5⟩ := Vd10; have Vd10 := Lib.hid (DyV.mk dc0 dc1 dc2 dc3 dc4 dc5); have B10 := below_box (w := w) (by have hszw := (B9).size; repeat (with_reducible first | refine Below.setCell ?_ (by first | omega | (simp <;> omega)) _ | refine Below.alloc ?_ (by first | omega | (simp <;> omega)) _ | refine Below.drew ?_ | refine below_drewN ?_ _ | exact B9)) hb10; clear hb10)
        | (go_at_call 19; have xx := B8; refine (HO2 _ (hT.below (by have hszw := (B8).size; repeat (with_reducible first | refine Below.setCell ?_ (by first | omega | (simp <;> omega)) _ | refine Below.alloc ?_ (by first | omega | (simp <;> omega)) _ | refine Below.drew ?_ | refine below_drewN ?_ _ | exact B8)))).out.mono ?_; rintro e w9 ⟨ah, ch, rfl, Mh9, hb9, hf9⟩; have Vd9 : DyV w9 b0 bdd sd (.slice ad nd pd) ed := (by refine DyV.below ?_ hb9; (repeat (with_reducible first | refine DyV.drew ?_ | refine DyV.drewN ?_ _ | refine DyV.alloc ?_ _)); exact Vd8.out); (try clear dc0 dc1 dc2 dc3 dc4); obtain ⟨dc0, dc1, dc2, dc3, dc4, dc5⟩ := Vd9; have Vd9 := Lib.hid (DyV.mk dc0 dc1 dc2 dc3 dc4 dc5); have B9 := below_box (w := w) (by have hszw := (B8).size; repeat (with_reducible first | refine Below.setCell ?_ (by first | omega | (simp <;> omega)) _ | refine Below.alloc ?_ (by first | omega | (simp <;> omega)) _ | refine Below.drew ?_ | refine below_drewN ?_ _ | exact B8)) hb9; clear hb9 hf9)
        | fail)
  | fail "region"
  go_wp2_with fail
  refine (HW _ (hT.below (by have hszw := (B10).size; repeat (with_reducible first | refine Below.setCell ?_ (by first | omega | (simp <;> omega)) _ | refine Below.alloc ?_ (by first | omega | (simp <;> omega)) _ | refine Below.drew ?_ | refine below_drewN ?_ _ | exact B10)))).out.mono ?_
  rintro e w11 ⟨rfl, hb11⟩
  have Vd11 : DyV w11 b0 bdd sd (.slice ad nd pd) ed := (by refine DyV.below ?_ hb11; (repeat (with_reducible first | refine DyV.drew ?_ | refine DyV.drewN ?_ _ | refine DyV.alloc ?_ _)); exact Vd10.out)
  (try clear dc0 dc1 dc2 dc3 dc4)
  obtain ⟨dc0, dc1, dc2, dc3, dc4, dc5⟩ := Vd11
  have Vd11 := Lib.hid (DyV.mk dc0 dc1 dc2 dc3 dc4 dc5)
  have B11 := below_box (w := w) (by have hszw := (B10).size; repeat (with_reducible first | refine Below.setCell ?_ (by first | omega | (simp <;> omega)) _ | refine Below.alloc ?_ (by first | omega | (simp <;> omega)) _ | refine Below.drew ?_ | refine below_drewN ?_ _ | exact B10)) hb11
  clear hb11
  go_wp2_with fail
  go_ret
  exact ⟨rfl, (by have hszw := (B11).size; repeat (with_reducible first | refine Below.setCell ?_ (by first | omega | (simp <;> omega)) _ | refine Below.alloc ?_ (by first | omega | (simp <;> omega)) _ | refine Below.drew ?_ | refine below_drewN ?_ _ | exact B11))⟩

set_option maxRecDepth 100000 in
set_option maxHeartbeats 20000000 in
theorem encl_nnl (w : World) (hT : Tab w) (bdd sd : Bool) (ad : Option Addr) (nd pd : Nat) (ed : Int) (dd : Option (Int × Int)) (Hd : DyIs w bdd sd ad nd pd ed dd) (md : nd ≤ 9223372036854775807) (hsd : slim3B nd ed = true) (va : dbad dd = false) (sz : dman dd ≠ 0) (lo hi near : Nat) (f1 : fround dd 1 = lo) (f2 : fround dd 2 = hi) (f3 : fround dd 0 = near) (n1 : fnan lo = false) (n2 : fnan hi = false) (o1 : (!dbad (fof lo) && !dbad dd) = true) (o2 : (!dbad dd && !dbad (fof hi)) = true) (x1 : dcmp (fof lo) dd < 0) (x2 : dcmp dd (fof hi) < 0) (cz : fcmpv (fup lo) hi = 0) (e1 : near = lo) :
    Calls Tryz.prog 4 #[.agg #[.bool bdd, .bool sd, .slice ad nd pd, .int .i64 ed]] w fun o w' => o = .returned (.bool true) ∧ Below w.heap.size w w' := by
  have HSl := fun W => Lib.hid (slimDyad3_any W bdd sd ad nd pd ed md true hsd)
  have HW := fun W ht => Lib.hid (awakeF_any W ht)
  have Gd := Lib.hid Hd
  have HV := fun W (h : DyIs W bdd sd ad nd pd ed dd) ht => Lib.hid (rvalid_any W bdd sd ad nd pd ed dd h ht)
  rw [va] at HV
  have nv : (!false) = true := rfl
  rw [nv] at HV
  clear nv
  have HG := fun W (h : DyIs W bdd sd ad nd pd ed dd) ht => Lib.hid (rdsign_any W bdd sd ad nd pd ed dd h ht)
  have hsz : (sg (dman dd) == 0) = false := by unfold sg cmpI; split <;> (try split) <;> first | decide | (exfalso; omega)
  generalize sg (dman dd) = gs at *
  have Nd := Lib.hid Hd.1.isN
  have l1 : lo < 18446744073709551616 := f1 ▸ fround_lt _ _
  have l2 : hi < 18446744073709551616 := f2 ▸ fround_lt _ _
  have HR1 := fun W (h : DyIs W bdd sd ad nd pd ed dd) ht => Lib.hid (fround_any W bdd sd ad nd pd ed 1 dd h.1 ht)
  have HR2 := fun W (h : DyIs W bdd sd ad nd pd ed dd) ht => Lib.hid (fround_any W bdd sd ad nd pd ed 2 dd h.1 ht)
  have HR3 := fun W (h : DyIs W bdd sd ad nd pd ed dd) ht => Lib.hid (fround_any W bdd sd ad nd pd ed 0 dd h.1 ht)
  rw [f1] at HR1
  rw [f2] at HR2
  rw [f3] at HR3
  have HK1 := fun W => Lib.hid (fkind_any W lo)
  have HK2 := fun W => Lib.hid (fkind_any W hi)
  have hk1 : (fkind lo == 3) = false := by rw [(fkind_eqs lo).1]; exact n1
  have hk2 : (fkind hi == 3) = false := by rw [(fkind_eqs hi).1]; exact n2
  have HO1 := fun W ht => Lib.hid (fof_any W lo l1 ht)
  have HO2 := fun W ht => Lib.hid (fof_any W hi l2 ht)
  have N1 := Lib.hid (isN_fof lo)
  have N2 := Lib.hid (isN_fof hi)
  have g1 : decide (0 < dcmp (fof lo) dd) = false := by simp; omega
  have h1 : (dcmp (fof lo) dd == 0) = false := by rw [beq_eq_false_iff_ne]; omega
  have g2 : decide (0 < dcmp dd (fof hi)) = false := by simp; omega
  have h2 : (dcmp dd (fof hi) == 0) = false := by rw [beq_eq_false_iff_ne]; omega
  have HC1 := fun W (b : Option Addr) (q : Nat) (h : Mag W b (nl (dman (fof lo)).natAbs) q (dman (fof lo)).natAbs) (h' : DyIs W bdd sd ad nd pd ed dd) ht => Lib.hid (dcmp_any W _ _ _ _ _ _ _ _ _ _ _ _ _ _ (dyin_of N1.out h) h'.1 ht)
  have HC2 := fun W (b : Option Addr) (q : Nat) (h : Mag W b (nl (dman (fof hi)).natAbs) q (dman (fof hi)).natAbs) (h' : DyIs W bdd sd ad nd pd ed dd) ht => Lib.hid (dcmp_any W _ _ _ _ _ _ _ _ _ _ _ _ _ _ h'.1 (dyin_of N2.out h) ht)
  rw [o1] at HC1
  rw [o2] at HC2
  have HU := fun W => Lib.hid (fup_any W lo l1)
  have HC3 := fun W => Lib.hid (fcmp_any W (fup lo) hi (fup_lt l1) l2)
  rw [cz] at HC3
  generalize fcmpok (fup lo) hi = o3 at *
  generalize ((fup lo : Nat) : Int) = iu at *
  have y1 : ((near : Int) == (lo : Int)) = true := by rw [e1]; simp
  generalize dcmp (fof lo) dd = v1 at *
  generalize dcmp dd (fof hi) = v2 at *
  generalize fof lo = dl at *
  generalize fof hi = dh at *
  generalize fkind lo = kl at *
  generalize fkind hi = kh at *
  clear f1 f2 f3 n1 n2 hsd va sz Hd l1 l2 o1 o2 x1 x2 cz e1
  generalize (lo : Int) = jl at *
  generalize (hi : Int) = jh at *
  generalize (near : Int) = jn at *
  go_enter Tryz.func4, Tryz.ntmps4
  go_wp2_with fail
  have I0 := DyV.made w 26 bdd sd (.slice ad nd pd) ed
  have B0 : Below w.heap.size w (w.alloc (.cells #[.bool bdd, .bool sd, .slice ad nd pd, .int .i64 ed] 26)) := (by repeat (with_reducible first | refine Below.setCell ?_ (by simp <;> omega) _ | refine Below.alloc ?_ (by simp <;> omega) _ | refine Below.drew ?_ | refine below_drewN ?_ _ | exact Below.refl _ _))
  generalize (w.alloc (.cells #[.bool bdd, .bool sd, .slice ad nd pd, .int .i64 ed] 26)) = w0 at I0 B0 ⊢
  generalize hb0 : w.heap.size = b0 at I0 ⊢
  obtain ⟨dc0, dc1, dc2, dc3, dc4, dc5⟩ := I0
  have Vd0 := Lib.hid (DyV.mk dc0 dc1 dc2 dc3 dc4 dc5)
  refine (HSl _).out.mono ?_
  rintro e w1 ⟨rfl, hb1⟩
  have Vd1 : DyV w1 b0 bdd sd (.slice ad nd pd) ed := (by refine DyV.below ?_ hb1; (repeat (with_reducible first | refine DyV.drew ?_ | refine DyV.drewN ?_ _ | refine DyV.alloc ?_ _)); exact Vd0.out)
  (try clear dc0 dc1 dc2 dc3 dc4)
  obtain ⟨dc0, dc1, dc2, dc3, dc4, dc5⟩ := Vd1
  have Vd1 := Lib.hid (DyV.mk dc0 dc1 dc2 dc3 dc4 dc5)
  have B1 := below_box (w := w) (by have hszw := (B0).size; repeat (with_reducible first | refine Below.setCell ?_ (by first | omega | (simp <;> omega)) _ | refine Below.alloc ?_ (by first | omega | (simp <;> omega)) _ | refine Below.drew ?_ | refine below_drewN ?_ _ | exact B0)) hb1
  clear hb1
  go_wp2_with fail
  refine (HV _ (Gd.out.below (by have hszw := (B1).size; repeat (with_reducible first | refine Below.setCell ?_ (by first | omega | (simp <;> omega)) _ | refine Below.alloc ?_ (by first | omega | (simp <;> omega)) _ | refine Below.drew ?_ | refine below_drewN ?_ _ | exact B1))) (hT.below (by have hszw := (B1).size; repeat (with_reducible first | refine Below.setCell ?_ (by first | omega | (simp <;> omega)) _ | refine Below.alloc ?_ (by first | omega | (simp <;> omega)) _ | refine Below.drew ?_ | refine below_drewN ?_ _ | exact B1)))).out.mono ?_
  rintro e w2 ⟨rfl, hb2⟩
  have Vd2 : DyV w2 b0 bdd sd (.slice ad nd pd) ed := (by refine DyV.below ?_ hb2; (repeat (with_reducible first | refine DyV.drew ?_ | refine DyV.drewN ?_ _ | refine DyV.alloc ?_ _)); exact Vd1.out)
  (try clear dc0 dc1 dc2 dc3 dc4)
  obtain ⟨dc0, dc1, dc2, dc3, dc4, dc5⟩ := Vd2
  have Vd2 := Lib.hid (DyV.mk dc0 dc1 dc2 dc3 dc4 dc5)
  have B2 := below_box (w := w) (by have hszw := (B1).size; repeat (with_reducible first | refine Below.setCell ?_ (by first | omega | (simp <;> omega)) _ | refine Below.alloc ?_ (by first | omega | (simp <;> omega)) _ | refine Below.drew ?_ | refine below_drewN ?_ _ | exact B1)) hb2
  clear hb2
  go_wp2_with fail
  refine (HG _ (Gd.out.below (by have hszw := (B2).size; repeat (with_reducible first | refine Below.setCell ?_ (by first | omega | (simp <;> omega)) _ | refine Below.alloc ?_ (by first | omega | (simp <;> omega)) _ | refine Below.drew ?_ | refine below_drewN ?_ _ | exact B2))) (hT.below (by have hszw := (B2).size; repeat (with_reducible first | refine Below.setCell ?_ (by first | omega | (simp <;> omega)) _ | refine Below.alloc ?_ (by first | omega | (simp <;> omega)) _ | refine Below.drew ?_ | refine below_drewN ?_ _ | exact B2)))).out.mono ?_
  rintro e w3 ⟨rfl, hb3⟩
  have Vd3 : DyV w3 b0 bdd sd (.slice ad nd pd) ed := (by refine DyV.below ?_ hb3; (repeat (with_reducible first | refine DyV.drew ?_ | refine DyV.drewN ?_ _ | refine DyV.alloc ?_ _)); exact Vd2.out)
  (try clear dc0 dc1 dc2 dc3 dc4)
  obtain ⟨dc0, dc1, dc2, dc3, dc4, dc5⟩ := Vd3
  have Vd3 := Lib.hid (DyV.mk dc0 dc1 dc2 dc3 dc4 dc5)
  have B3 := below_box (w := w) (by have hszw := (B2).size; repeat (with_reducible first | refine Below.setCell ?_ (by first | omega | (simp <;> omega)) _ | refine Below.alloc ?_ (by first | omega | (simp <;> omega)) _ | refine Below.drew ?_ | refine below_drewN ?_ _ | exact B2)) hb3
  clear hb3
  go_wp2_with fail
  first
  | go_region_held3 (fun w' => w'.cell? ⟨b0, 0, none⟩ = some (.bool bdd) ∧ w'.cell? ⟨b0, 1, none⟩ = some (.bool sd) ∧ w'.cell? ⟨b0, 2, none⟩ = some ((.slice ad nd pd)) ∧ w'.cell? ⟨b0, 3, none⟩ = some (.int .i64 ed)) (first | (go_keep; done) | (go_simp; done))
      (first
        | (go_at_call 9; have xx := B5; refine (HR3 _ (Gd.out.below (by have hszw := (B5).size; repeat (with_reducible first | refine Below.setCell ?_ (by first | omega | (simp <;> omega)) _ | refine Below.alloc ?_ (by first | omega | (simp <;> omega)) _ | refine Below.drew ?_ | refine below_drewN ?_ _ | exact B5))) (hT.below (by have hszw := (B5).size; repeat (with_reducible first | refine Below.setCell ?_ (by first | omega | (simp <;> omega)) _ | refine Below.alloc ?_ (by first | omega | (simp <;> omega)) _ | refine Below.drew ?_ | refine below_drewN ?_ _ | exact B5)))).out.mono ?_; rintro e w6 ⟨rfl, hb6⟩; have Vd6 : DyV w6 b0 bdd sd (.slice ad nd pd) ed := (by refine DyV.below ?_ hb6; (repeat (with_reducible first | refine DyV.drew ?_ | refine DyV.drewN ?_ _ | refine DyV.alloc ?_ _)); exact Vd5.out); (try clear dc0 dc1 dc2 dc3 dc4); obtain ⟨dc0, dc1, dc2, dc3, dc4, dc5⟩ := Vd6; have Vd6 := Lib.hid (DyV.mk dc0 dc1 dc2 dc3 dc4 dc5); have B6 := below_box (w := w) (by have hszw := (B5).size; repeat (with_reducible first | refine Below.setCell ?_ (by first | omega | (simp <;> omega)) _ | refine Below.alloc ?_ (by first | omega | (simp <;> omega)) _ | refine Below.drew ?_ | refine below_drewN ?_ _ | exact B5)) hb6; clear hb6)
        | (go_at_call 9; have xx := B4; refine (HR2 _ (Gd.out.below (by have hszw := (B4).size; repeat (with_reducible first | refine Below.setCell ?_ (by first | omega | (simp <;> omega)) _ | refine Below.alloc ?_ (by first | omega | (simp <;> omega)) _ | refine Below.drew ?_ | refine below_drewN ?_ _ | exact B4))) (hT.below (by have hszw := (B4).size; repeat (with_reducible first | refine Below.setCell ?_ (by first | omega | (simp <;> omega)) _ | refine Below.alloc ?_ (by first | omega | (simp <;> omega)) _ | refine Below.drew ?_ | refine below_drewN ?_ _ | exact B4)))).out.mono ?_; rintro e w5 ⟨rfl, hb5⟩; have Vd5 : DyV w5 b0 bdd sd (.slice ad nd pd) ed := (by refine DyV.below ?_ hb5; (repeat (with_reducible first | refine DyV.drew ?_ | refine DyV.drewN ?_ _ | refine DyV.alloc ?_ _)); exact Vd4.out); (try clear dc0 dc1 dc2 dc3 dc4); obtain ⟨dc0, dc1, dc2, dc3, dc4, dc5⟩ := Vd5; have Vd5 := Lib.hid (DyV.mk dc0 dc1 dc2 dc3 dc4 dc5); have B5 := below_box (w := w) (by have hszw := (B4).size; repeat (with_reducible first | refine Below.setCell ?_ (by first | omega | (simp <;> omega)) _ | refine Below.alloc ?_ (by first | omega | (simp <;> omega)) _ | refine Below.drew ?_ | refine below_drewN ?_ _ | exact B4)) hb5; clear hb5)
        | (go_at_call 9; have xx := B3; refine (HR1 _ (Gd.out.below (by have hszw := (B3).size; repeat (with_reducible first | refine Below.setCell ?_ (by first | omega | (simp <;> omega)) _ | refine Below.alloc ?_ (by first | omega | (simp <;> omega)) _ | refine Below.drew ?_ | refine below_drewN ?_ _ | exact B3))) (hT.below (by have hszw := (B3).size; repeat (with_reducible first | refine Below.setCell ?_ (by first | omega | (simp <;> omega)) _ | refine Below.alloc ?_ (by first | omega | (simp <;> omega)) _ | refine Below.drew ?_ | refine below_drewN ?_ _ | exact B3)))).out.mono ?_; rintro e w4 ⟨rfl, hb4⟩; have Vd4 : DyV w4 b0 bdd sd (.slice ad nd pd) ed := (by refine DyV.below ?_ hb4; (repeat (with_reducible first | refine DyV.drew ?_ | refine DyV.drewN ?_ _ | refine DyV.alloc ?_ _)); exact Vd3.out); (try clear dc0 dc1 dc2 dc3 dc4); obtain ⟨dc0, dc1, dc2, dc3, dc4, dc5⟩ := Vd4; have Vd4 := Lib.hid (DyV.mk dc0 dc1 dc2 dc3 dc4 dc5); have B4 := below_box (w := w) (by have hszw := (B3).size; repeat (with_reducible first | refine Below.setCell ?_ (by first | omega | (simp <;> omega)) _ | refine Below.alloc ?_ (by first | omega | (simp <;> omega)) _ | refine Below.drew ?_ | refine below_drewN ?_ _ | exact B3)) hb4; clear hb4)
        | fail)
  | fail "region"
  go_wp2_with fail
  refine (HK1 _).out.mono ?_
  rintro e wq ⟨rfl, rfl⟩
  go_wp2_with fail
  refine (HK2 _).out.mono ?_
  rintro e wq ⟨rfl, rfl⟩
  go_wp2_with fail
  first
  | go_region_held3 (fun w' => w'.cell? ⟨b0, 0, none⟩ = some (.bool bdd) ∧ w'.cell? ⟨b0, 1, none⟩ = some (.bool sd) ∧ w'.cell? ⟨b0, 2, none⟩ = some ((.slice ad nd pd)) ∧ w'.cell? ⟨b0, 3, none⟩ = some (.int .i64 ed)) (first | (go_keep; done) | (go_simp; done))
      (first
        | (go_at_call 18; have xx := B7; refine (HC1 _ al cl (by repeat (with_reducible first | refine Mag.set ?_ (fun h => by have := Ml7 h; omega) _ _ | refine Mag.drew ?_ | refine Mag.alloc ?_ _ | refine Mag.drewN ?_ _ | refine Mag.below ?_ (Below.drew (Below.refl _ _)) | refine Mag.below ?_ ((Below.refl _ _).alloc (Nat.le_refl _) _) | exact Ml7)) (Gd.out.below (by have hszw := (B7).size; repeat (with_reducible first | refine Below.setCell ?_ (by first | omega | (simp <;> omega)) _ | refine Below.alloc ?_ (by first | omega | (simp <;> omega)) _ | refine Below.drew ?_ | refine below_drewN ?_ _ | exact B7))) (hT.below (by have hszw := (B7).size; repeat (with_reducible first | refine Below.setCell ?_ (by first | omega | (simp <;> omega)) _ | refine Below.alloc ?_ (by first | omega | (simp <;> omega)) _ | refine Below.drew ?_ | refine below_drewN ?_ _ | exact B7)))).out.mono ?_; rintro e w8 ⟨rfl, hb8⟩; have Vd8 : DyV w8 b0 bdd sd (.slice ad nd pd) ed := (by refine DyV.below ?_ hb8; (repeat (with_reducible first | refine DyV.drew ?_ | refine DyV.drewN ?_ _ | refine DyV.alloc ?_ _)); exact Vd7.out); (try clear dc0 dc1 dc2 dc3 dc4); obtain ⟨dc0, dc1, dc2, dc3, dc4, dc5⟩ := Vd8; have Vd8 := Lib.hid (DyV.mk dc0 dc1 dc2 dc3 dc4 dc5); have B8 := below_box (w := w) (by have hszw := (B7).size; repeat (with_reducible first | refine Below.setCell ?_ (by first | omega | (simp <;> omega)) _ | refine Below.alloc ?_ (by first | omega | (simp <;> omega)) _ | refine Below.drew ?_ | refine below_drewN ?_ _ | exact B7)) hb8; clear hb8)
        | (go_at_call 19; have xx := B6; refine (HO1 _ (hT.below (by have hszw := (B6).size; repeat (with_reducible first | refine Below.setCell ?_ (by first | omega | (simp <;> omega)) _ | refine Below.alloc ?_ (by first | omega | (simp <;> omega)) _ | refine Below.drew ?_ | refine below_drewN ?_ _ | exact B6)))).out.mono ?_; rintro e w7 ⟨al, cl, rfl, Ml7, hb7, hf7⟩; have Vd7 : DyV w7 b0 bdd sd (.slice ad nd pd) ed := (by refine DyV.below ?_ hb7; (repeat (with_reducible first | refine DyV.drew ?_ | refine DyV.drewN ?_ _ | refine DyV.alloc ?_ _)); exact Vd6.out); (try clear dc0 dc1 dc2 dc3 dc4); obtain ⟨dc0, dc1, dc2, dc3, dc4, dc5⟩ := Vd7; have Vd7 := Lib.hid (DyV.mk dc0 dc1 dc2 dc3 dc4 dc5); have B7 := below_box (w := w) (by have hszw := (B6).size; repeat (with_reducible first | refine Below.setCell ?_ (by first | omega | (simp <;> omega)) _ | refine Below.alloc ?_ (by first | omega | (simp <;> omega)) _ | refine Below.drew ?_ | refine below_drewN ?_ _ | exact B6)) hb7; clear hb7 hf7)
        | fail)
  | fail "region"
  go_wp2_with fail
  first
  | go_region_held3 (fun w' => w'.cell? ⟨b0, 0, none⟩ = some (.bool bdd) ∧ w'.cell? ⟨b0, 1, none⟩ = some (.bool sd) ∧ w'.cell? ⟨b0, 2, none⟩ = some ((.slice ad nd pd)) ∧ w'.cell? ⟨b0, 3, none⟩ = some (.int .i64 ed)) (first | (go_keep; done) | (go_simp; done))
      (first
        | (go_at_call 18; have xx := B9; refine (HC2 _ ah ch (by repeat (with_reducible first | refine Mag.set ?_ (fun h => by have := Mh9 h; omega) _ _ | refine Mag.drew ?_ | refine Mag.alloc ?_ _ | refine Mag.drewN ?_ _ | refine Mag.below ?_ (Below.drew (Below.refl _ _)) | refine Mag.below ?_ ((Below.refl _ _).alloc (Nat.le_refl _) _) | exact Mh9)) (Gd.out.below (by have hszw := (B9).size; repeat (with_reducible first | refine Below.setCell ?_ (by first | omega | (simp <;> omega)) _ | refine Below.alloc ?_ (by first | omega | (simp <;> omega)) _ | refine Below.drew ?_ | refine below_drewN ?_ _ | exact B9))) (hT.below (by have hszw := (B9).size; repeat (with_reducible first | refine Below.setCell ?_ (by first | omega | (simp <;> omega)) _ | refine Below.alloc ?_ (by first | omega | (simp <;> omega)) _ | refine Below.drew ?_ | refine below_drewN ?_ _ | exact B9)))).out.mono ?_; rintro e w10 ⟨rfl, hb10⟩; have Vd10 : DyV w10 b0 bdd sd (.slice ad nd pd) ed := (by refine DyV.below ?_ hb10; (repeat (with_reducible first | refine DyV.drew ?_ | refine DyV.drewN ?_ _ | refine DyV.alloc ?_ _)); exact Vd9.out); (try clear dc0 dc1 dc2 dc3 dc4); obtain ⟨dc0, dc1, dc2, dc3, dc4, dc5⟩ := Vd10; have Vd10 := Lib.hid (DyV.mk dc0 dc1 dc2 dc3 dc4 dc5); have B10 := below_box (w := w) (by have hszw := (B9).size; repeat (with_reducible first | refine Below.setCell ?_ (by first | omega | (simp <;> omega)) _ | refine Below.alloc ?_ (by first | omega | (simp <;> omega)) _ | refine Below.drew ?_ | refine below_drewN ?_ _ | exact B9)) hb10; clear hb10)
        | (go_at_call 19; have xx := B8; refine (HO2 _ (hT.below (by have hszw := (B8).size; repeat (with_reducible first | refine Below.setCell ?_ (by first | omega | (simp <;> omega)) _ | refine Below.alloc ?_ (by first | omega | (simp <;> omega)) _ | refine Below.drew ?_ | refine below_drewN ?_ _ | exact B8)))).out.mono ?_; rintro e w9 ⟨ah, ch, rfl, Mh9, hb9, hf9⟩; have Vd9 : DyV w9 b0 bdd sd (.slice ad nd pd) ed := (by refine DyV.below ?_ hb9; (repeat (with_reducible first | refine DyV.drew ?_ | refine DyV.drewN ?_ _ | refine DyV.alloc ?_ _)); exact Vd8.out); (try clear dc0 dc1 dc2 dc3 dc4); obtain ⟨dc0, dc1, dc2, dc3, dc4, dc5⟩ := Vd9; have Vd9 := Lib.hid (DyV.mk dc0 dc1 dc2 dc3 dc4 dc5); have B9 := below_box (w := w) (by have hszw := (B8).size; repeat (with_reducible first | refine Below.setCell ?_ (by first | omega | (simp <;> omega)) _ | refine Below.alloc ?_ (by first | omega | (simp <;> omega)) _ | refine Below.drew ?_ | refine below_drewN ?_ _ | exact B8)) hb9; clear hb9 hf9)
        | fail)
  | fail "region"
  go_wp2_with fail
  refine (HU _).out.mono ?_
  rintro e w11 ⟨rfl, hb11⟩
  have Vd11 : DyV w11 b0 bdd sd (.slice ad nd pd) ed := (by refine DyV.below ?_ hb11; (repeat (with_reducible first | refine DyV.drew ?_ | refine DyV.drewN ?_ _ | refine DyV.alloc ?_ _)); exact Vd10.out)
  (try clear dc0 dc1 dc2 dc3 dc4)
  obtain ⟨dc0, dc1, dc2, dc3, dc4, dc5⟩ := Vd11
  have Vd11 := Lib.hid (DyV.mk dc0 dc1 dc2 dc3 dc4 dc5)
  have B11 := below_box (w := w) (by have hszw := (B10).size; repeat (with_reducible first | refine Below.setCell ?_ (by first | omega | (simp <;> omega)) _ | refine Below.alloc ?_ (by first | omega | (simp <;> omega)) _ | refine Below.drew ?_ | refine below_drewN ?_ _ | exact B10)) hb11
  clear hb11
  go_wp2_with fail
  refine (HC3 _).out.mono ?_
  rintro e w12 ⟨rfl, hb12⟩
  have Vd12 : DyV w12 b0 bdd sd (.slice ad nd pd) ed := (by refine DyV.below ?_ hb12; (repeat (with_reducible first | refine DyV.drew ?_ | refine DyV.drewN ?_ _ | refine DyV.alloc ?_ _)); exact Vd11.out)
  (try clear dc0 dc1 dc2 dc3 dc4)
  obtain ⟨dc0, dc1, dc2, dc3, dc4, dc5⟩ := Vd12
  have Vd12 := Lib.hid (DyV.mk dc0 dc1 dc2 dc3 dc4 dc5)
  have B12 := below_box (w := w) (by have hszw := (B11).size; repeat (with_reducible first | refine Below.setCell ?_ (by first | omega | (simp <;> omega)) _ | refine Below.alloc ?_ (by first | omega | (simp <;> omega)) _ | refine Below.drew ?_ | refine below_drewN ?_ _ | exact B11)) hb12
  clear hb12
  go_wp2_with fail
  refine (HW _ (hT.below (by have hszw := (B12).size; repeat (with_reducible first | refine Below.setCell ?_ (by first | omega | (simp <;> omega)) _ | refine Below.alloc ?_ (by first | omega | (simp <;> omega)) _ | refine Below.drew ?_ | refine below_drewN ?_ _ | exact B12)))).out.mono ?_
  rintro e w13 ⟨rfl, hb13⟩
  have Vd13 : DyV w13 b0 bdd sd (.slice ad nd pd) ed := (by refine DyV.below ?_ hb13; (repeat (with_reducible first | refine DyV.drew ?_ | refine DyV.drewN ?_ _ | refine DyV.alloc ?_ _)); exact Vd12.out)
  (try clear dc0 dc1 dc2 dc3 dc4)
  obtain ⟨dc0, dc1, dc2, dc3, dc4, dc5⟩ := Vd13
  have Vd13 := Lib.hid (DyV.mk dc0 dc1 dc2 dc3 dc4 dc5)
  have B13 := below_box (w := w) (by have hszw := (B12).size; repeat (with_reducible first | refine Below.setCell ?_ (by first | omega | (simp <;> omega)) _ | refine Below.alloc ?_ (by first | omega | (simp <;> omega)) _ | refine Below.drew ?_ | refine below_drewN ?_ _ | exact B12)) hb13
  clear hb13
  go_wp2_with fail
  go_ret
  exact ⟨rfl, (by have hszw := (B13).size; repeat (with_reducible first | refine Below.setCell ?_ (by first | omega | (simp <;> omega)) _ | refine Below.alloc ?_ (by first | omega | (simp <;> omega)) _ | refine Below.drew ?_ | refine below_drewN ?_ _ | exact B13))⟩

set_option maxRecDepth 100000 in
set_option maxHeartbeats 20000000 in
theorem encl_nnh (w : World) (hT : Tab w) (bdd sd : Bool) (ad : Option Addr) (nd pd : Nat) (ed : Int) (dd : Option (Int × Int)) (Hd : DyIs w bdd sd ad nd pd ed dd) (md : nd ≤ 9223372036854775807) (hsd : slim3B nd ed = true) (va : dbad dd = false) (sz : dman dd ≠ 0) (lo hi near : Nat) (f1 : fround dd 1 = lo) (f2 : fround dd 2 = hi) (f3 : fround dd 0 = near) (n1 : fnan lo = false) (n2 : fnan hi = false) (o1 : (!dbad (fof lo) && !dbad dd) = true) (o2 : (!dbad dd && !dbad (fof hi)) = true) (x1 : dcmp (fof lo) dd < 0) (x2 : dcmp dd (fof hi) < 0) (cz : fcmpv (fup lo) hi = 0) (e1 : near ≠ lo) (e2 : near = hi) :
    Calls Tryz.prog 4 #[.agg #[.bool bdd, .bool sd, .slice ad nd pd, .int .i64 ed]] w fun o w' => o = .returned (.bool true) ∧ Below w.heap.size w w' := by
  have HSl := fun W => Lib.hid (slimDyad3_any W bdd sd ad nd pd ed md true hsd)
  have HW := fun W ht => Lib.hid (awakeF_any W ht)
  have Gd := Lib.hid Hd
  have HV := fun W (h : DyIs W bdd sd ad nd pd ed dd) ht => Lib.hid (rvalid_any W bdd sd ad nd pd ed dd h ht)
  rw [va] at HV
  have nv : (!false) = true := rfl
  rw [nv] at HV
  clear nv
  have HG := fun W (h : DyIs W bdd sd ad nd pd ed dd) ht => Lib.hid (rdsign_any W bdd sd ad nd pd ed dd h ht)
  have hsz : (sg (dman dd) == 0) = false := by unfold sg cmpI; split <;> (try split) <;> first | decide | (exfalso; omega)
  generalize sg (dman dd) = gs at *
  have Nd := Lib.hid Hd.1.isN
  have l1 : lo < 18446744073709551616 := f1 ▸ fround_lt _ _
  have l2 : hi < 18446744073709551616 := f2 ▸ fround_lt _ _
  have HR1 := fun W (h : DyIs W bdd sd ad nd pd ed dd) ht => Lib.hid (fround_any W bdd sd ad nd pd ed 1 dd h.1 ht)
  have HR2 := fun W (h : DyIs W bdd sd ad nd pd ed dd) ht => Lib.hid (fround_any W bdd sd ad nd pd ed 2 dd h.1 ht)
  have HR3 := fun W (h : DyIs W bdd sd ad nd pd ed dd) ht => Lib.hid (fround_any W bdd sd ad nd pd ed 0 dd h.1 ht)
  rw [f1] at HR1
  rw [f2] at HR2
  rw [f3] at HR3
  have HK1 := fun W => Lib.hid (fkind_any W lo)
  have HK2 := fun W => Lib.hid (fkind_any W hi)
  have hk1 : (fkind lo == 3) = false := by rw [(fkind_eqs lo).1]; exact n1
  have hk2 : (fkind hi == 3) = false := by rw [(fkind_eqs hi).1]; exact n2
  have HO1 := fun W ht => Lib.hid (fof_any W lo l1 ht)
  have HO2 := fun W ht => Lib.hid (fof_any W hi l2 ht)
  have N1 := Lib.hid (isN_fof lo)
  have N2 := Lib.hid (isN_fof hi)
  have g1 : decide (0 < dcmp (fof lo) dd) = false := by simp; omega
  have h1 : (dcmp (fof lo) dd == 0) = false := by rw [beq_eq_false_iff_ne]; omega
  have g2 : decide (0 < dcmp dd (fof hi)) = false := by simp; omega
  have h2 : (dcmp dd (fof hi) == 0) = false := by rw [beq_eq_false_iff_ne]; omega
  have HC1 := fun W (b : Option Addr) (q : Nat) (h : Mag W b (nl (dman (fof lo)).natAbs) q (dman (fof lo)).natAbs) (h' : DyIs W bdd sd ad nd pd ed dd) ht => Lib.hid (dcmp_any W _ _ _ _ _ _ _ _ _ _ _ _ _ _ (dyin_of N1.out h) h'.1 ht)
  have HC2 := fun W (b : Option Addr) (q : Nat) (h : Mag W b (nl (dman (fof hi)).natAbs) q (dman (fof hi)).natAbs) (h' : DyIs W bdd sd ad nd pd ed dd) ht => Lib.hid (dcmp_any W _ _ _ _ _ _ _ _ _ _ _ _ _ _ h'.1 (dyin_of N2.out h) ht)
  rw [o1] at HC1
  rw [o2] at HC2
  have HU := fun W => Lib.hid (fup_any W lo l1)
  have HC3 := fun W => Lib.hid (fcmp_any W (fup lo) hi (fup_lt l1) l2)
  rw [cz] at HC3
  generalize fcmpok (fup lo) hi = o3 at *
  generalize ((fup lo : Nat) : Int) = iu at *
  have y1 : ((near : Int) == (lo : Int)) = false := by rw [beq_eq_false_iff_ne]; omega
  have y2 : ((near : Int) == (hi : Int)) = true := by rw [e2]; simp
  generalize dcmp (fof lo) dd = v1 at *
  generalize dcmp dd (fof hi) = v2 at *
  generalize fof lo = dl at *
  generalize fof hi = dh at *
  generalize fkind lo = kl at *
  generalize fkind hi = kh at *
  clear f1 f2 f3 n1 n2 hsd va sz Hd l1 l2 o1 o2 x1 x2 cz e2 e1
  generalize (lo : Int) = jl at *
  generalize (hi : Int) = jh at *
  generalize (near : Int) = jn at *
  go_enter Tryz.func4, Tryz.ntmps4
  go_wp2_with fail
  have I0 := DyV.made w 26 bdd sd (.slice ad nd pd) ed
  have B0 : Below w.heap.size w (w.alloc (.cells #[.bool bdd, .bool sd, .slice ad nd pd, .int .i64 ed] 26)) := (by repeat (with_reducible first | refine Below.setCell ?_ (by simp <;> omega) _ | refine Below.alloc ?_ (by simp <;> omega) _ | refine Below.drew ?_ | refine below_drewN ?_ _ | exact Below.refl _ _))
  generalize (w.alloc (.cells #[.bool bdd, .bool sd, .slice ad nd pd, .int .i64 ed] 26)) = w0 at I0 B0 ⊢
  generalize hb0 : w.heap.size = b0 at I0 ⊢
  obtain ⟨dc0, dc1, dc2, dc3, dc4, dc5⟩ := I0
  have Vd0 := Lib.hid (DyV.mk dc0 dc1 dc2 dc3 dc4 dc5)
  refine (HSl _).out.mono ?_
  rintro e w1 ⟨rfl, hb1⟩
  have Vd1 : DyV w1 b0 bdd sd (.slice ad nd pd) ed := (by refine DyV.below ?_ hb1; (repeat (with_reducible first | refine DyV.drew ?_ | refine DyV.drewN ?_ _ | refine DyV.alloc ?_ _)); exact Vd0.out)
  (try clear dc0 dc1 dc2 dc3 dc4)
  obtain ⟨dc0, dc1, dc2, dc3, dc4, dc5⟩ := Vd1
  have Vd1 := Lib.hid (DyV.mk dc0 dc1 dc2 dc3 dc4 dc5)
  have B1 := below_box (w := w) (by have hszw := (B0).size; repeat (with_reducible first | refine Below.setCell ?_ (by first | omega | (simp <;> omega)) _ | refine Below.alloc ?_ (by first | omega | (simp <;> omega)) _ | refine Below.drew ?_ | refine below_drewN ?_ _ | exact B0)) hb1
  clear hb1
  go_wp2_with fail
  refine (HV _ (Gd.out.below (by have hszw := (B1).size; repeat (with_reducible first | refine Below.setCell ?_ (by first | omega | (simp <;> omega)) _ | refine Below.alloc ?_ (by first | omega | (simp <;> omega)) _ | refine Below.drew ?_ | refine below_drewN ?_ _ | exact B1))) (hT.below (by have hszw := (B1).size; repeat (with_reducible first | refine Below.setCell ?_ (by first | omega | (simp <;> omega)) _ | refine Below.alloc ?_ (by first | omega | (simp <;> omega)) _ | refine Below.drew ?_ | refine below_drewN ?_ _ | exact B1)))).out.mono ?_
  rintro e w2 ⟨rfl, hb2⟩
  have Vd2 : DyV w2 b0 bdd sd (.slice ad nd pd) ed := (by refine DyV.below ?_ hb2; (repeat (with_reducible first | refine DyV.drew ?_ | refine DyV.drewN ?_ _ | refine DyV.alloc ?_ _)); exact Vd1.out)
  (try clear dc0 dc1 dc2 dc3 dc4)
  obtain ⟨dc0, dc1, dc2, dc3, dc4, dc5⟩ := Vd2
  have Vd2 := Lib.hid (DyV.mk dc0 dc1 dc2 dc3 dc4 dc5)
  have B2 := below_box (w := w) (by have hszw := (B1).size; repeat (with_reducible first | refine Below.setCell ?_ (by first | omega | (simp <;> omega)) _ | refine Below.alloc ?_ (by first | omega | (simp <;> omega)) _ | refine Below.drew ?_ | refine below_drewN ?_ _ | exact B1)) hb2
  clear hb2
  go_wp2_with fail
  refine (HG _ (Gd.out.below (by have hszw := (B2).size; repeat (with_reducible first | refine Below.setCell ?_ (by first | omega | (simp <;> omega)) _ | refine Below.alloc ?_ (by first | omega | (simp <;> omega)) _ | refine Below.drew ?_ | refine below_drewN ?_ _ | exact B2))) (hT.below (by have hszw := (B2).size; repeat (with_reducible first | refine Below.setCell ?_ (by first | omega | (simp <;> omega)) _ | refine Below.alloc ?_ (by first | omega | (simp <;> omega)) _ | refine Below.drew ?_ | refine below_drewN ?_ _ | exact B2)))).out.mono ?_
  rintro e w3 ⟨rfl, hb3⟩
  have Vd3 : DyV w3 b0 bdd sd (.slice ad nd pd) ed := (by refine DyV.below ?_ hb3; (repeat (with_reducible first | refine DyV.drew ?_ | refine DyV.drewN ?_ _ | refine DyV.alloc ?_ _)); exact Vd2.out)
  (try clear dc0 dc1 dc2 dc3 dc4)
  obtain ⟨dc0, dc1, dc2, dc3, dc4, dc5⟩ := Vd3
  have Vd3 := Lib.hid (DyV.mk dc0 dc1 dc2 dc3 dc4 dc5)
  have B3 := below_box (w := w) (by have hszw := (B2).size; repeat (with_reducible first | refine Below.setCell ?_ (by first | omega | (simp <;> omega)) _ | refine Below.alloc ?_ (by first | omega | (simp <;> omega)) _ | refine Below.drew ?_ | refine below_drewN ?_ _ | exact B2)) hb3
  clear hb3
  go_wp2_with fail
  first
  | go_region_held3 (fun w' => w'.cell? ⟨b0, 0, none⟩ = some (.bool bdd) ∧ w'.cell? ⟨b0, 1, none⟩ = some (.bool sd) ∧ w'.cell? ⟨b0, 2, none⟩ = some ((.slice ad nd pd)) ∧ w'.cell? ⟨b0, 3, none⟩ = some (.int .i64 ed)) (first | (go_keep; done) | (go_simp; done))
      (first
        | (go_at_call 9; have xx := B5; refine (HR3 _ (Gd.out.below (by have hszw := (B5).size; repeat (with_reducible first | refine Below.setCell ?_ (by first | omega | (simp <;> omega)) _ | refine Below.alloc ?_ (by first | omega | (simp <;> omega)) _ | refine Below.drew ?_ | refine below_drewN ?_ _ | exact B5))) (hT.below (by have hszw := (B5).size; repeat (with_reducible first | refine Below.setCell ?_ (by first | omega | (simp <;> omega)) _ | refine Below.alloc ?_ (by first | omega | (simp <;> omega)) _ | refine Below.drew ?_ | refine below_drewN ?_ _ | exact B5)))).out.mono ?_; rintro e w6 ⟨rfl, hb6⟩; have Vd6 : DyV w6 b0 bdd sd (.slice ad nd pd) ed := (by refine DyV.below ?_ hb6; (repeat (with_reducible first | refine DyV.drew ?_ | refine DyV.drewN ?_ _ | refine DyV.alloc ?_ _)); exact Vd5.out); (try clear dc0 dc1 dc2 dc3 dc4); obtain ⟨dc0, dc1, dc2, dc3, dc4, dc5⟩ := Vd6; have Vd6 := Lib.hid (DyV.mk dc0 dc1 dc2 dc3 dc4 dc5); have B6 := below_box (w := w) (by have hszw := (B5).size; repeat (with_reducible first | refine Below.setCell ?_ (by first | omega | (simp <;> omega)) _ | refine Below.alloc ?_ (by first | omega | (simp <;> omega)) _ | refine Below.drew ?_ | refine below_drewN ?_ _ | exact B5)) hb6; clear hb6)
        | (go_at_call 9; have xx := B4; refine (HR2 _ (Gd.out.below (by have hszw := (B4).size; repeat (with_reducible first | refine Below.setCell ?_ (by first | omega | (simp <;> omega)) _ | refine Below.alloc ?_ (by first | omega | (simp <;> omega)) _ | refine Below.drew ?_ | refine below_drewN ?_ _ | exact B4))) (hT.below (by have hszw := (B4).size; repeat (with_reducible first | refine Below.setCell ?_ (by first | omega | (simp <;> omega)) _ | refine Below.alloc ?_ (by first | omega | (simp <;> omega)) _ | refine Below.drew ?_ | refine below_drewN ?_ _ | exact B4)))).out.mono ?_; rintro e w5 ⟨rfl, hb5⟩; have Vd5 : DyV w5 b0 bdd sd (.slice ad nd pd) ed := (by refine DyV.below ?_ hb5; (repeat (with_reducible first | refine DyV.drew ?_ | refine DyV.drewN ?_ _ | refine DyV.alloc ?_ _)); exact Vd4.out); (try clear dc0 dc1 dc2 dc3 dc4); obtain ⟨dc0, dc1, dc2, dc3, dc4, dc5⟩ := Vd5; have Vd5 := Lib.hid (DyV.mk dc0 dc1 dc2 dc3 dc4 dc5); have B5 := below_box (w := w) (by have hszw := (B4).size; repeat (with_reducible first | refine Below.setCell ?_ (by first | omega | (simp <;> omega)) _ | refine Below.alloc ?_ (by first | omega | (simp <;> omega)) _ | refine Below.drew ?_ | refine below_drewN ?_ _ | exact B4)) hb5; clear hb5)
        | (go_at_call 9; have xx := B3; refine (HR1 _ (Gd.out.below (by have hszw := (B3).size; repeat (with_reducible first | refine Below.setCell ?_ (by first | omega | (simp <;> omega)) _ | refine Below.alloc ?_ (by first | omega | (simp <;> omega)) _ | refine Below.drew ?_ | refine below_drewN ?_ _ | exact B3))) (hT.below (by have hszw := (B3).size; repeat (with_reducible first | refine Below.setCell ?_ (by first | omega | (simp <;> omega)) _ | refine Below.alloc ?_ (by first | omega | (simp <;> omega)) _ | refine Below.drew ?_ | refine below_drewN ?_ _ | exact B3)))).out.mono ?_; rintro e w4 ⟨rfl, hb4⟩; have Vd4 : DyV w4 b0 bdd sd (.slice ad nd pd) ed := (by refine DyV.below ?_ hb4; (repeat (with_reducible first | refine DyV.drew ?_ | refine DyV.drewN ?_ _ | refine DyV.alloc ?_ _)); exact Vd3.out); (try clear dc0 dc1 dc2 dc3 dc4); obtain ⟨dc0, dc1, dc2, dc3, dc4, dc5⟩ := Vd4; have Vd4 := Lib.hid (DyV.mk dc0 dc1 dc2 dc3 dc4 dc5); have B4 := below_box (w := w) (by have hszw := (B3).size; repeat (with_reducible first | refine Below.setCell ?_ (by first | omega | (simp <;> omega)) _ | refine Below.alloc ?_ (by first | omega | (simp <;> omega)) _ | refine Below.drew ?_ | refine below_drewN ?_ _ | exact B3)) hb4; clear hb4)
        | fail)
  | fail "region"
  go_wp2_with fail
  refine (HK1 _).out.mono ?_
  rintro e wq ⟨rfl, rfl⟩
  go_wp2_with fail
  refine (HK2 _).out.mono ?_
  rintro e wq ⟨rfl, rfl⟩
  go_wp2_with fail
  first
  | go_region_held3 (fun w' => w'.cell? ⟨b0, 0, none⟩ = some (.bool bdd) ∧ w'.cell? ⟨b0, 1, none⟩ = some (.bool sd) ∧ w'.cell? ⟨b0, 2, none⟩ = some ((.slice ad nd pd)) ∧ w'.cell? ⟨b0, 3, none⟩ = some (.int .i64 ed)) (first | (go_keep; done) | (go_simp; done))
      (first
        | (go_at_call 18; have xx := B7; refine (HC1 _ al cl (by repeat (with_reducible first | refine Mag.set ?_ (fun h => by have := Ml7 h; omega) _ _ | refine Mag.drew ?_ | refine Mag.alloc ?_ _ | refine Mag.drewN ?_ _ | refine Mag.below ?_ (Below.drew (Below.refl _ _)) | refine Mag.below ?_ ((Below.refl _ _).alloc (Nat.le_refl _) _) | exact Ml7)) (Gd.out.below (by have hszw := (B7).size; repeat (with_reducible first | refine Below.setCell ?_ (by first | omega | (simp <;> omega)) _ | refine Below.alloc ?_ (by first | omega | (simp <;> omega)) _ | refine Below.drew ?_ | refine below_drewN ?_ _ | exact B7))) (hT.below (by have hszw := (B7).size; repeat (with_reducible first | refine Below.setCell ?_ (by first | omega | (simp <;> omega)) _ | refine Below.alloc ?_ (by first | omega | (simp <;> omega)) _ | refine Below.drew ?_ | refine below_drewN ?_ _ | exact B7)))).out.mono ?_; rintro e w8 ⟨rfl, hb8⟩; have Vd8 : DyV w8 b0 bdd sd (.slice ad nd pd) ed := (by refine DyV.below ?_ hb8; (repeat (with_reducible first | refine DyV.drew ?_ | refine DyV.drewN ?_ _ | refine DyV.alloc ?_ _)); exact Vd7.out); (try clear dc0 dc1 dc2 dc3 dc4); obtain ⟨dc0, dc1, dc2, dc3, dc4, dc5⟩ := Vd8; have Vd8 := Lib.hid (DyV.mk dc0 dc1 dc2 dc3 dc4 dc5); have B8 := below_box (w := w) (by have hszw := (B7).size; repeat (with_reducible first | refine Below.setCell ?_ (by first | omega | (simp <;> omega)) _ | refine Below.alloc ?_ (by first | omega | (simp <;> omega)) _ | refine Below.drew ?_ | refine below_drewN ?_ _ | exact B7)) hb8; clear hb8)
        | (go_at_call 19; have xx := B6; refine (HO1 _ (hT.below (by have hszw := (B6).size; repeat (with_reducible first | refine Below.setCell ?_ (by first | omega | (simp <;> omega)) _ | refine Below.alloc ?_ (by first | omega | (simp <;> omega)) _ | refine Below.drew ?_ | refine below_drewN ?_ _ | exact B6)))).out.mono ?_; rintro e w7 ⟨al, cl, rfl, Ml7, hb7, hf7⟩; have Vd7 : DyV w7 b0 bdd sd (.slice ad nd pd) ed := (by refine DyV.below ?_ hb7; (repeat (with_reducible first | refine DyV.drew ?_ | refine DyV.drewN ?_ _ | refine DyV.alloc ?_ _)); exact Vd6.out); (try clear dc0 dc1 dc2 dc3 dc4); obtain ⟨dc0, dc1, dc2, dc3, dc4, dc5⟩ := Vd7; have Vd7 := Lib.hid (DyV.mk dc0 dc1 dc2 dc3 dc4 dc5); have B7 := below_box (w := w) (by have hszw := (B6).size; repeat (with_reducible first | refine Below.setCell ?_ (by first | omega | (simp <;> omega)) _ | refine Below.alloc ?_ (by first | omega | (simp <;> omega)) _ | refine Below.drew ?_ | refine below_drewN ?_ _ | exact B6)) hb7; clear hb7 hf7)
        | fail)
  | fail "region"
  go_wp2_with fail
  first
  | go_region_held3 (fun w' => w'.cell? ⟨b0, 0, none⟩ = some (.bool bdd) ∧ w'.cell? ⟨b0, 1, none⟩ = some (.bool sd) ∧ w'.cell? ⟨b0, 2, none⟩ = some ((.slice ad nd pd)) ∧ w'.cell? ⟨b0, 3, none⟩ = some (.int .i64 ed)) (first | (go_keep; done) | (go_simp; done))
      (first
        | (go_at_call 18; have xx := B9; refine (HC2 _ ah ch (by repeat (with_reducible first | refine Mag.set ?_ (fun h => by have := Mh9 h; omega) _ _ | refine Mag.drew ?_ | refine Mag.alloc ?_ _ | refine Mag.drewN ?_ _ | refine Mag.below ?_ (Below.drew (Below.refl _ _)) | refine Mag.below ?_ ((Below.refl _ _).alloc (Nat.le_refl _) _) | exact Mh9)) (Gd.out.below (by have hszw := (B9).size; repeat (with_reducible first | refine Below.setCell ?_ (by first | omega | (simp <;> omega)) _ | refine Below.alloc ?_ (by first | omega | (simp <;> omega)) _ | refine Below.drew ?_ | refine below_drewN ?_ _ | exact B9))) (hT.below (by have hszw := (B9).size; repeat (with_reducible first | refine Below.setCell ?_ (by first | omega | (simp <;> omega)) _ | refine Below.alloc ?_ (by first | omega | (simp <;> omega)) _ | refine Below.drew ?_ | refine below_drewN ?_ _ | exact B9)))).out.mono ?_; rintro e w10 ⟨rfl, hb10⟩; have Vd10 : DyV w10 b0 bdd sd (.slice ad nd pd) ed := (by refine DyV.below ?_ hb10; (repeat (with_reducible first | refine DyV.drew ?_ | refine DyV.drewN ?_ _ | refine DyV.alloc ?_ _)); exact Vd9.out); (try clear dc0 dc1 dc2 dc3 dc4); obtain ⟨dc0, dc1, dc2, dc3, dc4, dc5⟩ := Vd10; have Vd10 := Lib.hid (DyV.mk dc0 dc1 dc2 dc3 dc4 dc5); have B10 := below_box (w := w) (by have hszw := (B9).size; repeat (with_reducible first | refine Below.setCell ?_ (by first | omega | (simp <;> omega)) _ | refine Below.alloc ?_ (by first | omega | (simp <;> omega)) _ | refine Below.drew ?_ | refine below_drewN ?_ _ | exact B9)) hb10; clear hb10)
        | (go_at_call 19; have xx := B8; refine (HO2 _ (hT.below (by have hszw := (B8).size; repeat (with_reducible first | refine Below.setCell ?_ (by first | omega | (simp <;> omega)) _ | refine Below.alloc ?_ (by first | omega | (simp <;> omega)) _ | refine Below.drew ?_ | refine below_drewN ?_ _ | exact B8)))).out.mono ?_; rintro e w9 ⟨ah, ch, rfl, Mh9, hb9, hf9⟩; have Vd9 : DyV w9 b0 bdd sd (.slice ad nd pd) ed := (by refine DyV.below ?_ hb9; (repeat (with_reducible first | refine DyV.drew ?_ | refine DyV.drewN ?_ _ | refine DyV.alloc ?_ _)); exact Vd8.out); (try clear dc0 dc1 dc2 dc3 dc4); obtain ⟨dc0, dc1, dc2, dc3, dc4, dc5⟩ := Vd9; have Vd9 := Lib.hid (DyV.mk dc0 dc1 dc2 dc3 dc4 dc5); have B9 := below_box (w := w) (by have hszw := (B8).size; repeat (with_reducible first | refine Below.setCell ?_ (by first | omega | (simp <;> omega)) _ | refine Below.alloc ?_ (by first | omega | (simp <;> omega)) _ | refine Below.drew ?_ | refine below_drewN ?_ _ | exact B8)) hb9; clear hb9 hf9)
        | fail)
  | fail "region"
  go_wp2_with fail
  refine (HU _).out.mono ?_
  rintro e w11 ⟨rfl, hb11⟩
  have Vd11 : DyV w11 b0 bdd sd (.slice ad nd pd) ed := (by refine DyV.below ?_ hb11; (repeat (with_reducible first | refine DyV.drew ?_ | refine DyV.drewN ?_ _ | refine DyV.alloc ?_ _)); exact Vd10.out)
  (try clear dc0 dc1 dc2 dc3 dc4)
  obtain ⟨dc0, dc1, dc2, dc3, dc4, dc5⟩ := Vd11
  have Vd11 := Lib.hid (DyV.mk dc0 dc1 dc2 dc3 dc4 dc5)
  have B11 := below_box (w := w) (by have hszw := (B10).size; repeat (with_reducible first | refine Below.setCell ?_ (by first | omega | (simp <;> omega)) _ | refine Below.alloc ?_ (by first | omega | (simp <;> omega)) _ | refine Below.drew ?_ | refine below_drewN ?_ _ | exact B10)) hb11
  clear hb11
  go_wp2_with fail
  refine (HC3 _).out.mono ?_
  rintro e w12 ⟨rfl, hb12⟩
  have Vd12 : DyV w12 b0 bdd sd (.slice ad nd pd) ed := (by refine DyV.below ?_ hb12; (repeat (with_reducible first | refine DyV.drew ?_ | refine DyV.drewN ?_ _ | refine DyV.alloc ?_ _)); exact Vd11.out)
  (try clear dc0 dc1 dc2 dc3 dc4)
  obtain ⟨dc0, dc1, dc2, dc3, dc4, dc5⟩ := Vd12
  have Vd12 := Lib.hid (DyV.mk dc0 dc1 dc2 dc3 dc4 dc5)
  have B12 := below_box (w := w) (by have hszw := (B11).size; repeat (with_reducible first | refine Below.setCell ?_ (by first | omega | (simp <;> omega)) _ | refine Below.alloc ?_ (by first | omega | (simp <;> omega)) _ | refine Below.drew ?_ | refine below_drewN ?_ _ | exact B11)) hb12
  clear hb12
  go_wp2_with fail
  refine (HW _ (hT.below (by have hszw := (B12).size; repeat (with_reducible first | refine Below.setCell ?_ (by first | omega | (simp <;> omega)) _ | refine Below.alloc ?_ (by first | omega | (simp <;> omega)) _ | refine Below.drew ?_ | refine below_drewN ?_ _ | exact B12)))).out.mono ?_
  rintro e w13 ⟨rfl, hb13⟩
  have Vd13 : DyV w13 b0 bdd sd (.slice ad nd pd) ed := (by refine DyV.below ?_ hb13; (repeat (with_reducible first | refine DyV.drew ?_ | refine DyV.drewN ?_ _ | refine DyV.alloc ?_ _)); exact Vd12.out)
  (try clear dc0 dc1 dc2 dc3 dc4)
  obtain ⟨dc0, dc1, dc2, dc3, dc4, dc5⟩ := Vd13
  have Vd13 := Lib.hid (DyV.mk dc0 dc1 dc2 dc3 dc4 dc5)
  have B13 := below_box (w := w) (by have hszw := (B12).size; repeat (with_reducible first | refine Below.setCell ?_ (by first | omega | (simp <;> omega)) _ | refine Below.alloc ?_ (by first | omega | (simp <;> omega)) _ | refine Below.drew ?_ | refine below_drewN ?_ _ | exact B12)) hb13
  clear hb13
  go_wp2_with fail
  go_ret
  exact ⟨rfl, (by have hszw := (B13).size; repeat (with_reducible first | refine Below.setCell ?_ (by first | omega | (simp <;> omega)) _ | refine Below.alloc ?_ (by first | omega | (simp <;> omega)) _ | refine Below.drew ?_ | refine below_drewN ?_ _ | exact B13))⟩

set_option maxRecDepth 100000 in
set_option maxHeartbeats 20000000 in
theorem encl_nfl (w : World) (hT : Tab w) (bdd sd : Bool) (ad : Option Addr) (nd pd : Nat) (ed : Int) (dd : Option (Int × Int)) (Hd : DyIs w bdd sd ad nd pd ed dd) (md : nd ≤ 9223372036854775807) (hsd : slim3B nd ed = true) (va : dbad dd = false) (sz : dman dd ≠ 0) (lo hi near : Nat) (f1 : fround dd 1 = lo) (f2 : fround dd 2 = hi) (f3 : fround dd 0 = near) (n1 : fnan lo = false) (n2 : fnan hi = false) (o1 : (!dbad (fof lo) && !dbad dd) = true) (o2 : (!dbad dd && !dbad (fof hi)) = false) (x1 : dcmp (fof lo) dd < 0) (i2 : hi = 9218868437227405312) (cz : fcmpv (fup lo) hi = 0) (e1 : near = lo) :
    Calls Tryz.prog 4 #[.agg #[.bool bdd, .bool sd, .slice ad nd pd, .int .i64 ed]] w fun o w' => o = .returned (.bool true) ∧ Below w.heap.size w w' := by
  have HSl := fun W => Lib.hid (slimDyad3_any W bdd sd ad nd pd ed md true hsd)
  have HW := fun W ht => Lib.hid (awakeF_any W ht)
  have Gd := Lib.hid Hd
  have HV := fun W (h : DyIs W bdd sd ad nd pd ed dd) ht => Lib.hid (rvalid_any W bdd sd ad nd pd ed dd h ht)
  rw [va] at HV
  have nv : (!false) = true := rfl
  rw [nv] at HV
  clear nv
  have HG := fun W (h : DyIs W bdd sd ad nd pd ed dd) ht => Lib.hid (rdsign_any W bdd sd ad nd pd ed dd h ht)
  have hsz : (sg (dman dd) == 0) = false := by unfold sg cmpI; split <;> (try split) <;> first | decide | (exfalso; omega)
  generalize sg (dman dd) = gs at *
  have Nd := Lib.hid Hd.1.isN
  have l1 : lo < 18446744073709551616 := f1 ▸ fround_lt _ _
  have l2 : hi < 18446744073709551616 := f2 ▸ fround_lt _ _
  have HR1 := fun W (h : DyIs W bdd sd ad nd pd ed dd) ht => Lib.hid (fround_any W bdd sd ad nd pd ed 1 dd h.1 ht)
  have HR2 := fun W (h : DyIs W bdd sd ad nd pd ed dd) ht => Lib.hid (fround_any W bdd sd ad nd pd ed 2 dd h.1 ht)
  have HR3 := fun W (h : DyIs W bdd sd ad nd pd ed dd) ht => Lib.hid (fround_any W bdd sd ad nd pd ed 0 dd h.1 ht)
  rw [f1] at HR1
  rw [f2] at HR2
  rw [f3] at HR3
  have HK1 := fun W => Lib.hid (fkind_any W lo)
  have HK2 := fun W => Lib.hid (fkind_any W hi)
  have hk1 : (fkind lo == 3) = false := by rw [(fkind_eqs lo).1]; exact n1
  have hk2 : (fkind hi == 3) = false := by rw [(fkind_eqs hi).1]; exact n2
  have HO1 := fun W ht => Lib.hid (fof_any W lo l1 ht)
  have HO2 := fun W ht => Lib.hid (fof_any W hi l2 ht)
  have N1 := Lib.hid (isN_fof lo)
  have N2 := Lib.hid (isN_fof hi)
  have g1 : decide (0 < dcmp (fof lo) dd) = false := by simp; omega
  have h1 : (dcmp (fof lo) dd == 0) = false := by rw [beq_eq_false_iff_ne]; omega
  have j2 : ((hi : Int) != 9218868437227405312) = false := by rw [i2]; rfl
  have HC1 := fun W (b : Option Addr) (q : Nat) (h : Mag W b (nl (dman (fof lo)).natAbs) q (dman (fof lo)).natAbs) (h' : DyIs W bdd sd ad nd pd ed dd) ht => Lib.hid (dcmp_any W _ _ _ _ _ _ _ _ _ _ _ _ _ _ (dyin_of N1.out h) h'.1 ht)
  have HC2 := fun W (b : Option Addr) (q : Nat) (h : Mag W b (nl (dman (fof hi)).natAbs) q (dman (fof hi)).natAbs) (h' : DyIs W bdd sd ad nd pd ed dd) ht => Lib.hid (dcmp_any W _ _ _ _ _ _ _ _ _ _ _ _ _ _ h'.1 (dyin_of N2.out h) ht)
  rw [o1] at HC1
  rw [o2] at HC2
  have HU := fun W => Lib.hid (fup_any W lo l1)
  have HC3 := fun W => Lib.hid (fcmp_any W (fup lo) hi (fup_lt l1) l2)
  rw [cz] at HC3
  generalize fcmpok (fup lo) hi = o3 at *
  generalize ((fup lo : Nat) : Int) = iu at *
  have y1 : ((near : Int) == (lo : Int)) = true := by rw [e1]; simp
  generalize dcmp (fof lo) dd = v1 at *
  generalize dcmp dd (fof hi) = v2 at *
  generalize fof lo = dl at *
  generalize fof hi = dh at *
  generalize fkind lo = kl at *
  generalize fkind hi = kh at *
  clear f1 f2 f3 n1 n2 hsd va sz Hd l1 l2 o1 o2 x1 i2 cz e1
  generalize (lo : Int) = jl at *
  generalize (hi : Int) = jh at *
  generalize (near : Int) = jn at *
  go_enter Tryz.func4, Tryz.ntmps4
  go_wp2_with fail
  have I0 := DyV.made w 26 bdd sd (.slice ad nd pd) ed
  have B0 : Below w.heap.size w (w.alloc (.cells #[.bool bdd, .bool sd, .slice ad nd pd, .int .i64 ed] 26)) := (by repeat (with_reducible first | refine Below.setCell ?_ (by simp <;> omega) _ | refine Below.alloc ?_ (by simp <;> omega) _ | refine Below.drew ?_ | refine below_drewN ?_ _ | exact Below.refl _ _))
  generalize (w.alloc (.cells #[.bool bdd, .bool sd, .slice ad nd pd, .int .i64 ed] 26)) = w0 at I0 B0 ⊢
  generalize hb0 : w.heap.size = b0 at I0 ⊢
  obtain ⟨dc0, dc1, dc2, dc3, dc4, dc5⟩ := I0
  have Vd0 := Lib.hid (DyV.mk dc0 dc1 dc2 dc3 dc4 dc5)
  refine (HSl _).out.mono ?_
  rintro e w1 ⟨rfl, hb1⟩
  have Vd1 : DyV w1 b0 bdd sd (.slice ad nd pd) ed := (by refine DyV.below ?_ hb1; (repeat (with_reducible first | refine DyV.drew ?_ | refine DyV.drewN ?_ _ | refine DyV.alloc ?_ _)); exact Vd0.out)
  (try clear dc0 dc1 dc2 dc3 dc4)
  obtain ⟨dc0, dc1, dc2, dc3, dc4, dc5⟩ := Vd1
  have Vd1 := Lib.hid (DyV.mk dc0 dc1 dc2 dc3 dc4 dc5)
  have B1 := below_box (w := w) (by have hszw := (B0).size; repeat (with_reducible first | refine Below.setCell ?_ (by first | omega | (simp <;> omega)) _ | refine Below.alloc ?_ (by first | omega | (simp <;> omega)) _ | refine Below.drew ?_ | refine below_drewN ?_ _ | exact B0)) hb1
  clear hb1
  go_wp2_with fail
  refine (HV _ (Gd.out.below (by have hszw := (B1).size; repeat (with_reducible first | refine Below.setCell ?_ (by first | omega | (simp <;> omega)) _ | refine Below.alloc ?_ (by first | omega | (simp <;> omega)) _ | refine Below.drew ?_ | refine below_drewN ?_ _ | exact B1))) (hT.below (by have hszw := (B1).size; repeat (with_reducible first | refine Below.setCell ?_ (by first | omega | (simp <;> omega)) _ | refine Below.alloc ?_ (by first | omega | (simp <;> omega)) _ | refine Below.drew ?_ | refine below_drewN ?_ _ | exact B1)))).out.mono ?_
  rintro e w2 ⟨rfl, hb2⟩
  have Vd2 : DyV w2 b0 bdd sd (.slice ad nd pd) ed := (by refine DyV.below ?_ hb2; (repeat (with_reducible first | refine DyV.drew ?_ | refine DyV.drewN ?_ _ | refine DyV.alloc ?_ _)); exact Vd1.out)
  (try clear dc0 dc1 dc2 dc3 dc4)
  obtain ⟨dc0, dc1, dc2, dc3, dc4, dc5⟩ := Vd2
  have Vd2 := Lib.hid (DyV.mk dc0 dc1 dc2 dc3 dc4 dc5)
  have B2 := below_box (w := w) (by have hszw := (B1).size; repeat (with_reducible first | refine Below.setCell ?_ (by first | omega | (simp <;> omega)) _ | refine Below.alloc ?_ (by first | omega | (simp <;> omega)) _ | refine Below.drew ?_ | refine below_drewN ?_ _ | exact B1)) hb2
  clear hb2
  go_wp2_with fail
  refine (HG _ (Gd.out.below (by have hszw := (B2).size; repeat (with_reducible first | refine Below.setCell ?_ (by first | omega | (simp <;> omega)) _ | refine Below.alloc ?_ (by first | omega | (simp <;> omega)) _ | refine Below.drew ?_ | refine below_drewN ?_ _ | exact B2))) (hT.below (by have hszw := (B2).size; repeat (with_reducible first | refine Below.setCell ?_ (by first | omega | (simp <;> omega)) _ | refine Below.alloc ?_ (by first | omega | (simp <;> omega)) _ | refine Below.drew ?_ | refine below_drewN ?_ _ | exact B2)))).out.mono ?_
  rintro e w3 ⟨rfl, hb3⟩
  have Vd3 : DyV w3 b0 bdd sd (.slice ad nd pd) ed := (by refine DyV.below ?_ hb3; (repeat (with_reducible first | refine DyV.drew ?_ | refine DyV.drewN ?_ _ | refine DyV.alloc ?_ _)); exact Vd2.out)
  (try clear dc0 dc1 dc2 dc3 dc4)
  obtain ⟨dc0, dc1, dc2, dc3, dc4, dc5⟩ := Vd3
  have Vd3 := Lib.hid (DyV.mk dc0 dc1 dc2 dc3 dc4 dc5)
  have B3 := below_box (w := w) (by have hszw := (B2).size; repeat (with_reducible first | refine Below.setCell ?_ (by first | omega | (simp <;> omega)) _ | refine Below.alloc ?_ (by first | omega | (simp <;> omega)) _ | refine Below.drew ?_ | refine below_drewN ?_ _ | exact B2)) hb3
  clear hb3
  go_wp2_with fail
  first
  | go_region_held3 (fun w' => w'.cell? ⟨b0, 0, none⟩ = some (.bool bdd) ∧ w'.cell? ⟨b0, 1, none⟩ = some (.bool sd) ∧ w'.cell? ⟨b0, 2, none⟩ = some ((.slice ad nd pd)) ∧ w'.cell? ⟨b0, 3, none⟩ = some (.int .i64 ed)) (first | (go_keep; done) | (go_simp; done))
      (first
        | (go_at_call 9; have xx := B5; refine (HR3 _ (Gd.out.below (by have hszw := (B5).size; repeat (with_reducible first | refine Below.setCell ?_ (by first | omega | (simp <;> omega)) _ | refine Below.alloc ?_ (by first | omega | (simp <;> omega)) _ | refine Below.drew ?_ | refine below_drewN ?_ _ | exact B5))) (hT.below (by have hszw := (B5).size; repeat (with_reducible first | refine Below.setCell ?_ (by first | omega | (simp <;> omega)) _ | refine Below.alloc ?_ (by first | omega | (simp <;> omega)) _ | refine Below.drew ?_ | refine below_drewN ?_ _ | exact B5)))).out.mono ?_; rintro e w6 ⟨rfl, hb6⟩; have Vd6 : DyV w6 b0 bdd sd (.slice ad nd pd) ed := (by refine DyV.below ?_ hb6; (repeat (with_reducible first | refine DyV.drew ?_ | refine DyV.drewN ?_ _ | refine DyV.alloc ?_ _)); exact Vd5.out); (try clear dc0 dc1 dc2 dc3 dc4); obtain ⟨dc0, dc1, dc2, dc3, dc4, dc5⟩ := Vd6; have Vd6 := Lib.hid (DyV.mk dc0 dc1 dc2 dc3 dc4 dc5); have B6 := below_box (w := w) (by have hszw := (B5).size; repeat (with_reducible first | refine Below.setCell ?_ (by first | omega | (simp <;> omega)) _ | refine Below.alloc ?_ (by first | omega | (simp <;> omega)) _ | refine Below.drew ?_ | refine below_drewN ?_ _ | exact B5)) hb6; clear hb6)
        | (go_at_call 9; have xx := B4; refine (HR2 _ (Gd.out.below (by have hszw := (B4).size; repeat (with_reducible first | refine Below.setCell ?_ (by first | omega | (simp <;> omega)) _ | refine Below.alloc ?_ (by first | omega | (simp <;> omega)) _ | refine Below.drew ?_ | refine below_drewN ?_ _ | exact B4))) (hT.below (by have hszw := (B4).size; repeat (with_reducible first | refine Below.setCell ?_ (by first | omega | (simp <;> omega)) _ | refine Below.alloc ?_ (by first | omega | (simp <;> omega)) _ | refine Below.drew ?_ | refine below_drewN ?_ _ | exact B4)))).out.mono ?_; rintro e w5 ⟨rfl, hb5⟩; have Vd5 : DyV w5 b0 bdd sd (.slice ad nd pd) ed := (by refine DyV.below ?_ hb5; (repeat (with_reducible first | refine DyV.drew ?_ | refine DyV.drewN ?_ _ | refine DyV.alloc ?_ _)); exact Vd4.out); (try clear dc0 dc1 dc2 dc3 dc4); obtain ⟨dc0, dc1, dc2, dc3, dc4, dc5⟩ := Vd5; have Vd5 := Lib.hid (DyV.mk dc0 dc1 dc2 dc3 dc4 dc5); have B5 := below_box (w := w) (by have hszw := (B4).size; repeat (with_reducible first | refine Below.setCell ?_ (by first | omega | (simp <;> omega)) _ | refine Below.alloc ?_ (by first | omega | (simp <;> omega)) _ | refine Below.drew ?_ | refine below_drewN ?_ _ | exact B4)) hb5; clear hb5)
        | (go_at_call 9; have xx := B3; refine (HR1 _ (Gd.out.below (by have hszw := (B3).size; repeat (with_reducible first | refine Below.setCell ?_ (by first | omega | (simp <;> omega)) _ | refine Below.alloc ?_ (by first | omega | (simp <;> omega)) _ | refine Below.drew ?_ | refine below_drewN ?_ _ | exact B3))) (hT.below (by have hszw := (B3).size; repeat (with_reducible first | refine Below.setCell ?_ (by first | omega | (simp <;> omega)) _ | refine Below.alloc ?_ (by first | omega | (simp <;> omega)) _ | refine Below.drew ?_ | refine below_drewN ?_ _ | exact B3)))).out.mono ?_; rintro e w4 ⟨rfl, hb4⟩; have Vd4 : DyV w4 b0 bdd sd (.slice ad nd pd) ed := (by refine DyV.below ?_ hb4; (repeat (with_reducible first | refine DyV.drew ?_ | refine DyV.drewN ?_ _ | refine DyV.alloc ?_ _)); exact Vd3.out); (try clear dc0 dc1 dc2 dc3 dc4); obtain ⟨dc0, dc1, dc2, dc3, dc4, dc5⟩ := Vd4; have Vd4 := Lib.hid (DyV.mk dc0 dc1 dc2 dc3 dc4 dc5); have B4 := below_box (w := w) (by have hszw := (B3).size; repeat (with_reducible first | refine Below.setCell ?_ (by first | omega | (simp <;> omega)) _ | refine Below.alloc ?_ (by first | omega | (simp <;> omega)) _ | refine Below.drew ?_ | refine below_drewN ?_ _ | exact B3)) hb4; clear hb4)
        | fail)
  | fail "region"
  go_wp2_with fail
  refine (HK1 _).out.mono ?_
  rintro e wq ⟨rfl, rfl⟩
  go_wp2_with fail
  refine (HK2 _).out.mono ?_
  rintro e wq ⟨rfl, rfl⟩
  go_wp2_with fail
  first
  | go_region_held3 (fun w' => w'.cell? ⟨b0, 0, none⟩ = some (.bool bdd) ∧ w'.cell? ⟨b0, 1, none⟩ = some (.bool sd) ∧ w'.cell? ⟨b0, 2, none⟩ = some ((.slice ad nd pd)) ∧ w'.cell? ⟨b0, 3, none⟩ = some (.int .i64 ed)) (first | (go_keep; done) | (go_simp; done))
      (first
        | (go_at_call 18; have xx := B7; refine (HC1 _ al cl (by repeat (with_reducible first | refine Mag.set ?_ (fun h => by have := Ml7 h; omega) _ _ | refine Mag.drew ?_ | refine Mag.alloc ?_ _ | refine Mag.drewN ?_ _ | refine Mag.below ?_ (Below.drew (Below.refl _ _)) | refine Mag.below ?_ ((Below.refl _ _).alloc (Nat.le_refl _) _) | exact Ml7)) (Gd.out.below (by have hszw := (B7).size; repeat (with_reducible first | refine Below.setCell ?_ (by first | omega | (simp <;> omega)) _ | refine Below.alloc ?_ (by first | omega | (simp <;> omega)) _ | refine Below.drew ?_ | refine below_drewN ?_ _ | exact B7))) (hT.below (by have hszw := (B7).size; repeat (with_reducible first | refine Below.setCell ?_ (by first | omega | (simp <;> omega)) _ | refine Below.alloc ?_ (by first | omega | (simp <;> omega)) _ | refine Below.drew ?_ | refine below_drewN ?_ _ | exact B7)))).out.mono ?_; rintro e w8 ⟨rfl, hb8⟩; have Vd8 : DyV w8 b0 bdd sd (.slice ad nd pd) ed := (by refine DyV.below ?_ hb8; (repeat (with_reducible first | refine DyV.drew ?_ | refine DyV.drewN ?_ _ | refine DyV.alloc ?_ _)); exact Vd7.out); (try clear dc0 dc1 dc2 dc3 dc4); obtain ⟨dc0, dc1, dc2, dc3, dc4, dc5⟩ := Vd8; have Vd8 := Lib.hid (DyV.mk dc0 dc1 dc2 dc3 dc4 dc5); have B8 := below_box (w := w) (by have hszw := (B7).size; repeat (with_reducible first | refine Below.setCell ?_ (by first | omega | (simp <;> omega)) _ | refine Below.alloc ?_ (by first | omega | (simp <;> omega)) _ | refine Below.drew ?_ | refine below_drewN ?_ _ | exact B7)) hb8; clear hb8)
        | (go_at_call 19; have xx := B6; refine (HO1 _ (hT.below (by have hszw := (B6).size; repeat (with_reducible first | refine Below.setCell ?_ (by first | omega | (simp <;> omega)) _ | refine Below.alloc ?_ (by first | omega | (simp <;> omega)) _ | refine Below.drew ?_ | refine below_drewN ?_ _ | exact B6)))).out.mono ?_; rintro e w7 ⟨al, cl, rfl, Ml7, hb7, hf7⟩; have Vd7 : DyV w7 b0 bdd sd (.slice ad nd pd) ed := (by refine DyV.below ?_ hb7; (repeat (with_reducible first | refine DyV.drew ?_ | refine DyV.drewN ?_ _ | refine DyV.alloc ?_ _)); exact Vd6.out); (try clear dc0 dc1 dc2 dc3 dc4); obtain ⟨dc0, dc1, dc2, dc3, dc4, dc5⟩ := Vd7; have Vd7 := Lib.hid (DyV.mk dc0 dc1 dc2 dc3 dc4 dc5); have B7 := below_box (w := w) (by have hszw := (B6).size; repeat (with_reducible first | refine Below.setCell ?_ (by first | omega | (simp <;> omega)) _ | refine Below.alloc ?_ (by first | omega | (simp <;> omega)) _ | refine Below.drew ?_ | refine below_drewN ?_ _ | exact B6)) hb7; clear hb7 hf7)
        | fail)
  | fail "region"
  go_wp2_with fail
  first
  | go_region_held3 (fun w' => w'.cell? ⟨b0, 0, none⟩ = some (.bool bdd) ∧ w'.cell? ⟨b0, 1, none⟩ = some (.bool sd) ∧ w'.cell? ⟨b0, 2, none⟩ = some ((.slice ad nd pd)) ∧ w'.cell? ⟨b0, 3, none⟩ = some (.int .i64 ed)) (first | (go_keep; done) | (go_simp; done))
      (first
        | (go_at_call 18; have xx := B9; refine (HC2 _ ah ch (by repeat (with_reducible first | refine Mag.set ?_ (fun h => by have := Mh9 h; omega) _ _ | refine Mag.drew ?_ | refine Mag.alloc ?_ _ | refine Mag.drewN ?_ _ | refine Mag.below ?_ (Below.drew (Below.refl _ _)) | refine Mag.below ?_ ((Below.refl _ _).alloc (Nat.le_refl _) _) | exact Mh9)) (Gd.out.below (by have hszw := (B9).size; repeat (with_reducible first | refine Below.setCell ?_ (by first | omega | (simp <;> omega)) _ | refine Below.alloc ?_ (by first | omega | (simp <;> omega)) _ | refine Below.drew ?_ | refine below_drewN ?_ _ | exact B9))) (hT.below (by have hszw := (B9).size; repeat (with_reducible first | refine Below.setCell ?_ (by first | omega | (simp <;> omega)) _ | refine Below.alloc ?_ (by first | omega | (simp <;> omega)) _ | refine Below.drew ?_ | refine below_drewN ?_ _ | exact B9)))).out.mono ?_; rintro e w10 ⟨rfl, hb10⟩; have Vd10 : DyV w10 b0 bdd sd (.slice ad nd pd) ed := (by refine DyV.below ?_ hb10; (repeat (with_reducible first | refine DyV.drew ?_ | refine DyV.drewN ?_ _ | refine DyV.alloc ?_ _)); exact Vd9.out); (try clear dc0 dc1 dc2 dc3 dc4); obtain ⟨dc0, dc1, dc2, dc3, dc4, dc5⟩ := Vd10; have Vd10 := Lib.hid (DyV.mk dc0 dc1 dc2 dc3 dc4 dc5); have B10 := below_box (w := w) (by have hszw := (B9).size; repeat (with_reducible first | refine Below.setCell ?_ (by first | omega | (simp <;> omega)) _ | refine Below.alloc ?_ (by first | omega | (simp <;> omega)) _ | refine Below.drew ?_ | refine below_drewN ?_ _ | exact B9)) hb10; clear hb10)
        | (go_at_call 19; have xx := B8; refine (HO2 _ (hT.below (by have hszw := (B8).size; repeat (with_reducible first | refine Below.setCell ?_ (by first | omega | (simp <;> omega)) _ | refine Below.alloc ?_ (by first | omega | (simp <;> omega)) _ | refine Below.drew ?_ | refine below_drewN ?_ _ | exact B8)))).out.mono ?_; rintro e w9 ⟨ah, ch, rfl, Mh9, hb9, hf9⟩; have Vd9 : DyV w9 b0 bdd sd (.slice ad nd pd) ed := (by refine DyV.below ?_ hb9; (repeat (with_reducible first | refine DyV.drew ?_ | refine DyV.drewN ?_ _ | refine DyV.alloc ?_ _)); exact Vd8.out); (try clear dc0 dc1 dc2 dc3 dc4); obtain ⟨dc0, dc1, dc2, dc3, dc4, dc5⟩ := Vd9; have Vd9 := Lib.hid (DyV.mk dc0 dc1 dc2 dc3 dc4 dc5); have B9 := below_box (w := w) (by have hszw := (B8).size; repeat (with_reducible first | refine Below.setCell ?_ (by first | omega | (simp <;> omega)) _ | refine Below.alloc ?_ (by first | omega | (simp <;> omega)) _ | refine Below.drew ?_ | refine below_drewN ?_ _ | exact B8)) hb9; clear hb9 hf9)
        | fail)
  | fail "region"
  go_wp2_with fail
  refine (HU _).out.mono ?_
  rintro e w11 ⟨rfl, hb11⟩
  have Vd11 : DyV w11 b0 bdd sd (.slice ad nd pd) ed := (by refine DyV.below ?_ hb11; (repeat (with_reducible first | refine DyV.drew ?_ | refine DyV.drewN ?_ _ | refine DyV.alloc ?_ _)); exact Vd10.out)
  (try clear dc0 dc1 dc2 dc3 dc4)
  obtain ⟨dc0, dc1, dc2, dc3, dc4, dc5⟩ := Vd11
  have Vd11 := Lib.hid (DyV.mk dc0 dc1 dc2 dc3 dc4 dc5)
  have B11 := below_box (w := w) (by have hszw := (B10).size; repeat (with_reducible first | refine Below.setCell ?_ (by first | omega | (simp <;> omega)) _ | refine Below.alloc ?_ (by first | omega | (simp <;> omega)) _ | refine Below.drew ?_ | refine below_drewN ?_ _ | exact B10)) hb11
  clear hb11
  go_wp2_with fail
  refine (HC3 _).out.mono ?_
  rintro e w12 ⟨rfl, hb12⟩
  have Vd12 : DyV w12 b0 bdd sd (.slice ad nd pd) ed := (by refine DyV.below ?_ hb12; (repeat (with_reducible first | refine DyV.drew ?_ | refine DyV.drewN ?_ _ | refine DyV.alloc ?_ _)); exact Vd11.out)
  (try clear dc0 dc1 dc2 dc3 dc4)
  obtain ⟨dc0, dc1, dc2, dc3, dc4, dc5⟩ := Vd12
  have Vd12 := Lib.hid (DyV.mk dc0 dc1 dc2 dc3 dc4 dc5)
  have B12 := below_box (w := w) (by have hszw := (B11).size; repeat (with_reducible first | refine Below.setCell ?_ (by first | omega | (simp <;> omega)) _ | refine Below.alloc ?_ (by first | omega | (simp <;> omega)) _ | refine Below.drew ?_ | refine below_drewN ?_ _ | exact B11)) hb12
  clear hb12
  go_wp2_with fail
  refine (HW _ (hT.below (by have hszw := (B12).size; repeat (with_reducible first | refine Below.setCell ?_ (by first | omega | (simp <;> omega)) _ | refine Below.alloc ?_ (by first | omega | (simp <;> omega)) _ | refine Below.drew ?_ | refine below_drewN ?_ _ | exact B12)))).out.mono ?_
  rintro e w13 ⟨rfl, hb13⟩
  have Vd13 : DyV w13 b0 bdd sd (.slice ad nd pd) ed := (by refine DyV.below ?_ hb13; (repeat (with_reducible first | refine DyV.drew ?_ | refine DyV.drewN ?_ _ | refine DyV.alloc ?_ _)); exact Vd12.out)
  (try clear dc0 dc1 dc2 dc3 dc4)
  obtain ⟨dc0, dc1, dc2, dc3, dc4, dc5⟩ := Vd13
  have Vd13 := Lib.hid (DyV.mk dc0 dc1 dc2 dc3 dc4 dc5)
  have B13 := below_box (w := w) (by have hszw := (B12).size; repeat (with_reducible first | refine Below.setCell ?_ (by first | omega | (simp <;> omega)) _ | refine Below.alloc ?_ (by first | omega | (simp <;> omega)) _ | refine Below.drew ?_ | refine below_drewN ?_ _ | exact B12)) hb13
  clear hb13
  go_wp2_with fail
  go_ret
  exact ⟨rfl, (by have hszw := (B13).size; repeat (with_reducible first | refine Below.setCell ?_ (by first | omega | (simp <;> omega)) _ | refine Below.alloc ?_ (by first | omega | (simp <;> omega)) _ | refine Below.drew ?_ | refine below_drewN ?_ _ | exact B13))⟩

set_option maxRecDepth 100000 in
set_option maxHeartbeats 20000000 in
theorem encl_nfh (w : World) (hT : Tab w) (bdd sd : Bool) (ad : Option Addr) (nd pd : Nat) (ed : Int) (dd : Option (Int × Int)) (Hd : DyIs w bdd sd ad nd pd ed dd) (md : nd ≤ 9223372036854775807) (hsd : slim3B nd ed = true) (va : dbad dd = false) (sz : dman dd ≠ 0) (lo hi near : Nat) (f1 : fround dd 1 = lo) (f2 : fround dd 2 = hi) (f3 : fround dd 0 = near) (n1 : fnan lo = false) (n2 : fnan hi = false) (o1 : (!dbad (fof lo) && !dbad dd) = true) (o2 : (!dbad dd && !dbad (fof hi)) = false) (x1 : dcmp (fof lo) dd < 0) (i2 : hi = 9218868437227405312) (cz : fcmpv (fup lo) hi = 0) (e1 : near ≠ lo) (e2 : near = hi) :
    Calls Tryz.prog 4 #[.agg #[.bool bdd, .bool sd, .slice ad nd pd, .int .i64 ed]] w fun o w' => o = .returned (.bool true) ∧ Below w.heap.size w w' := by
  have HSl := fun W => Lib.hid (slimDyad3_any W bdd sd ad nd pd ed md true hsd)
  have HW := fun W ht => Lib.hid (awakeF_any W ht)
  have Gd := Lib.hid Hd
  have HV := fun W (h : DyIs W bdd sd ad nd pd ed dd) ht => Lib.hid (rvalid_any W bdd sd ad nd pd ed dd h ht)
  rw [va] at HV
  have nv : (!false) = true := rfl
  rw [nv] at HV
  clear nv
  have HG := fun W (h : DyIs W bdd sd ad nd pd ed dd) ht => Lib.hid (rdsign_any W bdd sd ad nd pd ed dd h ht)
  have hsz : (sg (dman dd) == 0) = false := by unfold sg cmpI; split <;> (try split) <;> first | decide | (exfalso; omega)
  generalize sg (dman dd) = gs at *
  have Nd := Lib.hid Hd.1.isN
  have l1 : lo < 18446744073709551616 := f1 ▸ fround_lt _ _
  have l2 : hi < 18446744073709551616 := f2 ▸ fround_lt _ _
  have HR1 := fun W (h : DyIs W bdd sd ad nd pd ed dd) ht => Lib.hid (fround_any W bdd sd ad nd pd ed 1 dd h.1 ht)
  have HR2 := fun W (h : DyIs W bdd sd ad nd pd ed dd) ht => Lib.hid (fround_any W bdd sd ad nd pd ed 2 dd h.1 ht)
  have HR3 := fun W (h : DyIs W bdd sd ad nd pd ed dd) ht => Lib.hid (fround_any W bdd sd ad nd pd ed 0 dd h.1 ht)
  rw [f1] at HR1
  rw [f2] at HR2
  rw [f3] at HR3
  have HK1 := fun W => Lib.hid (fkind_any W lo)
  have HK2 := fun W => Lib.hid (fkind_any W hi)
  have hk1 : (fkind lo == 3) = false := by rw [(fkind_eqs lo).1]; exact n1
  have hk2 : (fkind hi == 3) = false := by rw [(fkind_eqs hi).1]; exact n2
  have HO1 := fun W ht => Lib.hid (fof_any W lo l1 ht)
  have HO2 := fun W ht => Lib.hid (fof_any W hi l2 ht)
  have N1 := Lib.hid (isN_fof lo)
  have N2 := Lib.hid (isN_fof hi)
  have g1 : decide (0 < dcmp (fof lo) dd) = false := by simp; omega
  have h1 : (dcmp (fof lo) dd == 0) = false := by rw [beq_eq_false_iff_ne]; omega
  have j2 : ((hi : Int) != 9218868437227405312) = false := by rw [i2]; rfl
  have HC1 := fun W (b : Option Addr) (q : Nat) (h : Mag W b (nl (dman (fof lo)).natAbs) q (dman (fof lo)).natAbs) (h' : DyIs W bdd sd ad nd pd ed dd) ht => Lib.hid (dcmp_any W _ _ _ _ _ _ _ _ _ _ _ _ _ _ (dyin_of N1.out h) h'.1 ht)
  have HC2 := fun W (b : Option Addr) (q : Nat) (h : Mag W b (nl (dman (fof hi)).natAbs) q (dman (fof hi)).natAbs) (h' : DyIs W bdd sd ad nd pd ed dd) ht => Lib.hid (dcmp_any W _ _ _ _ _ _ _ _ _ _ _ _ _ _ h'.1 (dyin_of N2.out h) ht)
  rw [o1] at HC1
  rw [o2] at HC2
  have HU := fun W => Lib.hid (fup_any W lo l1)
  have HC3 := fun W => Lib.hid (fcmp_any W (fup lo) hi (fup_lt l1) l2)
  rw [cz] at HC3
  generalize fcmpok (fup lo) hi = o3 at *
  generalize ((fup lo : Nat) : Int) = iu at *
  have y1 : ((near : Int) == (lo : Int)) = false := by rw [beq_eq_false_iff_ne]; omega
  have y2 : ((near : Int) == (hi : Int)) = true := by rw [e2]; simp
  generalize dcmp (fof lo) dd = v1 at *
  generalize dcmp dd (fof hi) = v2 at *
  generalize fof lo = dl at *
  generalize fof hi = dh at *
  generalize fkind lo = kl at *
  generalize fkind hi = kh at *
  clear f1 f2 f3 n1 n2 hsd va sz Hd l1 l2 o1 o2 x1 i2 cz e2 e1
  generalize (lo : Int) = jl at *
  generalize (hi : Int) = jh at *
  generalize (near : Int) = jn at *
  go_enter Tryz.func4, Tryz.ntmps4
  go_wp2_with fail
  have I0 := DyV.made w 26 bdd sd (.slice ad nd pd) ed
  have B0 : Below w.heap.size w (w.alloc (.cells #[.bool bdd, .bool sd, .slice ad nd pd, .int .i64 ed] 26)) := (by repeat (with_reducible first | refine Below.setCell ?_ (by simp <;> omega) _ | refine Below.alloc ?_ (by simp <;> omega) _ | refine Below.drew ?_ | refine below_drewN ?_ _ | exact Below.refl _ _))
  generalize (w.alloc (.cells #[.bool bdd, .bool sd, .slice ad nd pd, .int .i64 ed] 26)) = w0 at I0 B0 ⊢
  generalize hb0 : w.heap.size = b0 at I0 ⊢
  obtain ⟨dc0, dc1, dc2, dc3, dc4, dc5⟩ := I0
  have Vd0 := Lib.hid (DyV.mk dc0 dc1 dc2 dc3 dc4 dc5)
  refine (HSl _).out.mono ?_
  rintro e w1 ⟨rfl, hb1⟩
  have Vd1 : DyV w1 b0 bdd sd (.slice ad nd pd) ed := (by refine DyV.below ?_ hb1; (repeat (with_reducible first | refine DyV.drew ?_ | refine DyV.drewN ?_ _ | refine DyV.alloc ?_ _)); exact Vd0.out)
  (try clear dc0 dc1 dc2 dc3 dc4)
  obtain ⟨dc0, dc1, dc2, dc3, dc4, dc5⟩ := Vd1
  have Vd1 := Lib.hid (DyV.mk dc0 dc1 dc2 dc3 dc4 dc5)
  have B1 := below_box (w := w) (by have hszw := (B0).size; repeat (with_reducible first | refine Below.setCell ?_ (by first | omega | (simp <;> omega)) _ | refine Below.alloc ?_ (by first | omega | (simp <;> omega)) _ | refine Below.drew ?_ | refine below_drewN ?_ _ | exact B0)) hb1
  clear hb1
  go_wp2_with fail
  refine (HV _ (Gd.out.below (by have hszw := (B1).size; repeat (with_reducible first | refine Below.setCell ?_ (by first | omega | (simp <;> omega)) _ | refine Below.alloc ?_ (by first | omega | (simp <;> omega)) _ | refine Below.drew ?_ | refine below_drewN ?_ _ | exact B1))) (hT.below (by have hszw := (B1).size; repeat (with_reducible first | refine Below.setCell ?_ (by first | omega | (simp <;> omega)) _ | refine Below.alloc ?_ (by first | omega | (simp <;> omega)) _ | refine Below.drew ?_ | refine below_drewN ?_ _ | exact B1)))).out.mono ?_
  rintro e w2 ⟨rfl, hb2⟩
  have Vd2 : DyV w2 b0 bdd sd (.slice ad nd pd) ed := (by refine DyV.below ?_ hb2; (repeat (with_reducible first | refine DyV.drew ?_ | refine DyV.drewN ?_ _ | refine DyV.alloc ?_ _)); exact Vd1.out)
  (try clear dc0 dc1 dc2 dc3 dc4)
  obtain ⟨dc0, dc1, dc2, dc3, dc4, dc5⟩ := Vd2
  have Vd2 := Lib.hid (DyV.mk dc0 dc1 dc2 dc3 dc4 dc5)
  have B2 := below_box (w := w) (by have hszw := (B1).size; repeat (with_reducible first | refine Below.setCell ?_ (by first | omega | (simp <;> omega)) _ | refine Below.alloc ?_ (by first | omega | (simp <;> omega)) _ | refine Below.drew ?_ | refine below_drewN ?_ _ | exact B1)) hb2
  clear hb2
  go_wp2_with fail
  refine (HG _ (Gd.out.below (by have hszw := (B2).size; repeat (with_reducible first | refine Below.setCell ?_ (by first | omega | (simp <;> omega)) _ | refine Below.alloc ?_ (by first | omega | (simp <;> omega)) _ | refine Below.drew ?_ | refine below_drewN ?_ _ | exact B2))) (hT.below (by have hszw := (B2).size; repeat (with_reducible first | refine Below.setCell ?_ (by first | omega | (simp <;> omega)) _ | refine Below.alloc ?_ (by first | omega | (simp <;> omega)) _ | refine Below.drew ?_ | refine below_drewN ?_ _ | exact B2)))).out.mono ?_
  rintro e w3 ⟨rfl, hb3⟩
  have Vd3 : DyV w3 b0 bdd sd (.slice ad nd pd) ed := (by refine DyV.below ?_ hb3; (repeat (with_reducible first | refine DyV.drew ?_ | refine DyV.drewN ?_ _ | refine DyV.alloc ?_ _)); exact Vd2.out)
  (try clear dc0 dc1 dc2 dc3 dc4)
  obtain ⟨dc0, dc1, dc2, dc3, dc4, dc5⟩ := Vd3
  have Vd3 := Lib.hid (DyV.mk dc0 dc1 dc2 dc3 dc4 dc5)
  have B3 := below_box (w := w) (by have hszw := (B2).size; repeat (with_reducible first | refine Below.setCell ?_ (by first | omega | (simp <;> omega)) _ | refine Below.alloc ?_ (by first | omega | (simp <;> omega)) _ | refine Below.drew ?_ | refine below_drewN ?_ _ | exact B2)) hb3
  clear hb3
  go_wp2_with fail
  first
  | go_region_held3 (fun w' => w'.cell? ⟨b0, 0, none⟩ = some (.bool bdd) ∧ w'.cell? ⟨b0, 1, none⟩ = some (.bool sd) ∧ w'.cell? ⟨b0, 2, none⟩ = some ((.slice ad nd pd)) ∧ w'.cell? ⟨b0, 3, none⟩ = some (.int .i64 ed)) (first | (go_keep; done) | (go_simp; done))
      (first
        | (go_at_call 9; have xx := B5; refine (HR3 _ (Gd.out.below (by have hszw := (B5).size; repeat (with_reducible first | refine Below.setCell ?_ (by first | omega | (simp <;> omega)) _ | refine Below.alloc ?_ (by first | omega | (simp <;> omega)) _ | refine Below.drew ?_ | refine below_drewN ?_ _ | exact B5))) (hT.below (by have hszw := (B5).size; repeat (with_reducible first | refine Below.setCell ?_ (by first | omega | (simp <;> omega)) _ | refine Below.alloc ?_ (by first | omega | (simp <;> omega)) _ | refine Below.drew ?_ | refine below_drewN ?_ _ | exact B5)))).out.mono ?_; rintro e w6 ⟨rfl, hb6⟩; have Vd6 : DyV w6 b0 bdd sd (.slice ad nd pd) ed := (by refine DyV.below ?_ hb6; (repeat (with_reducible first | refine DyV.drew ?_ | refine DyV.drewN ?_ _ | refine DyV.alloc ?_ _)); exact Vd5.out); (try clear dc0 dc1 dc2 dc3 dc4); obtain ⟨dc0, dc1, dc2, dc3, dc4, dc5⟩ := Vd6; have Vd6 := Lib.hid (DyV.mk dc0 dc1 dc2 dc3 dc4 dc5); have B6 := below_box (w := w) (by have hszw := (B5).size; repeat (with_reducible first | refine Below.setCell ?_ (by first | omega | (simp <;> omega)) _ | refine Below.alloc ?_ (by first | omega | (simp <;> omega)) _ | refine Below.drew ?_ | refine below_drewN ?_ _ | exact B5)) hb6; clear hb6)
        | (go_at_call 9; have xx := B4; refine (HR2 _ (Gd.out.below (by have hszw := (B4).size; repeat (with_reducible first | refine Below.setCell ?_ (by first | omega | (simp <;> omega)) _ | refine Below.alloc ?_ (by first | omega | (simp <;> omega)) _ | refine Below.drew ?_ | refine below_drewN ?_ _ | exact B4))) (hT.below (by have hszw := (B4).size; repeat (with_reducible first | refine Below.setCell ?_ (by first | omega | (simp <;> omega)) _ | refine Below.alloc ?_ (by first | omega | (simp <;> omega)) _ | refine Below.drew ?_ | refine below_drewN ?_ _ | exact B4)))).out.mono ?_; rintro e w5 ⟨rfl, hb5⟩; have Vd5 : DyV w5 b0 bdd sd (.slice ad nd pd) ed := (by refine DyV.below ?_ hb5; (repeat (with_reducible first | refine DyV.drew ?_ | refine DyV.drewN ?_ _ | refine DyV.alloc ?_ _)); exact Vd4.out); (try clear dc0 dc1 dc2 dc3 dc4); obtain ⟨dc0, dc1, dc2, dc3, dc4, dc5⟩ := Vd5; have Vd5 := Lib.hid (DyV.mk dc0 dc1 dc2 dc3 dc4 dc5); have B5 := below_box (w := w) (by have hszw := (B4).size; repeat (with_reducible first | refine Below.setCell ?_ (by first | omega | (simp <;> omega)) _ | refine Below.alloc ?_ (by first | omega | (simp <;> omega)) _ | refine Below.drew ?_ | refine below_drewN ?_ _ | exact B4)) hb5; clear hb5)
        | (go_at_call 9; have xx := B3; refine (HR1 _ (Gd.out.below (by have hszw := (B3).size; repeat (with_reducible first | refine Below.setCell ?_ (by first | omega | (simp <;> omega)) _ | refine Below.alloc ?_ (by first | omega | (simp <;> omega)) _ | refine Below.drew ?_ | refine below_drewN ?_ _ | exact B3))) (hT.below (by have hszw := (B3).size; repeat (with_reducible first | refine Below.setCell ?_ (by first | omega | (simp <;> omega)) _ | refine Below.alloc ?_ (by first | omega | (simp <;> omega)) _ | refine Below.drew ?_ | refine below_drewN ?_ _ | exact B3)))).out.mono ?_; rintro e w4 ⟨rfl, hb4⟩; have Vd4 : DyV w4 b0 bdd sd (.slice ad nd pd) ed := (by refine DyV.below ?_ hb4; (repeat (with_reducible first | refine DyV.drew ?_ | refine DyV.drewN ?_ _ | refine DyV.alloc ?_ _)); exact Vd3.out); (try clear dc0 dc1 dc2 dc3 dc4); obtain ⟨dc0, dc1, dc2, dc3, dc4, dc5⟩ := Vd4; have Vd4 := Lib.hid (DyV.mk dc0 dc1 dc2 dc3 dc4 dc5); have B4 := below_box (w := w) (by have hszw := (B3).size; repeat (with_reducible first | refine Below.setCell ?_ (by first | omega | (simp <;> omega)) _ | refine Below.alloc ?_ (by first | omega | (simp <;> omega)) _ | refine Below.drew ?_ | refine below_drewN ?_ _ | exact B3)) hb4; clear hb4)
        | fail)
  | fail "region"
  go_wp2_with fail
  refine (HK1 _).out.mono ?_
  rintro e wq ⟨rfl, rfl⟩
  go_wp2_with fail
  refine (HK2 _).out.mono ?_
  rintro e wq ⟨rfl, rfl⟩
  go_wp2_with fail
  first
  | go_region_held3 (fun w' => w'.cell? ⟨b0, 0, none⟩ = some (.bool bdd) ∧ w'.cell? ⟨b0, 1, none⟩ = some (.bool sd) ∧ w'.cell? ⟨b0, 2, none⟩ = some ((.slice ad nd pd)) ∧ w'.cell? ⟨b0, 3, none⟩ = some (.int .i64 ed)) (first | (go_keep; done) | (go_simp; done))
      (first
        | (go_at_call 18; have xx := B7; refine (HC1 _ al cl (by repeat (with_reducible first | refine Mag.set ?_ (fun h => by have := Ml7 h; omega) _ _ | refine Mag.drew ?_ | refine Mag.alloc ?_ _ | refine Mag.drewN ?_ _ | refine Mag.below ?_ (Below.drew (Below.refl _ _)) | refine Mag.below ?_ ((Below.refl _ _).alloc (Nat.le_refl _) _) | exact Ml7)) (Gd.out.below (by have hszw := (B7).size; repeat (with_reducible first | refine Below.setCell ?_ (by first | omega | (simp <;> omega)) _ | refine Below.alloc ?_ (by first | omega | (simp <;> omega)) _ | refine Below.drew ?_ | refine below_drewN ?_ _ | exact B7))) (hT.below (by have hszw := (B7).size; repeat (with_reducible first | refine Below.setCell ?_ (by first | omega | (simp <;> omega)) _ | refine Below.alloc ?_ (by first | omega | (simp <;> omega)) _ | refine Below.drew ?_ | refine below_drewN ?_ _ | exact B7)))).out.mono ?_; rintro e w8 ⟨rfl, hb8⟩; have Vd8 : DyV w8 b0 bdd sd (.slice ad nd pd) ed := (by refine DyV.below ?_ hb8; (repeat (with_reducible first | refine DyV.drew ?_ | refine DyV.drewN ?_ _ | refine DyV.alloc ?_ _)); exact Vd7.out); (try clear dc0 dc1 dc2 dc3 dc4); obtain ⟨dc0, dc1, dc2, dc3, dc4, dc5⟩ := Vd8; have Vd8 := Lib.hid (DyV.mk dc0 dc1 dc2 dc3 dc4 dc5); have B8 := below_box (w := w) (by have hszw := (B7).size; repeat (with_reducible first | refine Below.setCell ?_ (by first | omega | (simp <;> omega)) _ | refine Below.alloc ?_ (by first | omega | (simp <;> omega)) _ | refine Below.drew ?_ | refine below_drewN ?_ _ | exact B7)) hb8; clear hb8)
        | (go_at_call 19; have xx := B6; refine (HO1 _ (hT.below (by have hszw := (B6).size; repeat (with_reducible first | refine Below.setCell ?_ (by first | omega | (simp <;> omega)) _ | refine Below.alloc ?_ (by first | omega | (simp <;> omega)) _ | refine Below.drew ?_ | refine below_drewN ?_ _ | exact B6)))).out.mono ?_; rintro e w7 ⟨al, cl, rfl, Ml7, hb7, hf7⟩; have Vd7 : DyV w7 b0 bdd sd (.slice ad nd pd) ed := (by refine DyV.below ?_ hb7; (repeat (with_reducible first | refine DyV.drew ?_ | refine DyV.drewN ?_ _ | refine DyV.alloc ?_ _)); exact Vd6.out); (try clear dc0 dc1 dc2 dc3 dc4); obtain ⟨dc0, dc1, dc2, dc3, dc4, dc5⟩ := Vd7; have Vd7 := Lib.hid (DyV.mk dc0 dc1 dc2 dc3 dc4 dc5); have B7 := below_box (w := w) (by have hszw := (B6).size; repeat (with_reducible first | refine Below.setCell ?_ (by first | omega | (simp <;> omega)) _ | refine Below.alloc ?_ (by first | omega | (simp <;> omega)) _ | refine Below.drew ?_ | refine below_drewN ?_ _ | exact B6)) hb7; clear hb7 hf7)
        | fail)
  | fail "region"
  go_wp2_with fail
  first
  | go_region_held3 (fun w' => w'.cell? ⟨b0, 0, none⟩ = some (.bool bdd) ∧ w'.cell? ⟨b0, 1, none⟩ = some (.bool sd) ∧ w'.cell? ⟨b0, 2, none⟩ = some ((.slice ad nd pd)) ∧ w'.cell? ⟨b0, 3, none⟩ = some (.int .i64 ed)) (first | (go_keep; done) | (go_simp; done))
      (first
        | (go_at_call 18; have xx := B9; refine (HC2 _ ah ch (by repeat (with_reducible first | refine Mag.set ?_ (fun h => by have := Mh9 h; omega) _ _ | refine Mag.drew ?_ | refine Mag.alloc ?_ _ | refine Mag.drewN ?_ _ | refine Mag.below ?_ (Below.drew (Below.refl _ _)) | refine Mag.below ?_ ((Below.refl _ _).alloc (Nat.le_refl _) _) | exact Mh9)) (Gd.out.below (by have hszw := (B9).size; repeat (with_reducible first | refine Below.setCell ?_ (by first | omega | (simp <;> omega)) _ | refine Below.alloc ?_ (by first | omega | (simp <;> omega)) _ | refine Below.drew ?_ | refine below_drewN ?_ _ | exact B9))) (hT.below (by have hszw := (B9).size; repeat (with_reducible first | refine Below.setCell ?_ (by first | omega | (simp <;> omega)) _ | refine Below.alloc ?_ (by first | omega | (simp <;> omega)) _ | refine Below.drew ?_ | refine below_drewN ?_ _ | exact B9)))).out.mono ?_; rintro e w10 ⟨rfl, hb10⟩; have Vd10 : DyV w10 b0 bdd sd (.slice ad nd pd) ed := (by refine DyV.below ?_ hb10; (repeat (with_reducible first | refine DyV.drew ?_ | refine DyV.drewN ?_ _ | refine DyV.alloc ?_ _)); exact Vd9.out); (try clear dc0 dc1 dc2 dc3 dc4); obtain ⟨dc0, dc1, dc2, dc3, dc4, dc5⟩ := Vd10; have Vd10 := Lib.hid (DyV.mk dc0 dc1 dc2 dc3 dc4 dc5); have B10 := below_box (w := w) (by have hszw := (B9).size; repeat (with_reducible first | refine Below.setCell ?_ (by first | omega | (simp <;> omega)) _ | refine Below.alloc ?_ (by first | omega | (simp <;> omega)) _ | refine Below.drew ?_ | refine below_drewN ?_ _ | exact B9)) hb10; clear hb10)
        | (go_at_call 19; have xx := B8; refine (HO2 _ (hT.below (by have hszw := (B8).size; repeat (with_reducible first | refine Below.setCell ?_ (by first | omega | (simp <;> omega)) _ | refine Below.alloc ?_ (by first | omega | (simp <;> omega)) _ | refine Below.drew ?_ | refine below_drewN ?_ _ | exact B8)))).out.mono ?_; rintro e w9 ⟨ah, ch, rfl, Mh9, hb9, hf9⟩; have Vd9 : DyV w9 b0 bdd sd (.slice ad nd pd) ed := (by refine DyV.below ?_ hb9; (repeat (with_reducible first | refine DyV.drew ?_ | refine DyV.drewN ?_ _ | refine DyV.alloc ?_ _)); exact Vd8.out); (try clear dc0 dc1 dc2 dc3 dc4); obtain ⟨dc0, dc1, dc2, dc3, dc4, dc5⟩ := Vd9; have Vd9 := Lib.hid (DyV.mk dc0 dc1 dc2 dc3 dc4 dc5); have B9 := below_box (w := w) (by have hszw := (B8).size; repeat (with_reducible first | refine Below.setCell ?_ (by first | omega | (simp <;> omega)) _ | refine Below.alloc ?_ (by first | omega | (simp <;> omega)) _ | refine Below.drew ?_ | refine below_drewN ?_ _ | exact B8)) hb9; clear hb9 hf9)
        | fail)
  | fail "region"
  go_wp2_with fail
  refine (HU _).out.mono ?_
  rintro e w11 ⟨rfl, hb11⟩
  have Vd11 : DyV w11 b0 bdd sd (.slice ad nd pd) ed := (by refine DyV.below ?_ hb11; (repeat (with_reducible first | refine DyV.drew ?_ | refine DyV.drewN ?_ _ | refine DyV.alloc ?_ _)); exact Vd10.out)
  (try clear dc0 dc1 dc2 dc3 dc4)
  obtain ⟨dc0, dc1, dc2, dc3, dc4, dc5⟩ := Vd11
  have Vd11 := Lib.hid (DyV.mk dc0 dc1 dc2 dc3 dc4 dc5)
  have B11 := below_box (w := w) (by have hszw := (B10).size; repeat (with_reducible first | refine Below.setCell ?_ (by first | omega | (simp <;> omega)) _ | refine Below.alloc ?_ (by first | omega | (simp <;> omega)) _ | refine Below.drew ?_ | refine below_drewN ?_ _ | exact B10)) hb11
  clear hb11
  go_wp2_with fail
  refine (HC3 _).out.mono ?_
  rintro e w12 ⟨rfl, hb12⟩
  have Vd12 : DyV w12 b0 bdd sd (.slice ad nd pd) ed := (by refine DyV.below ?_ hb12; (repeat (with_reducible first | refine DyV.drew ?_ | refine DyV.drewN ?_ _ | refine DyV.alloc ?_ _)); exact Vd11.out)
  (try clear dc0 dc1 dc2 dc3 dc4)
  obtain ⟨dc0, dc1, dc2, dc3, dc4, dc5⟩ := Vd12
  have Vd12 := Lib.hid (DyV.mk dc0 dc1 dc2 dc3 dc4 dc5)
  have B12 := below_box (w := w) (by have hszw := (B11).size; repeat (with_reducible first | refine Below.setCell ?_ (by first | omega | (simp <;> omega)) _ | refine Below.alloc ?_ (by first | omega | (simp <;> omega)) _ | refine Below.drew ?_ | refine below_drewN ?_ _ | exact B11)) hb12
  clear hb12
  go_wp2_with fail
  refine (HW _ (hT.below (by have hszw := (B12).size; repeat (with_reducible first | refine Below.setCell ?_ (by first | omega | (simp <;> omega)) _ | refine Below.alloc ?_ (by first | omega | (simp <;> omega)) _ | refine Below.drew ?_ | refine below_drewN ?_ _ | exact B12)))).out.mono ?_
  rintro e w13 ⟨rfl, hb13⟩
  have Vd13 : DyV w13 b0 bdd sd (.slice ad nd pd) ed := (by refine DyV.below ?_ hb13; (repeat (with_reducible first | refine DyV.drew ?_ | refine DyV.drewN ?_ _ | refine DyV.alloc ?_ _)); exact Vd12.out)
  (try clear dc0 dc1 dc2 dc3 dc4)
  obtain ⟨dc0, dc1, dc2, dc3, dc4, dc5⟩ := Vd13
  have Vd13 := Lib.hid (DyV.mk dc0 dc1 dc2 dc3 dc4 dc5)
  have B13 := below_box (w := w) (by have hszw := (B12).size; repeat (with_reducible first | refine Below.setCell ?_ (by first | omega | (simp <;> omega)) _ | refine Below.alloc ?_ (by first | omega | (simp <;> omega)) _ | refine Below.drew ?_ | refine below_drewN ?_ _ | exact B12)) hb13
  clear hb13
  go_wp2_with fail
  go_ret
  exact ⟨rfl, (by have hszw := (B13).size; repeat (with_reducible first | refine Below.setCell ?_ (by first | omega | (simp <;> omega)) _ | refine Below.alloc ?_ (by first | omega | (simp <;> omega)) _ | refine Below.drew ?_ | refine below_drewN ?_ _ | exact B13))⟩

set_option maxRecDepth 100000 in
set_option maxHeartbeats 20000000 in
theorem encl_fze (w : World) (hT : Tab w) (bdd sd : Bool) (ad : Option Addr) (nd pd : Nat) (ed : Int) (dd : Option (Int × Int)) (Hd : DyIs w bdd sd ad nd pd ed dd) (md : nd ≤ 9223372036854775807) (hsd : slim3B nd ed = true) (va : dbad dd = false) (sz : dman dd ≠ 0) (lo hi near : Nat) (f1 : fround dd 1 = lo) (f2 : fround dd 2 = hi) (f3 : fround dd 0 = near) (n1 : fnan lo = false) (n2 : fnan hi = false) (o1 : (!dbad (fof lo) && !dbad dd) = false) (o2 : (!dbad dd && !dbad (fof hi)) = true) (x2 : dcmp dd (fof hi) = 0) (i1 : lo = 18442240474082181120) (e1 : lo = hi) (e2 : near = lo) :
    Calls Tryz.prog 4 #[.agg #[.bool bdd, .bool sd, .slice ad nd pd, .int .i64 ed]] w fun o w' => o = .returned (.bool true) ∧ Below w.heap.size w w' := by
  have HSl := fun W => Lib.hid (slimDyad3_any W bdd sd ad nd pd ed md true hsd)
  have HW := fun W ht => Lib.hid (awakeF_any W ht)
  have Gd := Lib.hid Hd
  have HV := fun W (h : DyIs W bdd sd ad nd pd ed dd) ht => Lib.hid (rvalid_any W bdd sd ad nd pd ed dd h ht)
  rw [va] at HV
  have nv : (!false) = true := rfl
  rw [nv] at HV
  clear nv
  have HG := fun W (h : DyIs W bdd sd ad nd pd ed dd) ht => Lib.hid (rdsign_any W bdd sd ad nd pd ed dd h ht)
  have hsz : (sg (dman dd) == 0) = false := by unfold sg cmpI; split <;> (try split) <;> first | decide | (exfalso; omega)
  generalize sg (dman dd) = gs at *
  have Nd := Lib.hid Hd.1.isN
  have l1 : lo < 18446744073709551616 := f1 ▸ fround_lt _ _
  have l2 : hi < 18446744073709551616 := f2 ▸ fround_lt _ _
  have HR1 := fun W (h : DyIs W bdd sd ad nd pd ed dd) ht => Lib.hid (fround_any W bdd sd ad nd pd ed 1 dd h.1 ht)
  have HR2 := fun W (h : DyIs W bdd sd ad nd pd ed dd) ht => Lib.hid (fround_any W bdd sd ad nd pd ed 2 dd h.1 ht)
  have HR3 := fun W (h : DyIs W bdd sd ad nd pd ed dd) ht => Lib.hid (fround_any W bdd sd ad nd pd ed 0 dd h.1 ht)
  rw [f1] at HR1
  rw [f2] at HR2
  rw [f3] at HR3
  have HK1 := fun W => Lib.hid (fkind_any W lo)
  have HK2 := fun W => Lib.hid (fkind_any W hi)
  have hk1 : (fkind lo == 3) = false := by rw [(fkind_eqs lo).1]; exact n1
  have hk2 : (fkind hi == 3) = false := by rw [(fkind_eqs hi).1]; exact n2
  have HO1 := fun W ht => Lib.hid (fof_any W lo l1 ht)
  have HO2 := fun W ht => Lib.hid (fof_any W hi l2 ht)
  have N1 := Lib.hid (isN_fof lo)
  have N2 := Lib.hid (isN_fof hi)
  have g2 : decide (0 < dcmp dd (fof hi)) = false := by rw [x2]; rfl
  have h2 : (dcmp dd (fof hi) == 0) = true := by rw [x2]; rfl
  have j1 : ((lo : Int) != 18442240474082181120) = false := by rw [i1]; rfl
  have HC1 := fun W (b : Option Addr) (q : Nat) (h : Mag W b (nl (dman (fof lo)).natAbs) q (dman (fof lo)).natAbs) (h' : DyIs W bdd sd ad nd pd ed dd) ht => Lib.hid (dcmp_any W _ _ _ _ _ _ _ _ _ _ _ _ _ _ (dyin_of N1.out h) h'.1 ht)
  have HC2 := fun W (b : Option Addr) (q : Nat) (h : Mag W b (nl (dman (fof hi)).natAbs) q (dman (fof hi)).natAbs) (h' : DyIs W bdd sd ad nd pd ed dd) ht => Lib.hid (dcmp_any W _ _ _ _ _ _ _ _ _ _ _ _ _ _ h'.1 (dyin_of N2.out h) ht)
  rw [o1] at HC1
  rw [o2] at HC2
  have y1 : ((lo : Int) == (hi : Int)) = true := by rw [e1]; simp
  have y2 : ((near : Int) == (lo : Int)) = true := by rw [e2]; simp
  generalize dcmp (fof lo) dd = v1 at *
  generalize dcmp dd (fof hi) = v2 at *
  generalize fof lo = dl at *
  generalize fof hi = dh at *
  generalize fkind lo = kl at *
  generalize fkind hi = kh at *
  clear f1 f2 f3 n1 n2 hsd va sz Hd l1 l2 o1 o2 x2 i1 e1 e2
  generalize (lo : Int) = jl at *
  generalize (hi : Int) = jh at *
  generalize (near : Int) = jn at *
  go_enter Tryz.func4, Tryz.ntmps4
  go_wp2_with fail
  have I0 := DyV.made w 26 bdd sd (.slice ad nd pd) ed
  have B0 : Below w.heap.size w (w.alloc (.cells #[.bool bdd, .bool sd, .slice ad nd pd, .int .i64 ed] 26)) := (by repeat (with_reducible first | refine Below.setCell ?_ (by simp <;> omega) _ | refine Below.alloc ?_ (by simp <;> omega) _ | refine Below.drew ?_ | refine below_drewN ?_ _ | exact Below.refl _ _))
  generalize (w.alloc (.cells #[.bool bdd, .bool sd, .slice ad nd pd, .int .i64 ed] 26)) = w0 at I0 B0 ⊢
  generalize hb0 : w.heap.size = b0 at I0 ⊢
  obtain ⟨dc0, dc1, dc2, dc3, dc4, dc5⟩ := I0
  have Vd0 := Lib.hid (DyV.mk dc0 dc1 dc2 dc3 dc4 dc5)
  refine (HSl _).out.mono ?_
  rintro e w1 ⟨rfl, hb1⟩
  have Vd1 : DyV w1 b0 bdd sd (.slice ad nd pd) ed := (by refine DyV.below ?_ hb1; (repeat (with_reducible first | refine DyV.drew ?_ | refine DyV.drewN ?_ _ | refine DyV.alloc ?_ _)); exact Vd0.out)
  (try clear dc0 dc1 dc2 dc3 dc4)
  obtain ⟨dc0, dc1, dc2, dc3, dc4, dc5⟩ := Vd1
  have Vd1 := Lib.hid (DyV.mk dc0 dc1 dc2 dc3 dc4 dc5)
  have B1 := below_box (w := w) (by have hszw := (B0).size; repeat (with_reducible first | refine Below.setCell ?_ (by first | omega | (simp <;> omega)) _ | refine Below.alloc ?_ (by first | omega | (simp <;> omega)) _ | refine Below.drew ?_ | refine below_drewN ?_ _ | exact B0)) hb1
  clear hb1
  go_wp2_with fail
  refine (HV _ (Gd.out.below (by have hszw := (B1).size; repeat (with_reducible first | refine Below.setCell ?_ (by first | omega | (simp <;> omega)) _ | refine Below.alloc ?_ (by first | omega | (simp <;> omega)) _ | refine Below.drew ?_ | refine below_drewN ?_ _ | exact B1))) (hT.below (by have hszw := (B1).size; repeat (with_reducible first | refine Below.setCell ?_ (by first | omega | (simp <;> omega)) _ | refine Below.alloc ?_ (by first | omega | (simp <;> omega)) _ | refine Below.drew ?_ | refine below_drewN ?_ _ | exact B1)))).out.mono ?_
  rintro e w2 ⟨rfl, hb2⟩
  have Vd2 : DyV w2 b0 bdd sd (.slice ad nd pd) ed := (by refine DyV.below ?_ hb2; (repeat (with_reducible first | refine DyV.drew ?_ | refine DyV.drewN ?_ _ | refine DyV.alloc ?_ _)); exact Vd1.out)
  (try clear dc0 dc1 dc2 dc3 dc4)
  obtain ⟨dc0, dc1, dc2, dc3, dc4, dc5⟩ := Vd2
  have Vd2 := Lib.hid (DyV.mk dc0 dc1 dc2 dc3 dc4 dc5)
  have B2 := below_box (w := w) (by have hszw := (B1).size; repeat (with_reducible first | refine Below.setCell ?_ (by first | omega | (simp <;> omega)) _ | refine Below.alloc ?_ (by first | omega | (simp <;> omega)) _ | refine Below.drew ?_ | refine below_drewN ?_ _ | exact B1)) hb2
  clear hb2
  go_wp2_with fail
  refine (HG _ (Gd.out.below (by have hszw := (B2).size; repeat (with_reducible first | refine Below.setCell ?_ (by first | omega | (simp <;> omega)) _ | refine Below.alloc ?_ (by first | omega | (simp <;> omega)) _ | refine Below.drew ?_ | refine below_drewN ?_ _ | exact B2))) (hT.below (by have hszw := (B2).size; repeat (with_reducible first | refine Below.setCell ?_ (by first | omega | (simp <;> omega)) _ | refine Below.alloc ?_ (by first | omega | (simp <;> omega)) _ | refine Below.drew ?_ | refine below_drewN ?_ _ | exact B2)))).out.mono ?_
  rintro e w3 ⟨rfl, hb3⟩
  have Vd3 : DyV w3 b0 bdd sd (.slice ad nd pd) ed := (by refine DyV.below ?_ hb3; (repeat (with_reducible first | refine DyV.drew ?_ | refine DyV.drewN ?_ _ | refine DyV.alloc ?_ _)); exact Vd2.out)
  (try clear dc0 dc1 dc2 dc3 dc4)
  obtain ⟨dc0, dc1, dc2, dc3, dc4, dc5⟩ := Vd3
  have Vd3 := Lib.hid (DyV.mk dc0 dc1 dc2 dc3 dc4 dc5)
  have B3 := below_box (w := w) (by have hszw := (B2).size; repeat (with_reducible first | refine Below.setCell ?_ (by first | omega | (simp <;> omega)) _ | refine Below.alloc ?_ (by first | omega | (simp <;> omega)) _ | refine Below.drew ?_ | refine below_drewN ?_ _ | exact B2)) hb3
  clear hb3
  go_wp2_with fail
  first
  | go_region_held3 (fun w' => w'.cell? ⟨b0, 0, none⟩ = some (.bool bdd) ∧ w'.cell? ⟨b0, 1, none⟩ = some (.bool sd) ∧ w'.cell? ⟨b0, 2, none⟩ = some ((.slice ad nd pd)) ∧ w'.cell? ⟨b0, 3, none⟩ = some (.int .i64 ed)) (first | (go_keep; done) | (go_simp; done))
      (first
        | (go_at_call 9; have xx := B5; refine (HR3 _ (Gd.out.below (by have hszw := (B5).size; repeat (with_reducible first | refine Below.setCell ?_ (by first | omega | (simp <;> omega)) _ | refine Below.alloc ?_ (by first | omega | (simp <;> omega)) _ | refine Below.drew ?_ | refine below_drewN ?_ _ | exact B5))) (hT.below (by have hszw := (B5).size; repeat (with_reducible first | refine Below.setCell ?_ (by first | omega | (simp <;> omega)) _ | refine Below.alloc ?_ (by first | omega | (simp <;> omega)) _ | refine Below.drew ?_ | refine below_drewN ?_ _ | exact B5)))).out.mono ?_; rintro e w6 ⟨rfl, hb6⟩; have Vd6 : DyV w6 b0 bdd sd (.slice ad nd pd) ed := (by refine DyV.below ?_ hb6; (repeat (with_reducible first | refine DyV.drew ?_ | refine DyV.drewN ?_ _ | refine DyV.alloc ?_ _)); exact Vd5.out); (try clear dc0 dc1 dc2 dc3 dc4); obtain ⟨dc0, dc1, dc2, dc3, dc4, dc5⟩ := Vd6; have Vd6 := Lib.hid (DyV.mk dc0 dc1 dc2 dc3 dc4 dc5); have B6 := below_box (w := w) (by have hszw := (B5).size; repeat (with_reducible first | refine Below.setCell ?_ (by first | omega | (simp <;> omega)) _ | refine Below.alloc ?_ (by first | omega | (simp <;> omega)) _ | refine Below.drew ?_ | refine below_drewN ?_ _ | exact B5)) hb6; clear hb6)
        | (go_at_call 9; have xx := B4; refine (HR2 _ (Gd.out.below (by have hszw := (B4).size; repeat (with_reducible first | refine Below.setCell ?_ (by first | omega | (simp <;> omega)) _ | refine Below.alloc ?_ (by first | omega | (simp <;> omega)) _ | refine Below.drew ?_ | refine below_drewN ?_ _ | exact B4))) (hT.below (by have hszw := (B4).size; repeat (with_reducible first | refine Below.setCell ?_ (by first | omega | (simp <;> omega)) _ | refine Below.alloc ?_ (by first | omega | (simp <;> omega)) _ | refine Below.drew ?_ | refine below_drewN ?_ _ | exact B4)))).out.mono ?_; rintro e w5 ⟨rfl, hb5⟩; have Vd5 : DyV w5 b0 bdd sd (.slice ad nd pd) ed := (by refine DyV.below ?_ hb5; (repeat (with_reducible first | refine DyV.drew ?_ | refine DyV.drewN ?_ _ | refine DyV.alloc ?_ _)); exact Vd4.out); (try clear dc0 dc1 dc2 dc3 dc4); obtain ⟨dc0, dc1, dc2, dc3, dc4, dc5⟩ := Vd5; have Vd5 := Lib.hid (DyV.mk dc0 dc1 dc2 dc3 dc4 dc5); have B5 := below_box (w := w) (by have hszw := (B4).size; repeat (with_reducible first | refine Below.setCell ?_ (by first | omega | (simp <;> omega)) _ | refine Below.alloc ?_ (by first | omega | (simp <;> omega)) _ | refine Below.drew ?_ | refine below_drewN ?_ _ | exact B4)) hb5; clear hb5)
        | (go_at_call 9; have xx := B3; refine (HR1 _ (Gd.out.below (by have hszw := (B3).size; repeat (with_reducible first | refine Below.setCell ?_ (by first | omega | (simp <;> omega)) _ | refine Below.alloc ?_ (by first | omega | (simp <;> omega)) _ | refine Below.drew ?_ | refine below_drewN ?_ _ | exact B3))) (hT.below (by have hszw := (B3).size; repeat (with_reducible first | refine Below.setCell ?_ (by first | omega | (simp <;> omega)) _ | refine Below.alloc ?_ (by first | omega | (simp <;> omega)) _ | refine Below.drew ?_ | refine below_drewN ?_ _ | exact B3)))).out.mono ?_; rintro e w4 ⟨rfl, hb4⟩; have Vd4 : DyV w4 b0 bdd sd (.slice ad nd pd) ed := (by refine DyV.below ?_ hb4; (repeat (with_reducible first | refine DyV.drew ?_ | refine DyV.drewN ?_ _ | refine DyV.alloc ?_ _)); exact Vd3.out); (try clear dc0 dc1 dc2 dc3 dc4); obtain ⟨dc0, dc1, dc2, dc3, dc4, dc5⟩ := Vd4; have Vd4 := Lib.hid (DyV.mk dc0 dc1 dc2 dc3 dc4 dc5); have B4 := below_box (w := w) (by have hszw := (B3).size; repeat (with_reducible first | refine Below.setCell ?_ (by first | omega | (simp <;> omega)) _ | refine Below.alloc ?_ (by first | omega | (simp <;> omega)) _ | refine Below.drew ?_ | refine below_drewN ?_ _ | exact B3)) hb4; clear hb4)
        | fail)
  | fail "region"
  go_wp2_with fail
  refine (HK1 _).out.mono ?_
  rintro e wq ⟨rfl, rfl⟩
  go_wp2_with fail
  refine (HK2 _).out.mono ?_
  rintro e wq ⟨rfl, rfl⟩
  go_wp2_with fail
  first
  | go_region_held3 (fun w' => w'.cell? ⟨b0, 0, none⟩ = some (.bool bdd) ∧ w'.cell? ⟨b0, 1, none⟩ = some (.bool sd) ∧ w'.cell? ⟨b0, 2, none⟩ = some ((.slice ad nd pd)) ∧ w'.cell? ⟨b0, 3, none⟩ = some (.int .i64 ed)) (first | (go_keep; done) | (go_simp; done))
      (first
        | (go_at_call 18; have xx := B7; refine (HC1 _ al cl (by repeat (with_reducible first | refine Mag.set ?_ (fun h => by have := Ml7 h; omega) _ _ | refine Mag.drew ?_ | refine Mag.alloc ?_ _ | refine Mag.drewN ?_ _ | refine Mag.below ?_ (Below.drew (Below.refl _ _)) | refine Mag.below ?_ ((Below.refl _ _).alloc (Nat.le_refl _) _) | exact Ml7)) (Gd.out.below (by have hszw := (B7).size; repeat (with_reducible first | refine Below.setCell ?_ (by first | omega | (simp <;> omega)) _ | refine Below.alloc ?_ (by first | omega | (simp <;> omega)) _ | refine Below.drew ?_ | refine below_drewN ?_ _ | exact B7))) (hT.below (by have hszw := (B7).size; repeat (with_reducible first | refine Below.setCell ?_ (by first | omega | (simp <;> omega)) _ | refine Below.alloc ?_ (by first | omega | (simp <;> omega)) _ | refine Below.drew ?_ | refine below_drewN ?_ _ | exact B7)))).out.mono ?_; rintro e w8 ⟨rfl, hb8⟩; have Vd8 : DyV w8 b0 bdd sd (.slice ad nd pd) ed := (by refine DyV.below ?_ hb8; (repeat (with_reducible first | refine DyV.drew ?_ | refine DyV.drewN ?_ _ | refine DyV.alloc ?_ _)); exact Vd7.out); (try clear dc0 dc1 dc2 dc3 dc4); obtain ⟨dc0, dc1, dc2, dc3, dc4, dc5⟩ := Vd8; have Vd8 := Lib.hid (DyV.mk dc0 dc1 dc2 dc3 dc4 dc5); have B8 := below_box (w := w) (by have hszw := (B7).size; repeat (with_reducible first | refine Below.setCell ?_ (by first | omega | (simp <;> omega)) _ | refine Below.alloc ?_ (by first | omega | (simp <;> omega)) _ | refine Below.drew ?_ | refine below_drewN ?_ _ | exact B7)) hb8; clear hb8)
        | (go_at_call 19; have xx := B6; refine (HO1 _ (hT.below (by have hszw := (B6).size; repeat (with_reducible first | refine Below.setCell ?_ (by first | omega | (simp <;> omega)) _ | refine Below.alloc ?_ (by first | omega | (simp <;> omega)) _ | refine Below.drew ?_ | refine below_drewN ?_ _ | exact B6)))).out.mono ?_; rintro e w7 ⟨al, cl, rfl, Ml7, hb7, hf7⟩; have Vd7 : DyV w7 b0 bdd sd (.slice ad nd pd) ed := (by refine DyV.below ?_ hb7; (repeat (with_reducible first | refine DyV.drew ?_ | refine DyV.drewN ?_ _ | refine DyV.alloc ?_ _)); exact Vd6.out); (try clear dc0 dc1 dc2 dc3 dc4); obtain ⟨dc0, dc1, dc2, dc3, dc4, dc5⟩ := Vd7; have Vd7 := Lib.hid (DyV.mk dc0 dc1 dc2 dc3 dc4 dc5); have B7 := below_box (w := w) (by have hszw := (B6).size; repeat (with_reducible first | refine Below.setCell ?_ (by first | omega | (simp <;> omega)) _ | refine Below.alloc ?_ (by first | omega | (simp <;> omega)) _ | refine Below.drew ?_ | refine below_drewN ?_ _ | exact B6)) hb7; clear hb7 hf7)
        | fail)
  | fail "region"
  go_wp2_with fail
  first
  | go_region_held3 (fun w' => w'.cell? ⟨b0, 0, none⟩ = some (.bool bdd) ∧ w'.cell? ⟨b0, 1, none⟩ = some (.bool sd) ∧ w'.cell? ⟨b0, 2, none⟩ = some ((.slice ad nd pd)) ∧ w'.cell? ⟨b0, 3, none⟩ = some (.int .i64 ed)) (first | (go_keep; done) | (go_simp; done))
      (first
        | (go_at_call 18; have xx := B9; refine (HC2 _ ah ch (by repeat (with_reducible first | refine Mag.set ?_ (fun h => by have := Mh9 h; omega) _ _ | refine Mag.drew ?_ | refine Mag.alloc ?_ _ | refine Mag.drewN ?_ _ | refine Mag.below ?_ (Below.drew (Below.refl _ _)) | refine Mag.below ?_ ((Below.refl _ _).alloc (Nat.le_refl _) _) | exact Mh9)) (Gd.out.below (by have hszw := (B9).size; repeat (with_reducible first | refine Below.setCell ?_ (by first | omega | (simp <;> omega)) _ | refine Below.alloc ?_ (by first | omega | (simp <;> omega)) _ | refine Below.drew ?_ | refine below_drewN ?_ _ | exact B9))) (hT.below (by have hszw := (B9).size; repeat (with_reducible first | refine Below.setCell ?_ (by first | omega | (simp <;> omega)) _ | refine Below.alloc ?_ (by first | omega | (simp <;> omega)) _ | refine Below.drew ?_ | refine below_drewN ?_ _ | exact B9)))).out.mono ?_; rintro e w10 ⟨rfl, hb10⟩; have Vd10 : DyV w10 b0 bdd sd (.slice ad nd pd) ed := (by refine DyV.below ?_ hb10; (repeat (with_reducible first | refine DyV.drew ?_ | refine DyV.drewN ?_ _ | refine DyV.alloc ?_ _)); exact Vd9.out); (try clear dc0 dc1 dc2 dc3 dc4); obtain ⟨dc0, dc1, dc2, dc3, dc4, dc5⟩ := Vd10; have Vd10 := Lib.hid (DyV.mk dc0 dc1 dc2 dc3 dc4 dc5); have B10 := below_box (w := w) (by have hszw := (B9).size; repeat (with_reducible first | refine Below.setCell ?_ (by first | omega | (simp <;> omega)) _ | refine Below.alloc ?_ (by first | omega | (simp <;> omega)) _ | refine Below.drew ?_ | refine below_drewN ?_ _ | exact B9)) hb10; clear hb10)
        | (go_at_call 19; have xx := B8; refine (HO2 _ (hT.below (by have hszw := (B8).size; repeat (with_reducible first | refine Below.setCell ?_ (by first | omega | (simp <;> omega)) _ | refine Below.alloc ?_ (by first | omega | (simp <;> omega)) _ | refine Below.drew ?_ | refine below_drewN ?_ _ | exact B8)))).out.mono ?_; rintro e w9 ⟨ah, ch, rfl, Mh9, hb9, hf9⟩; have Vd9 : DyV w9 b0 bdd sd (.slice ad nd pd) ed := (by refine DyV.below ?_ hb9; (repeat (with_reducible first | refine DyV.drew ?_ | refine DyV.drewN ?_ _ | refine DyV.alloc ?_ _)); exact Vd8.out); (try clear dc0 dc1 dc2 dc3 dc4); obtain ⟨dc0, dc1, dc2, dc3, dc4, dc5⟩ := Vd9; have Vd9 := Lib.hid (DyV.mk dc0 dc1 dc2 dc3 dc4 dc5); have B9 := below_box (w := w) (by have hszw := (B8).size; repeat (with_reducible first | refine Below.setCell ?_ (by first | omega | (simp <;> omega)) _ | refine Below.alloc ?_ (by first | omega | (simp <;> omega)) _ | refine Below.drew ?_ | refine below_drewN ?_ _ | exact B8)) hb9; clear hb9 hf9)
        | fail)
  | fail "region"
  go_wp2_with fail
  refine (HW _ (hT.below (by have hszw := (B10).size; repeat (with_reducible first | refine Below.setCell ?_ (by first | omega | (simp <;> omega)) _ | refine Below.alloc ?_ (by first | omega | (simp <;> omega)) _ | refine Below.drew ?_ | refine below_drewN ?_ _ | exact B10)))).out.mono ?_
  rintro e w11 ⟨rfl, hb11⟩
  have Vd11 : DyV w11 b0 bdd sd (.slice ad nd pd) ed := (by refine DyV.below ?_ hb11; (repeat (with_reducible first | refine DyV.drew ?_ | refine DyV.drewN ?_ _ | refine DyV.alloc ?_ _)); exact Vd10.out)
  (try clear dc0 dc1 dc2 dc3 dc4)
  obtain ⟨dc0, dc1, dc2, dc3, dc4, dc5⟩ := Vd11
  have Vd11 := Lib.hid (DyV.mk dc0 dc1 dc2 dc3 dc4 dc5)
  have B11 := below_box (w := w) (by have hszw := (B10).size; repeat (with_reducible first | refine Below.setCell ?_ (by first | omega | (simp <;> omega)) _ | refine Below.alloc ?_ (by first | omega | (simp <;> omega)) _ | refine Below.drew ?_ | refine below_drewN ?_ _ | exact B10)) hb11
  clear hb11
  go_wp2_with fail
  go_ret
  exact ⟨rfl, (by have hszw := (B11).size; repeat (with_reducible first | refine Below.setCell ?_ (by first | omega | (simp <;> omega)) _ | refine Below.alloc ?_ (by first | omega | (simp <;> omega)) _ | refine Below.drew ?_ | refine below_drewN ?_ _ | exact B11))⟩

set_option maxRecDepth 100000 in
set_option maxHeartbeats 20000000 in
theorem encl_fnl (w : World) (hT : Tab w) (bdd sd : Bool) (ad : Option Addr) (nd pd : Nat) (ed : Int) (dd : Option (Int × Int)) (Hd : DyIs w bdd sd ad nd pd ed dd) (md : nd ≤ 9223372036854775807) (hsd : slim3B nd ed = true) (va : dbad dd = false) (sz : dman dd ≠ 0) (lo hi near : Nat) (f1 : fround dd 1 = lo) (f2 : fround dd 2 = hi) (f3 : fround dd 0 = near) (n1 : fnan lo = false) (n2 : fnan hi = false) (o1 : (!dbad (fof lo) && !dbad dd) = false) (o2 : (!dbad dd && !dbad (fof hi)) = true) (x2 : dcmp dd (fof hi) < 0) (i1 : lo = 18442240474082181120) (cz : fcmpv (fup lo) hi = 0) (e1 : near = lo) :
    Calls Tryz.prog 4 #[.agg #[.bool bdd, .bool sd, .slice ad nd pd, .int .i64 ed]] w fun o w' => o = .returned (.bool true) ∧ Below w.heap.size w w' := by
  have HSl := fun W => Lib.hid (slimDyad3_any W bdd sd ad nd pd ed md true hsd)
  have HW := fun W ht => Lib.hid (awakeF_any W ht)
  have Gd := Lib.hid Hd
  have HV := fun W (h : DyIs W bdd sd ad nd pd ed dd) ht => Lib.hid (rvalid_any W bdd sd ad nd pd ed dd h ht)
  rw [va] at HV
  have nv : (!false) = true := rfl
  rw [nv] at HV
  clear nv
  have HG := fun W (h : DyIs W bdd sd ad nd pd ed dd) ht => Lib.hid (rdsign_any W bdd sd ad nd pd ed dd h ht)
  have hsz : (sg (dman dd) == 0) = false := by unfold sg cmpI; split <;> (try split) <;> first | decide | (exfalso; omega)
  generalize sg (dman dd) = gs at *
  have Nd := Lib.hid Hd.1.isN
  have l1 : lo < 18446744073709551616 := f1 ▸ fround_lt _ _
  have l2 : hi < 18446744073709551616 := f2 ▸ fround_lt _ _
  have HR1 := fun W (h : DyIs W bdd sd ad nd pd ed dd) ht => Lib.hid (fround_any W bdd sd ad nd pd ed 1 dd h.1 ht)
  have HR2 := fun W (h : DyIs W bdd sd ad nd pd ed dd) ht => Lib.hid (fround_any W bdd sd ad nd pd ed 2 dd h.1 ht)
  have HR3 := fun W (h : DyIs W bdd sd ad nd pd ed dd) ht => Lib.hid (fround_any W bdd sd ad nd pd ed 0 dd h.1 ht)
  rw [f1] at HR1
  rw [f2] at HR2
  rw [f3] at HR3
  have HK1 := fun W => Lib.hid (fkind_any W lo)
  have HK2 := fun W => Lib.hid (fkind_any W hi)
  have hk1 : (fkind lo == 3) = false := by rw [(fkind_eqs lo).1]; exact n1
  have hk2 : (fkind hi == 3) = false := by rw [(fkind_eqs hi).1]; exact n2
  have HO1 := fun W ht => Lib.hid (fof_any W lo l1 ht)
  have HO2 := fun W ht => Lib.hid (fof_any W hi l2 ht)
  have N1 := Lib.hid (isN_fof lo)
  have N2 := Lib.hid (isN_fof hi)
  have g2 : decide (0 < dcmp dd (fof hi)) = false := by simp; omega
  have h2 : (dcmp dd (fof hi) == 0) = false := by rw [beq_eq_false_iff_ne]; omega
  have j1 : ((lo : Int) != 18442240474082181120) = false := by rw [i1]; rfl
  have HC1 := fun W (b : Option Addr) (q : Nat) (h : Mag W b (nl (dman (fof lo)).natAbs) q (dman (fof lo)).natAbs) (h' : DyIs W bdd sd ad nd pd ed dd) ht => Lib.hid (dcmp_any W _ _ _ _ _ _ _ _ _ _ _ _ _ _ (dyin_of N1.out h) h'.1 ht)
  have HC2 := fun W (b : Option Addr) (q : Nat) (h : Mag W b (nl (dman (fof hi)).natAbs) q (dman (fof hi)).natAbs) (h' : DyIs W bdd sd ad nd pd ed dd) ht => Lib.hid (dcmp_any W _ _ _ _ _ _ _ _ _ _ _ _ _ _ h'.1 (dyin_of N2.out h) ht)
  rw [o1] at HC1
  rw [o2] at HC2
  have HU := fun W => Lib.hid (fup_any W lo l1)
  have HC3 := fun W => Lib.hid (fcmp_any W (fup lo) hi (fup_lt l1) l2)
  rw [cz] at HC3
  generalize fcmpok (fup lo) hi = o3 at *
  generalize ((fup lo : Nat) : Int) = iu at *
  have y1 : ((near : Int) == (lo : Int)) = true := by rw [e1]; simp
  generalize dcmp (fof lo) dd = v1 at *
  generalize dcmp dd (fof hi) = v2 at *
  generalize fof lo = dl at *
  generalize fof hi = dh at *
  generalize fkind lo = kl at *
  generalize fkind hi = kh at *
  clear f1 f2 f3 n1 n2 hsd va sz Hd l1 l2 o1 o2 x2 i1 cz e1
  generalize (lo : Int) = jl at *
  generalize (hi : Int) = jh at *
  generalize (near : Int) = jn at *
  go_enter Tryz.func4, Tryz.ntmps4
  go_wp2_with fail
  have I0 := DyV.made w 26 bdd sd (.slice ad nd pd) ed
  have B0 : Below w.heap.size w (w.alloc (.cells #[.bool bdd, .bool sd, .slice ad nd pd, .int .i64 ed] 26)) := (by repeat (with_reducible first | refine Below.setCell ?_ (by simp <;> omega) _ | refine Below.alloc ?_ (by simp <;> omega) _ | refine Below.drew ?_ | refine below_drewN ?_ _ | exact Below.refl _ _))
  generalize (w.alloc (.cells #[.bool bdd, .bool sd, .slice ad nd pd, .int .i64 ed] 26)) = w0 at I0 B0 ⊢
  generalize hb0 : w.heap.size = b0 at I0 ⊢
  obtain ⟨dc0, dc1, dc2, dc3, dc4, dc5⟩ := I0
  have Vd0 := Lib.hid (DyV.mk dc0 dc1 dc2 dc3 dc4 dc5)
  refine (HSl _).out.mono ?_
  rintro e w1 ⟨rfl, hb1⟩
  have Vd1 : DyV w1 b0 bdd sd (.slice ad nd pd) ed := (by refine DyV.below ?_ hb1; (repeat (with_reducible first | refine DyV.drew ?_ | refine DyV.drewN ?_ _ | refine DyV.alloc ?_ _)); exact Vd0.out)
  (try clear dc0 dc1 dc2 dc3 dc4)
  obtain ⟨dc0, dc1, dc2, dc3, dc4, dc5⟩ := Vd1
  have Vd1 := Lib.hid (DyV.mk dc0 dc1 dc2 dc3 dc4 dc5)
  have B1 := below_box (w := w) (by have hszw := (B0).size; repeat (with_reducible first | refine Below.setCell ?_ (by first | omega | (simp <;> omega)) _ | refine Below.alloc ?_ (by first | omega | (simp <;> omega)) _ | refine Below.drew ?_ | refine below_drewN ?_ _ | exact B0)) hb1
  clear hb1
  go_wp2_with fail
  refine (HV _ (Gd.out.below (by have hszw := (B1).size; repeat (with_reducible first | refine Below.setCell ?_ (by first | omega | (simp <;> omega)) _ | refine Below.alloc ?_ (by first | omega | (simp <;> omega)) _ | refine Below.drew ?_ | refine below_drewN ?_ _ | exact B1))) (hT.below (by have hszw := (B1).size; repeat (with_reducible first | refine Below.setCell ?_ (by first | omega | (simp <;> omega)) _ | refine Below.alloc ?_ (by first | omega | (simp <;> omega)) _ | refine Below.drew ?_ | refine below_drewN ?_ _ | exact B1)))).out.mono ?_
  rintro e w2 ⟨rfl, hb2⟩
  have Vd2 : DyV w2 b0 bdd sd (.slice ad nd pd) ed := (by refine DyV.below ?_ hb2; (repeat (with_reducible first | refine DyV.drew ?_ | refine DyV.drewN ?_ _ | refine DyV.alloc ?_ _)); exact Vd1.out)
  (try clear dc0 dc1 dc2 dc3 dc4)
  obtain ⟨dc0, dc1, dc2, dc3, dc4, dc5⟩ := Vd2
  have Vd2 := Lib.hid (DyV.mk dc0 dc1 dc2 dc3 dc4 dc5)
  have B2 := below_box (w := w) (by have hszw := (B1).size; repeat (with_reducible first | refine Below.setCell ?_ (by first | omega | (simp <;> omega)) _ | refine Below.alloc ?_ (by first | omega | (simp <;> omega)) _ | refine Below.drew ?_ | refine below_drewN ?_ _ | exact B1)) hb2
  clear hb2
  go_wp2_with fail
  refine (HG _ (Gd.out.below (by have hszw := (B2).size; repeat (with_reducible first | refine Below.setCell ?_ (by first | omega | (simp <;> omega)) _ | refine Below.alloc ?_ (by first | omega | (simp <;> omega)) _ | refine Below.drew ?_ | refine below_drewN ?_ _ | exact B2))) (hT.below (by have hszw := (B2).size; repeat (with_reducible first | refine Below.setCell ?_ (by first | omega | (simp <;> omega)) _ | refine Below.alloc ?_ (by first | omega | (simp <;> omega)) _ | refine Below.drew ?_ | refine below_drewN ?_ _ | exact B2)))).out.mono ?_
  rintro e w3 ⟨rfl, hb3⟩
  have Vd3 : DyV w3 b0 bdd sd (.slice ad nd pd) ed := (by refine DyV.below ?_ hb3; (repeat (with_reducible first | refine DyV.drew ?_ | refine DyV.drewN ?_ _ | refine DyV.alloc ?_ _)); exact Vd2.out)
  (try clear dc0 dc1 dc2 dc3 dc4)
  obtain ⟨dc0, dc1, dc2, dc3, dc4, dc5⟩ := Vd3
  have Vd3 := Lib.hid (DyV.mk dc0 dc1 dc2 dc3 dc4 dc5)
  have B3 := below_box (w := w) (by have hszw := (B2).size; repeat (with_reducible first | refine Below.setCell ?_ (by first | omega | (simp <;> omega)) _ | refine Below.alloc ?_ (by first | omega | (simp <;> omega)) _ | refine Below.drew ?_ | refine below_drewN ?_ _ | exact B2)) hb3
  clear hb3
  go_wp2_with fail
  first
  | go_region_held3 (fun w' => w'.cell? ⟨b0, 0, none⟩ = some (.bool bdd) ∧ w'.cell? ⟨b0, 1, none⟩ = some (.bool sd) ∧ w'.cell? ⟨b0, 2, none⟩ = some ((.slice ad nd pd)) ∧ w'.cell? ⟨b0, 3, none⟩ = some (.int .i64 ed)) (first | (go_keep; done) | (go_simp; done))
      (first
        | (go_at_call 9; have xx := B5; refine (HR3 _ (Gd.out.below (by have hszw := (B5).size; repeat (with_reducible first | refine Below.setCell ?_ (by first | omega | (simp <;> omega)) _ | refine Below.alloc ?_ (by first | omega | (simp <;> omega)) _ | refine Below.drew ?_ | refine below_drewN ?_ _ | exact B5))) (hT.below (by have hszw := (B5).size; repeat (with_reducible first | refine Below.setCell ?_ (by first | omega | (simp <;> omega)) _ | refine Below.alloc ?_ (by first | omega | (simp <;> omega)) _ | refine Below.drew ?_ | refine below_drewN ?_ _ | exact B5)))).out.mono ?_; rintro e w6 ⟨rfl, hb6⟩; have Vd6 : DyV w6 b0 bdd sd (.slice ad nd pd) ed := (by refine DyV.below ?_ hb6; (repeat (with_reducible first | refine DyV.drew ?_ | refine DyV.drewN ?_ _ | refine DyV.alloc ?_ _)); exact Vd5.out); (try clear dc0 dc1 dc2 dc3 dc4); obtain ⟨dc0, dc1, dc2, dc3, dc4, dc5⟩ := Vd6; have Vd6 := Lib.hid (DyV.mk dc0 dc1 dc2 dc3 dc4 dc5); have B6 := below_box (w := w) (by have hszw := (B5).size; repeat (with_reducible first | refine Below.setCell ?_ (by first | omega | (simp <;> omega)) _ | refine Below.alloc ?_ (by first | omega | (simp <;> omega)) _ | refine Below.drew ?_ | refine below_drewN ?_ _ | exact B5)) hb6; clear hb6)
        | (go_at_call 9; have xx := B4; refine (HR2 _ (Gd.out.below (by have hszw := (B4).size; repeat (with_reducible first | refine Below.setCell ?_ (by first | omega | (simp <;> omega)) _ | refine Below.alloc ?_ (by first | omega | (simp <;> omega)) _ | refine Below.drew ?_ | refine below_drewN ?_ _ | exact B4))) (hT.below (by have hszw := (B4).size; repeat (with_reducible first | refine Below.setCell ?_ (by first | omega | (simp <;> omega)) _ | refine Below.alloc ?_ (by first | omega | (simp <;> omega)) _ | refine Below.drew ?_ | refine below_drewN ?_ _ | exact B4)))).out.mono ?_; rintro e w5 ⟨rfl, hb5⟩; have Vd5 : DyV w5 b0 bdd sd (.slice ad nd pd) ed := (by refine DyV.below ?_ hb5; (repeat (with_reducible first | refine DyV.drew ?_ | refine DyV.drewN ?_ _ | refine DyV.alloc ?_ _)); exact Vd4.out); (try clear dc0 dc1 dc2 dc3 dc4); obtain ⟨dc0, dc1, dc2, dc3, dc4, dc5⟩ := Vd5; have Vd5 := Lib.hid (DyV.mk dc0 dc1 dc2 dc3 dc4 dc5); have B5 := below_box (w := w) (by have hszw := (B4).size; repeat (with_reducible first | refine Below.setCell ?_ (by first | omega | (simp <;> omega)) _ | refine Below.alloc ?_ (by first | omega | (simp <;> omega)) _ | refine Below.drew ?_ | refine below_drewN ?_ _ | exact B4)) hb5; clear hb5)
        | (go_at_call 9; have xx := B3; refine (HR1 _ (Gd.out.below (by have hszw := (B3).size; repeat (with_reducible first | refine Below.setCell ?_ (by first | omega | (simp <;> omega)) _ | refine Below.alloc ?_ (by first | omega | (simp <;> omega)) _ | refine Below.drew ?_ | refine below_drewN ?_ _ | exact B3))) (hT.below (by have hszw := (B3).size; repeat (with_reducible first | refine Below.setCell ?_ (by first | omega | (simp <;> omega)) _ | refine Below.alloc ?_ (by first | omega | (simp <;> omega)) _ | refine Below.drew ?_ | refine below_drewN ?_ _ | exact B3)))).out.mono ?_; rintro e w4 ⟨rfl, hb4⟩; have Vd4 : DyV w4 b0 bdd sd (.slice ad nd pd) ed := (by refine DyV.below ?_ hb4; (repeat (with_reducible first | refine DyV.drew ?_ | refine DyV.drewN ?_ _ | refine DyV.alloc ?_ _)); exact Vd3.out); (try clear dc0 dc1 dc2 dc3 dc4); obtain ⟨dc0, dc1, dc2, dc3, dc4, dc5⟩ := Vd4; have Vd4 := Lib.hid (DyV.mk dc0 dc1 dc2 dc3 dc4 dc5); have B4 := below_box (w := w) (by have hszw := (B3).size; repeat (with_reducible first | refine Below.setCell ?_ (by first | omega | (simp <;> omega)) _ | refine Below.alloc ?_ (by first | omega | (simp <;> omega)) _ | refine Below.drew ?_ | refine below_drewN ?_ _ | exact B3)) hb4; clear hb4)
        | fail)
  | fail "region"
  go_wp2_with fail
  refine (HK1 _).out.mono ?_
  rintro e wq ⟨rfl, rfl⟩
  go_wp2_with fail
  refine (HK2 _).out.mono ?_
  rintro e wq ⟨rfl, rfl⟩
  go_wp2_with fail
  first
  | go_region_held3 (fun w' => w'.cell? ⟨b0, 0, none⟩ = some (.bool bdd) ∧ w'.cell? ⟨b0, 1, none⟩ = some (.bool sd) ∧ w'.cell? ⟨b0, 2, none⟩ = some ((.slice ad nd pd)) ∧ w'.cell? ⟨b0, 3, none⟩ = some (.int .i64 ed)) (first | (go_keep; done) | (go_simp; done))
      (first
        | (go_at_call 18; have xx := B7; refine (HC1 _ al cl (by repeat (with_reducible first | refine Mag.set ?_ (fun h => by have := Ml7 h; omega) _ _ | refine Mag.drew ?_ | refine Mag.alloc ?_ _ | refine Mag.drewN ?_ _ | refine Mag.below ?_ (Below.drew (Below.refl _ _)) | refine Mag.below ?_ ((Below.refl _ _).alloc (Nat.le_refl _) _) | exact Ml7)) (Gd.out.below (by have hszw := (B7).size; repeat (with_reducible first | refine Below.setCell ?_ (by first | omega | (simp <;> omega)) _ | refine Below.alloc ?_ (by first | omega | (simp <;> omega)) _ | refine Below.drew ?_ | refine below_drewN ?_ _ | exact B7))) (hT.below (by have hszw := (B7).size; repeat (with_reducible first | refine Below.setCell ?_ (by first | omega | (simp <;> omega)) _ | refine Below.alloc ?_ (by first | omega | (simp <;> omega)) _ | refine Below.drew ?_ | refine below_drewN ?_ _ | exact B7)))).out.mono ?_; rintro e w8 ⟨rfl, hb8⟩; have Vd8 : DyV w8 b0 bdd sd (.slice ad nd pd) ed := (by refine DyV.below ?_ hb8; (repeat (with_reducible first | refine DyV.drew ?_ | refine DyV.drewN ?_ _ | refine DyV.alloc ?_ _)); exact Vd7.out); (try clear dc0 dc1 dc2 dc3 dc4); obtain ⟨dc0, dc1, dc2, dc3, dc4, dc5⟩ := Vd8; have Vd8 := Lib.hid (DyV.mk dc0 dc1 dc2 dc3 dc4 dc5); have B8 := below_box (w := w) (by have hszw := (B7).size; repeat (with_reducible first | refine Below.setCell ?_ (by first | omega | (simp <;> omega)) _ | refine Below.alloc ?_ (by first | omega | (simp <;> omega)) _ | refine Below.drew ?_ | refine below_drewN ?_ _ | exact B7)) hb8; clear hb8)
        | (go_at_call 19; have xx := B6; refine (HO1 _ (hT.below (by have hszw := (B6).size; repeat (with_reducible first | refine Below.setCell ?_ (by first | omega | (simp <;> omega)) _ | refine Below.alloc ?_ (by first | omega | (simp <;> omega)) _ | refine Below.drew ?_ | refine below_drewN ?_ _ | exact B6)))).out.mono ?_; rintro e w7 ⟨al, cl, rfl, Ml7, hb7, hf7⟩; have Vd7 : DyV w7 b0 bdd sd (.slice ad nd pd) ed := (by refine DyV.below ?_ hb7; (repeat (with_reducible first | refine DyV.drew ?_ | refine DyV.drewN ?_ _ | refine DyV.alloc ?_ _)); exact Vd6.out); (try clear dc0 dc1 dc2 dc3 dc4); obtain ⟨dc0, dc1, dc2, dc3, dc4, dc5⟩ := Vd7; have Vd7 := Lib.hid (DyV.mk dc0 dc1 dc2 dc3 dc4 dc5); have B7 := below_box (w := w) (by have hszw := (B6).size; repeat (with_reducible first | refine Below.setCell ?_ (by first | omega | (simp <;> omega)) _ | refine Below.alloc ?_ (by first | omega | (simp <;> omega)) _ | refine Below.drew ?_ | refine below_drewN ?_ _ | exact B6)) hb7; clear hb7 hf7)
        | fail)
  | fail "region"
  go_wp2_with fail
  first
  | go_region_held3 (fun w' => w'.cell? ⟨b0, 0, none⟩ = some (.bool bdd) ∧ w'.cell? ⟨b0, 1, none⟩ = some (.bool sd) ∧ w'.cell? ⟨b0, 2, none⟩ = some ((.slice ad nd pd)) ∧ w'.cell? ⟨b0, 3, none⟩ = some (.int .i64 ed)) (first | (go_keep; done) | (go_simp; done))
      (first
        | (go_at_call 18; have xx := B9; refine (HC2 _ ah ch (by repeat (with_reducible first | refine Mag.set ?_ (fun h => by have := Mh9 h; omega) _ _ | refine Mag.drew ?_ | refine Mag.alloc ?_ _ | refine Mag.drewN ?_ _ | refine Mag.below ?_ (Below.drew (Below.refl _ _)) | refine Mag.below ?_ ((Below.refl _ _).alloc (Nat.le_refl _) _) | exact Mh9)) (Gd.out.below (by have hszw := (B9).size; repeat (with_reducible first | refine Below.setCell ?_ (by first | omega | (simp <;> omega)) _ | refine Below.alloc ?_ (by first | omega | (simp <;> omega)) _ | refine Below.drew ?_ | refine below_drewN ?_ _ | exact B9))) (hT.below (by have hszw := (B9).size; repeat (with_reducible first | refine Below.setCell ?_ (by first | omega | (simp <;> omega)) _ | refine Below.alloc ?_ (by first | omega | (simp <;> omega)) _ | refine Below.drew ?_ | refine below_drewN ?_ _ | exact B9)))).out.mono ?_; rintro e w10 ⟨rfl, hb10⟩; have Vd10 : DyV w10 b0 bdd sd (.slice ad nd pd) ed := (by refine DyV.below ?_ hb10; (repeat (with_reducible first | refine DyV.drew ?_ | refine DyV.drewN ?_ _ | refine DyV.alloc ?_ _)); exact Vd9.out); (try clear dc0 dc1 dc2 dc3 dc4); obtain ⟨dc0, dc1, dc2, dc3, dc4, dc5⟩ := Vd10; have Vd10 := Lib.hid (DyV.mk dc0 dc1 dc2 dc3 dc4 dc5); have B10 := below_box (w := w) (by have hszw := (B9).size; repeat (with_reducible first | refine Below.setCell ?_ (by first | omega | (simp <;> omega)) _ | refine Below.alloc ?_ (by first | omega | (simp <;> omega)) _ | refine Below.drew ?_ | refine below_drewN ?_ _ | exact B9)) hb10; clear hb10)
        | (go_at_call 19; have xx := B8; refine (HO2 _ (hT.below (by have hszw := (B8).size; repeat (with_reducible first | refine Below.setCell ?_ (by first | omega | (simp <;> omega)) _ | refine Below.alloc ?_ (by first | omega | (simp <;> omega)) _ | refine Below.drew ?_ | refine below_drewN ?_ _ | exact B8)))).out.mono ?_; rintro e w9 ⟨ah, ch, rfl, Mh9, hb9, hf9⟩; have Vd9 : DyV w9 b0 bdd sd (.slice ad nd pd) ed := (by refine DyV.below ?_ hb9; (repeat (with_reducible first | refine DyV.drew ?_ | refine DyV.drewN ?_ _ | refine DyV.alloc ?_ _)); exact Vd8.out); (try clear dc0 dc1 dc2 dc3 dc4); obtain ⟨dc0, dc1, dc2, dc3, dc4, dc5⟩ := Vd9; have Vd9 := Lib.hid (DyV.mk dc0 dc1 dc2 dc3 dc4 dc5); have B9 := below_box (w := w) (by have hszw := (B8).size; repeat (with_reducible first | refine Below.setCell ?_ (by first | omega | (simp <;> omega)) _ | refine Below.alloc ?_ (by first | omega | (simp <;> omega)) _ | refine Below.drew ?_ | refine below_drewN ?_ _ | exact B8)) hb9; clear hb9 hf9)
        | fail)
  | fail "region"
  go_wp2_with fail
  refine (HU _).out.mono ?_
  rintro e w11 ⟨rfl, hb11⟩
  have Vd11 : DyV w11 b0 bdd sd (.slice ad nd pd) ed := (by refine DyV.below ?_ hb11; (repeat (with_reducible first | refine DyV.drew ?_ | refine DyV.drewN ?_ _ | refine DyV.alloc ?_ _)); exact Vd10.out)
  (try clear dc0 dc1 dc2 dc3 dc4)
  obtain ⟨dc0, dc1, dc2, dc3, dc4, dc5⟩ := Vd11
  have Vd11 := Lib.hid (DyV.mk dc0 dc1 dc2 dc3 dc4 dc5)
  have B11 := below_box (w := w) (by have hszw := (B10).size; repeat (with_reducible first | refine Below.setCell ?_ (by first | omega | (simp <;> omega)) _ | refine Below.alloc ?_ (by first | omega | (simp <;> omega)) _ | refine Below.drew ?_ | refine below_drewN ?_ _ | exact B10)) hb11
  clear hb11
  go_wp2_with fail
  refine (HC3 _).out.mono ?_
  rintro e w12 ⟨rfl, hb12⟩
  have Vd12 : DyV w12 b0 bdd sd (.slice ad nd pd) ed := (by refine DyV.below ?_ hb12; (repeat (with_reducible first | refine DyV.drew ?_ | refine DyV.drewN ?_ _ | refine DyV.alloc ?_ _)); exact Vd11.out)
  (try clear dc0 dc1 dc2 dc3 dc4)
  obtain ⟨dc0, dc1, dc2, dc3, dc4, dc5⟩ := Vd12
  have Vd12 := Lib.hid (DyV.mk dc0 dc1 dc2 dc3 dc4 dc5)
  have B12 := below_box (w := w) (by have hszw := (B11).size; repeat (with_reducible first | refine Below.setCell ?_ (by first | omega | (simp <;> omega)) _ | refine Below.alloc ?_ (by first | omega | (simp <;> omega)) _ | refine Below.drew ?_ | refine below_drewN ?_ _ | exact B11)) hb12
  clear hb12
  go_wp2_with fail
  refine (HW _ (hT.below (by have hszw := (B12).size; repeat (with_reducible first | refine Below.setCell ?_ (by first | omega | (simp <;> omega)) _ | refine Below.alloc ?_ (by first | omega | (simp <;> omega)) _ | refine Below.drew ?_ | refine below_drewN ?_ _ | exact B12)))).out.mono ?_
  rintro e w13 ⟨rfl, hb13⟩
  have Vd13 : DyV w13 b0 bdd sd (.slice ad nd pd) ed := (by refine DyV.below ?_ hb13; (repeat (with_reducible first | refine DyV.drew ?_ | refine DyV.drewN ?_ _ | refine DyV.alloc ?_ _)); exact Vd12.out)
  (try clear dc0 dc1 dc2 dc3 dc4)
  obtain ⟨dc0, dc1, dc2, dc3, dc4, dc5⟩ := Vd13
  have Vd13 := Lib.hid (DyV.mk dc0 dc1 dc2 dc3 dc4 dc5)
  have B13 := below_box (w := w) (by have hszw := (B12).size; repeat (with_reducible first | refine Below.setCell ?_ (by first | omega | (simp <;> omega)) _ | refine Below.alloc ?_ (by first | omega | (simp <;> omega)) _ | refine Below.drew ?_ | refine below_drewN ?_ _ | exact B12)) hb13
  clear hb13
  go_wp2_with fail
  go_ret
  exact ⟨rfl, (by have hszw := (B13).size; repeat (with_reducible first | refine Below.setCell ?_ (by first | omega | (simp <;> omega)) _ | refine Below.alloc ?_ (by first | omega | (simp <;> omega)) _ | refine Below.drew ?_ | refine below_drewN ?_ _ | exact B13))⟩

set_option maxRecDepth 100000 in
set_option maxHeartbeats 20000000 in
theorem encl_fnh (w : World) (hT : Tab w) (bdd sd : Bool) (ad : Option Addr) (nd pd : Nat) (ed : Int) (dd : Option (Int × Int)) (Hd : DyIs w bdd sd ad nd pd ed dd) (md : nd ≤ 9223372036854775807) (hsd : slim3B nd ed = true) (va : dbad dd = false) (sz : dman dd ≠ 0) (lo hi near : Nat) (f1 : fround dd 1 = lo) (f2 : fround dd 2 = hi) (f3 : fround dd 0 = near) (n1 : fnan lo = false) (n2 : fnan hi = false) (o1 : (!dbad (fof lo) && !dbad dd) = false) (o2 : (!dbad dd && !dbad (fof hi)) = true) (x2 : dcmp dd (fof hi) < 0) (i1 : lo = 18442240474082181120) (cz : fcmpv (fup lo) hi = 0) (e1 : near ≠ lo) (e2 : near = hi) :
    Calls Tryz.prog 4 #[.agg #[.bool bdd, .bool sd, .slice ad nd pd, .int .i64 ed]] w fun o w' => o = .returned (.bool true) ∧ Below w.heap.size w w' := by
  have HSl := fun W => Lib.hid (slimDyad3_any W bdd sd ad nd pd ed md true hsd)
  have HW := fun W ht => Lib.hid (awakeF_any W ht)
  have Gd := Lib.hid Hd
  have HV := fun W (h : DyIs W bdd sd ad nd pd ed dd) ht => Lib.hid (rvalid_any W bdd sd ad nd pd ed dd h ht)
  rw [va] at HV
  have nv : (!false) = true := rfl
  rw [nv] at HV
  clear nv
  have HG := fun W (h : DyIs W bdd sd ad nd pd ed dd) ht => Lib.hid (rdsign_any W bdd sd ad nd pd ed dd h ht)
  have hsz : (sg (dman dd) == 0) = false := by unfold sg cmpI; split <;> (try split) <;> first | decide | (exfalso; omega)
  generalize sg (dman dd) = gs at *
  have Nd := Lib.hid Hd.1.isN
  have l1 : lo < 18446744073709551616 := f1 ▸ fround_lt _ _
  have l2 : hi < 18446744073709551616 := f2 ▸ fround_lt _ _
  have HR1 := fun W (h : DyIs W bdd sd ad nd pd ed dd) ht => Lib.hid (fround_any W bdd sd ad nd pd ed 1 dd h.1 ht)
  have HR2 := fun W (h : DyIs W bdd sd ad nd pd ed dd) ht => Lib.hid (fround_any W bdd sd ad nd pd ed 2 dd h.1 ht)
  have HR3 := fun W (h : DyIs W bdd sd ad nd pd ed dd) ht => Lib.hid (fround_any W bdd sd ad nd pd ed 0 dd h.1 ht)
  rw [f1] at HR1
  rw [f2] at HR2
  rw [f3] at HR3
  have HK1 := fun W => Lib.hid (fkind_any W lo)
  have HK2 := fun W => Lib.hid (fkind_any W hi)
  have hk1 : (fkind lo == 3) = false := by rw [(fkind_eqs lo).1]; exact n1
  have hk2 : (fkind hi == 3) = false := by rw [(fkind_eqs hi).1]; exact n2
  have HO1 := fun W ht => Lib.hid (fof_any W lo l1 ht)
  have HO2 := fun W ht => Lib.hid (fof_any W hi l2 ht)
  have N1 := Lib.hid (isN_fof lo)
  have N2 := Lib.hid (isN_fof hi)
  have g2 : decide (0 < dcmp dd (fof hi)) = false := by simp; omega
  have h2 : (dcmp dd (fof hi) == 0) = false := by rw [beq_eq_false_iff_ne]; omega
  have j1 : ((lo : Int) != 18442240474082181120) = false := by rw [i1]; rfl
  have HC1 := fun W (b : Option Addr) (q : Nat) (h : Mag W b (nl (dman (fof lo)).natAbs) q (dman (fof lo)).natAbs) (h' : DyIs W bdd sd ad nd pd ed dd) ht => Lib.hid (dcmp_any W _ _ _ _ _ _ _ _ _ _ _ _ _ _ (dyin_of N1.out h) h'.1 ht)
  have HC2 := fun W (b : Option Addr) (q : Nat) (h : Mag W b (nl (dman (fof hi)).natAbs) q (dman (fof hi)).natAbs) (h' : DyIs W bdd sd ad nd pd ed dd) ht => Lib.hid (dcmp_any W _ _ _ _ _ _ _ _ _ _ _ _ _ _ h'.1 (dyin_of N2.out h) ht)
  rw [o1] at HC1
  rw [o2] at HC2
  have HU := fun W => Lib.hid (fup_any W lo l1)
  have HC3 := fun W => Lib.hid (fcmp_any W (fup lo) hi (fup_lt l1) l2)
  rw [cz] at HC3
  generalize fcmpok (fup lo) hi = o3 at *
  generalize ((fup lo : Nat) : Int) = iu at *
  have y1 : ((near : Int) == (lo : Int)) = false := by rw [beq_eq_false_iff_ne]; omega
  have y2 : ((near : Int) == (hi : Int)) = true := by rw [e2]; simp
  generalize dcmp (fof lo) dd = v1 at *
  generalize dcmp dd (fof hi) = v2 at *
  generalize fof lo = dl at *
  generalize fof hi = dh at *
  generalize fkind lo = kl at *
  generalize fkind hi = kh at *
  clear f1 f2 f3 n1 n2 hsd va sz Hd l1 l2 o1 o2 x2 i1 cz e2 e1
  generalize (lo : Int) = jl at *
  generalize (hi : Int) = jh at *
  generalize (near : Int) = jn at *
  go_enter Tryz.func4, Tryz.ntmps4
  go_wp2_with fail
  have I0 := DyV.made w 26 bdd sd (.slice ad nd pd) ed
  have B0 : Below w.heap.size w (w.alloc (.cells #[.bool bdd, .bool sd, .slice ad nd pd, .int .i64 ed] 26)) := (by repeat (with_reducible first | refine Below.setCell ?_ (by simp <;> omega) _ | refine Below.alloc ?_ (by simp <;> omega) _ | refine Below.drew ?_ | refine below_drewN ?_ _ | exact Below.refl _ _))
  generalize (w.alloc (.cells #[.bool bdd, .bool sd, .slice ad nd pd, .int .i64 ed] 26)) = w0 at I0 B0 ⊢
  generalize hb0 : w.heap.size = b0 at I0 ⊢
  obtain ⟨dc0, dc1, dc2, dc3, dc4, dc5⟩ := I0
  have Vd0 := Lib.hid (DyV.mk dc0 dc1 dc2 dc3 dc4 dc5)
  refine (HSl _).out.mono ?_
  rintro e w1 ⟨rfl, hb1⟩
  have Vd1 : DyV w1 b0 bdd sd (.slice ad nd pd) ed := (by refine DyV.below ?_ hb1; (repeat (with_reducible first | refine DyV.drew ?_ | refine DyV.drewN ?_ _ | refine DyV.alloc ?_ _)); exact Vd0.out)
  (try clear dc0 dc1 dc2 dc3 dc4)
  obtain ⟨dc0, dc1, dc2, dc3, dc4, dc5⟩ := Vd1
  have Vd1 := Lib.hid (DyV.mk dc0 dc1 dc2 dc3 dc4 dc5)
  have B1 := below_box (w := w) (by have hszw := (B0).size; repeat (with_reducible first | refine Below.setCell ?_ (by first | omega | (simp <;> omega)) _ | refine Below.alloc ?_ (by first | omega | (simp <;> omega)) _ | refine Below.drew ?_ | refine below_drewN ?_ _ | exact B0)) hb1
  clear hb1
  go_wp2_with fail
  refine (HV _ (Gd.out.below (by have hszw := (B1).size; repeat (with_reducible first | refine Below.setCell ?_ (by first | omega | (simp <;> omega)) _ | refine Below.alloc ?_ (by first | omega | (simp <;> omega)) _ | refine Below.drew ?_ | refine below_drewN ?_ _ | exact B1))) (hT.below (by have hszw := (B1).size; repeat (with_reducible first | refine Below.setCell ?_ (by first | omega | (simp <;> omega)) _ | refine Below.alloc ?_ (by first | omega | (simp <;> omega)) _ | refine Below.drew ?_ | refine below_drewN ?_ _ | exact B1)))).out.mono ?_
  rintro e w2 ⟨rfl, hb2⟩
  have Vd2 : DyV w2 b0 bdd sd (.slice ad nd pd) ed := (by refine DyV.below ?_ hb2; (repeat (with_reducible first | refine DyV.drew ?_ | refine DyV.drewN ?_ _ | refine DyV.alloc ?_ _)); exact Vd1.out)
  (try clear dc0 dc1 dc2 dc3 dc4)
  obtain ⟨dc0, dc1, dc2, dc3, dc4, dc5⟩ := Vd2
  have Vd2 := Lib.hid (DyV.mk dc0 dc1 dc2 dc3 dc4 dc5)
  have B2 := below_box (w := w) (by have hszw := (B1).size; repeat (with_reducible first | refine Below.setCell ?_ (by first | omega | (simp <;> omega)) _ | refine Below.alloc ?_ (by first | omega | (simp <;> omega)) _ | refine Below.drew ?_ | refine below_drewN ?_ _ | exact B1)) hb2
  clear hb2
  go_wp2_with fail
  refine (HG _ (Gd.out.below (by have hszw := (B2).size; repeat (with_reducible first | refine Below.setCell ?_ (by first | omega | (simp <;> omega)) _ | refine Below.alloc ?_ (by first | omega | (simp <;> omega)) _ | refine Below.drew ?_ | refine below_drewN ?_ _ | exact B2))) (hT.below (by have hszw := (B2).size; repeat (with_reducible first | refine Below.setCell ?_ (by first | omega | (simp <;> omega)) _ | refine Below.alloc ?_ (by first | omega | (simp <;> omega)) _ | refine Below.drew ?_ | refine below_drewN ?_ _ | exact B2)))).out.mono ?_
  rintro e w3 ⟨rfl, hb3⟩
  have Vd3 : DyV w3 b0 bdd sd (.slice ad nd pd) ed := (by refine DyV.below ?_ hb3; (repeat (with_reducible first | refine DyV.drew ?_ | refine DyV.drewN ?_ _ | refine DyV.alloc ?_ _)); exact Vd2.out)
  (try clear dc0 dc1 dc2 dc3 dc4)
  obtain ⟨dc0, dc1, dc2, dc3, dc4, dc5⟩ := Vd3
  have Vd3 := Lib.hid (DyV.mk dc0 dc1 dc2 dc3 dc4 dc5)
  have B3 := below_box (w := w) (by have hszw := (B2).size; repeat (with_reducible first | refine Below.setCell ?_ (by first | omega | (simp <;> omega)) _ | refine Below.alloc ?_ (by first | omega | (simp <;> omega)) _ | refine Below.drew ?_ | refine below_drewN ?_ _ | exact B2)) hb3
  clear hb3
  go_wp2_with fail
  first
  | go_region_held3 (fun w' => w'.cell? ⟨b0, 0, none⟩ = some (.bool bdd) ∧ w'.cell? ⟨b0, 1, none⟩ = some (.bool sd) ∧ w'.cell? ⟨b0, 2, none⟩ = some ((.slice ad nd pd)) ∧ w'.cell? ⟨b0, 3, none⟩ = some (.int .i64 ed)) (first | (go_keep; done) | (go_simp; done))
      (first
        | (go_at_call 9; have xx := B5; refine (HR3 _ (Gd.out.below (by have hszw := (B5).size; repeat (with_reducible first | refine Below.setCell ?_ (by first | omega | (simp <;> omega)) _ | refine Below.alloc ?_ (by first | omega | (simp <;> omega)) _ | refine Below.drew ?_ | refine below_drewN ?_ _ | exact B5))) (hT.below (by have hszw := (B5).size; repeat (with_reducible first | refine Below.setCell ?_ (by first | omega | (simp <;> omega)) _ | refine Below.alloc ?_ (by first | omega | (simp <;> omega)) _ | refine Below.drew ?_ | refine below_drewN ?_ _ | exact B5)))).out.mono ?_; rintro e w6 ⟨rfl, hb6⟩; have Vd6 : DyV w6 b0 bdd sd (.slice ad nd pd) ed := (by refine DyV.below ?_ hb6; (repeat (with_reducible first | refine DyV.drew ?_ | refine DyV.drewN ?_ _ | refine DyV.alloc ?_ _)); exact Vd5.out); (try clear dc0 dc1 dc2 dc3 dc4); obtain ⟨dc0, dc1, dc2, dc3, dc4, dc5⟩ := Vd6; have Vd6 := Lib.hid (DyV.mk dc0 dc1 dc2 dc3 dc4 dc5); have B6 := below_box (w := w) (by have hszw := (B5).size; repeat (with_reducible first | refine Below.setCell ?_ (by first | omega | (simp <;> omega)) _ | refine Below.alloc ?_ (by first | omega | (simp <;> omega)) _ | refine Below.drew ?_ | refine below_drewN ?_ _ | exact B5)) hb6; clear hb6)
        | (go_at_call 9; have xx := B4; refine (HR2 _ (Gd.out.below (by have hszw := (B4).size; repeat (with_reducible first | refine Below.setCell ?_ (by first | omega | (simp <;> omega)) _ | refine Below.alloc ?_ (by first | omega | (simp <;> omega)) _ | refine Below.drew ?_ | refine below_drewN ?_ _ | exact B4))) (hT.below (by have hszw := (B4).size; repeat (with_reducible first | refine Below.setCell ?_ (by first | omega | (simp <;> omega)) _ | refine Below.alloc ?_ (by first | omega | (simp <;> omega)) _ | refine Below.drew ?_ | refine below_drewN ?_ _ | exact B4)))).out.mono ?_; rintro e w5 ⟨rfl, hb5⟩; have Vd5 : DyV w5 b0 bdd sd (.slice ad nd pd) ed := (by refine DyV.below ?_ hb5; (repeat (with_reducible first | refine DyV.drew ?_ | refine DyV.drewN ?_ _ | refine DyV.alloc ?_ _)); exact Vd4.out); (try clear dc0 dc1 dc2 dc3 dc4); obtain ⟨dc0, dc1, dc2, dc3, dc4, dc5⟩ := Vd5; have Vd5 := Lib.hid (DyV.mk dc0 dc1 dc2 dc3 dc4 dc5); have B5 := below_box (w := w) (by have hszw := (B4).size; repeat (with_reducible first | refine Below.setCell ?_ (by first | omega | (simp <;> omega)) _ | refine Below.alloc ?_ (by first | omega | (simp <;> omega)) _ | refine Below.drew ?_ | refine below_drewN ?_ _ | exact B4)) hb5; clear hb5)
        | (go_at_call 9; have xx := B3; refine (HR1 _ (Gd.out.below (by have hszw := (B3).size; repeat (with_reducible first | refine Below.setCell ?_ (by first | omega | (simp <;> omega)) _ | refine Below.alloc ?_ (by first | omega | (simp <;> omega)) _ | refine Below.drew ?_ | refine below_drewN ?_ _ | exact B3))) (hT.below (by have hszw := (B3).size; repeat (with_reducible first | refine Below.setCell ?_ (by first | omega | (simp <;> omega)) _ | refine Below.alloc ?_ (by first | omega | (simp <;> omega)) _ | refine Below.drew ?_ | refine below_drewN ?_ _ | exact B3)))).out.mono ?_; rintro e w4 ⟨rfl, hb4⟩; have Vd4 : DyV w4 b0 bdd sd (.slice ad nd pd) ed := (by refine DyV.below ?_ hb4; (repeat (with_reducible first | refine DyV.drew ?_ | refine DyV.drewN ?_ _ | refine DyV.alloc ?_ _)); exact Vd3.out); (try clear dc0 dc1 dc2 dc3 dc4); obtain ⟨dc0, dc1, dc2, dc3, dc4, dc5⟩ := Vd4; have Vd4 := Lib.hid (DyV.mk dc0 dc1 dc2 dc3 dc4 dc5); have B4 := below_box (w := w) (by have hszw := (B3).size; repeat (with_reducible first | refine Below.setCell ?_ (by first | omega | (simp <;> omega)) _ | refine Below.alloc ?_ (by first | omega | (simp <;> omega)) _ | refine Below.drew ?_ | refine below_drewN ?_ _ | exact B3)) hb4; clear hb4)
        | fail)
  | fail "region"
  go_wp2_with fail
  refine (HK1 _).out.mono ?_
  rintro e wq ⟨rfl, rfl⟩
  go_wp2_with fail
  refine (HK2 _).out.mono ?_
  rintro e wq ⟨rfl, rfl⟩
  go_wp2_with fail
  first
  | go_region_held3 (fun w' => w'.cell? ⟨b0, 0, none⟩ = some (.bool bdd) ∧ w'.cell? ⟨b0, 1, none⟩ = some (.bool sd) ∧ w'.cell? ⟨b0, 2, none⟩ = some ((.slice ad nd pd)) ∧ w'.cell? ⟨b0, 3, none⟩ = some (.int .i64 ed)) (first | (go_keep; done) | (go_simp; done))
      (first
        | (go_at_call 18; have xx := B7; refine (HC1 _ al cl (by repeat (with_reducible first | refine Mag.set ?_ (fun h => by have := Ml7 h; omega) _ _ | refine Mag.drew ?_ | refine Mag.alloc ?_ _ | refine Mag.drewN ?_ _ | refine Mag.below ?_ (Below.drew (Below.refl _ _)) | refine Mag.below ?_ ((Below.refl _ _).alloc (Nat.le_refl _) _) | exact Ml7)) (Gd.out.below (by have hszw := (B7).size; repeat (with_reducible first | refine Below.setCell ?_ (by first | omega | (simp <;> omega)) _ | refine Below.alloc ?_ (by first | omega | (simp <;> omega)) _ | refine Below.drew ?_ | refine below_drewN ?_ _ | exact B7))) (hT.below (by have hszw := (B7).size; repeat (with_reducible first | refine Below.setCell ?_ (by first | omega | (simp <;> omega)) _ | refine Below.alloc ?_ (by first | omega | (simp <;> omega)) _ | refine Below.drew ?_ | refine below_drewN ?_ _ | exact B7)))).out.mono ?_; rintro e w8 ⟨rfl, hb8⟩; have Vd8 : DyV w8 b0 bdd sd (.slice ad nd pd) ed := (by refine DyV.below ?_ hb8; (repeat (with_reducible first | refine DyV.drew ?_ | refine DyV.drewN ?_ _ | refine DyV.alloc ?_ _)); exact Vd7.out); (try clear dc0 dc1 dc2 dc3 dc4); obtain ⟨dc0, dc1, dc2, dc3, dc4, dc5⟩ := Vd8; have Vd8 := Lib.hid (DyV.mk dc0 dc1 dc2 dc3 dc4 dc5); have B8 := below_box (w := w) (by have hszw := (B7).size; repeat (with_reducible first | refine Below.setCell ?_ (by first | omega | (simp <;> omega)) _ | refine Below.alloc ?_ (by first | omega | (simp <;> omega)) _ | refine Below.drew ?_ | refine below_drewN ?_ _ | exact B7)) hb8; clear hb8)
        | (go_at_call 19; have xx := B6; refine (HO1 _ (hT.below (by have hszw := (B6).size; repeat (with_reducible first | refine Below.setCell ?_ (by first | omega | (simp <;> omega)) _ | refine Below.alloc ?_ (by first | omega | (simp <;> omega)) _ | refine Below.drew ?_ | refine below_drewN ?_ _ | exact B6)))).out.mono ?_; rintro e w7 ⟨al, cl, rfl, Ml7, hb7, hf7⟩; have Vd7 : DyV w7 b0 bdd sd (.slice ad nd pd) ed := (by refine DyV.below ?_ hb7; (repeat (with_reducible first | refine DyV.drew ?_ | refine DyV.drewN ?_ _ | refine DyV.alloc ?_ _)); exact Vd6.out); (try clear dc0 dc1 dc2 dc3 dc4); obtain ⟨dc0, dc1, dc2, dc3, dc4, dc5⟩ := Vd7; have Vd7 := Lib.hid (DyV.mk dc0 dc1 dc2 dc3 dc4 dc5); have B7 := below_box (w := w) (by have hszw := (B6).size; repeat (with_reducible first | refine Below.setCell ?_ (by first | omega | (simp <;> omega)) _ | refine Below.alloc ?_ (by first | omega | (simp <;> omega)) _ | refine Below.drew ?_ | refine below_drewN ?_ _ | exact B6)) hb7; clear hb7 hf7)
        | fail)
  | fail "region"
  go_wp2_with fail
  first
  | go_region_held3 (fun w' => w'.cell? ⟨b0, 0, none⟩ = some (.bool bdd) ∧ w'.cell? ⟨b0, 1, none⟩ = some (.bool sd) ∧ w'.cell? ⟨b0, 2, none⟩ = some ((.slice ad nd pd)) ∧ w'.cell? ⟨b0, 3, none⟩ = some (.int .i64 ed)) (first | (go_keep; done) | (go_simp; done))
      (first
        | (go_at_call 18; have xx := B9; refine (HC2 _ ah ch (by repeat (with_reducible first | refine Mag.set ?_ (fun h => by have := Mh9 h; omega) _ _ | refine Mag.drew ?_ | refine Mag.alloc ?_ _ | refine Mag.drewN ?_ _ | refine Mag.below ?_ (Below.drew (Below.refl _ _)) | refine Mag.below ?_ ((Below.refl _ _).alloc (Nat.le_refl _) _) | exact Mh9)) (Gd.out.below (by have hszw := (B9).size; repeat (with_reducible first | refine Below.setCell ?_ (by first | omega | (simp <;> omega)) _ | refine Below.alloc ?_ (by first | omega | (simp <;> omega)) _ | refine Below.drew ?_ | refine below_drewN ?_ _ | exact B9))) (hT.below (by have hszw := (B9).size; repeat (with_reducible first | refine Below.setCell ?_ (by first | omega | (simp <;> omega)) _ | refine Below.alloc ?_ (by first | omega | (simp <;> omega)) _ | refine Below.drew ?_ | refine below_drewN ?_ _ | exact B9)))).out.mono ?_; rintro e w10 ⟨rfl, hb10⟩; have Vd10 : DyV w10 b0 bdd sd (.slice ad nd pd) ed := (by refine DyV.below ?_ hb10; (repeat (with_reducible first | refine DyV.drew ?_ | refine DyV.drewN ?_ _ | refine DyV.alloc ?_ _)); exact Vd9.out); (try clear dc0 dc1 dc2 dc3 dc4); obtain ⟨dc0, dc1, dc2, dc3, dc4, dc5⟩ := Vd10; have Vd10 := Lib.hid (DyV.mk dc0 dc1 dc2 dc3 dc4 dc5); have B10 := below_box (w := w) (by have hszw := (B9).size; repeat (with_reducible first | refine Below.setCell ?_ (by first | omega | (simp <;> omega)) _ | refine Below.alloc ?_ (by first | omega | (simp <;> omega)) _ | refine Below.drew ?_ | refine below_drewN ?_ _ | exact B9)) hb10; clear hb10)
        | (go_at_call 19; have xx := B8; refine (HO2 _ (hT.below (by have hszw := (B8).size; repeat (with_reducible first | refine Below.setCell ?_ (by first | omega | (simp <;> omega)) _ | refine Below.alloc ?_ (by first | omega | (simp <;> omega)) _ | refine Below.drew ?_ | refine below_drewN ?_ _ | exact B8)))).out.mono ?_; rintro e w9 ⟨ah, ch, rfl, Mh9, hb9, hf9⟩; have Vd9 : DyV w9 b0 bdd sd (.slice ad nd pd) ed := (by refine DyV.below ?_ hb9; (repeat (with_reducible first | refine DyV.drew ?_ | refine DyV.drewN ?_ _ | refine DyV.alloc ?_ _)); exact Vd8.out); (try clear dc0 dc1 dc2 dc3 dc4); obtain ⟨dc0, dc1, dc2, dc3, dc4, dc5⟩ := Vd9; have Vd9 := Lib.hid (DyV.mk dc0 dc1 dc2 dc3 dc4 dc5); have B9 := below_box (w := w) (by have hszw := (B8).size; repeat (with_reducible first | refine Below.setCell ?_ (by first | omega | (simp <;> omega)) _ | refine Below.alloc ?_ (by first | omega | (simp <;> omega)) _ | refine Below.drew ?_ | refine below_drewN ?_ _ | exact B8)) hb9; clear hb9 hf9)
        | fail)
  | fail "region"
  go_wp2_with fail
  refine (HU _).out.mono ?_
  rintro e w11 ⟨rfl, hb11⟩
  have Vd11 : DyV w11 b0 bdd sd (.slice ad nd pd) ed := (by refine DyV.below ?_ hb11; (repeat (with_reducible first | refine DyV.drew ?_ | refine DyV.drewN ?_ _ | refine DyV.alloc ?_ _)); exact Vd10.out)
  (try clear dc0 dc1 dc2 dc3 dc4)
  obtain ⟨dc0, dc1, dc2, dc3, dc4, dc5⟩ := Vd11
  have Vd11 := Lib.hid (DyV.mk dc0 dc1 dc2 dc3 dc4 dc5)
  have B11 := below_box (w := w) (by have hszw := (B10).size; repeat (with_reducible first | refine Below.setCell ?_ (by first | omega | (simp <;> omega)) _ | refine Below.alloc ?_ (by first | omega | (simp <;> omega)) _ | refine Below.drew ?_ | refine below_drewN ?_ _ | exact B10)) hb11
  clear hb11
  go_wp2_with fail
  refine (HC3 _).out.mono ?_
  rintro e w12 ⟨rfl, hb12⟩
  have Vd12 : DyV w12 b0 bdd sd (.slice ad nd pd) ed := (by refine DyV.below ?_ hb12; (repeat (with_reducible first | refine DyV.drew ?_ | refine DyV.drewN ?_ _ | refine DyV.alloc ?_ _)); exact Vd11.out)
  (try clear dc0 dc1 dc2 dc3 dc4)
  obtain ⟨dc0, dc1, dc2, dc3, dc4, dc5⟩ := Vd12
  have Vd12 := Lib.hid (DyV.mk dc0 dc1 dc2 dc3 dc4 dc5)
  have B12 := below_box (w := w) (by have hszw := (B11).size; repeat (with_reducible first | refine Below.setCell ?_ (by first | omega | (simp <;> omega)) _ | refine Below.alloc ?_ (by first | omega | (simp <;> omega)) _ | refine Below.drew ?_ | refine below_drewN ?_ _ | exact B11)) hb12
  clear hb12
  go_wp2_with fail
  refine (HW _ (hT.below (by have hszw := (B12).size; repeat (with_reducible first | refine Below.setCell ?_ (by first | omega | (simp <;> omega)) _ | refine Below.alloc ?_ (by first | omega | (simp <;> omega)) _ | refine Below.drew ?_ | refine below_drewN ?_ _ | exact B12)))).out.mono ?_
  rintro e w13 ⟨rfl, hb13⟩
  have Vd13 : DyV w13 b0 bdd sd (.slice ad nd pd) ed := (by refine DyV.below ?_ hb13; (repeat (with_reducible first | refine DyV.drew ?_ | refine DyV.drewN ?_ _ | refine DyV.alloc ?_ _)); exact Vd12.out)
  (try clear dc0 dc1 dc2 dc3 dc4)
  obtain ⟨dc0, dc1, dc2, dc3, dc4, dc5⟩ := Vd13
  have Vd13 := Lib.hid (DyV.mk dc0 dc1 dc2 dc3 dc4 dc5)
  have B13 := below_box (w := w) (by have hszw := (B12).size; repeat (with_reducible first | refine Below.setCell ?_ (by first | omega | (simp <;> omega)) _ | refine Below.alloc ?_ (by first | omega | (simp <;> omega)) _ | refine Below.drew ?_ | refine below_drewN ?_ _ | exact B12)) hb13
  clear hb13
  go_wp2_with fail
  go_ret
  exact ⟨rfl, (by have hszw := (B13).size; repeat (with_reducible first | refine Below.setCell ?_ (by first | omega | (simp <;> omega)) _ | refine Below.alloc ?_ (by first | omega | (simp <;> omega)) _ | refine Below.drew ?_ | refine below_drewN ?_ _ | exact B13))⟩

set_option maxRecDepth 100000 in
set_option maxHeartbeats 20000000 in
theorem encl_ffl (w : World) (hT : Tab w) (bdd sd : Bool) (ad : Option Addr) (nd pd : Nat) (ed : Int) (dd : Option (Int × Int)) (Hd : DyIs w bdd sd ad nd pd ed dd) (md : nd ≤ 9223372036854775807) (hsd : slim3B nd ed = true) (va : dbad dd = false) (sz : dman dd ≠ 0) (lo hi near : Nat) (f1 : fround dd 1 = lo) (f2 : fround dd 2 = hi) (f3 : fround dd 0 = near) (n1 : fnan lo = false) (n2 : fnan hi = false) (o1 : (!dbad (fof lo) && !dbad dd) = false) (o2 : (!dbad dd && !dbad (fof hi)) = false) (i1 : lo = 18442240474082181120) (i2 : hi = 9218868437227405312) (cz : fcmpv (fup lo) hi = 0) (e1 : near = lo) :
    Calls Tryz.prog 4 #[.agg #[.bool bdd, .bool sd, .slice ad nd pd, .int .i64 ed]] w fun o w' => o = .returned (.bool true) ∧ Below w.heap.size w w' := by
  have HSl := fun W => Lib.hid (slimDyad3_any W bdd sd ad nd pd ed md true hsd)
  have HW := fun W ht => Lib.hid (awakeF_any W ht)
  have Gd := Lib.hid Hd
  have HV := fun W (h : DyIs W bdd sd ad nd pd ed dd) ht => Lib.hid (rvalid_any W bdd sd ad nd pd ed dd h ht)
  rw [va] at HV
  have nv : (!false) = true := rfl
  rw [nv] at HV
  clear nv
  have HG := fun W (h : DyIs W bdd sd ad nd pd ed dd) ht => Lib.hid (rdsign_any W bdd sd ad nd pd ed dd h ht)
  have hsz : (sg (dman dd) == 0) = false := by unfold sg cmpI; split <;> (try split) <;> first | decide | (exfalso; omega)
  generalize sg (dman dd) = gs at *
  have Nd := Lib.hid Hd.1.isN
  have l1 : lo < 18446744073709551616 := f1 ▸ fround_lt _ _
  have l2 : hi < 18446744073709551616 := f2 ▸ fround_lt _ _
  have HR1 := fun W (h : DyIs W bdd sd ad nd pd ed dd) ht => Lib.hid (fround_any W bdd sd ad nd pd ed 1 dd h.1 ht)
  have HR2 := fun W (h : DyIs W bdd sd ad nd pd ed dd) ht => Lib.hid (fround_any W bdd sd ad nd pd ed 2 dd h.1 ht)
  have HR3 := fun W (h : DyIs W bdd sd ad nd pd ed dd) ht => Lib.hid (fround_any W bdd sd ad nd pd ed 0 dd h.1 ht)
  rw [f1] at HR1
  rw [f2] at HR2
  rw [f3] at HR3
  have HK1 := fun W => Lib.hid (fkind_any W lo)
  have HK2 := fun W => Lib.hid (fkind_any W hi)
  have hk1 : (fkind lo == 3) = false := by rw [(fkind_eqs lo).1]; exact n1
  have hk2 : (fkind hi == 3) = false := by rw [(fkind_eqs hi).1]; exact n2
  have HO1 := fun W ht => Lib.hid (fof_any W lo l1 ht)
  have HO2 := fun W ht => Lib.hid (fof_any W hi l2 ht)
  have N1 := Lib.hid (isN_fof lo)
  have N2 := Lib.hid (isN_fof hi)
  have j1 : ((lo : Int) != 18442240474082181120) = false := by rw [i1]; rfl
  have j2 : ((hi : Int) != 9218868437227405312) = false := by rw [i2]; rfl
  have HC1 := fun W (b : Option Addr) (q : Nat) (h : Mag W b (nl (dman (fof lo)).natAbs) q (dman (fof lo)).natAbs) (h' : DyIs W bdd sd ad nd pd ed dd) ht => Lib.hid (dcmp_any W _ _ _ _ _ _ _ _ _ _ _ _ _ _ (dyin_of N1.out h) h'.1 ht)
  have HC2 := fun W (b : Option Addr) (q : Nat) (h : Mag W b (nl (dman (fof hi)).natAbs) q (dman (fof hi)).natAbs) (h' : DyIs W bdd sd ad nd pd ed dd) ht => Lib.hid (dcmp_any W _ _ _ _ _ _ _ _ _ _ _ _ _ _ h'.1 (dyin_of N2.out h) ht)
  rw [o1] at HC1
  rw [o2] at HC2
  have HU := fun W => Lib.hid (fup_any W lo l1)
  have HC3 := fun W => Lib.hid (fcmp_any W (fup lo) hi (fup_lt l1) l2)
  rw [cz] at HC3
  generalize fcmpok (fup lo) hi = o3 at *
  generalize ((fup lo : Nat) : Int) = iu at *
  have y1 : ((near : Int) == (lo : Int)) = true := by rw [e1]; simp
  generalize dcmp (fof lo) dd = v1 at *
  generalize dcmp dd (fof hi) = v2 at *
  generalize fof lo = dl at *
  generalize fof hi = dh at *
  generalize fkind lo = kl at *
  generalize fkind hi = kh at *
  clear f1 f2 f3 n1 n2 hsd va sz Hd l1 l2 o1 o2 i1 i2 cz e1
  generalize (lo : Int) = jl at *
  generalize (hi : Int) = jh at *
  generalize (near : Int) = jn at *
  go_enter Tryz.func4, Tryz.ntmps4
  go_wp2_with fail
  have I0 := DyV.made w 26 bdd sd (.slice ad nd pd) ed
  have B0 : Below w.heap.size w (w.alloc (.cells #[.bool bdd, .bool sd, .slice ad nd pd, .int .i64 ed] 26)) := (by repeat (with_reducible first | refine Below.setCell ?_ (by simp <;> omega) _ | refine Below.alloc ?_ (by simp <;> omega) _ | refine Below.drew ?_ | refine below_drewN ?_ _ | exact Below.refl _ _))
  generalize (w.alloc (.cells #[.bool bdd, .bool sd, .slice ad nd pd, .int .i64 ed] 26)) = w0 at I0 B0 ⊢
  generalize hb0 : w.heap.size = b0 at I0 ⊢
  obtain ⟨dc0, dc1, dc2, dc3, dc4, dc5⟩ := I0
  have Vd0 := Lib.hid (DyV.mk dc0 dc1 dc2 dc3 dc4 dc5)
  refine (HSl _).out.mono ?_
  rintro e w1 ⟨rfl, hb1⟩
  have Vd1 : DyV w1 b0 bdd sd (.slice ad nd pd) ed := (by refine DyV.below ?_ hb1; (repeat (with_reducible first | refine DyV.drew ?_ | refine DyV.drewN ?_ _ | refine DyV.alloc ?_ _)); exact Vd0.out)
  (try clear dc0 dc1 dc2 dc3 dc4)
  obtain ⟨dc0, dc1, dc2, dc3, dc4, dc5⟩ := Vd1
  have Vd1 := Lib.hid (DyV.mk dc0 dc1 dc2 dc3 dc4 dc5)
  have B1 := below_box (w := w) (by have hszw := (B0).size; repeat (with_reducible first | refine Below.setCell ?_ (by first | omega | (simp <;> omega)) _ | refine Below.alloc ?_ (by first | omega | (simp <;> omega)) _ | refine Below.drew ?_ | refine below_drewN ?_ _ | exact B0)) hb1
  clear hb1
  go_wp2_with fail
  refine (HV _ (Gd.out.below (by have hszw := (B1).size; repeat (with_reducible first | refine Below.setCell ?_ (by first | omega | (simp <;> omega)) _ | refine Below.alloc ?_ (by first | omega | (simp <;> omega)) _ | refine Below.drew ?_ | refine below_drewN ?_ _ | exact B1))) (hT.below (by have hszw := (B1).size; repeat (with_reducible first | refine Below.setCell ?_ (by first | omega | (simp <;> omega)) _ | refine Below.alloc ?_ (by first | omega | (simp <;> omega)) _ | refine Below.drew ?_ | refine below_drewN ?_ _ | exact B1)))).out.mono ?_
  rintro e w2 ⟨rfl, hb2⟩
  have Vd2 : DyV w2 b0 bdd sd (.slice ad nd pd) ed := (by refine DyV.below ?_ hb2; (repeat (with_reducible first | refine DyV.drew ?_ | refine DyV.drewN ?_ _ | refine DyV.alloc ?_ _)); exact Vd1.out)
  (try clear dc0 dc1 dc2 dc3 dc4)
  obtain ⟨dc0, dc1, dc2, dc3, dc4, dc5⟩ := Vd2
  have Vd2 := Lib.hid (DyV.mk dc0 dc1 dc2 dc3 dc4 dc5)
  have B2 := below_box (w := w) (by have hszw := (B1).size; repeat (with_reducible first | refine Below.setCell ?_ (by first | omega | (simp <;> omega)) _ | refine Below.alloc ?_ (by first | omega | (simp <;> omega)) _ | refine Below.drew ?_ | refine below_drewN ?_ _ | exact B1)) hb2
  clear hb2
  go_wp2_with fail
  refine (HG _ (Gd.out.below (by have hszw := (B2).size; repeat (with_reducible first | refine Below.setCell ?_ (by first | omega | (simp <;> omega)) _ | refine Below.alloc ?_ (by first | omega | (simp <;> omega)) _ | refine Below.drew ?_ | refine below_drewN ?_ _ | exact B2))) (hT.below (by have hszw := (B2).size; repeat (with_reducible first | refine Below.setCell ?_ (by first | omega | (simp <;> omega)) _ | refine Below.alloc ?_ (by first | omega | (simp <;> omega)) _ | refine Below.drew ?_ | refine below_drewN ?_ _ | exact B2)))).out.mono ?_
  rintro e w3 ⟨rfl, hb3⟩
  have Vd3 : DyV w3 b0 bdd sd (.slice ad nd pd) ed := (by refine DyV.below ?_ hb3; (repeat (with_reducible first | refine DyV.drew ?_ | refine DyV.drewN ?_ _ | refine DyV.alloc ?_ _)); exact Vd2.out)
  (try clear dc0 dc1 dc2 dc3 dc4)
  obtain ⟨dc0, dc1, dc2, dc3, dc4, dc5⟩ := Vd3
  have Vd3 := Lib.hid (DyV.mk dc0 dc1 dc2 dc3 dc4 dc5)
  have B3 := below_box (w := w) (by have hszw := (B2).size; repeat (with_reducible first | refine Below.setCell ?_ (by first | omega | (simp <;> omega)) _ | refine Below.alloc ?_ (by first | omega | (simp <;> omega)) _ | refine Below.drew ?_ | refine below_drewN ?_ _ | exact B2)) hb3
  clear hb3
  go_wp2_with fail
  first
  | go_region_held3 (fun w' => w'.cell? ⟨b0, 0, none⟩ = some (.bool bdd) ∧ w'.cell? ⟨b0, 1, none⟩ = some (.bool sd) ∧ w'.cell? ⟨b0, 2, none⟩ = some ((.slice ad nd pd)) ∧ w'.cell? ⟨b0, 3, none⟩ = some (.int .i64 ed)) (first | (go_keep; done) | (go_simp; done))
      (first
        | (go_at_call 9; have xx := B5; refine (HR3 _ (Gd.out.below (by have hszw := (B5).size; repeat (with_reducible first | refine Below.setCell ?_ (by first | omega | (simp <;> omega)) _ | refine Below.alloc ?_ (by first | omega | (simp <;> omega)) _ | refine Below.drew ?_ | refine below_drewN ?_ _ | exact B5))) (hT.below (by have hszw := (B5).size; repeat (with_reducible first | refine Below.setCell ?_ (by first | omega | (simp <;> omega)) _ | refine Below.alloc ?_ (by first | omega | (simp <;> omega)) _ | refine Below.drew ?_ | refine below_drewN ?_ _ | exact B5)))).out.mono ?_; rintro e w6 ⟨rfl, hb6⟩; have Vd6 : DyV w6 b0 bdd sd (.slice ad nd pd) ed := (by refine DyV.below ?_ hb6; (repeat (with_reducible first | refine DyV.drew ?_ | refine DyV.drewN ?_ _ | refine DyV.alloc ?_ _)); exact Vd5.out); (try clear dc0 dc1 dc2 dc3 dc4); obtain ⟨dc0, dc1, dc2, dc3, dc4, dc5⟩ := Vd6; have Vd6 := Lib.hid (DyV.mk dc0 dc1 dc2 dc3 dc4 dc5); have B6 := below_box (w := w) (by have hszw := (B5).size; repeat (with_reducible first | refine Below.setCell ?_ (by first | omega | (simp <;> omega)) _ | refine Below.alloc ?_ (by first | omega | (simp <;> omega)) _ | refine Below.drew ?_ | refine below_drewN ?_ _ | exact B5)) hb6; clear hb6)
        | (go_at_call 9; have xx := B4; refine (HR2 _ (Gd.out.below (by have hszw := (B4).size; repeat (with_reducible first | refine Below.setCell ?_ (by first | omega | (simp <;> omega)) _ | refine Below.alloc ?_ (by first | omega | (simp <;> omega)) _ | refine Below.drew ?_ | refine below_drewN ?_ _ | exact B4))) (hT.below (by have hszw := (B4).size; repeat (with_reducible first | refine Below.setCell ?_ (by first | omega | (simp <;> omega)) _ | refine Below.alloc ?_ (by first | omega | (simp <;> omega)) _ | refine Below.drew ?_ | refine below_drewN ?_ _ | exact B4)))).out.mono ?_; rintro e w5 ⟨rfl, hb5⟩; have Vd5 : DyV w5 b0 bdd sd (.slice ad nd pd) ed := (by refine DyV.below ?_ hb5; (repeat (with_reducible first | refine DyV.drew ?_ | refine DyV.drewN ?_ _ | refine DyV.alloc ?_ _)); exact Vd4.out); (try clear dc0 dc1 dc2 dc3 dc4); obtain ⟨dc0, dc1, dc2, dc3, dc4, dc5⟩ := Vd5; have Vd5 := Lib.hid (DyV.mk dc0 dc1 dc2 dc3 dc4 dc5); have B5 := below_box (w := w) (by have hszw := (B4).size; repeat (with_reducible first | refine Below.setCell ?_ (by first | omega | (simp <;> omega)) _ | refine Below.alloc ?_ (by first | omega | (simp <;> omega)) _ | refine Below.drew ?_ | refine below_drewN ?_ _ | exact B4)) hb5; clear hb5)
        | (go_at_call 9; have xx := B3; refine (HR1 _ (Gd.out.below (by have hszw := (B3).size; repeat (with_reducible first | refine Below.setCell ?_ (by first | omega | (simp <;> omega)) _ | refine Below.alloc ?_ (by first | omega | (simp <;> omega)) _ | refine Below.drew ?_ | refine below_drewN ?_ _ | exact B3))) (hT.below (by have hszw := (B3).size; repeat (with_reducible first | refine Below.setCell ?_ (by first | omega | (simp <;> omega)) _ | refine Below.alloc ?_ (by first | omega | (simp <;> omega)) _ | refine Below.drew ?_ | refine below_drewN ?_ _ | exact B3)))).out.mono ?_; rintro e w4 ⟨rfl, hb4⟩; have Vd4 : DyV w4 b0 bdd sd (.slice ad nd pd) ed := (by refine DyV.below ?_ hb4; (repeat (with_reducible first | refine DyV.drew ?_ | refine DyV.drewN ?_ _ | refine DyV.alloc ?_ _)); exact Vd3.out); (try clear dc0 dc1 dc2 dc3 dc4); obtain ⟨dc0, dc1, dc2, dc3, dc4, dc5⟩ := Vd4; have Vd4 := Lib.hid (DyV.mk dc0 dc1 dc2 dc3 dc4 dc5); have B4 := below_box (w := w) (by have hszw := (B3).size; repeat (with_reducible first | refine Below.setCell ?_ (by first | omega | (simp <;> omega)) _ | refine Below.alloc ?_ (by first | omega | (simp <;> omega)) _ | refine Below.drew ?_ | refine below_drewN ?_ _ | exact B3)) hb4; clear hb4)
        | fail)
  | fail "region"
  go_wp2_with fail
  refine (HK1 _).out.mono ?_
  rintro e wq ⟨rfl, rfl⟩
  go_wp2_with fail
  refine (HK2 _).out.mono ?_
  rintro e wq ⟨rfl, rfl⟩
  go_wp2_with fail
  first
  | go_region_held3 (fun w' => w'.cell? ⟨b0, 0, none⟩ = some (.bool bdd) ∧ w'.cell? ⟨b0, 1, none⟩ = some (.bool sd) ∧ w'.cell? ⟨b0, 2, none⟩ = some ((.slice ad nd pd)) ∧ w'.cell? ⟨b0, 3, none⟩ = some (.int .i64 ed)) (first | (go_keep; done) | (go_simp; done))
      (first
        | (go_at_call 18; have xx := B7; refine (HC1 _ al cl (by repeat (with_reducible first | refine Mag.set ?_ (fun h => by have := Ml7 h; omega) _ _ | refine Mag.drew ?_ | refine Mag.alloc ?_ _ | refine Mag.drewN ?_ _ | refine Mag.below ?_ (Below.drew (Below.refl _ _)) | refine Mag.below ?_ ((Below.refl _ _).alloc (Nat.le_refl _) _) | exact Ml7)) (Gd.out.below (by have hszw := (B7).size; repeat (with_reducible first | refine Below.setCell ?_ (by first | omega | (simp <;> omega)) _ | refine Below.alloc ?_ (by first | omega | (simp <;> omega)) _ | refine Below.drew ?_ | refine below_drewN ?_ _ | exact B7))) (hT.below (by have hszw := (B7).size; repeat (with_reducible first | refine Below.setCell ?_ (by first | omega | (simp <;> omega)) _ | refine Below.alloc ?_ (by first | omega | (simp <;> omega)) _ | refine Below.drew ?_ | refine below_drewN ?_ _ | exact B7)))).out.mono ?_; rintro e w8 ⟨rfl, hb8⟩; have Vd8 : DyV w8 b0 bdd sd (.slice ad nd pd) ed := (by refine DyV.below ?_ hb8; (repeat (with_reducible first | refine DyV.drew ?_ | refine DyV.drewN ?_ _ | refine DyV.alloc ?_ _)); exact Vd7.out); (try clear dc0 dc1 dc2 dc3 dc4); obtain ⟨dc0, dc1, dc2, dc3, dc4, dc5⟩ := Vd8; have Vd8 := Lib.hid (DyV.mk dc0 dc1 dc2 dc3 dc4 dc5); have B8 := below_box (w := w) (by have hszw := (B7).size; repeat (with_reducible first | refine Below.setCell ?_ (by first | omega | (simp <;> omega)) _ | refine Below.alloc ?_ (by first | omega | (simp <;> omega)) _ | refine Below.drew ?_ | refine below_drewN ?_ _ | exact B7)) hb8; clear hb8)
        | (go_at_call 19; have xx := B6; refine (HO1 _ (hT.below (by have hszw := (B6).size; repeat (with_reducible first | refine Below.setCell ?_ (by first | omega | (simp <;> omega)) _ | refine Below.alloc ?_ (by first | omega | (simp <;> omega)) _ | refine Below.drew ?_ | refine below_drewN ?_ _ | exact B6)))).out.mono ?_; rintro e w7 ⟨al, cl, rfl, Ml7, hb7, hf7⟩; have Vd7 : DyV w7 b0 bdd sd (.slice ad nd pd) ed := (by refine DyV.below ?_ hb7; (repeat (with_reducible first | refine DyV.drew ?_ | refine DyV.drewN ?_ _ | refine DyV.alloc ?_ _)); exact Vd6.out); (try clear dc0 dc1 dc2 dc3 dc4); obtain ⟨dc0, dc1, dc2, dc3, dc4, dc5⟩ := Vd7; have Vd7 := Lib.hid (DyV.mk dc0 dc1 dc2 dc3 dc4 dc5); have B7 := below_box (w := w) (by have hszw := (B6).size; repeat (with_reducible first | refine Below.setCell ?_ (by first | omega | (simp <;> omega)) _ | refine Below.alloc ?_ (by first | omega | (simp <;> omega)) _ | refine Below.drew ?_ | refine below_drewN ?_ _ | exact B6)) hb7; clear hb7 hf7)
        | fail)
  | fail "region"
  go_wp2_with fail
  first
  | go_region_held3 (fun w' => w'.cell? ⟨b0, 0, none⟩ = some (.bool bdd) ∧ w'.cell? ⟨b0, 1, none⟩ = some (.bool sd) ∧ w'.cell? ⟨b0, 2, none⟩ = some ((.slice ad nd pd)) ∧ w'.cell? ⟨b0, 3, none⟩ = some (.int .i64 ed)) (first | (go_keep; done) | (go_simp; done))
      (first
        | (go_at_call 18; have xx := B9; refine (HC2 _ ah ch (by repeat (with_reducible first | refine Mag.set ?_ (fun h => by have := Mh9 h; omega) _ _ | refine Mag.drew ?_ | refine Mag.alloc ?_ _ | refine Mag.drewN ?_ _ | refine Mag.below ?_ (Below.drew (Below.refl _ _)) | refine Mag.below ?_ ((Below.refl _ _).alloc (Nat.le_refl _) _) | exact Mh9)) (Gd.out.below (by have hszw := (B9).size; repeat (with_reducible first | refine Below.setCell ?_ (by first | omega | (simp <;> omega)) _ | refine Below.alloc ?_ (by first | omega | (simp <;> omega)) _ | refine Below.drew ?_ | refine below_drewN ?_ _ | exact B9))) (hT.below (by have hszw := (B9).size; repeat (with_reducible first | refine Below.setCell ?_ (by first | omega | (simp <;> omega)) _ | refine Below.alloc ?_ (by first | omega | (simp <;> omega)) _ | refine Below.drew ?_ | refine below_drewN ?_ _ | exact B9)))).out.mono ?_; rintro e w10 ⟨rfl, hb10⟩; have Vd10 : DyV w10 b0 bdd sd (.slice ad nd pd) ed := (by refine DyV.below ?_ hb10; (repeat (with_reducible first | refine DyV.drew ?_ | refine DyV.drewN ?_ _ | refine DyV.alloc ?_ _)); exact Vd9.out); (try clear dc0 dc1 dc2 dc3 dc4); obtain ⟨dc0, dc1, dc2, dc3, dc4, dc5⟩ := Vd10; have Vd10 := Lib.hid (DyV.mk dc0 dc1 dc2 dc3 dc4 dc5); have B10 := below_box (w := w) (by have hszw := (B9).size; repeat (with_reducible first | refine Below.setCell ?_ (by first | omega | (simp <;> omega)) _ | refine Below.alloc ?_ (by first | omega | (simp <;> omega)) _ | refine Below.drew ?_ | refine below_drewN ?_ _ | exact B9)) hb10; clear hb10)
        | (go_at_call 19; have xx := B8; refine (HO2 _ (hT.below (by have hszw := (B8).size; repeat (with_reducible first | refine Below.setCell ?_ (by first | omega | (simp <;> omega)) _ | refine Below.alloc ?_ (by first | omega | (simp <;> omega)) _ | refine Below.drew ?_ | refine below_drewN ?_ _ | exact B8)))).out.mono ?_; rintro e w9 ⟨ah, ch, rfl, Mh9, hb9, hf9⟩; have Vd9 : DyV w9 b0 bdd sd (.slice ad nd pd) ed := (by refine DyV.below ?_ hb9; (repeat (with_reducible first | refine DyV.drew ?_ | refine DyV.drewN ?_ _ | refine DyV.alloc ?_ _)); exact Vd8.out); (try clear dc0 dc1 dc2 dc3 dc4); obtain ⟨dc0, dc1, dc2, dc3, dc4, dc5⟩ := Vd9; have Vd9 := Lib.hid (DyV.mk dc0 dc1 dc2 dc3 dc4 dc5); have B9 := below_box (w := w) (by have hszw := (B8).size; repeat (with_reducible first | refine Below.setCell ?_ (by first | omega | (simp <;> omega)) _ | refine Below.alloc ?_ (by first | omega | (simp <;> omega)) _ | refine Below.drew ?_ | refine below_drewN ?_ _ | exact B8)) hb9; clear hb9 hf9)
        | fail)
  | fail "region"
  go_wp2_with fail
  refine (HU _).out.mono ?_
  rintro e w11 ⟨rfl, hb11⟩
  have Vd11 : DyV w11 b0 bdd sd (.slice ad nd pd) ed := (by refine DyV.below ?_ hb11; (repeat (with_reducible first | refine DyV.drew ?_ | refine DyV.drewN ?_ _ | refine DyV.alloc ?_ _)); exact Vd10.out)
  (try clear dc0 dc1 dc2 dc3 dc4)
  obtain ⟨dc0, dc1, dc2, dc3, dc4, dc5⟩ := Vd11
  have Vd11 := Lib.hid (DyV.mk dc0 dc1 dc2 dc3 dc4 dc5)
  have B11 := below_box (w := w) (by have hszw := (B10).size; repeat (with_reducible first | refine Below.setCell ?_ (by first | omega | (simp <;> omega)) _ | refine Below.alloc ?_ (by first | omega | (simp <;> omega)) _ | refine Below.drew ?_ | refine below_drewN ?_ _ | exact B10)) hb11
  clear hb11
  go_wp2_with fail
  refine (HC3 _).out.mono ?_
  rintro e w12 ⟨rfl, hb12⟩
  have Vd12 : DyV w12 b0 bdd sd (.slice ad nd pd) ed := (by refine DyV.below ?_ hb12; (repeat (with_reducible first | refine DyV.drew ?_ | refine DyV.drewN ?_ _ | refine DyV.alloc ?_ _)); exact Vd11.out)
  (try clear dc0 dc1 dc2 dc3 dc4)
  obtain ⟨dc0, dc1, dc2, dc3, dc4, dc5⟩ := Vd12
  have Vd12 := Lib.hid (DyV.mk dc0 dc1 dc2 dc3 dc4 dc5)
  have B12 := below_box (w := w) (by have hszw := (B11).size; repeat (with_reducible first | refine Below.setCell ?_ (by first | omega | (simp <;> omega)) _ | refine Below.alloc ?_ (by first | omega | (simp <;> omega)) _ | refine Below.drew ?_ | refine below_drewN ?_ _ | exact B11)) hb12
  clear hb12
  go_wp2_with fail
  refine (HW _ (hT.below (by have hszw := (B12).size; repeat (with_reducible first | refine Below.setCell ?_ (by first | omega | (simp <;> omega)) _ | refine Below.alloc ?_ (by first | omega | (simp <;> omega)) _ | refine Below.drew ?_ | refine below_drewN ?_ _ | exact B12)))).out.mono ?_
  rintro e w13 ⟨rfl, hb13⟩
  have Vd13 : DyV w13 b0 bdd sd (.slice ad nd pd) ed := (by refine DyV.below ?_ hb13; (repeat (with_reducible first | refine DyV.drew ?_ | refine DyV.drewN ?_ _ | refine DyV.alloc ?_ _)); exact Vd12.out)
  (try clear dc0 dc1 dc2 dc3 dc4)
  obtain ⟨dc0, dc1, dc2, dc3, dc4, dc5⟩ := Vd13
  have Vd13 := Lib.hid (DyV.mk dc0 dc1 dc2 dc3 dc4 dc5)
  have B13 := below_box (w := w) (by have hszw := (B12).size; repeat (with_reducible first | refine Below.setCell ?_ (by first | omega | (simp <;> omega)) _ | refine Below.alloc ?_ (by first | omega | (simp <;> omega)) _ | refine Below.drew ?_ | refine below_drewN ?_ _ | exact B12)) hb13
  clear hb13
  go_wp2_with fail
  go_ret
  exact ⟨rfl, (by have hszw := (B13).size; repeat (with_reducible first | refine Below.setCell ?_ (by first | omega | (simp <;> omega)) _ | refine Below.alloc ?_ (by first | omega | (simp <;> omega)) _ | refine Below.drew ?_ | refine below_drewN ?_ _ | exact B13))⟩

set_option maxRecDepth 100000 in
set_option maxHeartbeats 20000000 in
theorem encl_ffh (w : World) (hT : Tab w) (bdd sd : Bool) (ad : Option Addr) (nd pd : Nat) (ed : Int) (dd : Option (Int × Int)) (Hd : DyIs w bdd sd ad nd pd ed dd) (md : nd ≤ 9223372036854775807) (hsd : slim3B nd ed = true) (va : dbad dd = false) (sz : dman dd ≠ 0) (lo hi near : Nat) (f1 : fround dd 1 = lo) (f2 : fround dd 2 = hi) (f3 : fround dd 0 = near) (n1 : fnan lo = false) (n2 : fnan hi = false) (o1 : (!dbad (fof lo) && !dbad dd) = false) (o2 : (!dbad dd && !dbad (fof hi)) = false) (i1 : lo = 18442240474082181120) (i2 : hi = 9218868437227405312) (cz : fcmpv (fup lo) hi = 0) (e1 : near ≠ lo) (e2 : near = hi) :
    Calls Tryz.prog 4 #[.agg #[.bool bdd, .bool sd, .slice ad nd pd, .int .i64 ed]] w fun o w' => o = .returned (.bool true) ∧ Below w.heap.size w w' := by
  have HSl := fun W => Lib.hid (slimDyad3_any W bdd sd ad nd pd ed md true hsd)
  have HW := fun W ht => Lib.hid (awakeF_any W ht)
  have Gd := Lib.hid Hd
  have HV := fun W (h : DyIs W bdd sd ad nd pd ed dd) ht => Lib.hid (rvalid_any W bdd sd ad nd pd ed dd h ht)
  rw [va] at HV
  have nv : (!false) = true := rfl
  rw [nv] at HV
  clear nv
  have HG := fun W (h : DyIs W bdd sd ad nd pd ed dd) ht => Lib.hid (rdsign_any W bdd sd ad nd pd ed dd h ht)
  have hsz : (sg (dman dd) == 0) = false := by unfold sg cmpI; split <;> (try split) <;> first | decide | (exfalso; omega)
  generalize sg (dman dd) = gs at *
  have Nd := Lib.hid Hd.1.isN
  have l1 : lo < 18446744073709551616 := f1 ▸ fround_lt _ _
  have l2 : hi < 18446744073709551616 := f2 ▸ fround_lt _ _
  have HR1 := fun W (h : DyIs W bdd sd ad nd pd ed dd) ht => Lib.hid (fround_any W bdd sd ad nd pd ed 1 dd h.1 ht)
  have HR2 := fun W (h : DyIs W bdd sd ad nd pd ed dd) ht => Lib.hid (fround_any W bdd sd ad nd pd ed 2 dd h.1 ht)
  have HR3 := fun W (h : DyIs W bdd sd ad nd pd ed dd) ht => Lib.hid (fround_any W bdd sd ad nd pd ed 0 dd h.1 ht)
  rw [f1] at HR1
  rw [f2] at HR2
  rw [f3] at HR3
  have HK1 := fun W => Lib.hid (fkind_any W lo)
  have HK2 := fun W => Lib.hid (fkind_any W hi)
  have hk1 : (fkind lo == 3) = false := by rw [(fkind_eqs lo).1]; exact n1
  have hk2 : (fkind hi == 3) = false := by rw [(fkind_eqs hi).1]; exact n2
  have HO1 := fun W ht => Lib.hid (fof_any W lo l1 ht)
  have HO2 := fun W ht => Lib.hid (fof_any W hi l2 ht)
  have N1 := Lib.hid (isN_fof lo)
  have N2 := Lib.hid (isN_fof hi)
  have j1 : ((lo : Int) != 18442240474082181120) = false := by rw [i1]; rfl
  have j2 : ((hi : Int) != 9218868437227405312) = false := by rw [i2]; rfl
  have HC1 := fun W (b : Option Addr) (q : Nat) (h : Mag W b (nl (dman (fof lo)).natAbs) q (dman (fof lo)).natAbs) (h' : DyIs W bdd sd ad nd pd ed dd) ht => Lib.hid (dcmp_any W _ _ _ _ _ _ _ _ _ _ _ _ _ _ (dyin_of N1.out h) h'.1 ht)
  have HC2 := fun W (b : Option Addr) (q : Nat) (h : Mag W b (nl (dman (fof hi)).natAbs) q (dman (fof hi)).natAbs) (h' : DyIs W bdd sd ad nd pd ed dd) ht => Lib.hid (dcmp_any W _ _ _ _ _ _ _ _ _ _ _ _ _ _ h'.1 (dyin_of N2.out h) ht)
  rw [o1] at HC1
  rw [o2] at HC2
  have HU := fun W => Lib.hid (fup_any W lo l1)
  have HC3 := fun W => Lib.hid (fcmp_any W (fup lo) hi (fup_lt l1) l2)
  rw [cz] at HC3
  generalize fcmpok (fup lo) hi = o3 at *
  generalize ((fup lo : Nat) : Int) = iu at *
  have y1 : ((near : Int) == (lo : Int)) = false := by rw [beq_eq_false_iff_ne]; omega
  have y2 : ((near : Int) == (hi : Int)) = true := by rw [e2]; simp
  generalize dcmp (fof lo) dd = v1 at *
  generalize dcmp dd (fof hi) = v2 at *
  generalize fof lo = dl at *
  generalize fof hi = dh at *
  generalize fkind lo = kl at *
  generalize fkind hi = kh at *
  clear f1 f2 f3 n1 n2 hsd va sz Hd l1 l2 o1 o2 i1 i2 cz e2 e1
  generalize (lo : Int) = jl at *
  generalize (hi : Int) = jh at *
  generalize (near : Int) = jn at *
  go_enter Tryz.func4, Tryz.ntmps4
  go_wp2_with fail
  have I0 := DyV.made w 26 bdd sd (.slice ad nd pd) ed
  have B0 : Below w.heap.size w (w.alloc (.cells #[.bool bdd, .bool sd, .slice ad nd pd, .int .i64 ed] 26)) := (by repeat (with_reducible first | refine Below.setCell ?_ (by simp <;> omega) _ | refine Below.alloc ?_ (by simp <;> omega) _ | refine Below.drew ?_ | refine below_drewN ?_ _ | exact Below.refl _ _))
  generalize (w.alloc (.cells #[.bool bdd, .bool sd, .slice ad nd pd, .int .i64 ed] 26)) = w0 at I0 B0 ⊢
  generalize hb0 : w.heap.size = b0 at I0 ⊢
  obtain ⟨dc0, dc1, dc2, dc3, dc4, dc5⟩ := I0
  have Vd0 := Lib.hid (DyV.mk dc0 dc1 dc2 dc3 dc4 dc5)
  refine (HSl _).out.mono ?_
  rintro e w1 ⟨rfl, hb1⟩
  have Vd1 : DyV w1 b0 bdd sd (.slice ad nd pd) ed := (by refine DyV.below ?_ hb1; (repeat (with_reducible first | refine DyV.drew ?_ | refine DyV.drewN ?_ _ | refine DyV.alloc ?_ _)); exact Vd0.out)
  (try clear dc0 dc1 dc2 dc3 dc4)
  obtain ⟨dc0, dc1, dc2, dc3, dc4, dc5⟩ := Vd1
  have Vd1 := Lib.hid (DyV.mk dc0 dc1 dc2 dc3 dc4 dc5)
  have B1 := below_box (w := w) (by have hszw := (B0).size; repeat (with_reducible first | refine Below.setCell ?_ (by first | omega | (simp <;> omega)) _ | refine Below.alloc ?_ (by first | omega | (simp <;> omega)) _ | refine Below.drew ?_ | refine below_drewN ?_ _ | exact B0)) hb1
  clear hb1
  go_wp2_with fail
  refine (HV _ (Gd.out.below (by have hszw := (B1).size; repeat (with_reducible first | refine Below.setCell ?_ (by first | omega | (simp <;> omega)) _ | refine Below.alloc ?_ (by first | omega | (simp <;> omega)) _ | refine Below.drew ?_ | refine below_drewN ?_ _ | exact B1))) (hT.below (by have hszw := (B1).size; repeat (with_reducible first | refine Below.setCell ?_ (by first | omega | (simp <;> omega)) _ | refine Below.alloc ?_ (by first | omega | (simp <;> omega)) _ | refine Below.drew ?_ | refine below_drewN ?_ _ | exact B1)))).out.mono ?_
  rintro e w2 ⟨rfl, hb2⟩
  have Vd2 : DyV w2 b0 bdd sd (.slice ad nd pd) ed := (by refine DyV.below ?_ hb2; (repeat (with_reducible first | refine DyV.drew ?_ | refine DyV.drewN ?_ _ | refine DyV.alloc ?_ _)); exact Vd1.out)
  (try clear dc0 dc1 dc2 dc3 dc4)
  obtain ⟨dc0, dc1, dc2, dc3, dc4, dc5⟩ := Vd2
  have Vd2 := Lib.hid (DyV.mk dc0 dc1 dc2 dc3 dc4 dc5)
  have B2 := below_box (w := w) (by have hszw := (B1).size; repeat (with_reducible first | refine Below.setCell ?_ (by first | omega | (simp <;> omega)) _ | refine Below.alloc ?_ (by first | omega | (simp <;> omega)) _ | refine Below.drew ?_ | refine below_drewN ?_ _ | exact B1)) hb2
  clear hb2
  go_wp2_with fail
  refine (HG _ (Gd.out.below (by have hszw := (B2).size; repeat (with_reducible first | refine Below.setCell ?_ (by first | omega | (simp <;> omega)) _ | refine Below.alloc ?_ (by first | omega | (simp <;> omega)) _ | refine Below.drew ?_ | refine below_drewN ?_ _ | exact B2))) (hT.below (by have hszw := (B2).size; repeat (with_reducible first | refine Below.setCell ?_ (by first | omega | (simp <;> omega)) _ | refine Below.alloc ?_ (by first | omega | (simp <;> omega)) _ | refine Below.drew ?_ | refine below_drewN ?_ _ | exact B2)))).out.mono ?_
  rintro e w3 ⟨rfl, hb3⟩
  have Vd3 : DyV w3 b0 bdd sd (.slice ad nd pd) ed := (by refine DyV.below ?_ hb3; (repeat (with_reducible first | refine DyV.drew ?_ | refine DyV.drewN ?_ _ | refine DyV.alloc ?_ _)); exact Vd2.out)
  (try clear dc0 dc1 dc2 dc3 dc4)
  obtain ⟨dc0, dc1, dc2, dc3, dc4, dc5⟩ := Vd3
  have Vd3 := Lib.hid (DyV.mk dc0 dc1 dc2 dc3 dc4 dc5)
  have B3 := below_box (w := w) (by have hszw := (B2).size; repeat (with_reducible first | refine Below.setCell ?_ (by first | omega | (simp <;> omega)) _ | refine Below.alloc ?_ (by first | omega | (simp <;> omega)) _ | refine Below.drew ?_ | refine below_drewN ?_ _ | exact B2)) hb3
  clear hb3
  go_wp2_with fail
  first
  | go_region_held3 (fun w' => w'.cell? ⟨b0, 0, none⟩ = some (.bool bdd) ∧ w'.cell? ⟨b0, 1, none⟩ = some (.bool sd) ∧ w'.cell? ⟨b0, 2, none⟩ = some ((.slice ad nd pd)) ∧ w'.cell? ⟨b0, 3, none⟩ = some (.int .i64 ed)) (first | (go_keep; done) | (go_simp; done))
      (first
        | (go_at_call 9; have xx := B5; refine (HR3 _ (Gd.out.below (by have hszw := (B5).size; repeat (with_reducible first | refine Below.setCell ?_ (by first | omega | (simp <;> omega)) _ | refine Below.alloc ?_ (by first | omega | (simp <;> omega)) _ | refine Below.drew ?_ | refine below_drewN ?_ _ | exact B5))) (hT.below (by have hszw := (B5).size; repeat (with_reducible first | refine Below.setCell ?_ (by first | omega | (simp <;> omega)) _ | refine Below.alloc ?_ (by first | omega | (simp <;> omega)) _ | refine Below.drew ?_ | refine below_drewN ?_ _ | exact B5)))).out.mono ?_; rintro e w6 ⟨rfl, hb6⟩; have Vd6 : DyV w6 b0 bdd sd (.slice ad nd pd) ed := (by refine DyV.below ?_ hb6; (repeat (with_reducible first | refine DyV.drew ?_ | refine DyV.drewN ?_ _ | refine DyV.alloc ?_ _)); exact Vd5.out); (try clear dc0 dc1 dc2 dc3 dc4); obtain ⟨dc0, dc1, dc2, dc3, dc4, dc5⟩ := Vd6; have Vd6 := Lib.hid (DyV.mk dc0 dc1 dc2 dc3 dc4 dc5); have B6 := below_box (w := w) (by have hszw := (B5).size; repeat (with_reducible first | refine Below.setCell ?_ (by first | omega | (simp <;> omega)) _ | refine Below.alloc ?_ (by first | omega | (simp <;> omega)) _ | refine Below.drew ?_ | refine below_drewN ?_ _ | exact B5)) hb6; clear hb6)
        | (go_at_call 9; have xx := B4; refine (HR2 _ (Gd.out.below (by have hszw := (B4).size; repeat (with_reducible first | refine Below.setCell ?_ (by first | omega | (simp <;> omega)) _ | refine Below.alloc ?_ (by first | omega | (simp <;> omega)) _ | refine Below.drew ?_ | refine below_drewN ?_ _ | exact B4))) (hT.below (by have hszw := (B4).size; repeat (with_reducible first | refine Below.setCell ?_ (by first | omega | (simp <;> omega)) _ | refine Below.alloc ?_ (by first | omega | (simp <;> omega)) _ | refine Below.drew ?_ | refine below_drewN ?_ _ | exact B4)))).out.mono ?_; rintro e w5 ⟨rfl, hb5⟩; have Vd5 : DyV w5 b0 bdd sd (.slice ad nd pd) ed := (by refine DyV.below ?_ hb5; (repeat (with_reducible first | refine DyV.drew ?_ | refine DyV.drewN ?_ _ | refine DyV.alloc ?_ _)); exact Vd4.out); (try clear dc0 dc1 dc2 dc3 dc4); obtain ⟨dc0, dc1, dc2, dc3, dc4, dc5⟩ := Vd5; have Vd5 := Lib.hid (DyV.mk dc0 dc1 dc2 dc3 dc4 dc5); have B5 := below_box (w := w) (by have hszw := (B4).size; repeat (with_reducible first | refine Below.setCell ?_ (by first | omega | (simp <;> omega)) _ | refine Below.alloc ?_ (by first | omega | (simp <;> omega)) _ | refine Below.drew ?_ | refine below_drewN ?_ _ | exact B4)) hb5; clear hb5)
        | (go_at_call 9; have xx := B3; refine (HR1 _ (Gd.out.below (by have hszw := (B3).size; repeat (with_reducible first | refine Below.setCell ?_ (by first | omega | (simp <;> omega)) _ | refine Below.alloc ?_ (by first | omega | (simp <;> omega)) _ | refine Below.drew ?_ | refine below_drewN ?_ _ | exact B3))) (hT.below (by have hszw := (B3).size; repeat (with_reducible first | refine Below.setCell ?_ (by first | omega | (simp <;> omega)) _ | refine Below.alloc ?_ (by first | omega | (simp <;> omega)) _ | refine Below.drew ?_ | refine below_drewN ?_ _ | exact B3)))).out.mono ?_; rintro e w4 ⟨rfl, hb4⟩; have Vd4 : DyV w4 b0 bdd sd (.slice ad nd pd) ed := (by refine DyV.below ?_ hb4; (repeat (with_reducible first | refine DyV.drew ?_ | refine DyV.drewN ?_ _ | refine DyV.alloc ?_ _)); exact Vd3.out); (try clear dc0 dc1 dc2 dc3 dc4); obtain ⟨dc0, dc1, dc2, dc3, dc4, dc5⟩ := Vd4; have Vd4 := Lib.hid (DyV.mk dc0 dc1 dc2 dc3 dc4 dc5); have B4 := below_box (w := w) (by have hszw := (B3).size; repeat (with_reducible first | refine Below.setCell ?_ (by first | omega | (simp <;> omega)) _ | refine Below.alloc ?_ (by first | omega | (simp <;> omega)) _ | refine Below.drew ?_ | refine below_drewN ?_ _ | exact B3)) hb4; clear hb4)
        | fail)
  | fail "region"
  go_wp2_with fail
  refine (HK1 _).out.mono ?_
  rintro e wq ⟨rfl, rfl⟩
  go_wp2_with fail
  refine (HK2 _).out.mono ?_
  rintro e wq ⟨rfl, rfl⟩
  go_wp2_with fail
  first
  | go_region_held3 (fun w' => w'.cell? ⟨b0, 0, none⟩ = some (.bool bdd) ∧ w'.cell? ⟨b0, 1, none⟩ = some (.bool sd) ∧ w'.cell? ⟨b0, 2, none⟩ = some ((.slice ad nd pd)) ∧ w'.cell? ⟨b0, 3, none⟩ = some (.int .i64 ed)) (first | (go_keep; done) | (go_simp; done))
      (first
        | (go_at_call 18; have xx := B7; refine (HC1 _ al cl (by repeat (with_reducible first | refine Mag.set ?_ (fun h => by have := Ml7 h; omega) _ _ | refine Mag.drew ?_ | refine Mag.alloc ?_ _ | refine Mag.drewN ?_ _ | refine Mag.below ?_ (Below.drew (Below.refl _ _)) | refine Mag.below ?_ ((Below.refl _ _).alloc (Nat.le_refl _) _) | exact Ml7)) (Gd.out.below (by have hszw := (B7).size; repeat (with_reducible first | refine Below.setCell ?_ (by first | omega | (simp <;> omega)) _ | refine Below.alloc ?_ (by first | omega | (simp <;> omega)) _ | refine Below.drew ?_ | refine below_drewN ?_ _ | exact B7))) (hT.below (by have hszw := (B7).size; repeat (with_reducible first | refine Below.setCell ?_ (by first | omega | (simp <;> omega)) _ | refine Below.alloc ?_ (by first | omega | (simp <;> omega)) _ | refine Below.drew ?_ | refine below_drewN ?_ _ | exact B7)))).out.mono ?_; rintro e w8 ⟨rfl, hb8⟩; have Vd8 : DyV w8 b0 bdd sd (.slice ad nd pd) ed := (by refine DyV.below ?_ hb8; (repeat (with_reducible first | refine DyV.drew ?_ | refine DyV.drewN ?_ _ | refine DyV.alloc ?_ _)); exact Vd7.out); (try clear dc0 dc1 dc2 dc3 dc4); obtain ⟨dc0, dc1, dc2, dc3, dc4, dc5⟩ := Vd8; have Vd8 := Lib.hid (DyV.mk dc0 dc1 dc2 dc3 dc4 dc5); have B8 := below_box (w := w) (by have hszw := (B7).size; repeat (with_reducible first | refine Below.setCell ?_ (by first | omega | (simp <;> omega)) _ | refine Below.alloc ?_ (by first | omega | (simp <;> omega)) _ | refine Below.drew ?_ | refine below_drewN ?_ _ | exact B7)) hb8; clear hb8)
        | (go_at_call 19; have xx := B6; refine (HO1 _ (hT.below (by have hszw := (B6).size; repeat (with_reducible first | refine Below.setCell ?_ (by first | omega | (simp <;> omega)) _ | refine Below.alloc ?_ (by first | omega | (simp <;> omega)) _ | refine Below.drew ?_ | refine below_drewN ?_ _ | exact B6)))).out.mono ?_; rintro e w7 ⟨al, cl, rfl, Ml7, hb7, hf7⟩; have Vd7 : DyV w7 b0 bdd sd (.slice ad nd pd) ed := (by refine DyV.below ?_ hb7; (repeat (with_reducible first | refine DyV.drew ?_ | refine DyV.drewN ?_ _ | refine DyV.alloc ?_ _)); exact Vd6.out); (try clear dc0 dc1 dc2 dc3 dc4); obtain ⟨dc0, dc1, dc2, dc3, dc4, dc5⟩ := Vd7; have Vd7 := Lib.hid (DyV.mk dc0 dc1 dc2 dc3 dc4 dc5); have B7 := below_box (w := w) (by have hszw := (B6).size; repeat (with_reducible first | refine Below.setCell ?_ (by first | omega | (simp <;> omega)) _ | refine Below.alloc ?_ (by first | omega | (simp <;> omega)) _ | refine Below.drew ?_ | refine below_drewN ?_ _ | exact B6)) hb7; clear hb7 hf7)
        | fail)
  | fail "region"
  go_wp2_with fail
  first
  | go_region_held3 (fun w' => w'.cell? ⟨b0, 0, none⟩ = some (.bool bdd) ∧ w'.cell? ⟨b0, 1, none⟩ = some (.bool sd) ∧ w'.cell? ⟨b0, 2, none⟩ = some ((.slice ad nd pd)) ∧ w'.cell? ⟨b0, 3, none⟩ = some (.int .i64 ed)) (first | (go_keep; done) | (go_simp; done))
      (first
        | (go_at_call 18; have xx := B9; refine (HC2 _ ah ch (by repeat (with_reducible first | refine Mag.set ?_ (fun h => by have := Mh9 h; omega) _ _ | refine Mag.drew ?_ | refine Mag.alloc ?_ _ | refine Mag.drewN ?_ _ | refine Mag.below ?_ (Below.drew (Below.refl _ _)) | refine Mag.below ?_ ((Below.refl _ _).alloc (Nat.le_refl _) _) | exact Mh9)) (Gd.out.below (by have hszw := (B9).size; repeat (with_reducible first | refine Below.setCell ?_ (by first | omega | (simp <;> omega)) _ | refine Below.alloc ?_ (by first | omega | (simp <;> omega)) _ | refine Below.drew ?_ | refine below_drewN ?_ _ | exact B9))) (hT.below (by have hszw := (B9).size; repeat (with_reducible first | refine Below.setCell ?_ (by first | omega | (simp <;> omega)) _ | refine Below.alloc ?_ (by first | omega | (simp <;> omega)) _ | refine Below.drew ?_ | refine below_drewN ?_ _ | exact B9)))).out.mono ?_; rintro e w10 ⟨rfl, hb10⟩; have Vd10 : DyV w10 b0 bdd sd (.slice ad nd pd) ed := (by refine DyV.below ?_ hb10; (repeat (with_reducible first | refine DyV.drew ?_ | refine DyV.drewN ?_ _ | refine DyV.alloc ?_ _)); exact Vd9.out); (try clear dc0 dc1 dc2 dc3 dc4); obtain ⟨dc0, dc1, dc2, dc3, dc4, dc5⟩ := Vd10; have Vd10 := Lib.hid (DyV.mk dc0 dc1 dc2 dc3 dc4 dc5); have B10 := below_box (w := w) (by have hszw := (B9).size; repeat (with_reducible first | refine Below.setCell ?_ (by first | omega | (simp <;> omega)) _ | refine Below.alloc ?_ (by first | omega | (simp <;> omega)) _ | refine Below.drew ?_ | refine below_drewN ?_ _ | exact B9)) hb10; clear hb10)
        | (go_at_call 19; have xx := B8; refine (HO2 _ (hT.below (by have hszw := (B8).size; repeat (with_reducible first | refine Below.setCell ?_ (by first | omega | (simp <;> omega)) _ | refine Below.alloc ?_ (by first | omega | (simp <;> omega)) _ | refine Below.drew ?_ | refine below_drewN ?_ _ | exact B8)))).out.mono ?_; rintro e w9 ⟨ah, ch, rfl, Mh9, hb9, hf9⟩; have Vd9 : DyV w9 b0 bdd sd (.slice ad nd pd) ed := (by refine DyV.below ?_ hb9; (repeat (with_reducible first | refine DyV.drew ?_ | refine DyV.drewN ?_ _ | refine DyV.alloc ?_ _)); exact Vd8.out); (try clear dc0 dc1 dc2 dc3 dc4); obtain ⟨dc0, dc1, dc2, dc3, dc4, dc5⟩ := Vd9; have Vd9 := Lib.hid (DyV.mk dc0 dc1 dc2 dc3 dc4 dc5); have B9 := below_box (w := w) (by have hszw := (B8).size; repeat (with_reducible first | refine Below.setCell ?_ (by first | omega | (simp <;> omega)) _ | refine Below.alloc ?_ (by first | omega | (simp <;> omega)) _ | refine Below.drew ?_ | refine below_drewN ?_ _ | exact B8)) hb9; clear hb9 hf9)
        | fail)
  | fail "region"
  go_wp2_with fail
  refine (HU _).out.mono ?_
  rintro e w11 ⟨rfl, hb11⟩
  have Vd11 : DyV w11 b0 bdd sd (.slice ad nd pd) ed := (by refine DyV.below ?_ hb11; (repeat (with_reducible first | refine DyV.drew ?_ | refine DyV.drewN ?_ _ | refine DyV.alloc ?_ _)); exact Vd10.out)
  (try clear dc0 dc1 dc2 dc3 dc4)
  obtain ⟨dc0, dc1, dc2, dc3, dc4, dc5⟩ := Vd11
  have Vd11 := Lib.hid (DyV.mk dc0 dc1 dc2 dc3 dc4 dc5)
  have B11 := below_box (w := w) (by have hszw := (B10).size; repeat (with_reducible first | refine Below.setCell ?_ (by first | omega | (simp <;> omega)) _ | refine Below.alloc ?_ (by first | omega | (simp <;> omega)) _ | refine Below.drew ?_ | refine below_drewN ?_ _ | exact B10)) hb11
  clear hb11
  go_wp2_with fail
  refine (HC3 _).out.mono ?_
  rintro e w12 ⟨rfl, hb12⟩
  have Vd12 : DyV w12 b0 bdd sd (.slice ad nd pd) ed := (by refine DyV.below ?_ hb12; (repeat (with_reducible first | refine DyV.drew ?_ | refine DyV.drewN ?_ _ | refine DyV.alloc ?_ _)); exact Vd11.out)
  (try clear dc0 dc1 dc2 dc3 dc4)
  obtain ⟨dc0, dc1, dc2, dc3, dc4, dc5⟩ := Vd12
  have Vd12 := Lib.hid (DyV.mk dc0 dc1 dc2 dc3 dc4 dc5)
  have B12 := below_box (w := w) (by have hszw := (B11).size; repeat (with_reducible first | refine Below.setCell ?_ (by first | omega | (simp <;> omega)) _ | refine Below.alloc ?_ (by first | omega | (simp <;> omega)) _ | refine Below.drew ?_ | refine below_drewN ?_ _ | exact B11)) hb12
  clear hb12
  go_wp2_with fail
  refine (HW _ (hT.below (by have hszw := (B12).size; repeat (with_reducible first | refine Below.setCell ?_ (by first | omega | (simp <;> omega)) _ | refine Below.alloc ?_ (by first | omega | (simp <;> omega)) _ | refine Below.drew ?_ | refine below_drewN ?_ _ | exact B12)))).out.mono ?_
  rintro e w13 ⟨rfl, hb13⟩
  have Vd13 : DyV w13 b0 bdd sd (.slice ad nd pd) ed := (by refine DyV.below ?_ hb13; (repeat (with_reducible first | refine DyV.drew ?_ | refine DyV.drewN ?_ _ | refine DyV.alloc ?_ _)); exact Vd12.out)
  (try clear dc0 dc1 dc2 dc3 dc4)
  obtain ⟨dc0, dc1, dc2, dc3, dc4, dc5⟩ := Vd13
  have Vd13 := Lib.hid (DyV.mk dc0 dc1 dc2 dc3 dc4 dc5)
  have B13 := below_box (w := w) (by have hszw := (B12).size; repeat (with_reducible first | refine Below.setCell ?_ (by first | omega | (simp <;> omega)) _ | refine Below.alloc ?_ (by first | omega | (simp <;> omega)) _ | refine Below.drew ?_ | refine below_drewN ?_ _ | exact B12)) hb13
  clear hb13
  go_wp2_with fail
  go_ret
  exact ⟨rfl, (by have hszw := (B13).size; repeat (with_reducible first | refine Below.setCell ?_ (by first | omega | (simp <;> omega)) _ | refine Below.alloc ?_ (by first | omega | (simp <;> omega)) _ | refine Below.drew ?_ | refine below_drewN ?_ _ | exact B13))⟩

theorem lt_of_le_ne {x : Int} (h : x ≤ 0) (h' : x ≠ 0) : x < 0 := by omega
theorem encl_any (w : World) (hT : Tab w) (bdd sd : Bool) (ad : Option Addr) (nd pd xd : Nat) (ed : Int)
    (Md : Mag w ad nd pd xd) (ud : -9223372036854775808 ≤ ed ∧ ed ≤ 9223372036854775807) :
    Calls Tryz.prog 4 #[.agg #[.bool bdd, .bool sd, .slice ad nd pd, .int .i64 ed]] w fun o w' => o = .returned (.bool true) ∧ Below w.heap.size w w' := by
  have md := Nat.le_trans Md.fits Md.lim
  cases hsd : slim3B nd ed with
  | false => exact encl_na w hT bdd sd ad nd pd ed md hsd
  | true =>
    have Hd := dyis_of3 (bd := bdd) (s := sd) Md hsd ud.1 ud.2
    have Sd := fun m e => slim3_nrm (bd := bdd) (s := sd) (x := xd) (m := m) (f := e) hsd Md.lt
    generalize nrmB bdd (sgn sd xd) ed = dd at Hd Sd
    rcases dcases dd with rfl | ⟨m, e, rfl⟩
    · exact encl_va w hT bdd sd ad nd pd ed none Hd md hsd rfl
    · by_cases h0 : m = 0
      · exact encl_sz w hT bdd sd ad nd pd ed _ Hd md hsd rfl h0
      · obtain ⟨a1, a2, a3, a4, a5, a6, a7, a8⟩ := enclose_law (Sd m e rfl) h0
        have dz : ∀ f, ffin f = true → dbad (fof f) = false := fun f h => by rw [fof_fin h]; exact dbad_none.2 (fof_some h)
        have dn : ∀ f, ffin f = false → dbad (fof f) = true := fun f h => by rw [fof_not h]; rfl
        cases c1 : ffin (fround (some (m, e)) 1) with
        | true =>
          have o1 : (!dbad (fof (fround (some (m, e)) 1)) && !dbad (some (m, e))) = true := by rw [dz _ c1]; rfl
          cases c2 : ffin (fround (some (m, e)) 2) with
          | true =>
            have o2 : (!dbad (some (m, e)) && !dbad (fof (fround (some (m, e)) 2))) = true := by rw [dz _ c2]; rfl
            by_cases x1 : dcmp (fof (fround (some (m, e)) 1)) (some (m, e)) = 0
            · obtain ⟨e1, e2⟩ := a7 (Or.inl ⟨c1, x1⟩)
              by_cases x2 : dcmp (some (m, e)) (fof (fround (some (m, e)) 2)) = 0
              · exact encl_zze w hT bdd sd ad nd pd ed _ Hd md hsd rfl h0 _ _ _ rfl rfl rfl a1 a2 o1 o2 x1 x2 e1 e2
              · exact encl_zne w hT bdd sd ad nd pd ed _ Hd md hsd rfl h0 _ _ _ rfl rfl rfl a1 a2 o1 o2 x1 (lt_of_le_ne (a4 c2) x2) e1 e2
            · by_cases x2 : dcmp (some (m, e)) (fof (fround (some (m, e)) 2)) = 0
              · obtain ⟨e1, e2⟩ := a7 (Or.inr ⟨c2, x2⟩)
                exact encl_nze w hT bdd sd ad nd pd ed _ Hd md hsd rfl h0 _ _ _ rfl rfl rfl a1 a2 o1 o2 (lt_of_le_ne (a3 c1) x1) x2 e1 e2
              · obtain ⟨e1, e2⟩ := a8 (fun h => h.elim (fun h => x1 h.2) (fun h => x2 h.2))
                by_cases hn : fround (some (m, e)) 0 = fround (some (m, e)) 1
                · exact encl_nnl w hT bdd sd ad nd pd ed _ Hd md hsd rfl h0 _ _ _ rfl rfl rfl a1 a2 o1 o2 (lt_of_le_ne (a3 c1) x1) (lt_of_le_ne (a4 c2) x2) e1 hn
                · exact encl_nnh w hT bdd sd ad nd pd ed _ Hd md hsd rfl h0 _ _ _ rfl rfl rfl a1 a2 o1 o2 (lt_of_le_ne (a3 c1) x1) (lt_of_le_ne (a4 c2) x2) e1 hn (e2.resolve_left hn)
          | false =>
            have o2 : (!dbad (some (m, e)) && !dbad (fof (fround (some (m, e)) 2))) = false := by rw [dn _ c2]; rfl
            have i2 := a6 c2
            by_cases x1 : dcmp (fof (fround (some (m, e)) 1)) (some (m, e)) = 0
            · obtain ⟨e1, e2⟩ := a7 (Or.inl ⟨c1, x1⟩)
              exact encl_zfe w hT bdd sd ad nd pd ed _ Hd md hsd rfl h0 _ _ _ rfl rfl rfl a1 a2 o1 o2 x1 i2 e1 e2
            · obtain ⟨e1, e2⟩ := a8 (fun h => h.elim (fun h => x1 h.2) (fun h => by have g := h.1; rw [c2] at g; cases g))
              by_cases hn : fround (some (m, e)) 0 = fround (some (m, e)) 1
              · exact encl_nfl w hT bdd sd ad nd pd ed _ Hd md hsd rfl h0 _ _ _ rfl rfl rfl a1 a2 o1 o2 (lt_of_le_ne (a3 c1) x1) i2 e1 hn
              · exact encl_nfh w hT bdd sd ad nd pd ed _ Hd md hsd rfl h0 _ _ _ rfl rfl rfl a1 a2 o1 o2 (lt_of_le_ne (a3 c1) x1) i2 e1 hn (e2.resolve_left hn)
        | false =>
          have o1 : (!dbad (fof (fround (some (m, e)) 1)) && !dbad (some (m, e))) = false := by rw [dn _ c1]; rfl
          have i1 := a5 c1
          cases c2 : ffin (fround (some (m, e)) 2) with
          | true =>
            have o2 : (!dbad (some (m, e)) && !dbad (fof (fround (some (m, e)) 2))) = true := by rw [dz _ c2]; rfl
            by_cases x2 : dcmp (some (m, e)) (fof (fround (some (m, e)) 2)) = 0
            · obtain ⟨e1, e2⟩ := a7 (Or.inr ⟨c2, x2⟩)
              exact encl_fze w hT bdd sd ad nd pd ed _ Hd md hsd rfl h0 _ _ _ rfl rfl rfl a1 a2 o1 o2 x2 i1 e1 e2
            · obtain ⟨e1, e2⟩ := a8 (fun h => h.elim (fun h => by have g := h.1; rw [c1] at g; cases g) (fun h => x2 h.2))
              by_cases hn : fround (some (m, e)) 0 = fround (some (m, e)) 1
              · exact encl_fnl w hT bdd sd ad nd pd ed _ Hd md hsd rfl h0 _ _ _ rfl rfl rfl a1 a2 o1 o2 (lt_of_le_ne (a4 c2) x2) i1 e1 hn
              · exact encl_fnh w hT bdd sd ad nd pd ed _ Hd md hsd rfl h0 _ _ _ rfl rfl rfl a1 a2 o1 o2 (lt_of_le_ne (a4 c2) x2) i1 e1 hn (e2.resolve_left hn)
          | false =>
            have o2 : (!dbad (some (m, e)) && !dbad (fof (fround (some (m, e)) 2))) = false := by rw [dn _ c2]; rfl
            have i2 := a6 c2
            obtain ⟨e1, e2⟩ := a8 (fun h => h.elim (fun h => by have g := h.1; rw [c1] at g; cases g) (fun h => by have g := h.1; rw [c2] at g; cases g))
            by_cases hn : fround (some (m, e)) 0 = fround (some (m, e)) 1
            · exact encl_ffl w hT bdd sd ad nd pd ed _ Hd md hsd rfl h0 _ _ _ rfl rfl rfl a1 a2 o1 o2 i1 i2 e1 hn
            · exact encl_ffh w hT bdd sd ad nd pd ed _ Hd md hsd rfl h0 _ _ _ rfl rfl rfl a1 a2 o1 o2 i1 i2 e1 hn (e2.resolve_left hn)

end Go.Proofs.YtkpglfloddkclaaGreatDoor

