/-
  Walks: the law AccumFree.
-/
import Derived.Test.YtmpcikkimcehnaaGreatDoorZbKf
namespace Go.Proofs.YtmpcikkimcehnaaGreatDoor
open Go.RowKit Sp

theorem dyEq_self (b s : Bool) (x : Nat) (f : Int) : dyEq b b s s x x f f = true := by unfold dyEq; simp
theorem kdyad_eq (W : World) (d : Option (Int × Int)) (a a' : Option Addr) (c c' : Nat) (h : Mag W a (nl (dman d).natAbs) c (dman d).natAbs) (h' : Mag W a' (nl (dman d).natAbs) c' (dman d).natAbs) :
    Calls Tryz.prog 25 #[.agg #[.bool (dbad d), .bool (decide (dman d < 0)), .slice a (nl (dman d).natAbs) c, .int .i64 (dexp d)], .agg #[.bool (dbad d), .bool (decide (dman d < 0)), .slice a' (nl (dman d).natAbs) c', .int .i64 (dexp d)]] W fun o w' => o = .returned (.bool true) ∧ Below W.heap.size W w' :=
  kdyad_any W _ _ _ _ _ _ _ _ _ _ _ _ _ _ h h' rfl rfl true (dyEq_self _ _ _ _).symm
set_option maxRecDepth 100000 in
set_option maxHeartbeats 20000000 in
theorem free_na (w : World) (hT : Tab w) (a b : Nat) (_ha : a < 18446744073709551616) (_hb : b < 18446744073709551616) (fa : ffin a = false) :
    Calls Tryz.prog 5 #[.int .u64 a, .int .u64 b] w fun o w' => o = .returned (.bool true) ∧ Below w.heap.size w w' := by
  have HW := fun W ht => Lib.hid (awakeA_any W ht)
  have HFa := fun W => Lib.hid (rfin_any W a)
  have HFb := fun W => Lib.hid (rfin_any W b)
  rw [fa] at HFa
  go_enter Tryz.func5, Tryz.ntmps5
  go_wp2_with fail
  have B0 : Below w.heap.size w w := Below.refl _ _
  (refine (HFa _).out.mono ?_; rintro e w1 ⟨rfl, rfl⟩; go_wp2_with fail)
  refine (HW _ (hT.below (have := Beh.mk B0; zbh))).out.mono ?_
  rintro e w1 ⟨rfl, hb1⟩
  have B1 := below_box (w := w) (have := Beh.mk B0; zbh) hb1
  clear hb1
  (try clear xx)
  (try clear B0)
  go_wp2_with fail
  go_ret
  exact ⟨rfl, (have := Beh.mk B1; zbh)⟩

set_option maxRecDepth 100000 in
set_option maxHeartbeats 20000000 in
theorem free_nb (w : World) (hT : Tab w) (a b : Nat) (_ha : a < 18446744073709551616) (_hb : b < 18446744073709551616) (fa : ffin a = true) (fb : ffin b = false) :
    Calls Tryz.prog 5 #[.int .u64 a, .int .u64 b] w fun o w' => o = .returned (.bool true) ∧ Below w.heap.size w w' := by
  have HW := fun W ht => Lib.hid (awakeA_any W ht)
  have HFa := fun W => Lib.hid (rfin_any W a)
  have HFb := fun W => Lib.hid (rfin_any W b)
  rw [fa] at HFa
  rw [fb] at HFb
  go_enter Tryz.func5, Tryz.ntmps5
  go_wp2_with fail
  have B0 : Below w.heap.size w w := Below.refl _ _
  (refine (HFa _).out.mono ?_; rintro e w1 ⟨rfl, rfl⟩; go_wp2_with fail)
  (refine (HFb _).out.mono ?_; rintro e w1 ⟨rfl, rfl⟩; go_wp2_with fail)
  refine (HW _ (hT.below (have := Beh.mk B0; zbh))).out.mono ?_
  rintro e w1 ⟨rfl, hb1⟩
  have B1 := below_box (w := w) (have := Beh.mk B0; zbh) hb1
  clear hb1
  (try clear xx)
  (try clear B0)
  go_wp2_with fail
  go_ret
  exact ⟨rfl, (have := Beh.mk B1; zbh)⟩

set_option maxRecDepth 100000 in
set_option maxHeartbeats 20000000 in
theorem free_mtt (w : World) (hT : Tab w) (a b : Nat) (ha : a < 18446744073709551616) (hb : b < 18446744073709551616) (fa : ffin a = true) (fb : ffin b = true) (hok : ffin (fadd a b 0) = true) (his : frestok (fmul a b 0) (dmul (fof a) (fof b)) = true) :
    Calls Tryz.prog 5 #[.int .u64 a, .int .u64 b] w fun o w' => o = .returned (.bool true) ∧ Below w.heap.size w w' := by
  have HW := fun W ht => Lib.hid (awakeA_any W ht)
  have HFa := fun W => Lib.hid (rfin_any W a)
  have HFb := fun W => Lib.hid (rfin_any W b)
  rw [fa] at HFa
  rw [fb] at HFb
  have k1 := free_sum fa fb
  rw [hok] at k1
  have HA := fun W ht => Lib.hid (wadd_any W a b ha hb 0 ht)
  have HM := fun W ht => Lib.hid (wmul_any W a b ha hb 0 ht)
  have HFs := fun W => Lib.hid (ffin_any W (fadd a b 0))
  rw [hok] at HFs
  have HOa := fun W ht => Lib.hid (fof_any W a ha ht)
  have HOb := fun W ht => Lib.hid (fof_any W b hb ht)
  have H1 := fun W ht => Lib.hid (show Calls Tryz.prog 32 #[.int .u64 a, .int .u64 b] W fun o w' => o = .returned (.tuple #[.int .u64 (fadd a b 0 : Nat), .int .u64 (frest (fadd a b 0) (dadd (fof a) (fof b)) : Nat), .bool true]) ∧ Below W.heap.size W w' from by
    have := atwosum_any W ht a b ha hb
    unfold rstS rstT at this
    rw [k1.1] at this
    simp only [if_true] at this; exact this)
  have e1 := k1.2 rfl
  have HOs := fun W ht => Lib.hid (fof_any W (fadd a b 0) (fadd_lt2 ha hb 0) ht)
  have HOt := fun W ht => Lib.hid (fof_any W (frest (fadd a b 0) (dadd (fof a) (fof b))) (frest_lt _ _) ht)
  have Ns := isN_fof (fadd a b 0)
  have Nt := isN_fof (frest (fadd a b 0) (dadd (fof a) (fof b)))
  have Na := isN_fof a
  have Nb := isN_fof b
  have HD1 := fun W b1 q1 b2 q2 (h1 : Mag W b1 (nl (dman (fof (fadd a b 0))).natAbs) q1 (dman (fof (fadd a b 0))).natAbs) (h2 : Mag W b2 (nl (dman (fof (frest (fadd a b 0) (dadd (fof a) (fof b))))).natAbs) q2 (dman (fof (frest (fadd a b 0) (dadd (fof a) (fof b))))).natAbs) ht => Lib.hid (dadd_any W _ _ _ _ _ _ _ _ _ _ _ _ _ _ (dyin_of Ns h1) (dyin_of Nt h2) ht)
  rw [e1] at HD1
  have HD2 := fun W b1 q1 b2 q2 (h1 : Mag W b1 (nl (dman (fof a)).natAbs) q1 (dman (fof a)).natAbs) (h2 : Mag W b2 (nl (dman (fof b)).natAbs) q2 (dman (fof b)).natAbs) ht => Lib.hid (dadd_any W _ _ _ _ _ _ _ _ _ _ _ _ _ _ (dyin_of Na h1) (dyin_of Nb h2) ht)
  have HK1 := fun W b1 q1 b2 q2 (h1 : Mag W b1 (nl (dman (dadd (fof a) (fof b))).natAbs) q1 (dman (dadd (fof a) (fof b))).natAbs) (h2 : Mag W b2 (nl (dman (dadd (fof a) (fof b))).natAbs) q2 (dman (dadd (fof a) (fof b))).natAbs) => Lib.hid (kdyad_eq W (dadd (fof a) (fof b)) b1 b2 q1 q2 h1 h2)
  clear e1 Ns Nt Na Nb
  have H2 := fun W ht => Lib.hid (show Calls Tryz.prog 34 #[.int .u64 a, .int .u64 b] W fun o w' => o = .returned (.tuple #[.int .u64 (fmul a b 0 : Nat), .int .u64 (frest (fmul a b 0) (dmul (fof a) (fof b)) : Nat), .bool true]) ∧ Below W.heap.size W w' from by
    have := atwomul_any W ht a b ha hb
    unfold rstS rstT at this
    rw [his] at this
    simp only [if_true] at this; exact this)
  have e2 := free_mul fa fb his
  have HOp := fun W ht => Lib.hid (fof_any W (fmul a b 0) (fmul_lt2 a b 0) ht)
  have HOq := fun W ht => Lib.hid (fof_any W (frest (fmul a b 0) (dmul (fof a) (fof b))) (frest_lt _ _) ht)
  have Ns := isN_fof (fmul a b 0)
  have Nt := isN_fof (frest (fmul a b 0) (dmul (fof a) (fof b)))
  have Na := isN_fof a
  have Nb := isN_fof b
  have HE1 := fun W b1 q1 b2 q2 (h1 : Mag W b1 (nl (dman (fof (fmul a b 0))).natAbs) q1 (dman (fof (fmul a b 0))).natAbs) (h2 : Mag W b2 (nl (dman (fof (frest (fmul a b 0) (dmul (fof a) (fof b))))).natAbs) q2 (dman (fof (frest (fmul a b 0) (dmul (fof a) (fof b))))).natAbs) ht => Lib.hid (dadd_any W _ _ _ _ _ _ _ _ _ _ _ _ _ _ (dyin_of Ns h1) (dyin_of Nt h2) ht)
  rw [e2] at HE1
  have HE2 := fun W b1 q1 b2 q2 (h1 : Mag W b1 (nl (dman (fof a)).natAbs) q1 (dman (fof a)).natAbs) (h2 : Mag W b2 (nl (dman (fof b)).natAbs) q2 (dman (fof b)).natAbs) ht => Lib.hid (dmul_any W _ _ _ _ _ _ _ _ _ _ _ _ _ _ (dyin_of Na h1) (dyin_of Nb h2) ht)
  have HK2 := fun W b1 q1 b2 q2 (h1 : Mag W b1 (nl (dman (dmul (fof a) (fof b))).natAbs) q1 (dman (dmul (fof a) (fof b))).natAbs) (h2 : Mag W b2 (nl (dman (dmul (fof a) (fof b))).natAbs) q2 (dman (dmul (fof a) (fof b))).natAbs) => Lib.hid (kdyad_eq W (dmul (fof a) (fof b)) b1 b2 q1 q2 h1 h2)
  clear e2 Ns Nt Na Nb
  clear k1 hok his fa fb ha hb
  generalize frest (fadd a b 0) (dadd (fof a) (fof b)) = R1 at *
  generalize frest (fmul a b 0) (dmul (fof a) (fof b)) = R2 at *
  generalize dadd (fof a) (fof b) = d1 at *
  generalize fof (fadd a b 0) = ds at *
  generalize fof R1 = dt at *
  generalize (R1 : Int) = V1 at *
  generalize dmul (fof a) (fof b) = d2 at *
  generalize fof (fmul a b 0) = dp at *
  generalize fof R2 = dq at *
  generalize (R2 : Int) = V2 at *
  generalize fof a = da at *
  generalize fof b = db at *
  generalize ((fadd a b 0 : Nat) : Int) = VS at *
  generalize ((fmul a b 0 : Nat) : Int) = VP at *
  go_enter Tryz.func5, Tryz.ntmps5
  go_wp2_with fail
  have B0 : Below w.heap.size w w := Below.refl _ _
  (refine (HFa _).out.mono ?_; rintro e w1 ⟨rfl, rfl⟩; go_wp2_with fail)
  (refine (HFb _).out.mono ?_; rintro e w1 ⟨rfl, rfl⟩; go_wp2_with fail)
  refine (H1 _ (hT.below (have := Beh.mk B0; zbh))).out.mono ?_
  rintro e w1 ⟨rfl, hb1⟩
  have B1 := below_box (w := w) (have := Beh.mk B0; zbh) hb1
  clear hb1
  (try clear xx)
  (try clear B0)
  go_wp2_with fail
  refine (HA _ (hT.below (have := Beh.mk B1; zbh))).out.mono ?_
  rintro e w2 ⟨rfl, hb2⟩
  have B2 := below_box (w := w) (have := Beh.mk B1; zbh) hb2
  clear hb2
  (try clear xx)
  (try clear B1)
  go_wp2_with fail
  (refine (HFs _).out.mono ?_; rintro e w1 ⟨rfl, rfl⟩; go_wp2_with fail)
  refine (HOs _ (hT.below (have := Beh.mk B2; zbh))).out.mono ?_
  rintro e w3 ⟨a1, c1, rfl, M13, hb3, hf3⟩
  have B3 := below_box (w := w) (have := Beh.mk B2; zbh) hb3
  clear hb3 hf3
  (try clear xx)
  (try clear B2)
  go_wp2_with fail
  refine (HOt _ (hT.below (have := Beh.mk B3; zbh))).out.mono ?_
  rintro e w4 ⟨a2, c2, rfl, M24, hb4, hf4⟩
  have M14 : Mag w4 a1 (nl (dman ds).natAbs) c1 (dman ds).natAbs := Mag.below (by repeat (with_reducible first | refine Mag.set ?_ (fun h => by have := M13 h; omega) _ _ | refine Mag.drew ?_ | refine Mag.alloc ?_ _ | refine Mag.drewN ?_ _ | exact M13)) hb4
  have B4 := below_box (w := w) (have := Beh.mk B3; zbh) hb4
  clear hb4 hf4
  (try clear xx)
  (try clear M13)
  (try clear B3)
  go_wp2_with fail
  refine (HD1 _ a1 c1 a2 c2 (by repeat (with_reducible first | refine Mag.set ?_ (fun h => by have := M14 h; omega) _ _ | refine Mag.drew ?_ | refine Mag.alloc ?_ _ | refine Mag.drewN ?_ _ | exact M14)) (by repeat (with_reducible first | refine Mag.set ?_ (fun h => by have := M24 h; omega) _ _ | refine Mag.drew ?_ | refine Mag.alloc ?_ _ | refine Mag.drewN ?_ _ | exact M24)) (hT.below (have := Beh.mk B4; zbh))).out.mono ?_
  rintro e w5 ⟨a3, c3, rfl, M35, hb5, hf5⟩
  have M15 : Mag w5 a1 (nl (dman ds).natAbs) c1 (dman ds).natAbs := Mag.below (by repeat (with_reducible first | refine Mag.set ?_ (fun h => by have := M14 h; omega) _ _ | refine Mag.drew ?_ | refine Mag.alloc ?_ _ | refine Mag.drewN ?_ _ | exact M14)) hb5
  have M25 : Mag w5 a2 (nl (dman dt).natAbs) c2 (dman dt).natAbs := Mag.below (by repeat (with_reducible first | refine Mag.set ?_ (fun h => by have := M24 h; omega) _ _ | refine Mag.drew ?_ | refine Mag.alloc ?_ _ | refine Mag.drewN ?_ _ | exact M24)) hb5
  have B5 := below_box (w := w) (have := Beh.mk B4; zbh) hb5
  clear hb5 hf5
  (try clear xx)
  (try clear M14)
  (try clear M24)
  (try clear B4)
  go_wp2_with fail
  refine (HOa _ (hT.below (have := Beh.mk B5; zbh))).out.mono ?_
  rintro e w6 ⟨a4, c4, rfl, M46, hb6, hf6⟩
  have M36 : Mag w6 a3 (nl (dman d1).natAbs) c3 (dman d1).natAbs := Mag.below (by repeat (with_reducible first | refine Mag.set ?_ (fun h => by have := M35 h; omega) _ _ | refine Mag.drew ?_ | refine Mag.alloc ?_ _ | refine Mag.drewN ?_ _ | exact M35)) hb6
  have B6 := below_box (w := w) (have := Beh.mk B5; zbh) hb6
  clear hb6 hf6
  (try clear xx)
  (try clear M35)
  (try clear B5)
  go_wp2_with fail
  refine (HOb _ (hT.below (have := Beh.mk B6; zbh))).out.mono ?_
  rintro e w7 ⟨a5, c5, rfl, M57, hb7, hf7⟩
  have M37 : Mag w7 a3 (nl (dman d1).natAbs) c3 (dman d1).natAbs := Mag.below (by repeat (with_reducible first | refine Mag.set ?_ (fun h => by have := M36 h; omega) _ _ | refine Mag.drew ?_ | refine Mag.alloc ?_ _ | refine Mag.drewN ?_ _ | exact M36)) hb7
  have M47 : Mag w7 a4 (nl (dman da).natAbs) c4 (dman da).natAbs := Mag.below (by repeat (with_reducible first | refine Mag.set ?_ (fun h => by have := M46 h; omega) _ _ | refine Mag.drew ?_ | refine Mag.alloc ?_ _ | refine Mag.drewN ?_ _ | exact M46)) hb7
  have B7 := below_box (w := w) (have := Beh.mk B6; zbh) hb7
  clear hb7 hf7
  (try clear xx)
  (try clear M36)
  (try clear M46)
  (try clear B6)
  go_wp2_with fail
  refine (HD2 _ a4 c4 a5 c5 (by repeat (with_reducible first | refine Mag.set ?_ (fun h => by have := M47 h; omega) _ _ | refine Mag.drew ?_ | refine Mag.alloc ?_ _ | refine Mag.drewN ?_ _ | exact M47)) (by repeat (with_reducible first | refine Mag.set ?_ (fun h => by have := M57 h; omega) _ _ | refine Mag.drew ?_ | refine Mag.alloc ?_ _ | refine Mag.drewN ?_ _ | exact M57)) (hT.below (have := Beh.mk B7; zbh))).out.mono ?_
  rintro e w8 ⟨a6, c6, rfl, M68, hb8, hf8⟩
  have M38 : Mag w8 a3 (nl (dman d1).natAbs) c3 (dman d1).natAbs := Mag.below (by repeat (with_reducible first | refine Mag.set ?_ (fun h => by have := M37 h; omega) _ _ | refine Mag.drew ?_ | refine Mag.alloc ?_ _ | refine Mag.drewN ?_ _ | exact M37)) hb8
  have M48 : Mag w8 a4 (nl (dman da).natAbs) c4 (dman da).natAbs := Mag.below (by repeat (with_reducible first | refine Mag.set ?_ (fun h => by have := M47 h; omega) _ _ | refine Mag.drew ?_ | refine Mag.alloc ?_ _ | refine Mag.drewN ?_ _ | exact M47)) hb8
  have M58 : Mag w8 a5 (nl (dman db).natAbs) c5 (dman db).natAbs := Mag.below (by repeat (with_reducible first | refine Mag.set ?_ (fun h => by have := M57 h; omega) _ _ | refine Mag.drew ?_ | refine Mag.alloc ?_ _ | refine Mag.drewN ?_ _ | exact M57)) hb8
  have B8 := below_box (w := w) (have := Beh.mk B7; zbh) hb8
  clear hb8 hf8
  (try clear xx)
  (try clear M37)
  (try clear M47)
  (try clear M57)
  (try clear B7)
  go_wp2_with fail
  refine (HK1 _ a3 c3 a6 c6 (by repeat (with_reducible first | refine Mag.set ?_ (fun h => by have := M38 h; omega) _ _ | refine Mag.drew ?_ | refine Mag.alloc ?_ _ | refine Mag.drewN ?_ _ | exact M38)) (by repeat (with_reducible first | refine Mag.set ?_ (fun h => by have := M68 h; omega) _ _ | refine Mag.drew ?_ | refine Mag.alloc ?_ _ | refine Mag.drewN ?_ _ | exact M68))).out.mono ?_
  rintro e w9 ⟨rfl, hb9⟩
  have M39 : Mag w9 a3 (nl (dman d1).natAbs) c3 (dman d1).natAbs := Mag.below (by repeat (with_reducible first | refine Mag.set ?_ (fun h => by have := M38 h; omega) _ _ | refine Mag.drew ?_ | refine Mag.alloc ?_ _ | refine Mag.drewN ?_ _ | exact M38)) hb9
  have M69 : Mag w9 a6 (nl (dman d1).natAbs) c6 (dman d1).natAbs := Mag.below (by repeat (with_reducible first | refine Mag.set ?_ (fun h => by have := M68 h; omega) _ _ | refine Mag.drew ?_ | refine Mag.alloc ?_ _ | refine Mag.drewN ?_ _ | exact M68)) hb9
  have B9 := below_box (w := w) (have := Beh.mk B8; zbh) hb9
  clear hb9
  (try clear xx)
  (try clear M38)
  (try clear M68)
  (try clear B8)
  go_wp2_with fail
  refine (H2 _ (hT.below (have := Beh.mk B9; zbh))).out.mono ?_
  rintro e w10 ⟨rfl, hb10⟩
  have B10 := below_box (w := w) (have := Beh.mk B9; zbh) hb10
  clear hb10
  (try clear xx)
  (try clear B9)
  go_wp2_with fail
  refine (HM _ (hT.below (have := Beh.mk B10; zbh))).out.mono ?_
  rintro e w11 ⟨rfl, hb11⟩
  have B11 := below_box (w := w) (have := Beh.mk B10; zbh) hb11
  clear hb11
  (try clear xx)
  (try clear B10)
  go_wp2_with fail
  refine (HOp _ (hT.below (have := Beh.mk B11; zbh))).out.mono ?_
  rintro e w12 ⟨a1, c1, rfl, M112, hb12, hf12⟩
  have B12 := below_box (w := w) (have := Beh.mk B11; zbh) hb12
  clear hb12 hf12
  (try clear xx)
  (try clear B11)
  go_wp2_with fail
  refine (HOq _ (hT.below (have := Beh.mk B12; zbh))).out.mono ?_
  rintro e w13 ⟨a2, c2, rfl, M213, hb13, hf13⟩
  have M113 : Mag w13 a1 (nl (dman dp).natAbs) c1 (dman dp).natAbs := Mag.below (by repeat (with_reducible first | refine Mag.set ?_ (fun h => by have := M112 h; omega) _ _ | refine Mag.drew ?_ | refine Mag.alloc ?_ _ | refine Mag.drewN ?_ _ | exact M112)) hb13
  have B13 := below_box (w := w) (have := Beh.mk B12; zbh) hb13
  clear hb13 hf13
  (try clear xx)
  (try clear M112)
  (try clear B12)
  go_wp2_with fail
  refine (HE1 _ a1 c1 a2 c2 (by repeat (with_reducible first | refine Mag.set ?_ (fun h => by have := M113 h; omega) _ _ | refine Mag.drew ?_ | refine Mag.alloc ?_ _ | refine Mag.drewN ?_ _ | exact M113)) (by repeat (with_reducible first | refine Mag.set ?_ (fun h => by have := M213 h; omega) _ _ | refine Mag.drew ?_ | refine Mag.alloc ?_ _ | refine Mag.drewN ?_ _ | exact M213)) (hT.below (have := Beh.mk B13; zbh))).out.mono ?_
  rintro e w14 ⟨a3, c3, rfl, M314, hb14, hf14⟩
  have M114 : Mag w14 a1 (nl (dman dp).natAbs) c1 (dman dp).natAbs := Mag.below (by repeat (with_reducible first | refine Mag.set ?_ (fun h => by have := M113 h; omega) _ _ | refine Mag.drew ?_ | refine Mag.alloc ?_ _ | refine Mag.drewN ?_ _ | exact M113)) hb14
  have M214 : Mag w14 a2 (nl (dman dq).natAbs) c2 (dman dq).natAbs := Mag.below (by repeat (with_reducible first | refine Mag.set ?_ (fun h => by have := M213 h; omega) _ _ | refine Mag.drew ?_ | refine Mag.alloc ?_ _ | refine Mag.drewN ?_ _ | exact M213)) hb14
  have B14 := below_box (w := w) (have := Beh.mk B13; zbh) hb14
  clear hb14 hf14
  (try clear xx)
  (try clear M113)
  (try clear M213)
  (try clear B13)
  go_wp2_with fail
  refine (HOa _ (hT.below (have := Beh.mk B14; zbh))).out.mono ?_
  rintro e w15 ⟨a4, c4, rfl, M415, hb15, hf15⟩
  have M315 : Mag w15 a3 (nl (dman d2).natAbs) c3 (dman d2).natAbs := Mag.below (by repeat (with_reducible first | refine Mag.set ?_ (fun h => by have := M314 h; omega) _ _ | refine Mag.drew ?_ | refine Mag.alloc ?_ _ | refine Mag.drewN ?_ _ | exact M314)) hb15
  have B15 := below_box (w := w) (have := Beh.mk B14; zbh) hb15
  clear hb15 hf15
  (try clear xx)
  (try clear M314)
  (try clear B14)
  go_wp2_with fail
  refine (HOb _ (hT.below (have := Beh.mk B15; zbh))).out.mono ?_
  rintro e w16 ⟨a5, c5, rfl, M516, hb16, hf16⟩
  have M316 : Mag w16 a3 (nl (dman d2).natAbs) c3 (dman d2).natAbs := Mag.below (by repeat (with_reducible first | refine Mag.set ?_ (fun h => by have := M315 h; omega) _ _ | refine Mag.drew ?_ | refine Mag.alloc ?_ _ | refine Mag.drewN ?_ _ | exact M315)) hb16
  have M416 : Mag w16 a4 (nl (dman da).natAbs) c4 (dman da).natAbs := Mag.below (by repeat (with_reducible first | refine Mag.set ?_ (fun h => by have := M415 h; omega) _ _ | refine Mag.drew ?_ | refine Mag.alloc ?_ _ | refine Mag.drewN ?_ _ | exact M415)) hb16
  have B16 := below_box (w := w) (have := Beh.mk B15; zbh) hb16
  clear hb16 hf16
  (try clear xx)
  (try clear M315)
  (try clear M415)
  (try clear B15)
  go_wp2_with fail
  refine (HE2 _ a4 c4 a5 c5 (by repeat (with_reducible first | refine Mag.set ?_ (fun h => by have := M416 h; omega) _ _ | refine Mag.drew ?_ | refine Mag.alloc ?_ _ | refine Mag.drewN ?_ _ | exact M416)) (by repeat (with_reducible first | refine Mag.set ?_ (fun h => by have := M516 h; omega) _ _ | refine Mag.drew ?_ | refine Mag.alloc ?_ _ | refine Mag.drewN ?_ _ | exact M516)) (hT.below (have := Beh.mk B16; zbh))).out.mono ?_
  rintro e w17 ⟨a6, c6, rfl, M617, hb17, hf17⟩
  have M317 : Mag w17 a3 (nl (dman d2).natAbs) c3 (dman d2).natAbs := Mag.below (by repeat (with_reducible first | refine Mag.set ?_ (fun h => by have := M316 h; omega) _ _ | refine Mag.drew ?_ | refine Mag.alloc ?_ _ | refine Mag.drewN ?_ _ | exact M316)) hb17
  have M417 : Mag w17 a4 (nl (dman da).natAbs) c4 (dman da).natAbs := Mag.below (by repeat (with_reducible first | refine Mag.set ?_ (fun h => by have := M416 h; omega) _ _ | refine Mag.drew ?_ | refine Mag.alloc ?_ _ | refine Mag.drewN ?_ _ | exact M416)) hb17
  have M517 : Mag w17 a5 (nl (dman db).natAbs) c5 (dman db).natAbs := Mag.below (by repeat (with_reducible first | refine Mag.set ?_ (fun h => by have := M516 h; omega) _ _ | refine Mag.drew ?_ | refine Mag.alloc ?_ _ | refine Mag.drewN ?_ _ | exact M516)) hb17
  have B17 := below_box (w := w) (have := Beh.mk B16; zbh) hb17
  clear hb17 hf17
  (try clear xx)
  (try clear M316)
  (try clear M416)
  (try clear M516)
  (try clear B16)
  go_wp2_with fail
  refine (HK2 _ a3 c3 a6 c6 (by repeat (with_reducible first | refine Mag.set ?_ (fun h => by have := M317 h; omega) _ _ | refine Mag.drew ?_ | refine Mag.alloc ?_ _ | refine Mag.drewN ?_ _ | exact M317)) (by repeat (with_reducible first | refine Mag.set ?_ (fun h => by have := M617 h; omega) _ _ | refine Mag.drew ?_ | refine Mag.alloc ?_ _ | refine Mag.drewN ?_ _ | exact M617))).out.mono ?_
  rintro e w18 ⟨rfl, hb18⟩
  have M318 : Mag w18 a3 (nl (dman d2).natAbs) c3 (dman d2).natAbs := Mag.below (by repeat (with_reducible first | refine Mag.set ?_ (fun h => by have := M317 h; omega) _ _ | refine Mag.drew ?_ | refine Mag.alloc ?_ _ | refine Mag.drewN ?_ _ | exact M317)) hb18
  have M618 : Mag w18 a6 (nl (dman d2).natAbs) c6 (dman d2).natAbs := Mag.below (by repeat (with_reducible first | refine Mag.set ?_ (fun h => by have := M617 h; omega) _ _ | refine Mag.drew ?_ | refine Mag.alloc ?_ _ | refine Mag.drewN ?_ _ | exact M617)) hb18
  have B18 := below_box (w := w) (have := Beh.mk B17; zbh) hb18
  clear hb18
  (try clear xx)
  (try clear M317)
  (try clear M617)
  (try clear B17)
  go_wp2_with fail
  refine (HW _ (hT.below (have := Beh.mk B18; zbh))).out.mono ?_
  rintro e w19 ⟨rfl, hb19⟩
  have B19 := below_box (w := w) (have := Beh.mk B18; zbh) hb19
  clear hb19
  (try clear xx)
  (try clear B18)
  go_wp2_with fail
  go_ret
  exact ⟨rfl, (have := Beh.mk B19; zbh)⟩

set_option maxRecDepth 100000 in
set_option maxHeartbeats 20000000 in
theorem free_mtf (w : World) (hT : Tab w) (a b : Nat) (ha : a < 18446744073709551616) (hb : b < 18446744073709551616) (fa : ffin a = true) (fb : ffin b = true) (hok : ffin (fadd a b 0) = true) (his : frestok (fmul a b 0) (dmul (fof a) (fof b)) = false) :
    Calls Tryz.prog 5 #[.int .u64 a, .int .u64 b] w fun o w' => o = .returned (.bool true) ∧ Below w.heap.size w w' := by
  have HW := fun W ht => Lib.hid (awakeA_any W ht)
  have HFa := fun W => Lib.hid (rfin_any W a)
  have HFb := fun W => Lib.hid (rfin_any W b)
  rw [fa] at HFa
  rw [fb] at HFb
  have k1 := free_sum fa fb
  rw [hok] at k1
  have HA := fun W ht => Lib.hid (wadd_any W a b ha hb 0 ht)
  have HM := fun W ht => Lib.hid (wmul_any W a b ha hb 0 ht)
  have HFs := fun W => Lib.hid (ffin_any W (fadd a b 0))
  rw [hok] at HFs
  have HOa := fun W ht => Lib.hid (fof_any W a ha ht)
  have HOb := fun W ht => Lib.hid (fof_any W b hb ht)
  have H1 := fun W ht => Lib.hid (show Calls Tryz.prog 32 #[.int .u64 a, .int .u64 b] W fun o w' => o = .returned (.tuple #[.int .u64 (fadd a b 0 : Nat), .int .u64 (frest (fadd a b 0) (dadd (fof a) (fof b)) : Nat), .bool true]) ∧ Below W.heap.size W w' from by
    have := atwosum_any W ht a b ha hb
    unfold rstS rstT at this
    rw [k1.1] at this
    simp only [if_true] at this; exact this)
  have e1 := k1.2 rfl
  have HOs := fun W ht => Lib.hid (fof_any W (fadd a b 0) (fadd_lt2 ha hb 0) ht)
  have HOt := fun W ht => Lib.hid (fof_any W (frest (fadd a b 0) (dadd (fof a) (fof b))) (frest_lt _ _) ht)
  have Ns := isN_fof (fadd a b 0)
  have Nt := isN_fof (frest (fadd a b 0) (dadd (fof a) (fof b)))
  have Na := isN_fof a
  have Nb := isN_fof b
  have HD1 := fun W b1 q1 b2 q2 (h1 : Mag W b1 (nl (dman (fof (fadd a b 0))).natAbs) q1 (dman (fof (fadd a b 0))).natAbs) (h2 : Mag W b2 (nl (dman (fof (frest (fadd a b 0) (dadd (fof a) (fof b))))).natAbs) q2 (dman (fof (frest (fadd a b 0) (dadd (fof a) (fof b))))).natAbs) ht => Lib.hid (dadd_any W _ _ _ _ _ _ _ _ _ _ _ _ _ _ (dyin_of Ns h1) (dyin_of Nt h2) ht)
  rw [e1] at HD1
  have HD2 := fun W b1 q1 b2 q2 (h1 : Mag W b1 (nl (dman (fof a)).natAbs) q1 (dman (fof a)).natAbs) (h2 : Mag W b2 (nl (dman (fof b)).natAbs) q2 (dman (fof b)).natAbs) ht => Lib.hid (dadd_any W _ _ _ _ _ _ _ _ _ _ _ _ _ _ (dyin_of Na h1) (dyin_of Nb h2) ht)
  have HK1 := fun W b1 q1 b2 q2 (h1 : Mag W b1 (nl (dman (dadd (fof a) (fof b))).natAbs) q1 (dman (dadd (fof a) (fof b))).natAbs) (h2 : Mag W b2 (nl (dman (dadd (fof a) (fof b))).natAbs) q2 (dman (dadd (fof a) (fof b))).natAbs) => Lib.hid (kdyad_eq W (dadd (fof a) (fof b)) b1 b2 q1 q2 h1 h2)
  clear e1 Ns Nt Na Nb
  have H2 := fun W ht => Lib.hid (show Calls Tryz.prog 34 #[.int .u64 a, .int .u64 b] W fun o w' => o = .returned (.tuple #[.int .u64 0, .int .u64 0, .bool false]) ∧ Below W.heap.size W w' from by
    have := atwomul_any W ht a b ha hb
    unfold rstS rstT at this
    rw [his] at this
    simp only [Bool.false_eq_true, if_false] at this; exact this)
  clear k1 hok his fa fb ha hb
  generalize frest (fadd a b 0) (dadd (fof a) (fof b)) = R1 at *
  generalize dadd (fof a) (fof b) = d1 at *
  generalize fof (fadd a b 0) = ds at *
  generalize fof R1 = dt at *
  generalize (R1 : Int) = V1 at *
  generalize fof a = da at *
  generalize fof b = db at *
  generalize ((fadd a b 0 : Nat) : Int) = VS at *
  generalize ((fmul a b 0 : Nat) : Int) = VP at *
  go_enter Tryz.func5, Tryz.ntmps5
  go_wp2_with fail
  have B0 : Below w.heap.size w w := Below.refl _ _
  (refine (HFa _).out.mono ?_; rintro e w1 ⟨rfl, rfl⟩; go_wp2_with fail)
  (refine (HFb _).out.mono ?_; rintro e w1 ⟨rfl, rfl⟩; go_wp2_with fail)
  refine (H1 _ (hT.below (have := Beh.mk B0; zbh))).out.mono ?_
  rintro e w1 ⟨rfl, hb1⟩
  have B1 := below_box (w := w) (have := Beh.mk B0; zbh) hb1
  clear hb1
  (try clear xx)
  (try clear B0)
  go_wp2_with fail
  refine (HA _ (hT.below (have := Beh.mk B1; zbh))).out.mono ?_
  rintro e w2 ⟨rfl, hb2⟩
  have B2 := below_box (w := w) (have := Beh.mk B1; zbh) hb2
  clear hb2
  (try clear xx)
  (try clear B1)
  go_wp2_with fail
  (refine (HFs _).out.mono ?_; rintro e w1 ⟨rfl, rfl⟩; go_wp2_with fail)
  refine (HOs _ (hT.below (have := Beh.mk B2; zbh))).out.mono ?_
  rintro e w3 ⟨a1, c1, rfl, M13, hb3, hf3⟩
  have B3 := below_box (w := w) (have := Beh.mk B2; zbh) hb3
  clear hb3 hf3
  (try clear xx)
  (try clear B2)
  go_wp2_with fail
  refine (HOt _ (hT.below (have := Beh.mk B3; zbh))).out.mono ?_
  rintro e w4 ⟨a2, c2, rfl, M24, hb4, hf4⟩
  have M14 : Mag w4 a1 (nl (dman ds).natAbs) c1 (dman ds).natAbs := Mag.below (by repeat (with_reducible first | refine Mag.set ?_ (fun h => by have := M13 h; omega) _ _ | refine Mag.drew ?_ | refine Mag.alloc ?_ _ | refine Mag.drewN ?_ _ | exact M13)) hb4
  have B4 := below_box (w := w) (have := Beh.mk B3; zbh) hb4
  clear hb4 hf4
  (try clear xx)
  (try clear M13)
  (try clear B3)
  go_wp2_with fail
  refine (HD1 _ a1 c1 a2 c2 (by repeat (with_reducible first | refine Mag.set ?_ (fun h => by have := M14 h; omega) _ _ | refine Mag.drew ?_ | refine Mag.alloc ?_ _ | refine Mag.drewN ?_ _ | exact M14)) (by repeat (with_reducible first | refine Mag.set ?_ (fun h => by have := M24 h; omega) _ _ | refine Mag.drew ?_ | refine Mag.alloc ?_ _ | refine Mag.drewN ?_ _ | exact M24)) (hT.below (have := Beh.mk B4; zbh))).out.mono ?_
  rintro e w5 ⟨a3, c3, rfl, M35, hb5, hf5⟩
  have M15 : Mag w5 a1 (nl (dman ds).natAbs) c1 (dman ds).natAbs := Mag.below (by repeat (with_reducible first | refine Mag.set ?_ (fun h => by have := M14 h; omega) _ _ | refine Mag.drew ?_ | refine Mag.alloc ?_ _ | refine Mag.drewN ?_ _ | exact M14)) hb5
  have M25 : Mag w5 a2 (nl (dman dt).natAbs) c2 (dman dt).natAbs := Mag.below (by repeat (with_reducible first | refine Mag.set ?_ (fun h => by have := M24 h; omega) _ _ | refine Mag.drew ?_ | refine Mag.alloc ?_ _ | refine Mag.drewN ?_ _ | exact M24)) hb5
  have B5 := below_box (w := w) (have := Beh.mk B4; zbh) hb5
  clear hb5 hf5
  (try clear xx)
  (try clear M14)
  (try clear M24)
  (try clear B4)
  go_wp2_with fail
  refine (HOa _ (hT.below (have := Beh.mk B5; zbh))).out.mono ?_
  rintro e w6 ⟨a4, c4, rfl, M46, hb6, hf6⟩
  have M36 : Mag w6 a3 (nl (dman d1).natAbs) c3 (dman d1).natAbs := Mag.below (by repeat (with_reducible first | refine Mag.set ?_ (fun h => by have := M35 h; omega) _ _ | refine Mag.drew ?_ | refine Mag.alloc ?_ _ | refine Mag.drewN ?_ _ | exact M35)) hb6
  have B6 := below_box (w := w) (have := Beh.mk B5; zbh) hb6
  clear hb6 hf6
  (try clear xx)
  (try clear M35)
  (try clear B5)
  go_wp2_with fail
  refine (HOb _ (hT.below (have := Beh.mk B6; zbh))).out.mono ?_
  rintro e w7 ⟨a5, c5, rfl, M57, hb7, hf7⟩
  have M37 : Mag w7 a3 (nl (dman d1).natAbs) c3 (dman d1).natAbs := Mag.below (by repeat (with_reducible first | refine Mag.set ?_ (fun h => by have := M36 h; omega) _ _ | refine Mag.drew ?_ | refine Mag.alloc ?_ _ | refine Mag.drewN ?_ _ | exact M36)) hb7
  have M47 : Mag w7 a4 (nl (dman da).natAbs) c4 (dman da).natAbs := Mag.below (by repeat (with_reducible first | refine Mag.set ?_ (fun h => by have := M46 h; omega) _ _ | refine Mag.drew ?_ | refine Mag.alloc ?_ _ | refine Mag.drewN ?_ _ | exact M46)) hb7
  have B7 := below_box (w := w) (have := Beh.mk B6; zbh) hb7
  clear hb7 hf7
  (try clear xx)
  (try clear M36)
  (try clear M46)
  (try clear B6)
  go_wp2_with fail
  refine (HD2 _ a4 c4 a5 c5 (by repeat (with_reducible first | refine Mag.set ?_ (fun h => by have := M47 h; omega) _ _ | refine Mag.drew ?_ | refine Mag.alloc ?_ _ | refine Mag.drewN ?_ _ | exact M47)) (by repeat (with_reducible first | refine Mag.set ?_ (fun h => by have := M57 h; omega) _ _ | refine Mag.drew ?_ | refine Mag.alloc ?_ _ | refine Mag.drewN ?_ _ | exact M57)) (hT.below (have := Beh.mk B7; zbh))).out.mono ?_
  rintro e w8 ⟨a6, c6, rfl, M68, hb8, hf8⟩
  have M38 : Mag w8 a3 (nl (dman d1).natAbs) c3 (dman d1).natAbs := Mag.below (by repeat (with_reducible first | refine Mag.set ?_ (fun h => by have := M37 h; omega) _ _ | refine Mag.drew ?_ | refine Mag.alloc ?_ _ | refine Mag.drewN ?_ _ | exact M37)) hb8
  have M48 : Mag w8 a4 (nl (dman da).natAbs) c4 (dman da).natAbs := Mag.below (by repeat (with_reducible first | refine Mag.set ?_ (fun h => by have := M47 h; omega) _ _ | refine Mag.drew ?_ | refine Mag.alloc ?_ _ | refine Mag.drewN ?_ _ | exact M47)) hb8
  have M58 : Mag w8 a5 (nl (dman db).natAbs) c5 (dman db).natAbs := Mag.below (by repeat (with_reducible first | refine Mag.set ?_ (fun h => by have := M57 h; omega) _ _ | refine Mag.drew ?_ | refine Mag.alloc ?_ _ | refine Mag.drewN ?_ _ | exact M57)) hb8
  have B8 := below_box (w := w) (have := Beh.mk B7; zbh) hb8
  clear hb8 hf8
  (try clear xx)
  (try clear M37)
  (try clear M47)
  (try clear M57)
  (try clear B7)
  go_wp2_with fail
  refine (HK1 _ a3 c3 a6 c6 (by repeat (with_reducible first | refine Mag.set ?_ (fun h => by have := M38 h; omega) _ _ | refine Mag.drew ?_ | refine Mag.alloc ?_ _ | refine Mag.drewN ?_ _ | exact M38)) (by repeat (with_reducible first | refine Mag.set ?_ (fun h => by have := M68 h; omega) _ _ | refine Mag.drew ?_ | refine Mag.alloc ?_ _ | refine Mag.drewN ?_ _ | exact M68))).out.mono ?_
  rintro e w9 ⟨rfl, hb9⟩
  have M39 : Mag w9 a3 (nl (dman d1).natAbs) c3 (dman d1).natAbs := Mag.below (by repeat (with_reducible first | refine Mag.set ?_ (fun h => by have := M38 h; omega) _ _ | refine Mag.drew ?_ | refine Mag.alloc ?_ _ | refine Mag.drewN ?_ _ | exact M38)) hb9
  have M69 : Mag w9 a6 (nl (dman d1).natAbs) c6 (dman d1).natAbs := Mag.below (by repeat (with_reducible first | refine Mag.set ?_ (fun h => by have := M68 h; omega) _ _ | refine Mag.drew ?_ | refine Mag.alloc ?_ _ | refine Mag.drewN ?_ _ | exact M68)) hb9
  have B9 := below_box (w := w) (have := Beh.mk B8; zbh) hb9
  clear hb9
  (try clear xx)
  (try clear M38)
  (try clear M68)
  (try clear B8)
  go_wp2_with fail
  refine (H2 _ (hT.below (have := Beh.mk B9; zbh))).out.mono ?_
  rintro e w10 ⟨rfl, hb10⟩
  have B10 := below_box (w := w) (have := Beh.mk B9; zbh) hb10
  clear hb10
  (try clear xx)
  (try clear B9)
  go_wp2_with fail
  refine (HW _ (hT.below (have := Beh.mk B10; zbh))).out.mono ?_
  rintro e w11 ⟨rfl, hb11⟩
  have B11 := below_box (w := w) (have := Beh.mk B10; zbh) hb11
  clear hb11
  (try clear xx)
  (try clear B10)
  go_wp2_with fail
  go_ret
  exact ⟨rfl, (have := Beh.mk B11; zbh)⟩

set_option maxRecDepth 100000 in
set_option maxHeartbeats 20000000 in
theorem free_mft (w : World) (hT : Tab w) (a b : Nat) (ha : a < 18446744073709551616) (hb : b < 18446744073709551616) (fa : ffin a = true) (fb : ffin b = true) (hok : ffin (fadd a b 0) = false) (his : frestok (fmul a b 0) (dmul (fof a) (fof b)) = true) :
    Calls Tryz.prog 5 #[.int .u64 a, .int .u64 b] w fun o w' => o = .returned (.bool true) ∧ Below w.heap.size w w' := by
  have HW := fun W ht => Lib.hid (awakeA_any W ht)
  have HFa := fun W => Lib.hid (rfin_any W a)
  have HFb := fun W => Lib.hid (rfin_any W b)
  rw [fa] at HFa
  rw [fb] at HFb
  have k1 := free_sum fa fb
  rw [hok] at k1
  have HA := fun W ht => Lib.hid (wadd_any W a b ha hb 0 ht)
  have HM := fun W ht => Lib.hid (wmul_any W a b ha hb 0 ht)
  have HFs := fun W => Lib.hid (ffin_any W (fadd a b 0))
  rw [hok] at HFs
  have HOa := fun W ht => Lib.hid (fof_any W a ha ht)
  have HOb := fun W ht => Lib.hid (fof_any W b hb ht)
  have H1 := fun W ht => Lib.hid (show Calls Tryz.prog 32 #[.int .u64 a, .int .u64 b] W fun o w' => o = .returned (.tuple #[.int .u64 0, .int .u64 0, .bool false]) ∧ Below W.heap.size W w' from by
    have := atwosum_any W ht a b ha hb
    unfold rstS rstT at this
    rw [k1.1] at this
    simp only [Bool.false_eq_true, if_false] at this; exact this)
  have H2 := fun W ht => Lib.hid (show Calls Tryz.prog 34 #[.int .u64 a, .int .u64 b] W fun o w' => o = .returned (.tuple #[.int .u64 (fmul a b 0 : Nat), .int .u64 (frest (fmul a b 0) (dmul (fof a) (fof b)) : Nat), .bool true]) ∧ Below W.heap.size W w' from by
    have := atwomul_any W ht a b ha hb
    unfold rstS rstT at this
    rw [his] at this
    simp only [if_true] at this; exact this)
  have e2 := free_mul fa fb his
  have HOp := fun W ht => Lib.hid (fof_any W (fmul a b 0) (fmul_lt2 a b 0) ht)
  have HOq := fun W ht => Lib.hid (fof_any W (frest (fmul a b 0) (dmul (fof a) (fof b))) (frest_lt _ _) ht)
  have Ns := isN_fof (fmul a b 0)
  have Nt := isN_fof (frest (fmul a b 0) (dmul (fof a) (fof b)))
  have Na := isN_fof a
  have Nb := isN_fof b
  have HE1 := fun W b1 q1 b2 q2 (h1 : Mag W b1 (nl (dman (fof (fmul a b 0))).natAbs) q1 (dman (fof (fmul a b 0))).natAbs) (h2 : Mag W b2 (nl (dman (fof (frest (fmul a b 0) (dmul (fof a) (fof b))))).natAbs) q2 (dman (fof (frest (fmul a b 0) (dmul (fof a) (fof b))))).natAbs) ht => Lib.hid (dadd_any W _ _ _ _ _ _ _ _ _ _ _ _ _ _ (dyin_of Ns h1) (dyin_of Nt h2) ht)
  rw [e2] at HE1
  have HE2 := fun W b1 q1 b2 q2 (h1 : Mag W b1 (nl (dman (fof a)).natAbs) q1 (dman (fof a)).natAbs) (h2 : Mag W b2 (nl (dman (fof b)).natAbs) q2 (dman (fof b)).natAbs) ht => Lib.hid (dmul_any W _ _ _ _ _ _ _ _ _ _ _ _ _ _ (dyin_of Na h1) (dyin_of Nb h2) ht)
  have HK2 := fun W b1 q1 b2 q2 (h1 : Mag W b1 (nl (dman (dmul (fof a) (fof b))).natAbs) q1 (dman (dmul (fof a) (fof b))).natAbs) (h2 : Mag W b2 (nl (dman (dmul (fof a) (fof b))).natAbs) q2 (dman (dmul (fof a) (fof b))).natAbs) => Lib.hid (kdyad_eq W (dmul (fof a) (fof b)) b1 b2 q1 q2 h1 h2)
  clear e2 Ns Nt Na Nb
  clear k1 hok his fa fb ha hb
  generalize frest (fmul a b 0) (dmul (fof a) (fof b)) = R2 at *
  generalize dmul (fof a) (fof b) = d2 at *
  generalize fof (fmul a b 0) = dp at *
  generalize fof R2 = dq at *
  generalize (R2 : Int) = V2 at *
  generalize fof a = da at *
  generalize fof b = db at *
  generalize ((fadd a b 0 : Nat) : Int) = VS at *
  generalize ((fmul a b 0 : Nat) : Int) = VP at *
  go_enter Tryz.func5, Tryz.ntmps5
  go_wp2_with fail
  have B0 : Below w.heap.size w w := Below.refl _ _
  (refine (HFa _).out.mono ?_; rintro e w1 ⟨rfl, rfl⟩; go_wp2_with fail)
  (refine (HFb _).out.mono ?_; rintro e w1 ⟨rfl, rfl⟩; go_wp2_with fail)
  refine (H1 _ (hT.below (have := Beh.mk B0; zbh))).out.mono ?_
  rintro e w1 ⟨rfl, hb1⟩
  have B1 := below_box (w := w) (have := Beh.mk B0; zbh) hb1
  clear hb1
  (try clear xx)
  (try clear B0)
  go_wp2_with fail
  refine (HA _ (hT.below (have := Beh.mk B1; zbh))).out.mono ?_
  rintro e w2 ⟨rfl, hb2⟩
  have B2 := below_box (w := w) (have := Beh.mk B1; zbh) hb2
  clear hb2
  (try clear xx)
  (try clear B1)
  go_wp2_with fail
  (refine (HFs _).out.mono ?_; rintro e w1 ⟨rfl, rfl⟩; go_wp2_with fail)
  refine (H2 _ (hT.below (have := Beh.mk B2; zbh))).out.mono ?_
  rintro e w3 ⟨rfl, hb3⟩
  have B3 := below_box (w := w) (have := Beh.mk B2; zbh) hb3
  clear hb3
  (try clear xx)
  (try clear B2)
  go_wp2_with fail
  refine (HM _ (hT.below (have := Beh.mk B3; zbh))).out.mono ?_
  rintro e w4 ⟨rfl, hb4⟩
  have B4 := below_box (w := w) (have := Beh.mk B3; zbh) hb4
  clear hb4
  (try clear xx)
  (try clear B3)
  go_wp2_with fail
  refine (HOp _ (hT.below (have := Beh.mk B4; zbh))).out.mono ?_
  rintro e w5 ⟨a1, c1, rfl, M15, hb5, hf5⟩
  have B5 := below_box (w := w) (have := Beh.mk B4; zbh) hb5
  clear hb5 hf5
  (try clear xx)
  (try clear B4)
  go_wp2_with fail
  refine (HOq _ (hT.below (have := Beh.mk B5; zbh))).out.mono ?_
  rintro e w6 ⟨a2, c2, rfl, M26, hb6, hf6⟩
  have M16 : Mag w6 a1 (nl (dman dp).natAbs) c1 (dman dp).natAbs := Mag.below (by repeat (with_reducible first | refine Mag.set ?_ (fun h => by have := M15 h; omega) _ _ | refine Mag.drew ?_ | refine Mag.alloc ?_ _ | refine Mag.drewN ?_ _ | exact M15)) hb6
  have B6 := below_box (w := w) (have := Beh.mk B5; zbh) hb6
  clear hb6 hf6
  (try clear xx)
  (try clear M15)
  (try clear B5)
  go_wp2_with fail
  refine (HE1 _ a1 c1 a2 c2 (by repeat (with_reducible first | refine Mag.set ?_ (fun h => by have := M16 h; omega) _ _ | refine Mag.drew ?_ | refine Mag.alloc ?_ _ | refine Mag.drewN ?_ _ | exact M16)) (by repeat (with_reducible first | refine Mag.set ?_ (fun h => by have := M26 h; omega) _ _ | refine Mag.drew ?_ | refine Mag.alloc ?_ _ | refine Mag.drewN ?_ _ | exact M26)) (hT.below (have := Beh.mk B6; zbh))).out.mono ?_
  rintro e w7 ⟨a3, c3, rfl, M37, hb7, hf7⟩
  have M17 : Mag w7 a1 (nl (dman dp).natAbs) c1 (dman dp).natAbs := Mag.below (by repeat (with_reducible first | refine Mag.set ?_ (fun h => by have := M16 h; omega) _ _ | refine Mag.drew ?_ | refine Mag.alloc ?_ _ | refine Mag.drewN ?_ _ | exact M16)) hb7
  have M27 : Mag w7 a2 (nl (dman dq).natAbs) c2 (dman dq).natAbs := Mag.below (by repeat (with_reducible first | refine Mag.set ?_ (fun h => by have := M26 h; omega) _ _ | refine Mag.drew ?_ | refine Mag.alloc ?_ _ | refine Mag.drewN ?_ _ | exact M26)) hb7
  have B7 := below_box (w := w) (have := Beh.mk B6; zbh) hb7
  clear hb7 hf7
  (try clear xx)
  (try clear M16)
  (try clear M26)
  (try clear B6)
  go_wp2_with fail
  refine (HOa _ (hT.below (have := Beh.mk B7; zbh))).out.mono ?_
  rintro e w8 ⟨a4, c4, rfl, M48, hb8, hf8⟩
  have M38 : Mag w8 a3 (nl (dman d2).natAbs) c3 (dman d2).natAbs := Mag.below (by repeat (with_reducible first | refine Mag.set ?_ (fun h => by have := M37 h; omega) _ _ | refine Mag.drew ?_ | refine Mag.alloc ?_ _ | refine Mag.drewN ?_ _ | exact M37)) hb8
  have B8 := below_box (w := w) (have := Beh.mk B7; zbh) hb8
  clear hb8 hf8
  (try clear xx)
  (try clear M37)
  (try clear B7)
  go_wp2_with fail
  refine (HOb _ (hT.below (have := Beh.mk B8; zbh))).out.mono ?_
  rintro e w9 ⟨a5, c5, rfl, M59, hb9, hf9⟩
  have M39 : Mag w9 a3 (nl (dman d2).natAbs) c3 (dman d2).natAbs := Mag.below (by repeat (with_reducible first | refine Mag.set ?_ (fun h => by have := M38 h; omega) _ _ | refine Mag.drew ?_ | refine Mag.alloc ?_ _ | refine Mag.drewN ?_ _ | exact M38)) hb9
  have M49 : Mag w9 a4 (nl (dman da).natAbs) c4 (dman da).natAbs := Mag.below (by repeat (with_reducible first | refine Mag.set ?_ (fun h => by have := M48 h; omega) _ _ | refine Mag.drew ?_ | refine Mag.alloc ?_ _ | refine Mag.drewN ?_ _ | exact M48)) hb9
  have B9 := below_box (w := w) (have := Beh.mk B8; zbh) hb9
  clear hb9 hf9
  (try clear xx)
  (try clear M38)
  (try clear M48)
  (try clear B8)
  go_wp2_with fail
  refine (HE2 _ a4 c4 a5 c5 (by repeat (with_reducible first | refine Mag.set ?_ (fun h => by have := M49 h; omega) _ _ | refine Mag.drew ?_ | refine Mag.alloc ?_ _ | refine Mag.drewN ?_ _ | exact M49)) (by repeat (with_reducible first | refine Mag.set ?_ (fun h => by have := M59 h; omega) _ _ | refine Mag.drew ?_ | refine Mag.alloc ?_ _ | refine Mag.drewN ?_ _ | exact M59)) (hT.below (have := Beh.mk B9; zbh))).out.mono ?_
  rintro e w10 ⟨a6, c6, rfl, M610, hb10, hf10⟩
  have M310 : Mag w10 a3 (nl (dman d2).natAbs) c3 (dman d2).natAbs := Mag.below (by repeat (with_reducible first | refine Mag.set ?_ (fun h => by have := M39 h; omega) _ _ | refine Mag.drew ?_ | refine Mag.alloc ?_ _ | refine Mag.drewN ?_ _ | exact M39)) hb10
  have M410 : Mag w10 a4 (nl (dman da).natAbs) c4 (dman da).natAbs := Mag.below (by repeat (with_reducible first | refine Mag.set ?_ (fun h => by have := M49 h; omega) _ _ | refine Mag.drew ?_ | refine Mag.alloc ?_ _ | refine Mag.drewN ?_ _ | exact M49)) hb10
  have M510 : Mag w10 a5 (nl (dman db).natAbs) c5 (dman db).natAbs := Mag.below (by repeat (with_reducible first | refine Mag.set ?_ (fun h => by have := M59 h; omega) _ _ | refine Mag.drew ?_ | refine Mag.alloc ?_ _ | refine Mag.drewN ?_ _ | exact M59)) hb10
  have B10 := below_box (w := w) (have := Beh.mk B9; zbh) hb10
  clear hb10 hf10
  (try clear xx)
  (try clear M39)
  (try clear M49)
  (try clear M59)
  (try clear B9)
  go_wp2_with fail
  refine (HK2 _ a3 c3 a6 c6 (by repeat (with_reducible first | refine Mag.set ?_ (fun h => by have := M310 h; omega) _ _ | refine Mag.drew ?_ | refine Mag.alloc ?_ _ | refine Mag.drewN ?_ _ | exact M310)) (by repeat (with_reducible first | refine Mag.set ?_ (fun h => by have := M610 h; omega) _ _ | refine Mag.drew ?_ | refine Mag.alloc ?_ _ | refine Mag.drewN ?_ _ | exact M610))).out.mono ?_
  rintro e w11 ⟨rfl, hb11⟩
  have M311 : Mag w11 a3 (nl (dman d2).natAbs) c3 (dman d2).natAbs := Mag.below (by repeat (with_reducible first | refine Mag.set ?_ (fun h => by have := M310 h; omega) _ _ | refine Mag.drew ?_ | refine Mag.alloc ?_ _ | refine Mag.drewN ?_ _ | exact M310)) hb11
  have M611 : Mag w11 a6 (nl (dman d2).natAbs) c6 (dman d2).natAbs := Mag.below (by repeat (with_reducible first | refine Mag.set ?_ (fun h => by have := M610 h; omega) _ _ | refine Mag.drew ?_ | refine Mag.alloc ?_ _ | refine Mag.drewN ?_ _ | exact M610)) hb11
  have B11 := below_box (w := w) (have := Beh.mk B10; zbh) hb11
  clear hb11
  (try clear xx)
  (try clear M310)
  (try clear M610)
  (try clear B10)
  go_wp2_with fail
  refine (HW _ (hT.below (have := Beh.mk B11; zbh))).out.mono ?_
  rintro e w12 ⟨rfl, hb12⟩
  have B12 := below_box (w := w) (have := Beh.mk B11; zbh) hb12
  clear hb12
  (try clear xx)
  (try clear B11)
  go_wp2_with fail
  go_ret
  exact ⟨rfl, (have := Beh.mk B12; zbh)⟩

set_option maxRecDepth 100000 in
set_option maxHeartbeats 20000000 in
theorem free_mff (w : World) (hT : Tab w) (a b : Nat) (ha : a < 18446744073709551616) (hb : b < 18446744073709551616) (fa : ffin a = true) (fb : ffin b = true) (hok : ffin (fadd a b 0) = false) (his : frestok (fmul a b 0) (dmul (fof a) (fof b)) = false) :
    Calls Tryz.prog 5 #[.int .u64 a, .int .u64 b] w fun o w' => o = .returned (.bool true) ∧ Below w.heap.size w w' := by
  have HW := fun W ht => Lib.hid (awakeA_any W ht)
  have HFa := fun W => Lib.hid (rfin_any W a)
  have HFb := fun W => Lib.hid (rfin_any W b)
  rw [fa] at HFa
  rw [fb] at HFb
  have k1 := free_sum fa fb
  rw [hok] at k1
  have HA := fun W ht => Lib.hid (wadd_any W a b ha hb 0 ht)
  have HM := fun W ht => Lib.hid (wmul_any W a b ha hb 0 ht)
  have HFs := fun W => Lib.hid (ffin_any W (fadd a b 0))
  rw [hok] at HFs
  have HOa := fun W ht => Lib.hid (fof_any W a ha ht)
  have HOb := fun W ht => Lib.hid (fof_any W b hb ht)
  have H1 := fun W ht => Lib.hid (show Calls Tryz.prog 32 #[.int .u64 a, .int .u64 b] W fun o w' => o = .returned (.tuple #[.int .u64 0, .int .u64 0, .bool false]) ∧ Below W.heap.size W w' from by
    have := atwosum_any W ht a b ha hb
    unfold rstS rstT at this
    rw [k1.1] at this
    simp only [Bool.false_eq_true, if_false] at this; exact this)
  have H2 := fun W ht => Lib.hid (show Calls Tryz.prog 34 #[.int .u64 a, .int .u64 b] W fun o w' => o = .returned (.tuple #[.int .u64 0, .int .u64 0, .bool false]) ∧ Below W.heap.size W w' from by
    have := atwomul_any W ht a b ha hb
    unfold rstS rstT at this
    rw [his] at this
    simp only [Bool.false_eq_true, if_false] at this; exact this)
  clear k1 hok his fa fb ha hb
  generalize fof a = da at *
  generalize fof b = db at *
  generalize ((fadd a b 0 : Nat) : Int) = VS at *
  generalize ((fmul a b 0 : Nat) : Int) = VP at *
  go_enter Tryz.func5, Tryz.ntmps5
  go_wp2_with fail
  have B0 : Below w.heap.size w w := Below.refl _ _
  (refine (HFa _).out.mono ?_; rintro e w1 ⟨rfl, rfl⟩; go_wp2_with fail)
  (refine (HFb _).out.mono ?_; rintro e w1 ⟨rfl, rfl⟩; go_wp2_with fail)
  refine (H1 _ (hT.below (have := Beh.mk B0; zbh))).out.mono ?_
  rintro e w1 ⟨rfl, hb1⟩
  have B1 := below_box (w := w) (have := Beh.mk B0; zbh) hb1
  clear hb1
  (try clear xx)
  (try clear B0)
  go_wp2_with fail
  refine (HA _ (hT.below (have := Beh.mk B1; zbh))).out.mono ?_
  rintro e w2 ⟨rfl, hb2⟩
  have B2 := below_box (w := w) (have := Beh.mk B1; zbh) hb2
  clear hb2
  (try clear xx)
  (try clear B1)
  go_wp2_with fail
  (refine (HFs _).out.mono ?_; rintro e w1 ⟨rfl, rfl⟩; go_wp2_with fail)
  refine (H2 _ (hT.below (have := Beh.mk B2; zbh))).out.mono ?_
  rintro e w3 ⟨rfl, hb3⟩
  have B3 := below_box (w := w) (have := Beh.mk B2; zbh) hb3
  clear hb3
  (try clear xx)
  (try clear B2)
  go_wp2_with fail
  refine (HW _ (hT.below (have := Beh.mk B3; zbh))).out.mono ?_
  rintro e w4 ⟨rfl, hb4⟩
  have B4 := below_box (w := w) (have := Beh.mk B3; zbh) hb4
  clear hb4
  (try clear xx)
  (try clear B3)
  go_wp2_with fail
  go_ret
  exact ⟨rfl, (have := Beh.mk B4; zbh)⟩

theorem free_any (w : World) (hT : Tab w) (a b : Nat) (ha : a < 18446744073709551616) (hb : b < 18446744073709551616) :
    Calls Tryz.prog 5 #[.int .u64 a, .int .u64 b] w fun o w' => o = .returned (.bool true) ∧ Below w.heap.size w w' := by
  cases fa : ffin a with
  | false => exact free_na w hT a b ha hb fa
  | true =>
    cases fb : ffin b with
    | false => exact free_nb w hT a b ha hb fa fb
    | true =>
      cases hok : ffin (fadd a b 0) <;> cases his : frestok (fmul a b 0) (dmul (fof a) (fof b))
      · exact free_mff w hT a b ha hb fa fb hok his
      · exact free_mft w hT a b ha hb fa fb hok his
      · exact free_mtf w hT a b ha hb fa fb hok his
      · exact free_mtt w hT a b ha hb fa fb hok his

end Go.Proofs.YtmpcikkimcehnaaGreatDoor

