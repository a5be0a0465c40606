/-
  Walks: the law AccumCauchy.
-/
import Derived.Test.YtmpcikkimcehnaaGreatDoorZbKf
import Derived.Test.YtmpcikkimcehnaaGreatDoorZbKh
namespace Go.Proofs.YtmpcikkimcehnaaGreatDoor
open Go.RowKit Sp

set_option maxRecDepth 100000 in
set_option maxHeartbeats 20000000 in
theorem acauchy_big (w : World) (hT : Tab w) (a : Option Addr) (n cap : Nat) (X : Nat → Nat) (hX : Fls w a n cap X) (a' : Option Addr) (m cap' : Nat) (Y : Nat → Nat) (hY : Fls w a' m cap' Y) (hn : 10 < n) :
    Calls Tryz.prog 9 #[.slice a n cap, .slice a' m cap'] w fun o w' => o = .returned (.bool true) ∧ Below w.heap.size w w' := by
  have l1 := hX.lim
  have l2 := hX.fits
  have l3 := hY.lim
  have l4 := hY.fits
  have HW := fun W ht => Lib.hid (awakeA_any W ht)
  have HF := Lib.hid (rfinite_any w a n cap X hX)
  have HG := Lib.hid (rfinite_any w a' m cap' Y hY)
  clear HF HG hX hY
  go_enter Tryz.func9, Tryz.ntmps9
  go_wp2_with fail
  have B0 : Below w.heap.size w w := Below.refl _ _
  refine (HW _ (hT.below (have := Beh.mk B0; zbh))).out.mono ?_
  rintro e w1 ⟨rfl, hb1⟩
  have B1 := below_box (w := w) (have := Beh.mk B0; zbh) hb1
  clear hb1
  (try clear xx)
  (try clear B0)
  go_wp2_with fail
  go_ret
  exact ⟨rfl, (have := Beh.mk B1; zbh)⟩

set_option maxRecDepth 100000 in
set_option maxHeartbeats 20000000 in
theorem acauchy_len (w : World) (hT : Tab w) (a : Option Addr) (n cap : Nat) (X : Nat → Nat) (hX : Fls w a n cap X) (a' : Option Addr) (m cap' : Nat) (Y : Nat → Nat) (hY : Fls w a' m cap' Y) (hn : ¬ 10 < n) (hm : ¬ m = n) :
    Calls Tryz.prog 9 #[.slice a n cap, .slice a' m cap'] w fun o w' => o = .returned (.bool true) ∧ Below w.heap.size w w' := by
  have l1 := hX.lim
  have l2 := hX.fits
  have l3 := hY.lim
  have l4 := hY.fits
  have HW := fun W ht => Lib.hid (awakeA_any W ht)
  have HF := Lib.hid (rfinite_any w a n cap X hX)
  have HG := Lib.hid (rfinite_any w a' m cap' Y hY)
  clear HF HG hX hY
  go_enter Tryz.func9, Tryz.ntmps9
  go_wp2_with fail
  have B0 : Below w.heap.size w w := Below.refl _ _
  refine (HW _ (hT.below (have := Beh.mk B0; zbh))).out.mono ?_
  rintro e w1 ⟨rfl, hb1⟩
  have B1 := below_box (w := w) (have := Beh.mk B0; zbh) hb1
  clear hb1
  (try clear xx)
  (try clear B0)
  go_wp2_with fail
  go_ret
  exact ⟨rfl, (have := Beh.mk B1; zbh)⟩

set_option maxRecDepth 100000 in
set_option maxHeartbeats 20000000 in
theorem acauchy_fx (w : World) (hT : Tab w) (a : Option Addr) (n cap : Nat) (X : Nat → Nat) (hX : Fls w a n cap X) (a' : Option Addr) (m cap' : Nat) (Y : Nat → Nat) (hY : Fls w a' m cap' Y) (hn : ¬ 10 < n) (hm : m = n) (fa : allfin X n = false) :
    Calls Tryz.prog 9 #[.slice a n cap, .slice a' m cap'] w fun o w' => o = .returned (.bool true) ∧ Below w.heap.size w w' := by
  have l1 := hX.lim
  have l2 := hX.fits
  have l3 := hY.lim
  have l4 := hY.fits
  have HW := fun W ht => Lib.hid (awakeA_any W ht)
  have HF := Lib.hid (rfinite_any w a n cap X hX)
  have HG := Lib.hid (rfinite_any w a' m cap' Y hY)
  rw [fa] at HF
  clear hX hY fa HG
  subst hm
  go_enter Tryz.func9, Tryz.ntmps9
  go_wp2_with fail
  have B0 : Below w.heap.size w w := Below.refl _ _
  refine HF.out.mono ?_; rintro e w8 ⟨rfl, rfl⟩; go_wp2_with fail
  refine (HW _ (hT.below (have := Beh.mk B0; zbh))).out.mono ?_
  rintro e w1 ⟨rfl, hb1⟩
  have B1 := below_box (w := w) (have := Beh.mk B0; zbh) hb1
  clear hb1
  (try clear xx)
  (try clear B0)
  go_wp2_with fail
  go_ret
  exact ⟨rfl, (have := Beh.mk B1; zbh)⟩

set_option maxRecDepth 100000 in
set_option maxHeartbeats 20000000 in
theorem acauchy_fy (w : World) (hT : Tab w) (a : Option Addr) (n cap : Nat) (X : Nat → Nat) (hX : Fls w a n cap X) (a' : Option Addr) (m cap' : Nat) (Y : Nat → Nat) (hY : Fls w a' m cap' Y) (hn : ¬ 10 < n) (hm : m = n) (fa : allfin X n = true) (fb : allfin Y m = false) :
    Calls Tryz.prog 9 #[.slice a n cap, .slice a' m cap'] w fun o w' => o = .returned (.bool true) ∧ Below w.heap.size w w' := by
  have l1 := hX.lim
  have l2 := hX.fits
  have l3 := hY.lim
  have l4 := hY.fits
  have HW := fun W ht => Lib.hid (awakeA_any W ht)
  have HF := Lib.hid (rfinite_any w a n cap X hX)
  have HG := Lib.hid (rfinite_any w a' m cap' Y hY)
  rw [fa] at HF
  rw [fb] at HG
  clear hX hY fa fb
  subst hm
  go_enter Tryz.func9, Tryz.ntmps9
  go_wp2_with fail
  have B0 : Below w.heap.size w w := Below.refl _ _
  refine HF.out.mono ?_; rintro e w8 ⟨rfl, rfl⟩; go_wp2_with fail
  refine HG.out.mono ?_; rintro e w9 ⟨rfl, rfl⟩; go_wp2_with fail
  refine (HW _ (hT.below (have := Beh.mk B0; zbh))).out.mono ?_
  rintro e w1 ⟨rfl, hb1⟩
  have B1 := below_box (w := w) (have := Beh.mk B0; zbh) hb1
  clear hb1
  (try clear xx)
  (try clear B0)
  go_wp2_with fail
  go_ret
  exact ⟨rfl, (have := Beh.mk B1; zbh)⟩

set_option maxRecDepth 100000 in
set_option maxHeartbeats 20000000 in
theorem acauchy_ok (w : World) (hT : Tab w) (a : Option Addr) (n cap : Nat) (X : Nat → Nat) (hX : Fls w a n cap X) (a' : Option Addr) (m cap' : Nat) (Y : Nat → Nat) (hY : Fls w a' m cap' Y) (hn : ¬ 10 < n) (hm : m = n) (fa : allfin X n = true) (fb : allfin Y m = true) :
    Calls Tryz.prog 9 #[.slice a n cap, .slice a' m cap'] w fun o w' => o = .returned (.bool true) ∧ Below w.heap.size w w' := by
  have l1 := hX.lim
  have l2 := hX.fits
  have l3 := hY.lim
  have l4 := hY.fits
  have HW := fun W ht => Lib.hid (awakeA_any W ht)
  have HF := Lib.hid (rfinite_any w a n cap X hX)
  have HG := Lib.hid (rfinite_any w a' m cap' Y hY)
  rw [fa] at HF
  rw [fb] at HG
  subst hm
  have hE1 : dotE X Y m m = 0 := by unfold dotE; rw [if_neg (fun h => h rfl), fa, fb]; rfl
  have hE2 : dotE X X m m = 0 := by unfold dotE; rw [if_neg (fun h => h rfl), fa]; rfl
  have hE3 : dotE Y Y m m = 0 := by unfold dotE; rw [if_neg (fun h => h rfl), fb]; rfl
  have hD1 : dotD X Y m m = ddot X Y m := by unfold dotD; rw [hE1]; rfl
  have hD2 : dotD X X m m = ddot X X m := by unfold dotD; rw [hE2]; rfl
  have hD3 : dotD Y Y m m = ddot Y Y m := by unfold dotD; rw [hE3]; rfl
  obtain ⟨da, eda⟩ : ∃ d, d = ddot X Y m := ⟨_, rfl⟩
  obtain ⟨db, edb⟩ : ∃ d, d = ddot X X m := ⟨_, rfl⟩
  obtain ⟨dc, edc⟩ : ∃ d, d = ddot Y Y m := ⟨_, rfl⟩
  obtain ⟨di, edi⟩ : ∃ d, d = dinf (fun i => dabs (fof (X i))) m := ⟨_, rfl⟩
  obtain ⟨dn, edn⟩ : ∃ d, d = dsum (fun i => dabs (fof (X i))) m := ⟨_, rfl⟩
  obtain ⟨ds, eds⟩ : ∃ d, d = dsum (fun i => fof (X i)) m := ⟨_, rfl⟩
  obtain ⟨⟨x1, x2, x3⟩, ⟨x4, x5, x6⟩, ⟨x7, x8⟩, x9, x10, x11⟩ := cauchy_law (X := X) (Y := Y) (n := m) (by omega) ((allfin_iff X m).1 fa) ((allfin_iff Y m).1 fb) eda edb edc edi edn eds
  have Na : IsN da := by rw [eda]; exact isN_sum _ _
  have Nb : IsN db := by rw [edb]; exact isN_sum _ _
  have Nc : IsN dc := by rw [edc]; exact isN_sum _ _
  have Ni : IsN di := by rw [edi]; exact isN_dinf (fun i => isN_abs (isN_fof _)) _
  have Nn : IsN dn := by rw [edn]; exact isN_sum _ _
  have Ns : IsN ds := by rw [eds]; exact isN_sum _ _
  have H1 := fun W ht h h' => Lib.hid (adot_any W ht a a' m m cap cap' X Y h h' (by omega))
  rw [hE1, hD1, ← eda] at H1
  have H2 := fun W ht h h' => Lib.hid (adot_any W ht a a m m cap cap X X h h' (by omega))
  rw [hE2, hD2, ← edb] at H2
  have H3 := fun W ht h h' => Lib.hid (adot_any W ht a' a' m m cap' cap' Y Y h h' (by omega))
  rw [hE3, hD3, ← edc] at H3
  have HI := fun W ht h => Lib.hid (ainf_any W ht a m cap X h (by omega) fa _ rfl)
  rw [← edi] at HI
  have HO := fun W ht h => Lib.hid (aone_any W ht a m cap X h (by omega) dn edn)
  have HS := fun W ht h => Lib.hid (asum_any W ht a m cap X h (by omega))
  rw [← eds] at HS
  have HXX := Lib.hid hX
  have HYY := Lib.hid hY
  clear hE1 hE2 hE3 hD1 hD2 hD3 eda edb edc edi edn eds fa fb hX hY
  have HM1 := fun W b1 q1 b2 q2 (h1 : Mag W b1 (nl (dman da).natAbs) q1 (dman da).natAbs) (h2 : Mag W b2 (nl (dman da).natAbs) q2 (dman da).natAbs) ht => Lib.hid (dmul_any W _ _ _ _ _ _ _ _ _ _ _ _ _ _ (dyin_of Na h1) (dyin_of Na h2) ht)
  have HM2 := fun W b1 q1 b2 q2 (h1 : Mag W b1 (nl (dman db).natAbs) q1 (dman db).natAbs) (h2 : Mag W b2 (nl (dman dc).natAbs) q2 (dman dc).natAbs) ht => Lib.hid (dmul_any W _ _ _ _ _ _ _ _ _ _ _ _ _ _ (dyin_of Nb h1) (dyin_of Nc h2) ht)
  have HM3 := fun W b1 q1 b2 q2 (h1 : Mag W b1 (nl (dman di).natAbs) q1 (dman di).natAbs) (h2 : Mag W b2 (nl (dman di).natAbs) q2 (dman di).natAbs) ht => Lib.hid (dmul_any W _ _ _ _ _ _ _ _ _ _ _ _ _ _ (dyin_of Ni h1) (dyin_of Ni h2) ht)
  have HA := fun W b1 q1 (h1 : Mag W b1 (nl (dman ds).natAbs) q1 (dman ds).natAbs) ht => Lib.hid (dabs_any W _ _ _ _ _ _ _ (dyin_of Ns h1) ht)
  have N1 := isN_mul da da
  have N2 := isN_mul db dc
  have N3 := isN_mul di di
  have N4 := isN_abs Ns
  generalize dmul da da = p1 at *
  generalize dmul db dc = p2 at *
  generalize dmul di di = p3 at *
  generalize dabs ds = p4 at *
  have HC1 := fun W b1 q1 b2 q2 (h1 : Mag W b1 (nl (dman p1).natAbs) q1 (dman p1).natAbs) (h2 : Mag W b2 (nl (dman p2).natAbs) q2 (dman p2).natAbs) ht => Lib.hid (dcmp_any W _ _ _ _ _ _ _ _ _ _ _ _ _ _ (dyin_of N1 h1) (dyin_of N2 h2) ht)
  have HC2 := fun W b1 q1 b2 q2 (h1 : Mag W b1 (nl (dman di).natAbs) q1 (dman di).natAbs) (h2 : Mag W b2 (nl (dman dn).natAbs) q2 (dman dn).natAbs) ht => Lib.hid (dcmp_any W _ _ _ _ _ _ _ _ _ _ _ _ _ _ (dyin_of Ni h1) (dyin_of Nn h2) ht)
  have HC3 := fun W b1 q1 b2 q2 (h1 : Mag W b1 (nl (dman p4).natAbs) q1 (dman p4).natAbs) (h2 : Mag W b2 (nl (dman dn).natAbs) q2 (dman dn).natAbs) ht => Lib.hid (dcmp_any W _ _ _ _ _ _ _ _ _ _ _ _ _ _ (dyin_of N4 h1) (dyin_of Nn h2) ht)
  have HC4 := fun W b1 q1 b2 q2 (h1 : Mag W b1 (nl (dman p3).natAbs) q1 (dman p3).natAbs) (h2 : Mag W b2 (nl (dman db).natAbs) q2 (dman db).natAbs) ht => Lib.hid (dcmp_any W _ _ _ _ _ _ _ _ _ _ _ _ _ _ (dyin_of N3 h1) (dyin_of Nb h2) ht)
  have o1 : (!dbad p1 && !dbad p2) = true := by rw [x1, x2]; rfl
  rw [o1] at HC1
  have o2 : (!dbad di && !dbad dn) = true := by rw [x4, x5]; rfl
  rw [o2] at HC2
  have o3 : (!dbad p4 && !dbad dn) = true := by rw [x7, x5]; rfl
  rw [o3] at HC3
  have o4 : (!dbad p3 && !dbad db) = true := by rw [x9, x10]; rfl
  rw [o4] at HC4
  generalize dcmp p1 p2 = v1 at *
  generalize dcmp di dn = v2 at *
  generalize dcmp p4 dn = v3 at *
  generalize dcmp p3 db = v4 at *
  have g1 : decide (v1 ≤ 0) = true := decide_eq_true x3
  have g2 : decide (v2 ≤ 0) = true := decide_eq_true x6
  have g3 : decide (v3 ≤ 0) = true := decide_eq_true x8
  have g4 : decide (v4 ≤ 0) = true := decide_eq_true x11
  clear o1 o2 o3 o4 x1 x2 x3 x4 x5 x6 x7 x8 x9 x10 x11 Na Nb Nc Ni Nn Ns N1 N2 N3 N4
  go_enter Tryz.func9, Tryz.ntmps9
  go_wp2_with fail
  have B0 : Below w.heap.size w w := Below.refl _ _
  refine HF.out.mono ?_; rintro e w8 ⟨rfl, rfl⟩; go_wp2_with fail
  refine HG.out.mono ?_; rintro e w9 ⟨rfl, rfl⟩; go_wp2_with fail
  refine (H1 _ (hT.below (have := Beh.mk B0; zbh)) (HXX.out.below (have := Beh.mk B0; zbh)) (HYY.out.below (have := Beh.mk B0; zbh))).out.mono ?_
  rintro e w1 ⟨a1, c1, rfl, M11, hb1, hf1⟩
  have B1 := below_box (w := w) (have := Beh.mk B0; zbh) hb1
  clear hb1 hf1
  (try clear xx)
  (try clear B0)
  go_wp2_with fail
  have Va2 := (DyV.made' w1 26 (dbad da) (decide (dman da < 0)) (.slice a1 (nl (dman da).natAbs) c1) (dexp da) (n := w1.heap.size) (by rfl))
  have M12 := (Mag.alloc M11 (.cells #[.bool (dbad da), .bool (decide (dman da < 0)), (.slice a1 (nl (dman da).natAbs) c1), .int .i64 (dexp da)] 26))
  have B2 : Below w.heap.size w (w1.alloc (.cells #[.bool (dbad da), .bool (decide (dman da < 0)), (.slice a1 (nl (dman da).natAbs) c1), .int .i64 (dexp da)] 26)) := (have := Beh.mk B1; zbh)
  have fr1a : 0 < (nl (dman da).natAbs) → ab a1 ≠ w1.heap.size := fun h => by have := M11.old h; omega
  have ga : w.heap.size ≤ w1.heap.size := by have := B1.size; omega
  generalize (w1.alloc (.cells #[.bool (dbad da), .bool (decide (dman da < 0)), (.slice a1 (nl (dman da).natAbs) c1), .int .i64 (dexp da)] 26)) = w2 at Va2 M12 B2 ⊢
  generalize w1.heap.size = za at Va2 fr1a ga ⊢
  (try clear ac0 ac1 ac2 ac3 ac4)
  obtain ⟨ac0, ac1, ac2, ac3, ac4, ac5⟩ := Va2
  have Va2 := Lib.hid (DyV.mk ac0 ac1 ac2 ac3 ac4 ac5)
  refine (H2 _ (hT.below (have := Beh.mk B2; zbh)) (HXX.out.below (have := Beh.mk B2; zbh)) (HXX.out.below (have := Beh.mk B2; zbh))).out.mono ?_
  rintro e w3 ⟨a2, c2, rfl, M23, hb3, hf3⟩
  have Va3 : DyV w3 za (dbad da) (decide (dman da < 0)) (.slice a1 (nl (dman da).natAbs) c1) (dexp da) := (Va2.out.on.below hb3)
  (try clear ac0 ac1 ac2 ac3 ac4)
  obtain ⟨ac0, ac1, ac2, ac3, ac4, ac5⟩ := Va3
  have Va3 := Lib.hid (DyV.mk ac0 ac1 ac2 ac3 ac4 ac5)
  have M13 : Mag w3 a1 (nl (dman da).natAbs) c1 (dman da).natAbs := Mag.below (by repeat (with_reducible first | refine Mag.set ?_ (fun h => by have := M12 h; omega) _ _ | refine Mag.drew ?_ | refine Mag.alloc ?_ _ | refine Mag.drewN ?_ _ | exact M12)) hb3
  have B3 := below_box (w := w) (have := Beh.mk B2; zbh) hb3
  clear hb3 hf3
  (try clear xx)
  (try clear Va2)
  (try clear M12)
  (try clear B2)
  go_wp2_with fail
  have Vb4 := (DyV.made' w3 26 (dbad db) (decide (dman db < 0)) (.slice a2 (nl (dman db).natAbs) c2) (dexp db) (n := w3.heap.size) (by rfl))
  have Va4 := (DyV.alloc Va3.out (.cells #[.bool (dbad db), .bool (decide (dman db < 0)), (.slice a2 (nl (dman db).natAbs) c2), .int .i64 (dexp db)] 26))
  have M14 := (Mag.alloc M13 (.cells #[.bool (dbad db), .bool (decide (dman db < 0)), (.slice a2 (nl (dman db).natAbs) c2), .int .i64 (dexp db)] 26))
  have M24 := (Mag.alloc M23 (.cells #[.bool (dbad db), .bool (decide (dman db < 0)), (.slice a2 (nl (dman db).natAbs) c2), .int .i64 (dexp db)] 26))
  have B4 : Below w.heap.size w (w3.alloc (.cells #[.bool (dbad db), .bool (decide (dman db < 0)), (.slice a2 (nl (dman db).natAbs) c2), .int .i64 (dexp db)] 26)) := (have := Beh.mk B3; zbh)
  have nab : ¬ za = w3.heap.size := by have := Va3.out.lt; omega
  have nba : ¬ w3.heap.size = za := by have := Va3.out.lt; omega
  have fr1b : 0 < (nl (dman da).natAbs) → ab a1 ≠ w3.heap.size := fun h => by have := M13.old h; omega
  have fr2b : 0 < (nl (dman db).natAbs) → ab a2 ≠ w3.heap.size := fun h => by have := M23.old h; omega
  have gb : w.heap.size ≤ w3.heap.size := by have := B3.size; omega
  generalize (w3.alloc (.cells #[.bool (dbad db), .bool (decide (dman db < 0)), (.slice a2 (nl (dman db).natAbs) c2), .int .i64 (dexp db)] 26)) = w4 at Vb4 Va4 M14 M24 B4 ⊢
  generalize w3.heap.size = zb at Vb4 nab nba fr1b fr2b gb ⊢
  (try clear ac0 ac1 ac2 ac3 ac4)
  obtain ⟨ac0, ac1, ac2, ac3, ac4, ac5⟩ := Va4
  have Va4 := Lib.hid (DyV.mk ac0 ac1 ac2 ac3 ac4 ac5)
  (try clear bc0 bc1 bc2 bc3 bc4)
  obtain ⟨bc0, bc1, bc2, bc3, bc4, bc5⟩ := Vb4
  have Vb4 := Lib.hid (DyV.mk bc0 bc1 bc2 bc3 bc4 bc5)
  refine (H3 _ (hT.below (have := Beh.mk B4; zbh)) (HYY.out.below (have := Beh.mk B4; zbh)) (HYY.out.below (have := Beh.mk B4; zbh))).out.mono ?_
  rintro e w5 ⟨a3, c3, rfl, M35, hb5, hf5⟩
  have Va5 : DyV w5 za (dbad da) (decide (dman da < 0)) (.slice a1 (nl (dman da).natAbs) c1) (dexp da) := (Va4.out.on.below hb5)
  (try clear ac0 ac1 ac2 ac3 ac4)
  obtain ⟨ac0, ac1, ac2, ac3, ac4, ac5⟩ := Va5
  have Va5 := Lib.hid (DyV.mk ac0 ac1 ac2 ac3 ac4 ac5)
  have Vb5 : DyV w5 zb (dbad db) (decide (dman db < 0)) (.slice a2 (nl (dman db).natAbs) c2) (dexp db) := (Vb4.out.on.below hb5)
  (try clear bc0 bc1 bc2 bc3 bc4)
  obtain ⟨bc0, bc1, bc2, bc3, bc4, bc5⟩ := Vb5
  have Vb5 := Lib.hid (DyV.mk bc0 bc1 bc2 bc3 bc4 bc5)
  have M15 : Mag w5 a1 (nl (dman da).natAbs) c1 (dman da).natAbs := Mag.below (by repeat (with_reducible first | refine Mag.set ?_ (fun h => by have := M14 h; omega) _ _ | refine Mag.drew ?_ | refine Mag.alloc ?_ _ | refine Mag.drewN ?_ _ | exact M14)) hb5
  have M25 : Mag w5 a2 (nl (dman db).natAbs) c2 (dman db).natAbs := Mag.below (by repeat (with_reducible first | refine Mag.set ?_ (fun h => by have := M24 h; omega) _ _ | refine Mag.drew ?_ | refine Mag.alloc ?_ _ | refine Mag.drewN ?_ _ | exact M24)) hb5
  have B5 := below_box (w := w) (have := Beh.mk B4; zbh) hb5
  clear hb5 hf5
  (try clear xx)
  (try clear Va4)
  (try clear Vb4)
  (try clear M14)
  (try clear M24)
  (try clear B4)
  go_wp2_with fail
  have Vc6 := (DyV.made' w5 26 (dbad dc) (decide (dman dc < 0)) (.slice a3 (nl (dman dc).natAbs) c3) (dexp dc) (n := w5.heap.size) (by rfl))
  have Va6 := (DyV.alloc Va5.out (.cells #[.bool (dbad dc), .bool (decide (dman dc < 0)), (.slice a3 (nl (dman dc).natAbs) c3), .int .i64 (dexp dc)] 26))
  have Vb6 := (DyV.alloc Vb5.out (.cells #[.bool (dbad dc), .bool (decide (dman dc < 0)), (.slice a3 (nl (dman dc).natAbs) c3), .int .i64 (dexp dc)] 26))
  have M16 := (Mag.alloc M15 (.cells #[.bool (dbad dc), .bool (decide (dman dc < 0)), (.slice a3 (nl (dman dc).natAbs) c3), .int .i64 (dexp dc)] 26))
  have M26 := (Mag.alloc M25 (.cells #[.bool (dbad dc), .bool (decide (dman dc < 0)), (.slice a3 (nl (dman dc).natAbs) c3), .int .i64 (dexp dc)] 26))
  have M36 := (Mag.alloc M35 (.cells #[.bool (dbad dc), .bool (decide (dman dc < 0)), (.slice a3 (nl (dman dc).natAbs) c3), .int .i64 (dexp dc)] 26))
  have B6 : Below w.heap.size w (w5.alloc (.cells #[.bool (dbad dc), .bool (decide (dman dc < 0)), (.slice a3 (nl (dman dc).natAbs) c3), .int .i64 (dexp dc)] 26)) := (have := Beh.mk B5; zbh)
  have nac : ¬ za = w5.heap.size := by have := Va5.out.lt; omega
  have nca : ¬ w5.heap.size = za := by have := Va5.out.lt; omega
  have nbc : ¬ zb = w5.heap.size := by have := Vb5.out.lt; omega
  have ncb : ¬ w5.heap.size = zb := by have := Vb5.out.lt; omega
  have fr1c : 0 < (nl (dman da).natAbs) → ab a1 ≠ w5.heap.size := fun h => by have := M15.old h; omega
  have fr2c : 0 < (nl (dman db).natAbs) → ab a2 ≠ w5.heap.size := fun h => by have := M25.old h; omega
  have fr3c : 0 < (nl (dman dc).natAbs) → ab a3 ≠ w5.heap.size := fun h => by have := M35.old h; omega
  have gc : w.heap.size ≤ w5.heap.size := by have := B5.size; omega
  generalize (w5.alloc (.cells #[.bool (dbad dc), .bool (decide (dman dc < 0)), (.slice a3 (nl (dman dc).natAbs) c3), .int .i64 (dexp dc)] 26)) = w6 at Vc6 Va6 Vb6 M16 M26 M36 B6 ⊢
  generalize w5.heap.size = zc at Vc6 nac nca nbc ncb fr1c fr2c fr3c gc ⊢
  (try clear ac0 ac1 ac2 ac3 ac4)
  obtain ⟨ac0, ac1, ac2, ac3, ac4, ac5⟩ := Va6
  have Va6 := Lib.hid (DyV.mk ac0 ac1 ac2 ac3 ac4 ac5)
  (try clear bc0 bc1 bc2 bc3 bc4)
  obtain ⟨bc0, bc1, bc2, bc3, bc4, bc5⟩ := Vb6
  have Vb6 := Lib.hid (DyV.mk bc0 bc1 bc2 bc3 bc4 bc5)
  (try clear cc0 cc1 cc2 cc3 cc4)
  obtain ⟨cc0, cc1, cc2, cc3, cc4, cc5⟩ := Vc6
  have Vc6 := Lib.hid (DyV.mk cc0 cc1 cc2 cc3 cc4 cc5)
  first
  | go_region_held3 (fun w' => w'.cell? ⟨za, 0, none⟩ = some (.bool (dbad da)) ∧ w'.cell? ⟨za, 1, none⟩ = some (.bool (decide (dman da < 0))) ∧ w'.cell? ⟨za, 2, none⟩ = some ((.slice a1 (nl (dman da).natAbs) c1)) ∧ w'.cell? ⟨za, 3, none⟩ = some (.int .i64 (dexp da)) ∧ w'.cell? ⟨zb, 0, none⟩ = some (.bool (dbad db)) ∧ w'.cell? ⟨zb, 1, none⟩ = some (.bool (decide (dman db < 0))) ∧ w'.cell? ⟨zb, 2, none⟩ = some ((.slice a2 (nl (dman db).natAbs) c2)) ∧ w'.cell? ⟨zb, 3, none⟩ = some (.int .i64 (dexp db)) ∧ w'.cell? ⟨zc, 0, none⟩ = some (.bool (dbad dc)) ∧ w'.cell? ⟨zc, 1, none⟩ = some (.bool (decide (dman dc < 0))) ∧ w'.cell? ⟨zc, 2, none⟩ = some ((.slice a3 (nl (dman dc).natAbs) c3)) ∧ w'.cell? ⟨zc, 3, none⟩ = some (.int .i64 (dexp dc))) (first | (go_keep; done) | (go_simp; done))
      (first
        | (go_at_call 57; have xx := B8; refine (HC1 _ a4 c4 a5 c5 (by repeat (with_reducible first | refine Mag.set ?_ (fun h => by have := M48 h; omega) _ _ | refine Mag.drew ?_ | refine Mag.alloc ?_ _ | refine Mag.drewN ?_ _ | exact M48)) (by repeat (with_reducible first | refine Mag.set ?_ (fun h => by have := M58 h; omega) _ _ | refine Mag.drew ?_ | refine Mag.alloc ?_ _ | refine Mag.drewN ?_ _ | exact M58)) (hT.below (have := Beh.mk B8; zbh))).out.mono ?_; rintro e w9 ⟨rfl, hb9⟩; have Va9 : DyV w9 za (dbad da) (decide (dman da < 0)) (.slice a1 (nl (dman da).natAbs) c1) (dexp da) := (Va8.out.on.below hb9); (try clear ac0 ac1 ac2 ac3 ac4); obtain ⟨ac0, ac1, ac2, ac3, ac4, ac5⟩ := Va9; have Va9 := Lib.hid (DyV.mk ac0 ac1 ac2 ac3 ac4 ac5); have Vb9 : DyV w9 zb (dbad db) (decide (dman db < 0)) (.slice a2 (nl (dman db).natAbs) c2) (dexp db) := (Vb8.out.on.below hb9); (try clear bc0 bc1 bc2 bc3 bc4); obtain ⟨bc0, bc1, bc2, bc3, bc4, bc5⟩ := Vb9; have Vb9 := Lib.hid (DyV.mk bc0 bc1 bc2 bc3 bc4 bc5); have Vc9 : DyV w9 zc (dbad dc) (decide (dman dc < 0)) (.slice a3 (nl (dman dc).natAbs) c3) (dexp dc) := (Vc8.out.on.below hb9); (try clear cc0 cc1 cc2 cc3 cc4); obtain ⟨cc0, cc1, cc2, cc3, cc4, cc5⟩ := Vc9; have Vc9 := Lib.hid (DyV.mk cc0 cc1 cc2 cc3 cc4 cc5); have M19 : Mag w9 a1 (nl (dman da).natAbs) c1 (dman da).natAbs := Mag.below (by repeat (with_reducible first | refine Mag.set ?_ (fun h => by have := M18 h; omega) _ _ | refine Mag.drew ?_ | refine Mag.alloc ?_ _ | refine Mag.drewN ?_ _ | exact M18)) hb9; have M29 : Mag w9 a2 (nl (dman db).natAbs) c2 (dman db).natAbs := Mag.below (by repeat (with_reducible first | refine Mag.set ?_ (fun h => by have := M28 h; omega) _ _ | refine Mag.drew ?_ | refine Mag.alloc ?_ _ | refine Mag.drewN ?_ _ | exact M28)) hb9; have M39 : Mag w9 a3 (nl (dman dc).natAbs) c3 (dman dc).natAbs := Mag.below (by repeat (with_reducible first | refine Mag.set ?_ (fun h => by have := M38 h; omega) _ _ | refine Mag.drew ?_ | refine Mag.alloc ?_ _ | refine Mag.drewN ?_ _ | exact M38)) hb9; have M49 : Mag w9 a4 (nl (dman p1).natAbs) c4 (dman p1).natAbs := Mag.below (by repeat (with_reducible first | refine Mag.set ?_ (fun h => by have := M48 h; omega) _ _ | refine Mag.drew ?_ | refine Mag.alloc ?_ _ | refine Mag.drewN ?_ _ | exact M48)) hb9; have M59 : Mag w9 a5 (nl (dman p2).natAbs) c5 (dman p2).natAbs := Mag.below (by repeat (with_reducible first | refine Mag.set ?_ (fun h => by have := M58 h; omega) _ _ | refine Mag.drew ?_ | refine Mag.alloc ?_ _ | refine Mag.drewN ?_ _ | exact M58)) hb9; have B9 := below_box (w := w) (have := Beh.mk B8; zbh) hb9; clear hb9; (try clear xx); (try clear Va8); (try clear Vb8); (try clear Vc8); (try clear M18); (try clear M28); (try clear M38); (try clear M48); (try clear M58); (try clear B8))
        | (go_at_call 43; have xx := B7; refine (HM2 _ a2 c2 a3 c3 (by repeat (with_reducible first | refine Mag.set ?_ (fun h => by have := M27 h; omega) _ _ | refine Mag.drew ?_ | refine Mag.alloc ?_ _ | refine Mag.drewN ?_ _ | exact M27)) (by repeat (with_reducible first | refine Mag.set ?_ (fun h => by have := M37 h; omega) _ _ | refine Mag.drew ?_ | refine Mag.alloc ?_ _ | refine Mag.drewN ?_ _ | exact M37)) (hT.below (have := Beh.mk B7; zbh))).out.mono ?_; rintro e w8 ⟨a5, c5, rfl, M58, hb8, hf8⟩; have Va8 : DyV w8 za (dbad da) (decide (dman da < 0)) (.slice a1 (nl (dman da).natAbs) c1) (dexp da) := (Va7.out.on.below hb8); (try clear ac0 ac1 ac2 ac3 ac4); obtain ⟨ac0, ac1, ac2, ac3, ac4, ac5⟩ := Va8; have Va8 := Lib.hid (DyV.mk ac0 ac1 ac2 ac3 ac4 ac5); have Vb8 : DyV w8 zb (dbad db) (decide (dman db < 0)) (.slice a2 (nl (dman db).natAbs) c2) (dexp db) := (Vb7.out.on.below hb8); (try clear bc0 bc1 bc2 bc3 bc4); obtain ⟨bc0, bc1, bc2, bc3, bc4, bc5⟩ := Vb8; have Vb8 := Lib.hid (DyV.mk bc0 bc1 bc2 bc3 bc4 bc5); have Vc8 : DyV w8 zc (dbad dc) (decide (dman dc < 0)) (.slice a3 (nl (dman dc).natAbs) c3) (dexp dc) := (Vc7.out.on.below hb8); (try clear cc0 cc1 cc2 cc3 cc4); obtain ⟨cc0, cc1, cc2, cc3, cc4, cc5⟩ := Vc8; have Vc8 := Lib.hid (DyV.mk cc0 cc1 cc2 cc3 cc4 cc5); have M18 : Mag w8 a1 (nl (dman da).natAbs) c1 (dman da).natAbs := Mag.below (by repeat (with_reducible first | refine Mag.set ?_ (fun h => by have := M17 h; omega) _ _ | refine Mag.drew ?_ | refine Mag.alloc ?_ _ | refine Mag.drewN ?_ _ | exact M17)) hb8; have M28 : Mag w8 a2 (nl (dman db).natAbs) c2 (dman db).natAbs := Mag.below (by repeat (with_reducible first | refine Mag.set ?_ (fun h => by have := M27 h; omega) _ _ | refine Mag.drew ?_ | refine Mag.alloc ?_ _ | refine Mag.drewN ?_ _ | exact M27)) hb8; have M38 : Mag w8 a3 (nl (dman dc).natAbs) c3 (dman dc).natAbs := Mag.below (by repeat (with_reducible first | refine Mag.set ?_ (fun h => by have := M37 h; omega) _ _ | refine Mag.drew ?_ | refine Mag.alloc ?_ _ | refine Mag.drewN ?_ _ | exact M37)) hb8; have M48 : Mag w8 a4 (nl (dman p1).natAbs) c4 (dman p1).natAbs := Mag.below (by repeat (with_reducible first | refine Mag.set ?_ (fun h => by have := M47 h; omega) _ _ | refine Mag.drew ?_ | refine Mag.alloc ?_ _ | refine Mag.drewN ?_ _ | exact M47)) hb8; have B8 := below_box (w := w) (have := Beh.mk B7; zbh) hb8; clear hb8 hf8; (try clear xx); (try clear Va7); (try clear Vb7); (try clear Vc7); (try clear M17); (try clear M27); (try clear M37); (try clear M47); (try clear B7))
        | (go_at_call 43; have xx := B6; refine (HM1 _ a1 c1 a1 c1 (by repeat (with_reducible first | refine Mag.set ?_ (fun h => by have := M16 h; omega) _ _ | refine Mag.drew ?_ | refine Mag.alloc ?_ _ | refine Mag.drewN ?_ _ | exact M16)) (by repeat (with_reducible first | refine Mag.set ?_ (fun h => by have := M16 h; omega) _ _ | refine Mag.drew ?_ | refine Mag.alloc ?_ _ | refine Mag.drewN ?_ _ | exact M16)) (hT.below (have := Beh.mk B6; zbh))).out.mono ?_; rintro e w7 ⟨a4, c4, rfl, M47, hb7, hf7⟩; have Va7 : DyV w7 za (dbad da) (decide (dman da < 0)) (.slice a1 (nl (dman da).natAbs) c1) (dexp da) := (Va6.out.on.below hb7); (try clear ac0 ac1 ac2 ac3 ac4); obtain ⟨ac0, ac1, ac2, ac3, ac4, ac5⟩ := Va7; have Va7 := Lib.hid (DyV.mk ac0 ac1 ac2 ac3 ac4 ac5); have Vb7 : DyV w7 zb (dbad db) (decide (dman db < 0)) (.slice a2 (nl (dman db).natAbs) c2) (dexp db) := (Vb6.out.on.below hb7); (try clear bc0 bc1 bc2 bc3 bc4); obtain ⟨bc0, bc1, bc2, bc3, bc4, bc5⟩ := Vb7; have Vb7 := Lib.hid (DyV.mk bc0 bc1 bc2 bc3 bc4 bc5); have Vc7 : DyV w7 zc (dbad dc) (decide (dman dc < 0)) (.slice a3 (nl (dman dc).natAbs) c3) (dexp dc) := (Vc6.out.on.below hb7); (try clear cc0 cc1 cc2 cc3 cc4); obtain ⟨cc0, cc1, cc2, cc3, cc4, cc5⟩ := Vc7; have Vc7 := Lib.hid (DyV.mk cc0 cc1 cc2 cc3 cc4 cc5); have M17 : Mag w7 a1 (nl (dman da).natAbs) c1 (dman da).natAbs := Mag.below (by repeat (with_reducible first | refine Mag.set ?_ (fun h => by have := M16 h; omega) _ _ | refine Mag.drew ?_ | refine Mag.alloc ?_ _ | refine Mag.drewN ?_ _ | exact M16)) hb7; have M27 : Mag w7 a2 (nl (dman db).natAbs) c2 (dman db).natAbs := Mag.below (by repeat (with_reducible first | refine Mag.set ?_ (fun h => by have := M26 h; omega) _ _ | refine Mag.drew ?_ | refine Mag.alloc ?_ _ | refine Mag.drewN ?_ _ | exact M26)) hb7; have M37 : Mag w7 a3 (nl (dman dc).natAbs) c3 (dman dc).natAbs := Mag.below (by repeat (with_reducible first | refine Mag.set ?_ (fun h => by have := M36 h; omega) _ _ | refine Mag.drew ?_ | refine Mag.alloc ?_ _ | refine Mag.drewN ?_ _ | exact M36)) hb7; have B7 := below_box (w := w) (have := Beh.mk B6; zbh) hb7; clear hb7 hf7; (try clear xx); (try clear Va6); (try clear Vb6); (try clear Vc6); (try clear M16); (try clear M26); (try clear M36); (try clear B6))
        | fail)
  | fail "region"
  all_goals (
    go_wp2_with fail
    refine (HI _ (hT.below (have := Beh.mk B9; zbh)) (HXX.out.below (have := Beh.mk B9; zbh))).out.mono ?_
    rintro e w10 ⟨a6, c6, rfl, M610, hb10, hf10⟩
    have Va10 : DyV w10 za (dbad da) (decide (dman da < 0)) (.slice a1 (nl (dman da).natAbs) c1) (dexp da) := (Va9.out.on.below hb10)
    (try clear ac0 ac1 ac2 ac3 ac4)
    obtain ⟨ac0, ac1, ac2, ac3, ac4, ac5⟩ := Va10
    have Va10 := Lib.hid (DyV.mk ac0 ac1 ac2 ac3 ac4 ac5)
    have Vb10 : DyV w10 zb (dbad db) (decide (dman db < 0)) (.slice a2 (nl (dman db).natAbs) c2) (dexp db) := (Vb9.out.on.below hb10)
    (try clear bc0 bc1 bc2 bc3 bc4)
    obtain ⟨bc0, bc1, bc2, bc3, bc4, bc5⟩ := Vb10
    have Vb10 := Lib.hid (DyV.mk bc0 bc1 bc2 bc3 bc4 bc5)
    have Vc10 : DyV w10 zc (dbad dc) (decide (dman dc < 0)) (.slice a3 (nl (dman dc).natAbs) c3) (dexp dc) := (Vc9.out.on.below hb10)
    (try clear cc0 cc1 cc2 cc3 cc4)
    obtain ⟨cc0, cc1, cc2, cc3, cc4, cc5⟩ := Vc10
    have Vc10 := Lib.hid (DyV.mk cc0 cc1 cc2 cc3 cc4 cc5)
    have M210 : Mag w10 a2 (nl (dman db).natAbs) c2 (dman db).natAbs := Mag.below (by repeat (with_reducible first | refine Mag.set ?_ (fun h => by have := M29 h; omega) _ _ | refine Mag.drew ?_ | refine Mag.alloc ?_ _ | refine Mag.drewN ?_ _ | exact M29)) hb10
    have B10 := below_box (w := w) (have := Beh.mk B9; zbh) hb10
    clear hb10 hf10
    (try clear xx)
    (try clear Va9)
    (try clear Vb9)
    (try clear Vc9)
    (try clear M29)
    (try clear B9)
    go_wp2_with fail
    refine (HO _ (hT.below (have := Beh.mk B10; zbh)) (HXX.out.below (have := Beh.mk B10; zbh))).out.mono ?_
    rintro e w11 ⟨a7, c7, rfl, M711, hb11, hf11⟩
    have Va11 : DyV w11 za (dbad da) (decide (dman da < 0)) (.slice a1 (nl (dman da).natAbs) c1) (dexp da) := (Va10.out.on.below hb11)
    (try clear ac0 ac1 ac2 ac3 ac4)
    obtain ⟨ac0, ac1, ac2, ac3, ac4, ac5⟩ := Va11
    have Va11 := Lib.hid (DyV.mk ac0 ac1 ac2 ac3 ac4 ac5)
    have Vb11 : DyV w11 zb (dbad db) (decide (dman db < 0)) (.slice a2 (nl (dman db).natAbs) c2) (dexp db) := (Vb10.out.on.below hb11)
    (try clear bc0 bc1 bc2 bc3 bc4)
    obtain ⟨bc0, bc1, bc2, bc3, bc4, bc5⟩ := Vb11
    have Vb11 := Lib.hid (DyV.mk bc0 bc1 bc2 bc3 bc4 bc5)
    have Vc11 : DyV w11 zc (dbad dc) (decide (dman dc < 0)) (.slice a3 (nl (dman dc).natAbs) c3) (dexp dc) := (Vc10.out.on.below hb11)
    (try clear cc0 cc1 cc2 cc3 cc4)
    obtain ⟨cc0, cc1, cc2, cc3, cc4, cc5⟩ := Vc11
    have Vc11 := Lib.hid (DyV.mk cc0 cc1 cc2 cc3 cc4 cc5)
    have M211 : Mag w11 a2 (nl (dman db).natAbs) c2 (dman db).natAbs := Mag.below (by repeat (with_reducible first | refine Mag.set ?_ (fun h => by have := M210 h; omega) _ _ | refine Mag.drew ?_ | refine Mag.alloc ?_ _ | refine Mag.drewN ?_ _ | exact M210)) hb11
    have M611 : Mag w11 a6 (nl (dman di).natAbs) c6 (dman di).natAbs := Mag.below (by repeat (with_reducible first | refine Mag.set ?_ (fun h => by have := M610 h; omega) _ _ | refine Mag.drew ?_ | refine Mag.alloc ?_ _ | refine Mag.drewN ?_ _ | exact M610)) hb11
    have B11 := below_box (w := w) (have := Beh.mk B10; zbh) hb11
    clear hb11 hf11
    (try clear xx)
    (try clear Va10)
    (try clear Vb10)
    (try clear Vc10)
    (try clear M210)
    (try clear M610)
    (try clear B10)
    go_wp2_with fail
    have Vi12 := ((DyV.made' w11 26 (dbad di) (decide (dman di < 0)) (.slice a6 (nl (dman di).natAbs) c6) (dexp di) (n := w11.heap.size) (by rfl)).alloc (.cells #[.bool (dbad dn), .bool (decide (dman dn < 0)), (.slice a7 (nl (dman dn).natAbs) c7), .int .i64 (dexp dn)] 26))
    have Vo12 := (DyV.made' (w11.alloc (.cells #[.bool (dbad di), .bool (decide (dman di < 0)), (.slice a6 (nl (dman di).natAbs) c6), .int .i64 (dexp di)] 26)) 26 (dbad dn) (decide (dman dn < 0)) (.slice a7 (nl (dman dn).natAbs) c7) (dexp dn) (n := w11.heap.size + 1) (by rw [World.size_alloc]))
    have Va12 := (DyV.alloc (DyV.alloc Va11.out (.cells #[.bool (dbad di), .bool (decide (dman di < 0)), (.slice a6 (nl (dman di).natAbs) c6), .int .i64 (dexp di)] 26)) (.cells #[.bool (dbad dn), .bool (decide (dman dn < 0)), (.slice a7 (nl (dman dn).natAbs) c7), .int .i64 (dexp dn)] 26))
    have Vb12 := (DyV.alloc (DyV.alloc Vb11.out (.cells #[.bool (dbad di), .bool (decide (dman di < 0)), (.slice a6 (nl (dman di).natAbs) c6), .int .i64 (dexp di)] 26)) (.cells #[.bool (dbad dn), .bool (decide (dman dn < 0)), (.slice a7 (nl (dman dn).natAbs) c7), .int .i64 (dexp dn)] 26))
    have Vc12 := (DyV.alloc (DyV.alloc Vc11.out (.cells #[.bool (dbad di), .bool (decide (dman di < 0)), (.slice a6 (nl (dman di).natAbs) c6), .int .i64 (dexp di)] 26)) (.cells #[.bool (dbad dn), .bool (decide (dman dn < 0)), (.slice a7 (nl (dman dn).natAbs) c7), .int .i64 (dexp dn)] 26))
    have M212 := (Mag.alloc (Mag.alloc M211 (.cells #[.bool (dbad di), .bool (decide (dman di < 0)), (.slice a6 (nl (dman di).natAbs) c6), .int .i64 (dexp di)] 26)) (.cells #[.bool (dbad dn), .bool (decide (dman dn < 0)), (.slice a7 (nl (dman dn).natAbs) c7), .int .i64 (dexp dn)] 26))
    have M612 := (Mag.alloc (Mag.alloc M611 (.cells #[.bool (dbad di), .bool (decide (dman di < 0)), (.slice a6 (nl (dman di).natAbs) c6), .int .i64 (dexp di)] 26)) (.cells #[.bool (dbad dn), .bool (decide (dman dn < 0)), (.slice a7 (nl (dman dn).natAbs) c7), .int .i64 (dexp dn)] 26))
    have M712 := (Mag.alloc (Mag.alloc M711 (.cells #[.bool (dbad di), .bool (decide (dman di < 0)), (.slice a6 (nl (dman di).natAbs) c6), .int .i64 (dexp di)] 26)) (.cells #[.bool (dbad dn), .bool (decide (dman dn < 0)), (.slice a7 (nl (dman dn).natAbs) c7), .int .i64 (dexp dn)] 26))
    have B12 : Below w.heap.size w ((w11.alloc (.cells #[.bool (dbad di), .bool (decide (dman di < 0)), (.slice a6 (nl (dman di).natAbs) c6), .int .i64 (dexp di)] 26)).alloc (.cells #[.bool (dbad dn), .bool (decide (dman dn < 0)), (.slice a7 (nl (dman dn).natAbs) c7), .int .i64 (dexp dn)] 26)) := (have := Beh.mk B11; zbh)
    have nai : ¬ za = w11.heap.size := by have := Va11.out.lt; omega
    have nia : ¬ w11.heap.size = za := by have := Va11.out.lt; omega
    have nbi : ¬ zb = w11.heap.size := by have := Vb11.out.lt; omega
    have nib : ¬ w11.heap.size = zb := by have := Vb11.out.lt; omega
    have nci : ¬ zc = w11.heap.size := by have := Vc11.out.lt; omega
    have nic : ¬ w11.heap.size = zc := by have := Vc11.out.lt; omega
    have nio : ¬ w11.heap.size = w11.heap.size + 1 := by omega
    have fr2i : 0 < (nl (dman db).natAbs) → ab a2 ≠ w11.heap.size := fun h => by have := M211.old h; omega
    have fr6i : 0 < (nl (dman di).natAbs) → ab a6 ≠ w11.heap.size := fun h => by have := M611.old h; omega
    have fr7i : 0 < (nl (dman dn).natAbs) → ab a7 ≠ w11.heap.size := fun h => by have := M711.old h; omega
    have gi : w.heap.size ≤ w11.heap.size := by have := B11.size; omega
    have nao : ¬ za = w11.heap.size + 1 := by have := Va11.out.lt; omega
    have noa : ¬ w11.heap.size + 1 = za := by have := Va11.out.lt; omega
    have nbo : ¬ zb = w11.heap.size + 1 := by have := Vb11.out.lt; omega
    have nob : ¬ w11.heap.size + 1 = zb := by have := Vb11.out.lt; omega
    have nco : ¬ zc = w11.heap.size + 1 := by have := Vc11.out.lt; omega
    have noc : ¬ w11.heap.size + 1 = zc := by have := Vc11.out.lt; omega
    have noi : ¬ w11.heap.size + 1 = w11.heap.size := by omega
    have fr2o : 0 < (nl (dman db).natAbs) → ab a2 ≠ w11.heap.size + 1 := fun h => by have := M211.old h; omega
    have fr6o : 0 < (nl (dman di).natAbs) → ab a6 ≠ w11.heap.size + 1 := fun h => by have := M611.old h; omega
    have fr7o : 0 < (nl (dman dn).natAbs) → ab a7 ≠ w11.heap.size + 1 := fun h => by have := M711.old h; omega
    have go : w.heap.size ≤ w11.heap.size + 1 := by have := B11.size; omega
    generalize ((w11.alloc (.cells #[.bool (dbad di), .bool (decide (dman di < 0)), (.slice a6 (nl (dman di).natAbs) c6), .int .i64 (dexp di)] 26)).alloc (.cells #[.bool (dbad dn), .bool (decide (dman dn < 0)), (.slice a7 (nl (dman dn).natAbs) c7), .int .i64 (dexp dn)] 26)) = w12 at Vi12 Vo12 Va12 Vb12 Vc12 M212 M612 M712 B12 ⊢
    generalize w11.heap.size + 1 = zo at Vo12 nai nia nbi nib nci nic nio fr2i fr6i fr7i gi nao noa nbo nob nco noc noi fr2o fr6o fr7o go ⊢
    generalize w11.heap.size = zi at Vi12 nai nia nbi nib nci nic nio fr2i fr6i fr7i gi nao noa nbo nob nco noc noi fr2o fr6o fr7o go ⊢
    (try clear ac0 ac1 ac2 ac3 ac4)
    obtain ⟨ac0, ac1, ac2, ac3, ac4, ac5⟩ := Va12
    have Va12 := Lib.hid (DyV.mk ac0 ac1 ac2 ac3 ac4 ac5)
    (try clear bc0 bc1 bc2 bc3 bc4)
    obtain ⟨bc0, bc1, bc2, bc3, bc4, bc5⟩ := Vb12
    have Vb12 := Lib.hid (DyV.mk bc0 bc1 bc2 bc3 bc4 bc5)
    (try clear cc0 cc1 cc2 cc3 cc4)
    obtain ⟨cc0, cc1, cc2, cc3, cc4, cc5⟩ := Vc12
    have Vc12 := Lib.hid (DyV.mk cc0 cc1 cc2 cc3 cc4 cc5)
    (try clear ic0 ic1 ic2 ic3 ic4)
    obtain ⟨ic0, ic1, ic2, ic3, ic4, ic5⟩ := Vi12
    have Vi12 := Lib.hid (DyV.mk ic0 ic1 ic2 ic3 ic4 ic5)
    (try clear oc0 oc1 oc2 oc3 oc4)
    obtain ⟨oc0, oc1, oc2, oc3, oc4, oc5⟩ := Vo12
    have Vo12 := Lib.hid (DyV.mk oc0 oc1 oc2 oc3 oc4 oc5)
    refine (HC2 _ a6 c6 a7 c7 (by repeat (with_reducible first | refine Mag.set ?_ (fun h => by have := M612 h; omega) _ _ | refine Mag.drew ?_ | refine Mag.alloc ?_ _ | refine Mag.drewN ?_ _ | exact M612)) (by repeat (with_reducible first | refine Mag.set ?_ (fun h => by have := M712 h; omega) _ _ | refine Mag.drew ?_ | refine Mag.alloc ?_ _ | refine Mag.drewN ?_ _ | exact M712)) (hT.below (have := Beh.mk B12; zbh))).out.mono ?_
    rintro e w13 ⟨rfl, hb13⟩
    have Va13 : DyV w13 za (dbad da) (decide (dman da < 0)) (.slice a1 (nl (dman da).natAbs) c1) (dexp da) := (Va12.out.on.below hb13)
    (try clear ac0 ac1 ac2 ac3 ac4)
    obtain ⟨ac0, ac1, ac2, ac3, ac4, ac5⟩ := Va13
    have Va13 := Lib.hid (DyV.mk ac0 ac1 ac2 ac3 ac4 ac5)
    have Vb13 : DyV w13 zb (dbad db) (decide (dman db < 0)) (.slice a2 (nl (dman db).natAbs) c2) (dexp db) := (Vb12.out.on.below hb13)
    (try clear bc0 bc1 bc2 bc3 bc4)
    obtain ⟨bc0, bc1, bc2, bc3, bc4, bc5⟩ := Vb13
    have Vb13 := Lib.hid (DyV.mk bc0 bc1 bc2 bc3 bc4 bc5)
    have Vc13 : DyV w13 zc (dbad dc) (decide (dman dc < 0)) (.slice a3 (nl (dman dc).natAbs) c3) (dexp dc) := (Vc12.out.on.below hb13)
    (try clear cc0 cc1 cc2 cc3 cc4)
    obtain ⟨cc0, cc1, cc2, cc3, cc4, cc5⟩ := Vc13
    have Vc13 := Lib.hid (DyV.mk cc0 cc1 cc2 cc3 cc4 cc5)
    have Vi13 : DyV w13 zi (dbad di) (decide (dman di < 0)) (.slice a6 (nl (dman di).natAbs) c6) (dexp di) := (Vi12.out.on.below hb13)
    (try clear ic0 ic1 ic2 ic3 ic4)
    obtain ⟨ic0, ic1, ic2, ic3, ic4, ic5⟩ := Vi13
    have Vi13 := Lib.hid (DyV.mk ic0 ic1 ic2 ic3 ic4 ic5)
    have Vo13 : DyV w13 zo (dbad dn) (decide (dman dn < 0)) (.slice a7 (nl (dman dn).natAbs) c7) (dexp dn) := (Vo12.out.on.below hb13)
    (try clear oc0 oc1 oc2 oc3 oc4)
    obtain ⟨oc0, oc1, oc2, oc3, oc4, oc5⟩ := Vo13
    have Vo13 := Lib.hid (DyV.mk oc0 oc1 oc2 oc3 oc4 oc5)
    have M213 : Mag w13 a2 (nl (dman db).natAbs) c2 (dman db).natAbs := Mag.below (by repeat (with_reducible first | refine Mag.set ?_ (fun h => by have := M212 h; omega) _ _ | refine Mag.drew ?_ | refine Mag.alloc ?_ _ | refine Mag.drewN ?_ _ | exact M212)) hb13
    have M613 : Mag w13 a6 (nl (dman di).natAbs) c6 (dman di).natAbs := Mag.below (by repeat (with_reducible first | refine Mag.set ?_ (fun h => by have := M612 h; omega) _ _ | refine Mag.drew ?_ | refine Mag.alloc ?_ _ | refine Mag.drewN ?_ _ | exact M612)) hb13
    have M713 : Mag w13 a7 (nl (dman dn).natAbs) c7 (dman dn).natAbs := Mag.below (by repeat (with_reducible first | refine Mag.set ?_ (fun h => by have := M712 h; omega) _ _ | refine Mag.drew ?_ | refine Mag.alloc ?_ _ | refine Mag.drewN ?_ _ | exact M712)) hb13
    have B13 := below_box (w := w) (have := Beh.mk B12; zbh) hb13
    clear hb13
    (try clear xx)
    (try clear Va12)
    (try clear Vb12)
    (try clear Vc12)
    (try clear Vi12)
    (try clear Vo12)
    (try clear M212)
    (try clear M612)
    (try clear M712)
    (try clear B12)
    go_wp2_with fail
    first
    | go_region_held3 (fun w' => w'.cell? ⟨za, 0, none⟩ = some (.bool (dbad da)) ∧ w'.cell? ⟨za, 1, none⟩ = some (.bool (decide (dman da < 0))) ∧ w'.cell? ⟨za, 2, none⟩ = some ((.slice a1 (nl (dman da).natAbs) c1)) ∧ w'.cell? ⟨za, 3, none⟩ = some (.int .i64 (dexp da)) ∧ w'.cell? ⟨zb, 0, none⟩ = some (.bool (dbad db)) ∧ w'.cell? ⟨zb, 1, none⟩ = some (.bool (decide (dman db < 0))) ∧ w'.cell? ⟨zb, 2, none⟩ = some ((.slice a2 (nl (dman db).natAbs) c2)) ∧ w'.cell? ⟨zb, 3, none⟩ = some (.int .i64 (dexp db)) ∧ w'.cell? ⟨zc, 0, none⟩ = some (.bool (dbad dc)) ∧ w'.cell? ⟨zc, 1, none⟩ = some (.bool (decide (dman dc < 0))) ∧ w'.cell? ⟨zc, 2, none⟩ = some ((.slice a3 (nl (dman dc).natAbs) c3)) ∧ w'.cell? ⟨zc, 3, none⟩ = some (.int .i64 (dexp dc)) ∧ w'.cell? ⟨zi, 0, none⟩ = some (.bool (dbad di)) ∧ w'.cell? ⟨zi, 1, none⟩ = some (.bool (decide (dman di < 0))) ∧ w'.cell? ⟨zi, 2, none⟩ = some ((.slice a6 (nl (dman di).natAbs) c6)) ∧ w'.cell? ⟨zi, 3, none⟩ = some (.int .i64 (dexp di)) ∧ w'.cell? ⟨zo, 0, none⟩ = some (.bool (dbad dn)) ∧ w'.cell? ⟨zo, 1, none⟩ = some (.bool (decide (dman dn < 0))) ∧ w'.cell? ⟨zo, 2, none⟩ = some ((.slice a7 (nl (dman dn).natAbs) c7)) ∧ w'.cell? ⟨zo, 3, none⟩ = some (.int .i64 (dexp dn))) (first | (go_keep; done) | (go_simp; done))
        (first
          | (go_at_call 57; have xx := B15; refine (HC3 _ a9 c9 a7 c7 (by repeat (with_reducible first | refine Mag.set ?_ (fun h => by have := M915 h; omega) _ _ | refine Mag.drew ?_ | refine Mag.alloc ?_ _ | refine Mag.drewN ?_ _ | exact M915)) (by repeat (with_reducible first | refine Mag.set ?_ (fun h => by have := M715 h; omega) _ _ | refine Mag.drew ?_ | refine Mag.alloc ?_ _ | refine Mag.drewN ?_ _ | exact M715)) (hT.below (have := Beh.mk B15; zbh))).out.mono ?_; rintro e w16 ⟨rfl, hb16⟩; have Va16 : DyV w16 za (dbad da) (decide (dman da < 0)) (.slice a1 (nl (dman da).natAbs) c1) (dexp da) := (Va15.out.on.below hb16); (try clear ac0 ac1 ac2 ac3 ac4); obtain ⟨ac0, ac1, ac2, ac3, ac4, ac5⟩ := Va16; have Va16 := Lib.hid (DyV.mk ac0 ac1 ac2 ac3 ac4 ac5); have Vb16 : DyV w16 zb (dbad db) (decide (dman db < 0)) (.slice a2 (nl (dman db).natAbs) c2) (dexp db) := (Vb15.out.on.below hb16); (try clear bc0 bc1 bc2 bc3 bc4); obtain ⟨bc0, bc1, bc2, bc3, bc4, bc5⟩ := Vb16; have Vb16 := Lib.hid (DyV.mk bc0 bc1 bc2 bc3 bc4 bc5); have Vc16 : DyV w16 zc (dbad dc) (decide (dman dc < 0)) (.slice a3 (nl (dman dc).natAbs) c3) (dexp dc) := (Vc15.out.on.below hb16); (try clear cc0 cc1 cc2 cc3 cc4); obtain ⟨cc0, cc1, cc2, cc3, cc4, cc5⟩ := Vc16; have Vc16 := Lib.hid (DyV.mk cc0 cc1 cc2 cc3 cc4 cc5); have Vi16 : DyV w16 zi (dbad di) (decide (dman di < 0)) (.slice a6 (nl (dman di).natAbs) c6) (dexp di) := (Vi15.out.on.below hb16); (try clear ic0 ic1 ic2 ic3 ic4); obtain ⟨ic0, ic1, ic2, ic3, ic4, ic5⟩ := Vi16; have Vi16 := Lib.hid (DyV.mk ic0 ic1 ic2 ic3 ic4 ic5); have Vo16 : DyV w16 zo (dbad dn) (decide (dman dn < 0)) (.slice a7 (nl (dman dn).natAbs) c7) (dexp dn) := (Vo15.out.on.below hb16); (try clear oc0 oc1 oc2 oc3 oc4); obtain ⟨oc0, oc1, oc2, oc3, oc4, oc5⟩ := Vo16; have Vo16 := Lib.hid (DyV.mk oc0 oc1 oc2 oc3 oc4 oc5); have M216 : Mag w16 a2 (nl (dman db).natAbs) c2 (dman db).natAbs := Mag.below (by repeat (with_reducible first | refine Mag.set ?_ (fun h => by have := M215 h; omega) _ _ | refine Mag.drew ?_ | refine Mag.alloc ?_ _ | refine Mag.drewN ?_ _ | exact M215)) hb16; have M616 : Mag w16 a6 (nl (dman di).natAbs) c6 (dman di).natAbs := Mag.below (by repeat (with_reducible first | refine Mag.set ?_ (fun h => by have := M615 h; omega) _ _ | refine Mag.drew ?_ | refine Mag.alloc ?_ _ | refine Mag.drewN ?_ _ | exact M615)) hb16; have M716 : Mag w16 a7 (nl (dman dn).natAbs) c7 (dman dn).natAbs := Mag.below (by repeat (with_reducible first | refine Mag.set ?_ (fun h => by have := M715 h; omega) _ _ | refine Mag.drew ?_ | refine Mag.alloc ?_ _ | refine Mag.drewN ?_ _ | exact M715)) hb16; have M816 : Mag w16 a8 (nl (dman ds).natAbs) c8 (dman ds).natAbs := Mag.below (by repeat (with_reducible first | refine Mag.set ?_ (fun h => by have := M815 h; omega) _ _ | refine Mag.drew ?_ | refine Mag.alloc ?_ _ | refine Mag.drewN ?_ _ | exact M815)) hb16; have M916 : Mag w16 a9 (nl (dman p4).natAbs) c9 (dman p4).natAbs := Mag.below (by repeat (with_reducible first | refine Mag.set ?_ (fun h => by have := M915 h; omega) _ _ | refine Mag.drew ?_ | refine Mag.alloc ?_ _ | refine Mag.drewN ?_ _ | exact M915)) hb16; have B16 := below_box (w := w) (have := Beh.mk B15; zbh) hb16; clear hb16; (try clear xx); (try clear Va15); (try clear Vb15); (try clear Vc15); (try clear Vi15); (try clear Vo15); (try clear M215); (try clear M615); (try clear M715); (try clear M815); (try clear M915); (try clear B15))
          | (go_at_call 60; have xx := B14; refine (HA _ a8 c8 (by repeat (with_reducible first | refine Mag.set ?_ (fun h => by have := M814 h; omega) _ _ | refine Mag.drew ?_ | refine Mag.alloc ?_ _ | refine Mag.drewN ?_ _ | exact M814)) (hT.below (have := Beh.mk B14; zbh))).out.mono ?_; rintro e w15 ⟨a9, c9, rfl, M915, hb15, hf15⟩; have Va15 : DyV w15 za (dbad da) (decide (dman da < 0)) (.slice a1 (nl (dman da).natAbs) c1) (dexp da) := (Va14.out.on.below hb15); (try clear ac0 ac1 ac2 ac3 ac4); obtain ⟨ac0, ac1, ac2, ac3, ac4, ac5⟩ := Va15; have Va15 := Lib.hid (DyV.mk ac0 ac1 ac2 ac3 ac4 ac5); have Vb15 : DyV w15 zb (dbad db) (decide (dman db < 0)) (.slice a2 (nl (dman db).natAbs) c2) (dexp db) := (Vb14.out.on.below hb15); (try clear bc0 bc1 bc2 bc3 bc4); obtain ⟨bc0, bc1, bc2, bc3, bc4, bc5⟩ := Vb15; have Vb15 := Lib.hid (DyV.mk bc0 bc1 bc2 bc3 bc4 bc5); have Vc15 : DyV w15 zc (dbad dc) (decide (dman dc < 0)) (.slice a3 (nl (dman dc).natAbs) c3) (dexp dc) := (Vc14.out.on.below hb15); (try clear cc0 cc1 cc2 cc3 cc4); obtain ⟨cc0, cc1, cc2, cc3, cc4, cc5⟩ := Vc15; have Vc15 := Lib.hid (DyV.mk cc0 cc1 cc2 cc3 cc4 cc5); have Vi15 : DyV w15 zi (dbad di) (decide (dman di < 0)) (.slice a6 (nl (dman di).natAbs) c6) (dexp di) := (Vi14.out.on.below hb15); (try clear ic0 ic1 ic2 ic3 ic4); obtain ⟨ic0, ic1, ic2, ic3, ic4, ic5⟩ := Vi15; have Vi15 := Lib.hid (DyV.mk ic0 ic1 ic2 ic3 ic4 ic5); have Vo15 : DyV w15 zo (dbad dn) (decide (dman dn < 0)) (.slice a7 (nl (dman dn).natAbs) c7) (dexp dn) := (Vo14.out.on.below hb15); (try clear oc0 oc1 oc2 oc3 oc4); obtain ⟨oc0, oc1, oc2, oc3, oc4, oc5⟩ := Vo15; have Vo15 := Lib.hid (DyV.mk oc0 oc1 oc2 oc3 oc4 oc5); have M215 : Mag w15 a2 (nl (dman db).natAbs) c2 (dman db).natAbs := Mag.below (by repeat (with_reducible first | refine Mag.set ?_ (fun h => by have := M214 h; omega) _ _ | refine Mag.drew ?_ | refine Mag.alloc ?_ _ | refine Mag.drewN ?_ _ | exact M214)) hb15; have M615 : Mag w15 a6 (nl (dman di).natAbs) c6 (dman di).natAbs := Mag.below (by repeat (with_reducible first | refine Mag.set ?_ (fun h => by have := M614 h; omega) _ _ | refine Mag.drew ?_ | refine Mag.alloc ?_ _ | refine Mag.drewN ?_ _ | exact M614)) hb15; have M715 : Mag w15 a7 (nl (dman dn).natAbs) c7 (dman dn).natAbs := Mag.below (by repeat (with_reducible first | refine Mag.set ?_ (fun h => by have := M714 h; omega) _ _ | refine Mag.drew ?_ | refine Mag.alloc ?_ _ | refine Mag.drewN ?_ _ | exact M714)) hb15; have M815 : Mag w15 a8 (nl (dman ds).natAbs) c8 (dman ds).natAbs := Mag.below (by repeat (with_reducible first | refine Mag.set ?_ (fun h => by have := M814 h; omega) _ _ | refine Mag.drew ?_ | refine Mag.alloc ?_ _ | refine Mag.drewN ?_ _ | exact M814)) hb15; have B15 := below_box (w := w) (have := Beh.mk B14; zbh) hb15; clear hb15 hf15; (try clear xx); (try clear Va14); (try clear Vb14); (try clear Vc14); (try clear Vi14); (try clear Vo14); (try clear M214); (try clear M614); (try clear M714); (try clear M814); (try clear B14))
          | (go_at_call 48; have xx := B13; refine (HS _ (hT.below (have := Beh.mk B13; zbh)) (HXX.out.below (have := Beh.mk B13; zbh))).out.mono ?_; rintro e w14 ⟨a8, c8, rfl, M814, hb14, hf14⟩; have Va14 : DyV w14 za (dbad da) (decide (dman da < 0)) (.slice a1 (nl (dman da).natAbs) c1) (dexp da) := (Va13.out.on.below hb14); (try clear ac0 ac1 ac2 ac3 ac4); obtain ⟨ac0, ac1, ac2, ac3, ac4, ac5⟩ := Va14; have Va14 := Lib.hid (DyV.mk ac0 ac1 ac2 ac3 ac4 ac5); have Vb14 : DyV w14 zb (dbad db) (decide (dman db < 0)) (.slice a2 (nl (dman db).natAbs) c2) (dexp db) := (Vb13.out.on.below hb14); (try clear bc0 bc1 bc2 bc3 bc4); obtain ⟨bc0, bc1, bc2, bc3, bc4, bc5⟩ := Vb14; have Vb14 := Lib.hid (DyV.mk bc0 bc1 bc2 bc3 bc4 bc5); have Vc14 : DyV w14 zc (dbad dc) (decide (dman dc < 0)) (.slice a3 (nl (dman dc).natAbs) c3) (dexp dc) := (Vc13.out.on.below hb14); (try clear cc0 cc1 cc2 cc3 cc4); obtain ⟨cc0, cc1, cc2, cc3, cc4, cc5⟩ := Vc14; have Vc14 := Lib.hid (DyV.mk cc0 cc1 cc2 cc3 cc4 cc5); have Vi14 : DyV w14 zi (dbad di) (decide (dman di < 0)) (.slice a6 (nl (dman di).natAbs) c6) (dexp di) := (Vi13.out.on.below hb14); (try clear ic0 ic1 ic2 ic3 ic4); obtain ⟨ic0, ic1, ic2, ic3, ic4, ic5⟩ := Vi14; have Vi14 := Lib.hid (DyV.mk ic0 ic1 ic2 ic3 ic4 ic5); have Vo14 : DyV w14 zo (dbad dn) (decide (dman dn < 0)) (.slice a7 (nl (dman dn).natAbs) c7) (dexp dn) := (Vo13.out.on.below hb14); (try clear oc0 oc1 oc2 oc3 oc4); obtain ⟨oc0, oc1, oc2, oc3, oc4, oc5⟩ := Vo14; have Vo14 := Lib.hid (DyV.mk oc0 oc1 oc2 oc3 oc4 oc5); have M214 : Mag w14 a2 (nl (dman db).natAbs) c2 (dman db).natAbs := Mag.below (by repeat (with_reducible first | refine Mag.set ?_ (fun h => by have := M213 h; omega) _ _ | refine Mag.drew ?_ | refine Mag.alloc ?_ _ | refine Mag.drewN ?_ _ | exact M213)) hb14; have M614 : Mag w14 a6 (nl (dman di).natAbs) c6 (dman di).natAbs := Mag.below (by repeat (with_reducible first | refine Mag.set ?_ (fun h => by have := M613 h; omega) _ _ | refine Mag.drew ?_ | refine Mag.alloc ?_ _ | refine Mag.drewN ?_ _ | exact M613)) hb14; have M714 : Mag w14 a7 (nl (dman dn).natAbs) c7 (dman dn).natAbs := Mag.below (by repeat (with_reducible first | refine Mag.set ?_ (fun h => by have := M713 h; omega) _ _ | refine Mag.drew ?_ | refine Mag.alloc ?_ _ | refine Mag.drewN ?_ _ | exact M713)) hb14; have B14 := below_box (w := w) (have := Beh.mk B13; zbh) hb14; clear hb14 hf14; (try clear xx); (try clear Va13); (try clear Vb13); (try clear Vc13); (try clear Vi13); (try clear Vo13); (try clear M213); (try clear M613); (try clear M713); (try clear B13))
          | fail)
    | fail "region"
    all_goals (
      go_wp2_with fail
      first
      | go_region_held3 (fun w' => w'.cell? ⟨za, 0, none⟩ = some (.bool (dbad da)) ∧ w'.cell? ⟨za, 1, none⟩ = some (.bool (decide (dman da < 0))) ∧ w'.cell? ⟨za, 2, none⟩ = some ((.slice a1 (nl (dman da).natAbs) c1)) ∧ w'.cell? ⟨za, 3, none⟩ = some (.int .i64 (dexp da)) ∧ w'.cell? ⟨zb, 0, none⟩ = some (.bool (dbad db)) ∧ w'.cell? ⟨zb, 1, none⟩ = some (.bool (decide (dman db < 0))) ∧ w'.cell? ⟨zb, 2, none⟩ = some ((.slice a2 (nl (dman db).natAbs) c2)) ∧ w'.cell? ⟨zb, 3, none⟩ = some (.int .i64 (dexp db)) ∧ w'.cell? ⟨zc, 0, none⟩ = some (.bool (dbad dc)) ∧ w'.cell? ⟨zc, 1, none⟩ = some (.bool (decide (dman dc < 0))) ∧ w'.cell? ⟨zc, 2, none⟩ = some ((.slice a3 (nl (dman dc).natAbs) c3)) ∧ w'.cell? ⟨zc, 3, none⟩ = some (.int .i64 (dexp dc)) ∧ w'.cell? ⟨zi, 0, none⟩ = some (.bool (dbad di)) ∧ w'.cell? ⟨zi, 1, none⟩ = some (.bool (decide (dman di < 0))) ∧ w'.cell? ⟨zi, 2, none⟩ = some ((.slice a6 (nl (dman di).natAbs) c6)) ∧ w'.cell? ⟨zi, 3, none⟩ = some (.int .i64 (dexp di)) ∧ w'.cell? ⟨zo, 0, none⟩ = some (.bool (dbad dn)) ∧ w'.cell? ⟨zo, 1, none⟩ = some (.bool (decide (dman dn < 0))) ∧ w'.cell? ⟨zo, 2, none⟩ = some ((.slice a7 (nl (dman dn).natAbs) c7)) ∧ w'.cell? ⟨zo, 3, none⟩ = some (.int .i64 (dexp dn))) (first | (go_keep; done) | (go_simp; done))
          (first
            | (go_at_call 57; have xx := B17; refine (HC4 _ a10 c10 a2 c2 (by repeat (with_reducible first | refine Mag.set ?_ (fun h => by have := M1017 h; omega) _ _ | refine Mag.drew ?_ | refine Mag.alloc ?_ _ | refine Mag.drewN ?_ _ | exact M1017)) (by repeat (with_reducible first | refine Mag.set ?_ (fun h => by have := M217 h; omega) _ _ | refine Mag.drew ?_ | refine Mag.alloc ?_ _ | refine Mag.drewN ?_ _ | exact M217)) (hT.below (have := Beh.mk B17; zbh))).out.mono ?_; rintro e w18 ⟨rfl, hb18⟩; have Va18 : DyV w18 za (dbad da) (decide (dman da < 0)) (.slice a1 (nl (dman da).natAbs) c1) (dexp da) := (Va17.out.on.below hb18); (try clear ac0 ac1 ac2 ac3 ac4); obtain ⟨ac0, ac1, ac2, ac3, ac4, ac5⟩ := Va18; have Va18 := Lib.hid (DyV.mk ac0 ac1 ac2 ac3 ac4 ac5); have Vb18 : DyV w18 zb (dbad db) (decide (dman db < 0)) (.slice a2 (nl (dman db).natAbs) c2) (dexp db) := (Vb17.out.on.below hb18); (try clear bc0 bc1 bc2 bc3 bc4); obtain ⟨bc0, bc1, bc2, bc3, bc4, bc5⟩ := Vb18; have Vb18 := Lib.hid (DyV.mk bc0 bc1 bc2 bc3 bc4 bc5); have Vc18 : DyV w18 zc (dbad dc) (decide (dman dc < 0)) (.slice a3 (nl (dman dc).natAbs) c3) (dexp dc) := (Vc17.out.on.below hb18); (try clear cc0 cc1 cc2 cc3 cc4); obtain ⟨cc0, cc1, cc2, cc3, cc4, cc5⟩ := Vc18; have Vc18 := Lib.hid (DyV.mk cc0 cc1 cc2 cc3 cc4 cc5); have Vi18 : DyV w18 zi (dbad di) (decide (dman di < 0)) (.slice a6 (nl (dman di).natAbs) c6) (dexp di) := (Vi17.out.on.below hb18); (try clear ic0 ic1 ic2 ic3 ic4); obtain ⟨ic0, ic1, ic2, ic3, ic4, ic5⟩ := Vi18; have Vi18 := Lib.hid (DyV.mk ic0 ic1 ic2 ic3 ic4 ic5); have Vo18 : DyV w18 zo (dbad dn) (decide (dman dn < 0)) (.slice a7 (nl (dman dn).natAbs) c7) (dexp dn) := (Vo17.out.on.below hb18); (try clear oc0 oc1 oc2 oc3 oc4); obtain ⟨oc0, oc1, oc2, oc3, oc4, oc5⟩ := Vo18; have Vo18 := Lib.hid (DyV.mk oc0 oc1 oc2 oc3 oc4 oc5); have M218 : Mag w18 a2 (nl (dman db).natAbs) c2 (dman db).natAbs := Mag.below (by repeat (with_reducible first | refine Mag.set ?_ (fun h => by have := M217 h; omega) _ _ | refine Mag.drew ?_ | refine Mag.alloc ?_ _ | refine Mag.drewN ?_ _ | exact M217)) hb18; have M618 : Mag w18 a6 (nl (dman di).natAbs) c6 (dman di).natAbs := Mag.below (by repeat (with_reducible first | refine Mag.set ?_ (fun h => by have := M617 h; omega) _ _ | refine Mag.drew ?_ | refine Mag.alloc ?_ _ | refine Mag.drewN ?_ _ | exact M617)) hb18; have M1018 : Mag w18 a10 (nl (dman p3).natAbs) c10 (dman p3).natAbs := Mag.below (by repeat (with_reducible first | refine Mag.set ?_ (fun h => by have := M1017 h; omega) _ _ | refine Mag.drew ?_ | refine Mag.alloc ?_ _ | refine Mag.drewN ?_ _ | exact M1017)) hb18; have B18 := below_box (w := w) (have := Beh.mk B17; zbh) hb18; clear hb18; (try clear xx); (try clear Va17); (try clear Vb17); (try clear Vc17); (try clear Vi17); (try clear Vo17); (try clear M217); (try clear M617); (try clear M1017); (try clear B17))
            | (go_at_call 43; have xx := B16; refine (HM3 _ a6 c6 a6 c6 (by repeat (with_reducible first | refine Mag.set ?_ (fun h => by have := M616 h; omega) _ _ | refine Mag.drew ?_ | refine Mag.alloc ?_ _ | refine Mag.drewN ?_ _ | exact M616)) (by repeat (with_reducible first | refine Mag.set ?_ (fun h => by have := M616 h; omega) _ _ | refine Mag.drew ?_ | refine Mag.alloc ?_ _ | refine Mag.drewN ?_ _ | exact M616)) (hT.below (have := Beh.mk B16; zbh))).out.mono ?_; rintro e w17 ⟨a10, c10, rfl, M1017, hb17, hf17⟩; have Va17 : DyV w17 za (dbad da) (decide (dman da < 0)) (.slice a1 (nl (dman da).natAbs) c1) (dexp da) := (Va16.out.on.below hb17); (try clear ac0 ac1 ac2 ac3 ac4); obtain ⟨ac0, ac1, ac2, ac3, ac4, ac5⟩ := Va17; have Va17 := Lib.hid (DyV.mk ac0 ac1 ac2 ac3 ac4 ac5); have Vb17 : DyV w17 zb (dbad db) (decide (dman db < 0)) (.slice a2 (nl (dman db).natAbs) c2) (dexp db) := (Vb16.out.on.below hb17); (try clear bc0 bc1 bc2 bc3 bc4); obtain ⟨bc0, bc1, bc2, bc3, bc4, bc5⟩ := Vb17; have Vb17 := Lib.hid (DyV.mk bc0 bc1 bc2 bc3 bc4 bc5); have Vc17 : DyV w17 zc (dbad dc) (decide (dman dc < 0)) (.slice a3 (nl (dman dc).natAbs) c3) (dexp dc) := (Vc16.out.on.below hb17); (try clear cc0 cc1 cc2 cc3 cc4); obtain ⟨cc0, cc1, cc2, cc3, cc4, cc5⟩ := Vc17; have Vc17 := Lib.hid (DyV.mk cc0 cc1 cc2 cc3 cc4 cc5); have Vi17 : DyV w17 zi (dbad di) (decide (dman di < 0)) (.slice a6 (nl (dman di).natAbs) c6) (dexp di) := (Vi16.out.on.below hb17); (try clear ic0 ic1 ic2 ic3 ic4); obtain ⟨ic0, ic1, ic2, ic3, ic4, ic5⟩ := Vi17; have Vi17 := Lib.hid (DyV.mk ic0 ic1 ic2 ic3 ic4 ic5); have Vo17 : DyV w17 zo (dbad dn) (decide (dman dn < 0)) (.slice a7 (nl (dman dn).natAbs) c7) (dexp dn) := (Vo16.out.on.below hb17); (try clear oc0 oc1 oc2 oc3 oc4); obtain ⟨oc0, oc1, oc2, oc3, oc4, oc5⟩ := Vo17; have Vo17 := Lib.hid (DyV.mk oc0 oc1 oc2 oc3 oc4 oc5); have M217 : Mag w17 a2 (nl (dman db).natAbs) c2 (dman db).natAbs := Mag.below (by repeat (with_reducible first | refine Mag.set ?_ (fun h => by have := M216 h; omega) _ _ | refine Mag.drew ?_ | refine Mag.alloc ?_ _ | refine Mag.drewN ?_ _ | exact M216)) hb17; have M617 : Mag w17 a6 (nl (dman di).natAbs) c6 (dman di).natAbs := Mag.below (by repeat (with_reducible first | refine Mag.set ?_ (fun h => by have := M616 h; omega) _ _ | refine Mag.drew ?_ | refine Mag.alloc ?_ _ | refine Mag.drewN ?_ _ | exact M616)) hb17; have B17 := below_box (w := w) (have := Beh.mk B16; zbh) hb17; clear hb17 hf17; (try clear xx); (try clear Va16); (try clear Vb16); (try clear Vc16); (try clear Vi16); (try clear Vo16); (try clear M216); (try clear M616); (try clear B16))
            | fail)
      | fail "region"
      all_goals (
        go_wp2_with fail
        refine (HW _ (hT.below (have := Beh.mk B18; zbh))).out.mono ?_
        rintro e w19 ⟨rfl, hb19⟩
        have Va19 : DyV w19 za (dbad da) (decide (dman da < 0)) (.slice a1 (nl (dman da).natAbs) c1) (dexp da) := (Va18.out.on.below hb19)
        (try clear ac0 ac1 ac2 ac3 ac4)
        obtain ⟨ac0, ac1, ac2, ac3, ac4, ac5⟩ := Va19
        have Va19 := Lib.hid (DyV.mk ac0 ac1 ac2 ac3 ac4 ac5)
        have Vb19 : DyV w19 zb (dbad db) (decide (dman db < 0)) (.slice a2 (nl (dman db).natAbs) c2) (dexp db) := (Vb18.out.on.below hb19)
        (try clear bc0 bc1 bc2 bc3 bc4)
        obtain ⟨bc0, bc1, bc2, bc3, bc4, bc5⟩ := Vb19
        have Vb19 := Lib.hid (DyV.mk bc0 bc1 bc2 bc3 bc4 bc5)
        have Vc19 : DyV w19 zc (dbad dc) (decide (dman dc < 0)) (.slice a3 (nl (dman dc).natAbs) c3) (dexp dc) := (Vc18.out.on.below hb19)
        (try clear cc0 cc1 cc2 cc3 cc4)
        obtain ⟨cc0, cc1, cc2, cc3, cc4, cc5⟩ := Vc19
        have Vc19 := Lib.hid (DyV.mk cc0 cc1 cc2 cc3 cc4 cc5)
        have Vi19 : DyV w19 zi (dbad di) (decide (dman di < 0)) (.slice a6 (nl (dman di).natAbs) c6) (dexp di) := (Vi18.out.on.below hb19)
        (try clear ic0 ic1 ic2 ic3 ic4)
        obtain ⟨ic0, ic1, ic2, ic3, ic4, ic5⟩ := Vi19
        have Vi19 := Lib.hid (DyV.mk ic0 ic1 ic2 ic3 ic4 ic5)
        have Vo19 : DyV w19 zo (dbad dn) (decide (dman dn < 0)) (.slice a7 (nl (dman dn).natAbs) c7) (dexp dn) := (Vo18.out.on.below hb19)
        (try clear oc0 oc1 oc2 oc3 oc4)
        obtain ⟨oc0, oc1, oc2, oc3, oc4, oc5⟩ := Vo19
        have Vo19 := Lib.hid (DyV.mk oc0 oc1 oc2 oc3 oc4 oc5)
        have B19 := below_box (w := w) (have := Beh.mk B18; zbh) hb19
        clear hb19
        (try clear xx)
        (try clear Va18)
        (try clear Vb18)
        (try clear Vc18)
        (try clear Vi18)
        (try clear Vo18)
        (try clear B18)
        go_wp2_with fail
        go_ret
        exact ⟨rfl, (have := Beh.mk B19; zbh)⟩)))

theorem acauchy_any (w : World) (hT : Tab w) (a : Option Addr) (n cap : Nat) (X : Nat → Nat) (hX : Fls w a n cap X) (a' : Option Addr) (m cap' : Nat) (Y : Nat → Nat) (hY : Fls w a' m cap' Y) :
    Calls Tryz.prog 9 #[.slice a n cap, .slice a' m cap'] w fun o w' => o = .returned (.bool true) ∧ Below w.heap.size w w' := by
  by_cases hn : 10 < n
  · exact acauchy_big w hT a n cap X hX a' m cap' Y hY hn
  · by_cases hm : m = n
    · cases fa : allfin X n with
      | false => exact acauchy_fx w hT a n cap X hX a' m cap' Y hY hn hm fa
      | true =>
        cases fb : allfin Y m with
        | false => exact acauchy_fy w hT a n cap X hX a' m cap' Y hY hn hm fa fb
        | true => exact acauchy_ok w hT a n cap X hX a' m cap' Y hY hn hm fa fb
    · exact acauchy_len w hT a n cap X hX a' m cap' Y hY hn hm

end Go.Proofs.YtmpcikkimcehnaaGreatDoor

