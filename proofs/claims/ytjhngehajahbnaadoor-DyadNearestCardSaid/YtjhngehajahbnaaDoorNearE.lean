/-
  Walks: the law DyadNearest, a number of too many bits (m2).
-/
import Derived.Test.YtjhngehajahbnaaDoorNearA
namespace Go.Proofs.YtjhngehajahbnaaDoor
open Go.RowKit Sp

set_option maxRecDepth 100000 in
set_option maxHeartbeats 20000000 in
theorem near_m2 (w : World) (hT : Tab w) (bda sa : Bool) (aa : Option Addr) (na pa : Nat) (ea : Int) (da : Option (Int × Int)) (Ha : DyIs w bda sa aa na pa ea da) (q : Int) (ma : na ≤ 9223372036854775807) (hsa : slimB na ea = true) (va : dbad da = false) (r : Int) (hr : r = 1 + placeI q 80) (hr0 : 1 ≤ r) (hr1 : r ≤ 80) (dl dh dn di : Option (Int × Int)) (vx vy : Int) (dm du : Option (Int × Int)) (c g : Int) (sl sh ih il : Bool) (f1 : dround da r 1 = dl) (f2 : dround da r 2 = dh) (f3 : dround da r 0 = dn) (f4 : dround da r 3 = di) (f5 : dcmp dl da = vx) (f6 : (!dbad dl && !dbad da) = true) (f7 : dcmp da dh = vy) (f8 : (!dbad da && !dbad dh) = true) (b1 : blen (dman dl).natAbs ≤ r) (b2 : blen (dman dh).natAbs ≤ r) (b3 : blen (dman dn).natAbs ≤ r) (_fa : IsN da) (ba : blen (dman da).natAbs ≤ 131072) (s1 : vx < 0) (s2 : vy < 0) (s3 : r < blen (dman da).natAbs) (s4 : dsub da dl = dm) (s5 : dsub dh da = du) (s6 : dcmp dm du = c) (k1 : c < 0 → sl = true) (k2 : 0 < c → sh = true) (k3 : sl = true ∨ sh = true) (k4 : g < 0 → ih = true) (k5 : ¬ g < 0 → il = true) (k6 : cmpI (dman da) 0 = g) (l1 : sl = decide (dn = dl)) (l2 : sh = decide (dn = dh)) (l3 : ih = decide (di = dh)) (l4 : il = decide (di = dl)) (hc : c = 0) (hsl : sl = true) :
    Calls Tryd.prog 6 #[.agg #[.bool bda, .bool sa, .slice aa na pa, .int .i64 ea], .int .i64 q] w fun o w' => o = .returned (.bool true) ∧ Below w.heap.size w w' := by
  have HSa := fun W => Lib.hid (slim_any W bda sa aa na pa ea ma true hsa)
  have HW := fun W ht => Lib.hid (awake_any W ht)
  have Ga := Lib.hid Ha
  have Ndl := Lib.hid (show IsN dl from f1 ▸ isN_round _ _ _)
  have Ndh := Lib.hid (show IsN dh from f2 ▸ isN_round _ _ _)
  have Ndn := Lib.hid (show IsN dn from f3 ▸ isN_round _ _ _)
  have Ndi := Lib.hid (show IsN di from f4 ▸ isN_round _ _ _)
  have Ndm := Lib.hid (show IsN dm from s4 ▸ isN_add _ _)
  have Ndu := Lib.hid (show IsN du from s5 ▸ isN_add _ _)
  have HVa := fun W h ht => Lib.hid (rvalid_any W bda sa aa na pa ea da h ht)
  rw [va] at HVa
  have nva : (!false) = true := rfl
  rw [nva] at HVa
  have H1 := fun W (h0 : DyIn W bda sa aa na pa ea da) ht => Lib.hid (dround_any W _ _ _ _ _ _ r 1 _ h0 ht )
  rw [f1] at H1
  have H2 := fun W (h0 : DyIn W bda sa aa na pa ea da) ht => Lib.hid (dround_any W _ _ _ _ _ _ r 2 _ h0 ht )
  rw [f2] at H2
  have H3 := fun W (h0 : DyIn W bda sa aa na pa ea da) ht => Lib.hid (dround_any W _ _ _ _ _ _ r 0 _ h0 ht )
  rw [f3] at H3
  have H4 := fun W (h0 : DyIn W bda sa aa na pa ea da) ht => Lib.hid (dround_any W _ _ _ _ _ _ r 3 _ h0 ht )
  rw [f4] at H4
  have H5 := fun W b0 q0 (h0 : Mag W b0 (nl (dman dl).natAbs) q0 (dman dl).natAbs) (h1 : DyIn W bda sa aa na pa ea da) ht => Lib.hid (dcmp_any W _ _ _ _ _ _ _ _ _ _ _ _ _ _ (dyin_of Ndl.out h0) h1 ht )
  rw [f5, f6] at H5
  have H6 := fun W (h0 : DyIn W bda sa aa na pa ea da) b1 q1 (h1 : Mag W b1 (nl (dman dh).natAbs) q1 (dman dh).natAbs) ht => Lib.hid (dcmp_any W _ _ _ _ _ _ _ _ _ _ _ _ _ _ h0 (dyin_of Ndh.out h1) ht )
  rw [f7, f8] at H6
  have HBl := fun W b q' (h : Mag W b (nl (dman dl).natAbs) q' (dman dl).natAbs) => Lib.hid (bits_any W (dbad dl) (decide (dman dl < 0)) b _ q' _ (dexp dl) h (by have := nl_le_blen (dman dl).natAbs; omega))
  have HBh := fun W b q' (h : Mag W b (nl (dman dh).natAbs) q' (dman dh).natAbs) => Lib.hid (bits_any W (dbad dh) (decide (dman dh < 0)) b _ q' _ (dexp dh) h (by have := nl_le_blen (dman dh).natAbs; omega))
  have HBn := fun W b q' (h : Mag W b (nl (dman dn).natAbs) q' (dman dn).natAbs) => Lib.hid (bits_any W (dbad dn) (decide (dman dn < 0)) b _ q' _ (dexp dn) h (by have := nl_le_blen (dman dn).natAbs; omega))
  have HBa := fun W b q' (h : Mag W b (nl (dman da).natAbs) q' (dman da).natAbs) => Lib.hid (bits_any W (dbad da) (decide (dman da < 0)) b _ q' _ (dexp da) h (by have := nl_le_blen (dman da).natAbs; omega))
  have HRn := fun W (h : DyIs W bda sa aa na pa ea da) ht => Lib.hid (rdnorm_in W h ht)
  have H7 := fun W (h0 : DyIn W bda sa aa na pa ea da) b1 q1 (h1 : Mag W b1 (nl (dman dl).natAbs) q1 (dman dl).natAbs) ht => Lib.hid (dsub_any W _ _ _ _ _ _ _ _ _ _ _ _ _ _ h0 (dyin_of Ndl.out h1) ht )
  rw [s4] at H7
  have H8 := fun W b0 q0 (h0 : Mag W b0 (nl (dman dh).natAbs) q0 (dman dh).natAbs) (h1 : DyIn W bda sa aa na pa ea da) ht => Lib.hid (dsub_any W _ _ _ _ _ _ _ _ _ _ _ _ _ _ (dyin_of Ndh.out h0) h1 ht )
  rw [s5] at H8
  have H9 := fun W b0 q0 (h0 : Mag W b0 (nl (dman dm).natAbs) q0 (dman dm).natAbs) b1 q1 (h1 : Mag W b1 (nl (dman du).natAbs) q1 (dman du).natAbs) ht => Lib.hid (dcmp_any W _ _ _ _ _ _ _ _ _ _ _ _ _ _ (dyin_of Ndm.out h0) (dyin_of Ndu.out h1) ht )
  rw [s6] at H9
  have H10 := fun W b0 q0 (h0 : Mag W b0 (nl (dman dn).natAbs) q0 (dman dn).natAbs) b1 q1 (h1 : Mag W b1 (nl (dman dl).natAbs) q1 (dman dl).natAbs) ht => Lib.hid (same_any W _ _ _ _ _ _ _ _ _ _ _ _ _ _ (dyin_of Ndn.out h0) (dyin_of Ndl.out h1) ht sl l1)
  have H11 := fun W b0 q0 (h0 : Mag W b0 (nl (dman dn).natAbs) q0 (dman dn).natAbs) b1 q1 (h1 : Mag W b1 (nl (dman dh).natAbs) q1 (dman dh).natAbs) ht => Lib.hid (same_any W _ _ _ _ _ _ _ _ _ _ _ _ _ _ (dyin_of Ndn.out h0) (dyin_of Ndh.out h1) ht sh l2)
  have H12 := fun W b0 q0 (h0 : Mag W b0 (nl (dman di).natAbs) q0 (dman di).natAbs) b1 q1 (h1 : Mag W b1 (nl (dman dh).natAbs) q1 (dman dh).natAbs) ht => Lib.hid (same_any W _ _ _ _ _ _ _ _ _ _ _ _ _ _ (dyin_of Ndi.out h0) (dyin_of Ndh.out h1) ht ih l3)
  have H13 := fun W b0 q0 (h0 : Mag W b0 (nl (dman di).natAbs) q0 (dman di).natAbs) b1 q1 (h1 : Mag W b1 (nl (dman dl).natAbs) q1 (dman dl).natAbs) ht => Lib.hid (same_any W _ _ _ _ _ _ _ _ _ _ _ _ _ _ (dyin_of Ndi.out h0) (dyin_of Ndl.out h1) ht il l4)
  have H14 := fun W (h0 : DyIn W bda sa aa na pa ea da) ht => Lib.hid (dsign_any W _ _ _ _ _ _ _ h0 ht )
  rw [k6] at H14
  have HP := fun W => Lib.hid (place_any W q 80 (by omega) (by omega))
  have hp0 : IntKind.i64.wrap (1 + placeI q 80) = r := by rw [← hr, IntKind.wrap_i64]; omega
  generalize placeI q 80 = pq at HP hp0
  have hz1 : decide (r < ((blen (dman dl).natAbs : Nat) : Int)) = false := by simp; omega
  have hz2 : decide (r < ((blen (dman dh).natAbs : Nat) : Int)) = false := by simp; omega
  have hz3 : decide (r < ((blen (dman dn).natAbs : Nat) : Int)) = false := by simp; omega
  have hx1 : decide (0 < vx) = false := by simp; omega
  have hy1 : decide (0 < vy) = false := by simp; omega
  have hx2 : (vx == 0) = false := by rw [beq_eq_false_iff_ne]; omega
  have hy2 : (vy == 0) = false := by rw [beq_eq_false_iff_ne]; omega
  have hz0 : decide (((blen (dman da).natAbs : Nat) : Int) ≤ r) = false := by simp; omega
  have KK := Lib.hid (And.intro k1 (And.intro k2 (And.intro k3 (And.intro k4 k5))))
  have Hhc := Lib.hid hc
  clear hc
  have Hhsl := Lib.hid hsl
  clear hsl
  clear hsa va Ha hr hr0 hr1 f1 f2 f3 f4 f5 f6 f7 f8 b1 b2 b3 _fa ba s1 s2 s3 s4 s5 s6 k1 k2 k3 k4 k5 k6 l1 l2 l3 l4
  go_enter Tryd.func6, Tryd.ntmps6
  go_wp2_with fail
  have I0 := DyV.made w 27 bda sa (.slice aa na pa) ea
  have B0 : Below w.heap.size w (w.alloc (.cells #[.bool bda, .bool sa, .slice aa na pa, .int .i64 ea] 27)) := (by repeat (with_reducible first | refine Below.setCell ?_ (by simp <;> omega) _ | refine Below.alloc ?_ (by simp <;> omega) _ | refine Below.drew ?_ | refine below_drewN ?_ _ | exact Below.refl _ _))
  generalize (w.alloc (.cells #[.bool bda, .bool sa, .slice aa na pa, .int .i64 ea] 27)) = w0 at I0 B0 ⊢
  generalize hb0 : w.heap.size = b0 at I0 ⊢
  obtain ⟨ac0, ac1, ac2, ac3, ac4, ac5⟩ := I0
  have Va0 := Lib.hid (DyV.mk ac0 ac1 ac2 ac3 ac4 ac5)
  refine (HSa _).out.mono ?_
  rintro e w1 ⟨rfl, hb1⟩
  have Va1 : DyV w1 b0 bda sa (.slice aa na pa) ea := (by refine DyV.below ?_ hb1; (repeat (with_reducible first | refine DyV.drew ?_ | refine DyV.drewN ?_ _ | refine DyV.alloc ?_ _)); exact Va0.out)
  (try clear ac0 ac1 ac2 ac3 ac4)
  obtain ⟨ac0, ac1, ac2, ac3, ac4, ac5⟩ := Va1
  have Va1 := Lib.hid (DyV.mk ac0 ac1 ac2 ac3 ac4 ac5)
  have B1 := below_box (w := w) (by have hszw := (B0).size; repeat (with_reducible first | refine Below.setCell ?_ (by first | omega | (simp <;> omega)) _ | refine Below.alloc ?_ (by first | omega | (simp <;> omega)) _ | refine Below.drew ?_ | refine below_drewN ?_ _ | exact B0)) hb1
  clear hb1
  go_wp2_with fail
  refine (HVa _ (Ga.out.below (by have hszw := (B1).size; repeat (with_reducible first | refine Below.setCell ?_ (by first | omega | (simp <;> omega)) _ | refine Below.alloc ?_ (by first | omega | (simp <;> omega)) _ | refine Below.drew ?_ | refine below_drewN ?_ _ | exact B1))) (hT.below (by have hszw := (B1).size; repeat (with_reducible first | refine Below.setCell ?_ (by first | omega | (simp <;> omega)) _ | refine Below.alloc ?_ (by first | omega | (simp <;> omega)) _ | refine Below.drew ?_ | refine below_drewN ?_ _ | exact B1)))).out.mono ?_
  rintro e w2 ⟨rfl, hb2⟩
  have Va2 : DyV w2 b0 bda sa (.slice aa na pa) ea := (by refine DyV.below ?_ hb2; (repeat (with_reducible first | refine DyV.drew ?_ | refine DyV.drewN ?_ _ | refine DyV.alloc ?_ _)); exact Va1.out)
  (try clear ac0 ac1 ac2 ac3 ac4)
  obtain ⟨ac0, ac1, ac2, ac3, ac4, ac5⟩ := Va2
  have Va2 := Lib.hid (DyV.mk ac0 ac1 ac2 ac3 ac4 ac5)
  have B2 := below_box (w := w) (by have hszw := (B1).size; repeat (with_reducible first | refine Below.setCell ?_ (by first | omega | (simp <;> omega)) _ | refine Below.alloc ?_ (by first | omega | (simp <;> omega)) _ | refine Below.drew ?_ | refine below_drewN ?_ _ | exact B1)) hb2
  clear hb2
  go_wp2_with fail
  refine (HP _).out.mono ?_
  rintro e w' ⟨rfl, rfl⟩
  go_wp2_with fail
  go_cut [5, 6] (fun ptl pth wx => ∃ zl al cl zh ah ch, ptl = .pointer (some ⟨zl, 0, none⟩) ∧ pth = .pointer (some ⟨zh, 0, none⟩) ∧ Below w2.heap.size w2 wx ∧ DyV wx zl (dbad dl) (decide (dman dl < 0)) (.slice al (nl (dman dl).natAbs) cl) (dexp dl) ∧ Mag wx al (nl (dman dl).natAbs) cl (dman dl).natAbs ∧ DyV wx zh (dbad dh) (decide (dman dh < 0)) (.slice ah (nl (dman dh).natAbs) ch) (dexp dh) ∧ Mag wx ah (nl (dman dh).natAbs) ch (dman dh).natAbs)
  case first =>
    have hBz2 : Below w2.heap.size w2 w2 := Below.refl _ _
    go_region_held3 (fun w' => w'.cell? ⟨b0, 0, none⟩ = some (.bool bda) ∧ w'.cell? ⟨b0, 1, none⟩ = some (.bool sa) ∧ w'.cell? ⟨b0, 2, none⟩ = some ((.slice aa na pa)) ∧ w'.cell? ⟨b0, 3, none⟩ = some (.int .i64 ea)) (first | (go_keep; done) | (go_simp; done))
      (first
        | (go_at_call 28; have xx := B3; refine (H2 _ (Ga.out.1.below (by have hszw := (B3).size; repeat (with_reducible first | refine Below.setCell ?_ (by first | omega | (simp <;> omega)) _ | refine Below.alloc ?_ (by first | omega | (simp <;> omega)) _ | refine Below.drew ?_ | refine below_drewN ?_ _ | exact B3))) (hT.below (by have hszw := (B3).size; repeat (with_reducible first | refine Below.setCell ?_ (by first | omega | (simp <;> omega)) _ | refine Below.alloc ?_ (by first | omega | (simp <;> omega)) _ | refine Below.drew ?_ | refine below_drewN ?_ _ | exact B3)))).out.mono ?_; rintro e w4 ⟨ah, ch, rfl, Mh4, hb4, hf4⟩; have hs4 := hb4.size; (try simp at hs4 hf4); have o4 := Mh4.old; have Va4 : DyV w4 b0 bda sa (.slice aa na pa) ea := (by refine DyV.below ?_ hb4; (repeat (with_reducible first | refine DyV.drew ?_ | refine DyV.drewN ?_ _ | refine DyV.alloc ?_ _)); exact Va3.out); (try clear ac0 ac1 ac2 ac3 ac4); obtain ⟨ac0, ac1, ac2, ac3, ac4, ac5⟩ := Va4; have Va4 := Lib.hid (DyV.mk ac0 ac1 ac2 ac3 ac4 ac5); have Ml4 : Mag w4 al (nl (dman dl).natAbs) cl (dman dl).natAbs := Mag.below (by repeat (with_reducible first | refine Mag.set ?_ (fun h => by have := Ml3 h; omega) _ _ | refine Mag.drew ?_ | refine Mag.alloc ?_ _ | refine Mag.drewN ?_ _ | exact Ml3)) hb4; have B4 := below_box (w := w) (by have hszw := (B3).size; repeat (with_reducible first | refine Below.setCell ?_ (by first | omega | (simp <;> omega)) _ | refine Below.alloc ?_ (by first | omega | (simp <;> omega)) _ | refine Below.drew ?_ | refine below_drewN ?_ _ | exact B3)) hb4; have hBz4 : Below w2.heap.size w2 w4 := Below.trans (by have hszw := (hBz3).size; repeat (with_reducible first | refine Below.setCell ?_ (by first | omega | (simp <;> omega)) _ | refine Below.alloc ?_ (by first | omega | (simp <;> omega)) _ | refine Below.drew ?_ | refine below_drewN ?_ _ | exact hBz3)) (hb4.mono (by first | exact Nat.le_refl _ | (simp; done) | omega | (simp <;> omega))); (try (have F0x0 : DyV w4 (w2.heap.size) false false (.slice none 0 0) 0 := (by first | (refine DyV.below ?_ hb4; (repeat (first | exact F0x0.out | (refine DyV.made' _ _ _ _ _ _ ?_; first | rfl | (simp; done)) | with_reducible refine DyV.drew ?_ | with_reducible refine DyV.alloc ?_ _)); done) | fail); obtain ⟨F0x0c0, F0x0c1, F0x0c2, F0x0c3, F0x0c4, F0x0c5⟩ := F0x0; have F0x0 := Lib.hid (DyV.mk F0x0c0 F0x0c1 F0x0c2 F0x0c3 F0x0c4 F0x0c5))); (try (have F0x1 : DyV w4 (w2.heap.size + 1) false false (.slice none 0 0) 0 := (by first | (refine DyV.below ?_ hb4; (repeat (first | exact F0x1.out | (refine DyV.made' _ _ _ _ _ _ ?_; first | rfl | (simp; done)) | with_reducible refine DyV.drew ?_ | with_reducible refine DyV.alloc ?_ _)); done) | fail); obtain ⟨F0x1c0, F0x1c1, F0x1c2, F0x1c3, F0x1c4, F0x1c5⟩ := F0x1; have F0x1 := Lib.hid (DyV.mk F0x1c0 F0x1c1 F0x1c2 F0x1c3 F0x1c4 F0x1c5))); (try (have F1x0 : DyV w4 (w3.heap.size) false false (.slice none 0 0) 0 := (by first | (refine DyV.below ?_ hb4; (repeat (first | exact F1x0.out | (refine DyV.made' _ _ _ _ _ _ ?_; first | rfl | (simp; done)) | with_reducible refine DyV.drew ?_ | with_reducible refine DyV.alloc ?_ _)); done) | fail); obtain ⟨F1x0c0, F1x0c1, F1x0c2, F1x0c3, F1x0c4, F1x0c5⟩ := F1x0; have F1x0 := Lib.hid (DyV.mk F1x0c0 F1x0c1 F1x0c2 F1x0c3 F1x0c4 F1x0c5))); (try (have F1x1 : DyV w4 (w3.heap.size + 1) false false (.slice none 0 0) 0 := (by first | (refine DyV.below ?_ hb4; (repeat (first | exact F1x1.out | (refine DyV.made' _ _ _ _ _ _ ?_; first | rfl | (simp; done)) | with_reducible refine DyV.drew ?_ | with_reducible refine DyV.alloc ?_ _)); done) | fail); obtain ⟨F1x1c0, F1x1c1, F1x1c2, F1x1c3, F1x1c4, F1x1c5⟩ := F1x1; have F1x1 := Lib.hid (DyV.mk F1x1c0 F1x1c1 F1x1c2 F1x1c3 F1x1c4 F1x1c5))))
        | (go_at_call 28; refine (H1 _ (Ga.out.1.below (by have hszw := (B2).size; repeat (with_reducible first | refine Below.setCell ?_ (by first | omega | (simp <;> omega)) _ | refine Below.alloc ?_ (by first | omega | (simp <;> omega)) _ | refine Below.drew ?_ | refine below_drewN ?_ _ | exact B2))) (hT.below (by have hszw := (B2).size; repeat (with_reducible first | refine Below.setCell ?_ (by first | omega | (simp <;> omega)) _ | refine Below.alloc ?_ (by first | omega | (simp <;> omega)) _ | refine Below.drew ?_ | refine below_drewN ?_ _ | exact B2)))).out.mono ?_; rintro e w3 ⟨al, cl, rfl, Ml3, hb3, hf3⟩; have hs3 := hb3.size; (try simp at hs3 hf3); have o3 := Ml3.old; have Va3 : DyV w3 b0 bda sa (.slice aa na pa) ea := (by refine DyV.below ?_ hb3; (repeat (with_reducible first | refine DyV.drew ?_ | refine DyV.drewN ?_ _ | refine DyV.alloc ?_ _)); exact Va2.out); (try clear ac0 ac1 ac2 ac3 ac4); obtain ⟨ac0, ac1, ac2, ac3, ac4, ac5⟩ := Va3; have Va3 := Lib.hid (DyV.mk ac0 ac1 ac2 ac3 ac4 ac5); have B3 := below_box (w := w) (by have hszw := (B2).size; repeat (with_reducible first | refine Below.setCell ?_ (by first | omega | (simp <;> omega)) _ | refine Below.alloc ?_ (by first | omega | (simp <;> omega)) _ | refine Below.drew ?_ | refine below_drewN ?_ _ | exact B2)) hb3; have hBz3 : Below w2.heap.size w2 w3 := Below.trans (by have hszw := (hBz2).size; repeat (with_reducible first | refine Below.setCell ?_ (by first | omega | (simp <;> omega)) _ | refine Below.alloc ?_ (by first | omega | (simp <;> omega)) _ | refine Below.drew ?_ | refine below_drewN ?_ _ | exact hBz2)) (hb3.mono (by first | exact Nat.le_refl _ | (simp; done) | omega | (simp <;> omega))); (try (have F0x0 : DyV w3 (w2.heap.size) false false (.slice none 0 0) 0 := (by first | (refine DyV.below ?_ hb3; (repeat (first | exact F0x0.out | (refine DyV.made' _ _ _ _ _ _ ?_; first | rfl | (simp; done)) | with_reducible refine DyV.drew ?_ | with_reducible refine DyV.alloc ?_ _)); done) | fail); obtain ⟨F0x0c0, F0x0c1, F0x0c2, F0x0c3, F0x0c4, F0x0c5⟩ := F0x0; have F0x0 := Lib.hid (DyV.mk F0x0c0 F0x0c1 F0x0c2 F0x0c3 F0x0c4 F0x0c5))); (try (have F0x1 : DyV w3 (w2.heap.size + 1) false false (.slice none 0 0) 0 := (by first | (refine DyV.below ?_ hb3; (repeat (first | exact F0x1.out | (refine DyV.made' _ _ _ _ _ _ ?_; first | rfl | (simp; done)) | with_reducible refine DyV.drew ?_ | with_reducible refine DyV.alloc ?_ _)); done) | fail); obtain ⟨F0x1c0, F0x1c1, F0x1c2, F0x1c3, F0x1c4, F0x1c5⟩ := F0x1; have F0x1 := Lib.hid (DyV.mk F0x1c0 F0x1c1 F0x1c2 F0x1c3 F0x1c4 F0x1c5))))
        | fail)
    all_goals as_aux_lemma => (
      have ne0x1 : ¬ w2.heap.size = w2.heap.size + 1 := by omega
      have me0x1 : ¬ w2.heap.size + 1 = w2.heap.size := by omega
      (try have ne0x2 : ¬ w2.heap.size = w3.heap.size := by omega)
      (try have me0x2 : ¬ w3.heap.size = w2.heap.size := by omega)
      (try have ne0x3 : ¬ w2.heap.size = w3.heap.size + 1 := by omega)
      (try have me0x3 : ¬ w3.heap.size + 1 = w2.heap.size := by omega)
      (try have ne0x4 : ¬ w2.heap.size = w4.heap.size := by omega)
      (try have me0x4 : ¬ w4.heap.size = w2.heap.size := by omega)
      (try have ne0x5 : ¬ w2.heap.size = w4.heap.size + 1 := by omega)
      (try have me0x5 : ¬ w4.heap.size + 1 = w2.heap.size := by omega)
      (try have ne1x2 : ¬ w2.heap.size + 1 = w3.heap.size := by omega)
      (try have me1x2 : ¬ w3.heap.size = w2.heap.size + 1 := by omega)
      (try have ne1x3 : ¬ w2.heap.size + 1 = w3.heap.size + 1 := by omega)
      (try have me1x3 : ¬ w3.heap.size + 1 = w2.heap.size + 1 := by omega)
      (try have ne1x4 : ¬ w2.heap.size + 1 = w4.heap.size := by omega)
      (try have me1x4 : ¬ w4.heap.size = w2.heap.size + 1 := by omega)
      (try have ne1x5 : ¬ w2.heap.size + 1 = w4.heap.size + 1 := by omega)
      (try have me1x5 : ¬ w4.heap.size + 1 = w2.heap.size + 1 := by omega)
      have ne2x3 : ¬ w3.heap.size = w3.heap.size + 1 := by omega
      have me2x3 : ¬ w3.heap.size + 1 = w3.heap.size := by omega
      (try have ne2x4 : ¬ w3.heap.size = w4.heap.size := by omega)
      (try have me2x4 : ¬ w4.heap.size = w3.heap.size := by omega)
      (try have ne2x5 : ¬ w3.heap.size = w4.heap.size + 1 := by omega)
      (try have me2x5 : ¬ w4.heap.size + 1 = w3.heap.size := by omega)
      (try have ne3x4 : ¬ w3.heap.size + 1 = w4.heap.size := by omega)
      (try have me3x4 : ¬ w4.heap.size = w3.heap.size + 1 := by omega)
      (try have ne3x5 : ¬ w3.heap.size + 1 = w4.heap.size + 1 := by omega)
      (try have me3x5 : ¬ w4.heap.size + 1 = w3.heap.size + 1 := by omega)
      have ne4x5 : ¬ w4.heap.size = w4.heap.size + 1 := by omega
      have me4x5 : ¬ w4.heap.size + 1 = w4.heap.size := by omega
      go_wp2_with fail
      go_meet
      refine ⟨_, al, cl, _, ah, ch, rfl, rfl, ?_, ⟨?_, ?_, ?_, ?_, ?_, ?_⟩, ?_, ⟨?_, ?_, ?_, ?_, ?_, ?_⟩, ?_⟩
      · exact (by have hszw := (hBz4).size; repeat (with_reducible first | refine Below.setCell ?_ (by first | omega | (simp <;> omega)) _ | refine Below.alloc ?_ (by first | omega | (simp <;> omega)) _ | refine Below.drew ?_ | refine below_drewN ?_ _ | exact hBz4))
      · go_simp
      · go_simp
      · go_simp
      · go_simp
      · intro i; go_simp
      · first | (simp; done) | omega | (simp <;> omega)
      · repeat (with_reducible first | refine Mag.set ?_ (fun h => by have := hf3 h; have := o3 h; first | omega | (simp; omega)) _ _ | refine Mag.drew ?_ | refine Mag.alloc ?_ _ | exact Ml4)
      · go_simp
      · go_simp
      · go_simp
      · go_simp
      · intro i; go_simp
      · first | (simp; done) | omega | (simp <;> omega)
      · repeat (with_reducible first | refine Mag.set ?_ (fun h => by have := hf4 h; have := o4 h; first | omega | (simp; omega)) _ _ | refine Mag.drew ?_ | refine Mag.alloc ?_ _ | exact Mh4))
  case rest =>
  obtain ⟨w3, hww⟩ : ∃ w3, w3 = wc := ⟨_, rfl⟩
  subst hww
  obtain ⟨zl, al, cl, zh, ah, ch, rfl, rfl, hbz, Vl3, Ml3, Vh3, Mh3⟩ := hcut
  have Va3 : DyV w3 b0 bda sa (.slice aa na pa) ea := DyV.below Va2.out hbz
  (try clear ac0 ac1 ac2 ac3 ac4)
  obtain ⟨ac0, ac1, ac2, ac3, ac4, ac5⟩ := Va3
  have Va3 := Lib.hid (DyV.mk ac0 ac1 ac2 ac3 ac4 ac5)
  (try clear lc0 lc1 lc2 lc3 lc4)
  obtain ⟨lc0, lc1, lc2, lc3, lc4, lc5⟩ := Vl3
  have Vl3 := Lib.hid (DyV.mk lc0 lc1 lc2 lc3 lc4 lc5)
  (try clear hc0 hc1 hc2 hc3 hc4)
  obtain ⟨hc0, hc1, hc2, hc3, hc4, hc5⟩ := Vh3
  have Vh3 := Lib.hid (DyV.mk hc0 hc1 hc2 hc3 hc4 hc5)
  have B3 := below_box (w := w) B2 hbz
  clear hbz
  go_wp2_with fail
  go_cut [7, 8] (fun ptn pti wx => ∃ zn an cn zi ai ci, ptn = .pointer (some ⟨zn, 0, none⟩) ∧ pti = .pointer (some ⟨zi, 0, none⟩) ∧ Below w3.heap.size w3 wx ∧ DyV wx zn (dbad dn) (decide (dman dn < 0)) (.slice an (nl (dman dn).natAbs) cn) (dexp dn) ∧ Mag wx an (nl (dman dn).natAbs) cn (dman dn).natAbs ∧ DyV wx zi (dbad di) (decide (dman di < 0)) (.slice ai (nl (dman di).natAbs) ci) (dexp di) ∧ Mag wx ai (nl (dman di).natAbs) ci (dman di).natAbs)
  case first =>
    have hBz3 : Below w3.heap.size w3 w3 := Below.refl _ _
    go_region_held3 (fun w' => w'.cell? ⟨b0, 0, none⟩ = some (.bool bda) ∧ w'.cell? ⟨b0, 1, none⟩ = some (.bool sa) ∧ w'.cell? ⟨b0, 2, none⟩ = some ((.slice aa na pa)) ∧ w'.cell? ⟨b0, 3, none⟩ = some (.int .i64 ea)) (first | (go_keep; done) | (go_simp; done))
      (first
        | (go_at_call 28; have xx := B4; refine (H4 _ (Ga.out.1.below (by have hszw := (B4).size; repeat (with_reducible first | refine Below.setCell ?_ (by first | omega | (simp <;> omega)) _ | refine Below.alloc ?_ (by first | omega | (simp <;> omega)) _ | refine Below.drew ?_ | refine below_drewN ?_ _ | exact B4))) (hT.below (by have hszw := (B4).size; repeat (with_reducible first | refine Below.setCell ?_ (by first | omega | (simp <;> omega)) _ | refine Below.alloc ?_ (by first | omega | (simp <;> omega)) _ | refine Below.drew ?_ | refine below_drewN ?_ _ | exact B4)))).out.mono ?_; rintro e w5 ⟨ai, ci, rfl, Mi5, hb5, hf5⟩; have hs5 := hb5.size; (try simp at hs5 hf5); have o5 := Mi5.old; have Va5 : DyV w5 b0 bda sa (.slice aa na pa) ea := (by refine DyV.below ?_ hb5; (repeat (with_reducible first | refine DyV.drew ?_ | refine DyV.drewN ?_ _ | refine DyV.alloc ?_ _)); exact Va4.out); (try clear ac0 ac1 ac2 ac3 ac4); obtain ⟨ac0, ac1, ac2, ac3, ac4, ac5⟩ := Va5; have Va5 := Lib.hid (DyV.mk ac0 ac1 ac2 ac3 ac4 ac5); have Vl5 : DyV w5 zl (dbad dl) (decide (dman dl < 0)) (.slice al (nl (dman dl).natAbs) cl) (dexp dl) := (by refine DyV.below ?_ hb5; (repeat (with_reducible first | refine DyV.drew ?_ | refine DyV.drewN ?_ _ | refine DyV.alloc ?_ _)); exact Vl4.out); (try clear lc0 lc1 lc2 lc3 lc4); obtain ⟨lc0, lc1, lc2, lc3, lc4, lc5⟩ := Vl5; have Vl5 := Lib.hid (DyV.mk lc0 lc1 lc2 lc3 lc4 lc5); have Vh5 : DyV w5 zh (dbad dh) (decide (dman dh < 0)) (.slice ah (nl (dman dh).natAbs) ch) (dexp dh) := (by refine DyV.below ?_ hb5; (repeat (with_reducible first | refine DyV.drew ?_ | refine DyV.drewN ?_ _ | refine DyV.alloc ?_ _)); exact Vh4.out); (try clear hc0 hc1 hc2 hc3 hc4); obtain ⟨hc0, hc1, hc2, hc3, hc4, hc5⟩ := Vh5; have Vh5 := Lib.hid (DyV.mk hc0 hc1 hc2 hc3 hc4 hc5); have Mn5 : Mag w5 an (nl (dman dn).natAbs) cn (dman dn).natAbs := Mag.below (by repeat (with_reducible first | refine Mag.set ?_ (fun h => by have := Mn4 h; omega) _ _ | refine Mag.drew ?_ | refine Mag.alloc ?_ _ | refine Mag.drewN ?_ _ | exact Mn4)) hb5; have Ml5 : Mag w5 al (nl (dman dl).natAbs) cl (dman dl).natAbs := Mag.below (by repeat (with_reducible first | refine Mag.set ?_ (fun h => by have := Ml4 h; omega) _ _ | refine Mag.drew ?_ | refine Mag.alloc ?_ _ | refine Mag.drewN ?_ _ | exact Ml4)) hb5; have Mh5 : Mag w5 ah (nl (dman dh).natAbs) ch (dman dh).natAbs := Mag.below (by repeat (with_reducible first | refine Mag.set ?_ (fun h => by have := Mh4 h; omega) _ _ | refine Mag.drew ?_ | refine Mag.alloc ?_ _ | refine Mag.drewN ?_ _ | exact Mh4)) hb5; have B5 := below_box (w := w) (by have hszw := (B4).size; repeat (with_reducible first | refine Below.setCell ?_ (by first | omega | (simp <;> omega)) _ | refine Below.alloc ?_ (by first | omega | (simp <;> omega)) _ | refine Below.drew ?_ | refine below_drewN ?_ _ | exact B4)) hb5; have hBz5 : Below w3.heap.size w3 w5 := Below.trans (by have hszw := (hBz4).size; repeat (with_reducible first | refine Below.setCell ?_ (by first | omega | (simp <;> omega)) _ | refine Below.alloc ?_ (by first | omega | (simp <;> omega)) _ | refine Below.drew ?_ | refine below_drewN ?_ _ | exact hBz4)) (hb5.mono (by first | exact Nat.le_refl _ | (simp; done) | omega | (simp <;> omega))); (try (have F0x0 : DyV w5 (w3.heap.size) false false (.slice none 0 0) 0 := (by first | (refine DyV.below ?_ hb5; (repeat (first | exact F0x0.out | (refine DyV.made' _ _ _ _ _ _ ?_; first | rfl | (simp; done)) | with_reducible refine DyV.drew ?_ | with_reducible refine DyV.alloc ?_ _)); done) | fail); obtain ⟨F0x0c0, F0x0c1, F0x0c2, F0x0c3, F0x0c4, F0x0c5⟩ := F0x0; have F0x0 := Lib.hid (DyV.mk F0x0c0 F0x0c1 F0x0c2 F0x0c3 F0x0c4 F0x0c5))); (try (have F0x1 : DyV w5 (w3.heap.size + 1) false false (.slice none 0 0) 0 := (by first | (refine DyV.below ?_ hb5; (repeat (first | exact F0x1.out | (refine DyV.made' _ _ _ _ _ _ ?_; first | rfl | (simp; done)) | with_reducible refine DyV.drew ?_ | with_reducible refine DyV.alloc ?_ _)); done) | fail); obtain ⟨F0x1c0, F0x1c1, F0x1c2, F0x1c3, F0x1c4, F0x1c5⟩ := F0x1; have F0x1 := Lib.hid (DyV.mk F0x1c0 F0x1c1 F0x1c2 F0x1c3 F0x1c4 F0x1c5))); (try (have F1x0 : DyV w5 (w4.heap.size) false false (.slice none 0 0) 0 := (by first | (refine DyV.below ?_ hb5; (repeat (first | exact F1x0.out | (refine DyV.made' _ _ _ _ _ _ ?_; first | rfl | (simp; done)) | with_reducible refine DyV.drew ?_ | with_reducible refine DyV.alloc ?_ _)); done) | fail); obtain ⟨F1x0c0, F1x0c1, F1x0c2, F1x0c3, F1x0c4, F1x0c5⟩ := F1x0; have F1x0 := Lib.hid (DyV.mk F1x0c0 F1x0c1 F1x0c2 F1x0c3 F1x0c4 F1x0c5))); (try (have F1x1 : DyV w5 (w4.heap.size + 1) false false (.slice none 0 0) 0 := (by first | (refine DyV.below ?_ hb5; (repeat (first | exact F1x1.out | (refine DyV.made' _ _ _ _ _ _ ?_; first | rfl | (simp; done)) | with_reducible refine DyV.drew ?_ | with_reducible refine DyV.alloc ?_ _)); done) | fail); obtain ⟨F1x1c0, F1x1c1, F1x1c2, F1x1c3, F1x1c4, F1x1c5⟩ := F1x1; have F1x1 := Lib.hid (DyV.mk F1x1c0 F1x1c1 F1x1c2 F1x1c3 F1x1c4 F1x1c5))))
        | (go_at_call 28; refine (H3 _ (Ga.out.1.below (by have hszw := (B3).size; repeat (with_reducible first | refine Below.setCell ?_ (by first | omega | (simp <;> omega)) _ | refine Below.alloc ?_ (by first | omega | (simp <;> omega)) _ | refine Below.drew ?_ | refine below_drewN ?_ _ | exact B3))) (hT.below (by have hszw := (B3).size; repeat (with_reducible first | refine Below.setCell ?_ (by first | omega | (simp <;> omega)) _ | refine Below.alloc ?_ (by first | omega | (simp <;> omega)) _ | refine Below.drew ?_ | refine below_drewN ?_ _ | exact B3)))).out.mono ?_; rintro e w4 ⟨an, cn, rfl, Mn4, hb4, hf4⟩; have hs4 := hb4.size; (try simp at hs4 hf4); have o4 := Mn4.old; have Va4 : DyV w4 b0 bda sa (.slice aa na pa) ea := (by refine DyV.below ?_ hb4; (repeat (with_reducible first | refine DyV.drew ?_ | refine DyV.drewN ?_ _ | refine DyV.alloc ?_ _)); exact Va3.out); (try clear ac0 ac1 ac2 ac3 ac4); obtain ⟨ac0, ac1, ac2, ac3, ac4, ac5⟩ := Va4; have Va4 := Lib.hid (DyV.mk ac0 ac1 ac2 ac3 ac4 ac5); have Vl4 : DyV w4 zl (dbad dl) (decide (dman dl < 0)) (.slice al (nl (dman dl).natAbs) cl) (dexp dl) := (by refine DyV.below ?_ hb4; (repeat (with_reducible first | refine DyV.drew ?_ | refine DyV.drewN ?_ _ | refine DyV.alloc ?_ _)); exact Vl3.out); (try clear lc0 lc1 lc2 lc3 lc4); obtain ⟨lc0, lc1, lc2, lc3, lc4, lc5⟩ := Vl4; have Vl4 := Lib.hid (DyV.mk lc0 lc1 lc2 lc3 lc4 lc5); have Vh4 : DyV w4 zh (dbad dh) (decide (dman dh < 0)) (.slice ah (nl (dman dh).natAbs) ch) (dexp dh) := (by refine DyV.below ?_ hb4; (repeat (with_reducible first | refine DyV.drew ?_ | refine DyV.drewN ?_ _ | refine DyV.alloc ?_ _)); exact Vh3.out); (try clear hc0 hc1 hc2 hc3 hc4); obtain ⟨hc0, hc1, hc2, hc3, hc4, hc5⟩ := Vh4; have Vh4 := Lib.hid (DyV.mk hc0 hc1 hc2 hc3 hc4 hc5); have Ml4 : Mag w4 al (nl (dman dl).natAbs) cl (dman dl).natAbs := Mag.below (by repeat (with_reducible first | refine Mag.set ?_ (fun h => by have := Ml3 h; omega) _ _ | refine Mag.drew ?_ | refine Mag.alloc ?_ _ | refine Mag.drewN ?_ _ | exact Ml3)) hb4; have Mh4 : Mag w4 ah (nl (dman dh).natAbs) ch (dman dh).natAbs := Mag.below (by repeat (with_reducible first | refine Mag.set ?_ (fun h => by have := Mh3 h; omega) _ _ | refine Mag.drew ?_ | refine Mag.alloc ?_ _ | refine Mag.drewN ?_ _ | exact Mh3)) hb4; have B4 := below_box (w := w) (by have hszw := (B3).size; repeat (with_reducible first | refine Below.setCell ?_ (by first | omega | (simp <;> omega)) _ | refine Below.alloc ?_ (by first | omega | (simp <;> omega)) _ | refine Below.drew ?_ | refine below_drewN ?_ _ | exact B3)) hb4; have hBz4 : Below w3.heap.size w3 w4 := Below.trans (by have hszw := (hBz3).size; repeat (with_reducible first | refine Below.setCell ?_ (by first | omega | (simp <;> omega)) _ | refine Below.alloc ?_ (by first | omega | (simp <;> omega)) _ | refine Below.drew ?_ | refine below_drewN ?_ _ | exact hBz3)) (hb4.mono (by first | exact Nat.le_refl _ | (simp; done) | omega | (simp <;> omega))); (try (have F0x0 : DyV w4 (w3.heap.size) false false (.slice none 0 0) 0 := (by first | (refine DyV.below ?_ hb4; (repeat (first | exact F0x0.out | (refine DyV.made' _ _ _ _ _ _ ?_; first | rfl | (simp; done)) | with_reducible refine DyV.drew ?_ | with_reducible refine DyV.alloc ?_ _)); done) | fail); obtain ⟨F0x0c0, F0x0c1, F0x0c2, F0x0c3, F0x0c4, F0x0c5⟩ := F0x0; have F0x0 := Lib.hid (DyV.mk F0x0c0 F0x0c1 F0x0c2 F0x0c3 F0x0c4 F0x0c5))); (try (have F0x1 : DyV w4 (w3.heap.size + 1) false false (.slice none 0 0) 0 := (by first | (refine DyV.below ?_ hb4; (repeat (first | exact F0x1.out | (refine DyV.made' _ _ _ _ _ _ ?_; first | rfl | (simp; done)) | with_reducible refine DyV.drew ?_ | with_reducible refine DyV.alloc ?_ _)); done) | fail); obtain ⟨F0x1c0, F0x1c1, F0x1c2, F0x1c3, F0x1c4, F0x1c5⟩ := F0x1; have F0x1 := Lib.hid (DyV.mk F0x1c0 F0x1c1 F0x1c2 F0x1c3 F0x1c4 F0x1c5))))
        | fail)
    all_goals as_aux_lemma => (
      have ne0x1 : ¬ w3.heap.size = w3.heap.size + 1 := by omega
      have me0x1 : ¬ w3.heap.size + 1 = w3.heap.size := by omega
      (try have ne0x2 : ¬ w3.heap.size = w4.heap.size := by omega)
      (try have me0x2 : ¬ w4.heap.size = w3.heap.size := by omega)
      (try have ne0x3 : ¬ w3.heap.size = w4.heap.size + 1 := by omega)
      (try have me0x3 : ¬ w4.heap.size + 1 = w3.heap.size := by omega)
      (try have ne0x4 : ¬ w3.heap.size = w5.heap.size := by omega)
      (try have me0x4 : ¬ w5.heap.size = w3.heap.size := by omega)
      (try have ne0x5 : ¬ w3.heap.size = w5.heap.size + 1 := by omega)
      (try have me0x5 : ¬ w5.heap.size + 1 = w3.heap.size := by omega)
      (try have ne1x2 : ¬ w3.heap.size + 1 = w4.heap.size := by omega)
      (try have me1x2 : ¬ w4.heap.size = w3.heap.size + 1 := by omega)
      (try have ne1x3 : ¬ w3.heap.size + 1 = w4.heap.size + 1 := by omega)
      (try have me1x3 : ¬ w4.heap.size + 1 = w3.heap.size + 1 := by omega)
      (try have ne1x4 : ¬ w3.heap.size + 1 = w5.heap.size := by omega)
      (try have me1x4 : ¬ w5.heap.size = w3.heap.size + 1 := by omega)
      (try have ne1x5 : ¬ w3.heap.size + 1 = w5.heap.size + 1 := by omega)
      (try have me1x5 : ¬ w5.heap.size + 1 = w3.heap.size + 1 := by omega)
      have ne2x3 : ¬ w4.heap.size = w4.heap.size + 1 := by omega
      have me2x3 : ¬ w4.heap.size + 1 = w4.heap.size := by omega
      (try have ne2x4 : ¬ w4.heap.size = w5.heap.size := by omega)
      (try have me2x4 : ¬ w5.heap.size = w4.heap.size := by omega)
      (try have ne2x5 : ¬ w4.heap.size = w5.heap.size + 1 := by omega)
      (try have me2x5 : ¬ w5.heap.size + 1 = w4.heap.size := by omega)
      (try have ne3x4 : ¬ w4.heap.size + 1 = w5.heap.size := by omega)
      (try have me3x4 : ¬ w5.heap.size = w4.heap.size + 1 := by omega)
      (try have ne3x5 : ¬ w4.heap.size + 1 = w5.heap.size + 1 := by omega)
      (try have me3x5 : ¬ w5.heap.size + 1 = w4.heap.size + 1 := by omega)
      have ne4x5 : ¬ w5.heap.size = w5.heap.size + 1 := by omega
      have me4x5 : ¬ w5.heap.size + 1 = w5.heap.size := by omega
      go_wp2_with fail
      go_meet
      refine ⟨_, an, cn, _, ai, ci, rfl, rfl, ?_, ⟨?_, ?_, ?_, ?_, ?_, ?_⟩, ?_, ⟨?_, ?_, ?_, ?_, ?_, ?_⟩, ?_⟩
      · exact (by have hszw := (hBz5).size; repeat (with_reducible first | refine Below.setCell ?_ (by first | omega | (simp <;> omega)) _ | refine Below.alloc ?_ (by first | omega | (simp <;> omega)) _ | refine Below.drew ?_ | refine below_drewN ?_ _ | exact hBz5))
      · go_simp
      · go_simp
      · go_simp
      · go_simp
      · intro i; go_simp
      · first | (simp; done) | omega | (simp <;> omega)
      · repeat (with_reducible first | refine Mag.set ?_ (fun h => by have := hf4 h; have := o4 h; first | omega | (simp; omega)) _ _ | refine Mag.drew ?_ | refine Mag.alloc ?_ _ | exact Mn5)
      · go_simp
      · go_simp
      · go_simp
      · go_simp
      · intro i; go_simp
      · first | (simp; done) | omega | (simp <;> omega)
      · repeat (with_reducible first | refine Mag.set ?_ (fun h => by have := hf5 h; have := o5 h; first | omega | (simp; omega)) _ _ | refine Mag.drew ?_ | refine Mag.alloc ?_ _ | exact Mi5))
  case rest =>
  obtain ⟨w4, hww⟩ : ∃ w4, w4 = wc := ⟨_, rfl⟩
  subst hww
  obtain ⟨zn, an, cn, zi, ai, ci, rfl, rfl, hbz, Vn4, Mn4, Vi4, Mi4⟩ := hcut
  have Va4 : DyV w4 b0 bda sa (.slice aa na pa) ea := DyV.below Va3.out hbz
  (try clear ac0 ac1 ac2 ac3 ac4)
  obtain ⟨ac0, ac1, ac2, ac3, ac4, ac5⟩ := Va4
  have Va4 := Lib.hid (DyV.mk ac0 ac1 ac2 ac3 ac4 ac5)
  have Vl4 : DyV w4 zl (dbad dl) (decide (dman dl < 0)) (.slice al (nl (dman dl).natAbs) cl) (dexp dl) := DyV.below Vl3.out hbz
  (try clear lc0 lc1 lc2 lc3 lc4)
  obtain ⟨lc0, lc1, lc2, lc3, lc4, lc5⟩ := Vl4
  have Vl4 := Lib.hid (DyV.mk lc0 lc1 lc2 lc3 lc4 lc5)
  have Vh4 : DyV w4 zh (dbad dh) (decide (dman dh < 0)) (.slice ah (nl (dman dh).natAbs) ch) (dexp dh) := DyV.below Vh3.out hbz
  (try clear hc0 hc1 hc2 hc3 hc4)
  obtain ⟨hc0, hc1, hc2, hc3, hc4, hc5⟩ := Vh4
  have Vh4 := Lib.hid (DyV.mk hc0 hc1 hc2 hc3 hc4 hc5)
  (try clear nc0 nc1 nc2 nc3 nc4)
  obtain ⟨nc0, nc1, nc2, nc3, nc4, nc5⟩ := Vn4
  have Vn4 := Lib.hid (DyV.mk nc0 nc1 nc2 nc3 nc4 nc5)
  (try clear ic0 ic1 ic2 ic3 ic4)
  obtain ⟨ic0, ic1, ic2, ic3, ic4, ic5⟩ := Vi4
  have Vi4 := Lib.hid (DyV.mk ic0 ic1 ic2 ic3 ic4 ic5)
  have Ml4 : Mag w4 al (nl (dman dl).natAbs) cl (dman dl).natAbs := Ml3.below hbz
  have Mh4 : Mag w4 ah (nl (dman dh).natAbs) ch (dman dh).natAbs := Mh3.below hbz
  have B4 := below_box (w := w) B3 hbz
  clear hbz
  go_wp2_with fail
  refine (H5 _ al cl (by repeat (with_reducible first | refine Mag.set ?_ (fun h => by have := Ml4 h; omega) _ _ | refine Mag.drew ?_ | refine Mag.alloc ?_ _ | refine Mag.drewN ?_ _ | exact Ml4)) (Ga.out.1.below (by have hszw := (B4).size; repeat (with_reducible first | refine Below.setCell ?_ (by first | omega | (simp <;> omega)) _ | refine Below.alloc ?_ (by first | omega | (simp <;> omega)) _ | refine Below.drew ?_ | refine below_drewN ?_ _ | exact B4))) (hT.below (by have hszw := (B4).size; repeat (with_reducible first | refine Below.setCell ?_ (by first | omega | (simp <;> omega)) _ | refine Below.alloc ?_ (by first | omega | (simp <;> omega)) _ | refine Below.drew ?_ | refine below_drewN ?_ _ | exact B4)))).out.mono ?_
  rintro e w5 ⟨rfl, hb5⟩
  have Va5 : DyV w5 b0 bda sa (.slice aa na pa) ea := (by refine DyV.below ?_ hb5; (repeat (with_reducible first | refine DyV.drew ?_ | refine DyV.drewN ?_ _ | refine DyV.alloc ?_ _)); exact Va4.out)
  (try clear ac0 ac1 ac2 ac3 ac4)
  obtain ⟨ac0, ac1, ac2, ac3, ac4, ac5⟩ := Va5
  have Va5 := Lib.hid (DyV.mk ac0 ac1 ac2 ac3 ac4 ac5)
  have Vl5 : DyV w5 zl (dbad dl) (decide (dman dl < 0)) (.slice al (nl (dman dl).natAbs) cl) (dexp dl) := (by refine DyV.below ?_ hb5; (repeat (with_reducible first | refine DyV.drew ?_ | refine DyV.drewN ?_ _ | refine DyV.alloc ?_ _)); exact Vl4.out)
  (try clear lc0 lc1 lc2 lc3 lc4)
  obtain ⟨lc0, lc1, lc2, lc3, lc4, lc5⟩ := Vl5
  have Vl5 := Lib.hid (DyV.mk lc0 lc1 lc2 lc3 lc4 lc5)
  have Vh5 : DyV w5 zh (dbad dh) (decide (dman dh < 0)) (.slice ah (nl (dman dh).natAbs) ch) (dexp dh) := (by refine DyV.below ?_ hb5; (repeat (with_reducible first | refine DyV.drew ?_ | refine DyV.drewN ?_ _ | refine DyV.alloc ?_ _)); exact Vh4.out)
  (try clear hc0 hc1 hc2 hc3 hc4)
  obtain ⟨hc0, hc1, hc2, hc3, hc4, hc5⟩ := Vh5
  have Vh5 := Lib.hid (DyV.mk hc0 hc1 hc2 hc3 hc4 hc5)
  have Vn5 : DyV w5 zn (dbad dn) (decide (dman dn < 0)) (.slice an (nl (dman dn).natAbs) cn) (dexp dn) := (by refine DyV.below ?_ hb5; (repeat (with_reducible first | refine DyV.drew ?_ | refine DyV.drewN ?_ _ | refine DyV.alloc ?_ _)); exact Vn4.out)
  (try clear nc0 nc1 nc2 nc3 nc4)
  obtain ⟨nc0, nc1, nc2, nc3, nc4, nc5⟩ := Vn5
  have Vn5 := Lib.hid (DyV.mk nc0 nc1 nc2 nc3 nc4 nc5)
  have Vi5 : DyV w5 zi (dbad di) (decide (dman di < 0)) (.slice ai (nl (dman di).natAbs) ci) (dexp di) := (by refine DyV.below ?_ hb5; (repeat (with_reducible first | refine DyV.drew ?_ | refine DyV.drewN ?_ _ | refine DyV.alloc ?_ _)); exact Vi4.out)
  (try clear ic0 ic1 ic2 ic3 ic4)
  obtain ⟨ic0, ic1, ic2, ic3, ic4, ic5⟩ := Vi5
  have Vi5 := Lib.hid (DyV.mk ic0 ic1 ic2 ic3 ic4 ic5)
  have Ml5 : Mag w5 al (nl (dman dl).natAbs) cl (dman dl).natAbs := Mag.below (by repeat (with_reducible first | refine Mag.set ?_ (fun h => by have := Ml4 h; omega) _ _ | refine Mag.drew ?_ | refine Mag.alloc ?_ _ | refine Mag.drewN ?_ _ | exact Ml4)) hb5
  have Mh5 : Mag w5 ah (nl (dman dh).natAbs) ch (dman dh).natAbs := Mag.below (by repeat (with_reducible first | refine Mag.set ?_ (fun h => by have := Mh4 h; omega) _ _ | refine Mag.drew ?_ | refine Mag.alloc ?_ _ | refine Mag.drewN ?_ _ | exact Mh4)) hb5
  have Mn5 : Mag w5 an (nl (dman dn).natAbs) cn (dman dn).natAbs := Mag.below (by repeat (with_reducible first | refine Mag.set ?_ (fun h => by have := Mn4 h; omega) _ _ | refine Mag.drew ?_ | refine Mag.alloc ?_ _ | refine Mag.drewN ?_ _ | exact Mn4)) hb5
  have Mi5 : Mag w5 ai (nl (dman di).natAbs) ci (dman di).natAbs := Mag.below (by repeat (with_reducible first | refine Mag.set ?_ (fun h => by have := Mi4 h; omega) _ _ | refine Mag.drew ?_ | refine Mag.alloc ?_ _ | refine Mag.drewN ?_ _ | exact Mi4)) hb5
  have B5 := below_box (w := w) (by have hszw := (B4).size; repeat (with_reducible first | refine Below.setCell ?_ (by first | omega | (simp <;> omega)) _ | refine Below.alloc ?_ (by first | omega | (simp <;> omega)) _ | refine Below.drew ?_ | refine below_drewN ?_ _ | exact B4)) hb5
  clear hb5
  go_wp2_with fail
  refine (H6 _ (Ga.out.1.below (by have hszw := (B5).size; repeat (with_reducible first | refine Below.setCell ?_ (by first | omega | (simp <;> omega)) _ | refine Below.alloc ?_ (by first | omega | (simp <;> omega)) _ | refine Below.drew ?_ | refine below_drewN ?_ _ | exact B5))) ah ch (by repeat (with_reducible first | refine Mag.set ?_ (fun h => by have := Mh5 h; omega) _ _ | refine Mag.drew ?_ | refine Mag.alloc ?_ _ | refine Mag.drewN ?_ _ | exact Mh5)) (hT.below (by have hszw := (B5).size; repeat (with_reducible first | refine Below.setCell ?_ (by first | omega | (simp <;> omega)) _ | refine Below.alloc ?_ (by first | omega | (simp <;> omega)) _ | refine Below.drew ?_ | refine below_drewN ?_ _ | exact B5)))).out.mono ?_
  rintro e w6 ⟨rfl, hb6⟩
  have Va6 : DyV w6 b0 bda sa (.slice aa na pa) ea := (by refine DyV.below ?_ hb6; (repeat (with_reducible first | refine DyV.drew ?_ | refine DyV.drewN ?_ _ | refine DyV.alloc ?_ _)); exact Va5.out)
  (try clear ac0 ac1 ac2 ac3 ac4)
  obtain ⟨ac0, ac1, ac2, ac3, ac4, ac5⟩ := Va6
  have Va6 := Lib.hid (DyV.mk ac0 ac1 ac2 ac3 ac4 ac5)
  have Vl6 : DyV w6 zl (dbad dl) (decide (dman dl < 0)) (.slice al (nl (dman dl).natAbs) cl) (dexp dl) := (by refine DyV.below ?_ hb6; (repeat (with_reducible first | refine DyV.drew ?_ | refine DyV.drewN ?_ _ | refine DyV.alloc ?_ _)); exact Vl5.out)
  (try clear lc0 lc1 lc2 lc3 lc4)
  obtain ⟨lc0, lc1, lc2, lc3, lc4, lc5⟩ := Vl6
  have Vl6 := Lib.hid (DyV.mk lc0 lc1 lc2 lc3 lc4 lc5)
  have Vh6 : DyV w6 zh (dbad dh) (decide (dman dh < 0)) (.slice ah (nl (dman dh).natAbs) ch) (dexp dh) := (by refine DyV.below ?_ hb6; (repeat (with_reducible first | refine DyV.drew ?_ | refine DyV.drewN ?_ _ | refine DyV.alloc ?_ _)); exact Vh5.out)
  (try clear hc0 hc1 hc2 hc3 hc4)
  obtain ⟨hc0, hc1, hc2, hc3, hc4, hc5⟩ := Vh6
  have Vh6 := Lib.hid (DyV.mk hc0 hc1 hc2 hc3 hc4 hc5)
  have Vn6 : DyV w6 zn (dbad dn) (decide (dman dn < 0)) (.slice an (nl (dman dn).natAbs) cn) (dexp dn) := (by refine DyV.below ?_ hb6; (repeat (with_reducible first | refine DyV.drew ?_ | refine DyV.drewN ?_ _ | refine DyV.alloc ?_ _)); exact Vn5.out)
  (try clear nc0 nc1 nc2 nc3 nc4)
  obtain ⟨nc0, nc1, nc2, nc3, nc4, nc5⟩ := Vn6
  have Vn6 := Lib.hid (DyV.mk nc0 nc1 nc2 nc3 nc4 nc5)
  have Vi6 : DyV w6 zi (dbad di) (decide (dman di < 0)) (.slice ai (nl (dman di).natAbs) ci) (dexp di) := (by refine DyV.below ?_ hb6; (repeat (with_reducible first | refine DyV.drew ?_ | refine DyV.drewN ?_ _ | refine DyV.alloc ?_ _)); exact Vi5.out)
  (try clear ic0 ic1 ic2 ic3 ic4)
  obtain ⟨ic0, ic1, ic2, ic3, ic4, ic5⟩ := Vi6
  have Vi6 := Lib.hid (DyV.mk ic0 ic1 ic2 ic3 ic4 ic5)
  have Ml6 : Mag w6 al (nl (dman dl).natAbs) cl (dman dl).natAbs := Mag.below (by repeat (with_reducible first | refine Mag.set ?_ (fun h => by have := Ml5 h; omega) _ _ | refine Mag.drew ?_ | refine Mag.alloc ?_ _ | refine Mag.drewN ?_ _ | exact Ml5)) hb6
  have Mh6 : Mag w6 ah (nl (dman dh).natAbs) ch (dman dh).natAbs := Mag.below (by repeat (with_reducible first | refine Mag.set ?_ (fun h => by have := Mh5 h; omega) _ _ | refine Mag.drew ?_ | refine Mag.alloc ?_ _ | refine Mag.drewN ?_ _ | exact Mh5)) hb6
  have Mn6 : Mag w6 an (nl (dman dn).natAbs) cn (dman dn).natAbs := Mag.below (by repeat (with_reducible first | refine Mag.set ?_ (fun h => by have := Mn5 h; omega) _ _ | refine Mag.drew ?_ | refine Mag.alloc ?_ _ | refine Mag.drewN ?_ _ | exact Mn5)) hb6
  have Mi6 : Mag w6 ai (nl (dman di).natAbs) ci (dman di).natAbs := Mag.below (by repeat (with_reducible first | refine Mag.set ?_ (fun h => by have := Mi5 h; omega) _ _ | refine Mag.drew ?_ | refine Mag.alloc ?_ _ | refine Mag.drewN ?_ _ | exact Mi5)) hb6
  have B6 := below_box (w := w) (by have hszw := (B5).size; repeat (with_reducible first | refine Below.setCell ?_ (by first | omega | (simp <;> omega)) _ | refine Below.alloc ?_ (by first | omega | (simp <;> omega)) _ | refine Below.drew ?_ | refine below_drewN ?_ _ | exact B5)) hb6
  clear hb6
  go_wp2_with fail
  refine (HBl _ al cl (by repeat (with_reducible first | refine Mag.set ?_ (fun h => by have := Ml6 h; omega) _ _ | refine Mag.drew ?_ | refine Mag.alloc ?_ _ | refine Mag.drewN ?_ _ | exact Ml6))).out.mono ?_
  rintro e w7 ⟨rfl, hb7⟩
  have Va7 : DyV w7 b0 bda sa (.slice aa na pa) ea := (by refine DyV.below ?_ hb7; (repeat (with_reducible first | refine DyV.drew ?_ | refine DyV.drewN ?_ _ | refine DyV.alloc ?_ _)); exact Va6.out)
  (try clear ac0 ac1 ac2 ac3 ac4)
  obtain ⟨ac0, ac1, ac2, ac3, ac4, ac5⟩ := Va7
  have Va7 := Lib.hid (DyV.mk ac0 ac1 ac2 ac3 ac4 ac5)
  have Vl7 : DyV w7 zl (dbad dl) (decide (dman dl < 0)) (.slice al (nl (dman dl).natAbs) cl) (dexp dl) := (by refine DyV.below ?_ hb7; (repeat (with_reducible first | refine DyV.drew ?_ | refine DyV.drewN ?_ _ | refine DyV.alloc ?_ _)); exact Vl6.out)
  (try clear lc0 lc1 lc2 lc3 lc4)
  obtain ⟨lc0, lc1, lc2, lc3, lc4, lc5⟩ := Vl7
  have Vl7 := Lib.hid (DyV.mk lc0 lc1 lc2 lc3 lc4 lc5)
  have Vh7 : DyV w7 zh (dbad dh) (decide (dman dh < 0)) (.slice ah (nl (dman dh).natAbs) ch) (dexp dh) := (by refine DyV.below ?_ hb7; (repeat (with_reducible first | refine DyV.drew ?_ | refine DyV.drewN ?_ _ | refine DyV.alloc ?_ _)); exact Vh6.out)
  (try clear hc0 hc1 hc2 hc3 hc4)
  obtain ⟨hc0, hc1, hc2, hc3, hc4, hc5⟩ := Vh7
  have Vh7 := Lib.hid (DyV.mk hc0 hc1 hc2 hc3 hc4 hc5)
  have Vn7 : DyV w7 zn (dbad dn) (decide (dman dn < 0)) (.slice an (nl (dman dn).natAbs) cn) (dexp dn) := (by refine DyV.below ?_ hb7; (repeat (with_reducible first | refine DyV.drew ?_ | refine DyV.drewN ?_ _ | refine DyV.alloc ?_ _)); exact Vn6.out)
  (try clear nc0 nc1 nc2 nc3 nc4)
  obtain ⟨nc0, nc1, nc2, nc3, nc4, nc5⟩ := Vn7
  have Vn7 := Lib.hid (DyV.mk nc0 nc1 nc2 nc3 nc4 nc5)
  have Vi7 : DyV w7 zi (dbad di) (decide (dman di < 0)) (.slice ai (nl (dman di).natAbs) ci) (dexp di) := (by refine DyV.below ?_ hb7; (repeat (with_reducible first | refine DyV.drew ?_ | refine DyV.drewN ?_ _ | refine DyV.alloc ?_ _)); exact Vi6.out)
  (try clear ic0 ic1 ic2 ic3 ic4)
  obtain ⟨ic0, ic1, ic2, ic3, ic4, ic5⟩ := Vi7
  have Vi7 := Lib.hid (DyV.mk ic0 ic1 ic2 ic3 ic4 ic5)
  have Ml7 : Mag w7 al (nl (dman dl).natAbs) cl (dman dl).natAbs := Mag.below (by repeat (with_reducible first | refine Mag.set ?_ (fun h => by have := Ml6 h; omega) _ _ | refine Mag.drew ?_ | refine Mag.alloc ?_ _ | refine Mag.drewN ?_ _ | exact Ml6)) hb7
  have Mh7 : Mag w7 ah (nl (dman dh).natAbs) ch (dman dh).natAbs := Mag.below (by repeat (with_reducible first | refine Mag.set ?_ (fun h => by have := Mh6 h; omega) _ _ | refine Mag.drew ?_ | refine Mag.alloc ?_ _ | refine Mag.drewN ?_ _ | exact Mh6)) hb7
  have Mn7 : Mag w7 an (nl (dman dn).natAbs) cn (dman dn).natAbs := Mag.below (by repeat (with_reducible first | refine Mag.set ?_ (fun h => by have := Mn6 h; omega) _ _ | refine Mag.drew ?_ | refine Mag.alloc ?_ _ | refine Mag.drewN ?_ _ | exact Mn6)) hb7
  have Mi7 : Mag w7 ai (nl (dman di).natAbs) ci (dman di).natAbs := Mag.below (by repeat (with_reducible first | refine Mag.set ?_ (fun h => by have := Mi6 h; omega) _ _ | refine Mag.drew ?_ | refine Mag.alloc ?_ _ | refine Mag.drewN ?_ _ | exact Mi6)) hb7
  have B7 := below_box (w := w) (by have hszw := (B6).size; repeat (with_reducible first | refine Below.setCell ?_ (by first | omega | (simp <;> omega)) _ | refine Below.alloc ?_ (by first | omega | (simp <;> omega)) _ | refine Below.drew ?_ | refine below_drewN ?_ _ | exact B6)) hb7
  clear hb7
  go_wp2_with fail
  refine (HBh _ ah ch (by repeat (with_reducible first | refine Mag.set ?_ (fun h => by have := Mh7 h; omega) _ _ | refine Mag.drew ?_ | refine Mag.alloc ?_ _ | refine Mag.drewN ?_ _ | exact Mh7))).out.mono ?_
  rintro e w8 ⟨rfl, hb8⟩
  have Va8 : DyV w8 b0 bda sa (.slice aa na pa) ea := (by refine DyV.below ?_ hb8; (repeat (with_reducible first | refine DyV.drew ?_ | refine DyV.drewN ?_ _ | refine DyV.alloc ?_ _)); exact Va7.out)
  (try clear ac0 ac1 ac2 ac3 ac4)
  obtain ⟨ac0, ac1, ac2, ac3, ac4, ac5⟩ := Va8
  have Va8 := Lib.hid (DyV.mk ac0 ac1 ac2 ac3 ac4 ac5)
  have Vl8 : DyV w8 zl (dbad dl) (decide (dman dl < 0)) (.slice al (nl (dman dl).natAbs) cl) (dexp dl) := (by refine DyV.below ?_ hb8; (repeat (with_reducible first | refine DyV.drew ?_ | refine DyV.drewN ?_ _ | refine DyV.alloc ?_ _)); exact Vl7.out)
  (try clear lc0 lc1 lc2 lc3 lc4)
  obtain ⟨lc0, lc1, lc2, lc3, lc4, lc5⟩ := Vl8
  have Vl8 := Lib.hid (DyV.mk lc0 lc1 lc2 lc3 lc4 lc5)
  have Vh8 : DyV w8 zh (dbad dh) (decide (dman dh < 0)) (.slice ah (nl (dman dh).natAbs) ch) (dexp dh) := (by refine DyV.below ?_ hb8; (repeat (with_reducible first | refine DyV.drew ?_ | refine DyV.drewN ?_ _ | refine DyV.alloc ?_ _)); exact Vh7.out)
  (try clear hc0 hc1 hc2 hc3 hc4)
  obtain ⟨hc0, hc1, hc2, hc3, hc4, hc5⟩ := Vh8
  have Vh8 := Lib.hid (DyV.mk hc0 hc1 hc2 hc3 hc4 hc5)
  have Vn8 : DyV w8 zn (dbad dn) (decide (dman dn < 0)) (.slice an (nl (dman dn).natAbs) cn) (dexp dn) := (by refine DyV.below ?_ hb8; (repeat (with_reducible first | refine DyV.drew ?_ | refine DyV.drewN ?_ _ | refine DyV.alloc ?_ _)); exact Vn7.out)
  (try clear nc0 nc1 nc2 nc3 nc4)
  obtain ⟨nc0, nc1, nc2, nc3, nc4, nc5⟩ := Vn8
  have Vn8 := Lib.hid (DyV.mk nc0 nc1 nc2 nc3 nc4 nc5)
  have Vi8 : DyV w8 zi (dbad di) (decide (dman di < 0)) (.slice ai (nl (dman di).natAbs) ci) (dexp di) := (by refine DyV.below ?_ hb8; (repeat (with_reducible first | refine DyV.drew ?_ | refine DyV.drewN ?_ _ | refine DyV.alloc ?_ _)); exact Vi7.out)
  (try clear ic0 ic1 ic2 ic3 ic4)
  obtain ⟨ic0, ic1, ic2, ic3, ic4, ic5⟩ := Vi8
  have Vi8 := Lib.hid (DyV.mk ic0 ic1 ic2 ic3 ic4 ic5)
  have Ml8 : Mag w8 al (nl (dman dl).natAbs) cl (dman dl).natAbs := Mag.below (by repeat (with_reducible first | refine Mag.set ?_ (fun h => by have := Ml7 h; omega) _ _ | refine Mag.drew ?_ | refine Mag.alloc ?_ _ | refine Mag.drewN ?_ _ | exact Ml7)) hb8
  have Mh8 : Mag w8 ah (nl (dman dh).natAbs) ch (dman dh).natAbs := Mag.below (by repeat (with_reducible first | refine Mag.set ?_ (fun h => by have := Mh7 h; omega) _ _ | refine Mag.drew ?_ | refine Mag.alloc ?_ _ | refine Mag.drewN ?_ _ | exact Mh7)) hb8
  have Mn8 : Mag w8 an (nl (dman dn).natAbs) cn (dman dn).natAbs := Mag.below (by repeat (with_reducible first | refine Mag.set ?_ (fun h => by have := Mn7 h; omega) _ _ | refine Mag.drew ?_ | refine Mag.alloc ?_ _ | refine Mag.drewN ?_ _ | exact Mn7)) hb8
  have Mi8 : Mag w8 ai (nl (dman di).natAbs) ci (dman di).natAbs := Mag.below (by repeat (with_reducible first | refine Mag.set ?_ (fun h => by have := Mi7 h; omega) _ _ | refine Mag.drew ?_ | refine Mag.alloc ?_ _ | refine Mag.drewN ?_ _ | exact Mi7)) hb8
  have B8 := below_box (w := w) (by have hszw := (B7).size; repeat (with_reducible first | refine Below.setCell ?_ (by first | omega | (simp <;> omega)) _ | refine Below.alloc ?_ (by first | omega | (simp <;> omega)) _ | refine Below.drew ?_ | refine below_drewN ?_ _ | exact B7)) hb8
  clear hb8
  go_wp2_with fail
  refine (HBn _ an cn (by repeat (with_reducible first | refine Mag.set ?_ (fun h => by have := Mn8 h; omega) _ _ | refine Mag.drew ?_ | refine Mag.alloc ?_ _ | refine Mag.drewN ?_ _ | exact Mn8))).out.mono ?_
  rintro e w9 ⟨rfl, hb9⟩
  have Va9 : DyV w9 b0 bda sa (.slice aa na pa) ea := (by refine DyV.below ?_ hb9; (repeat (with_reducible first | refine DyV.drew ?_ | refine DyV.drewN ?_ _ | refine DyV.alloc ?_ _)); exact Va8.out)
  (try clear ac0 ac1 ac2 ac3 ac4)
  obtain ⟨ac0, ac1, ac2, ac3, ac4, ac5⟩ := Va9
  have Va9 := Lib.hid (DyV.mk ac0 ac1 ac2 ac3 ac4 ac5)
  have Vl9 : DyV w9 zl (dbad dl) (decide (dman dl < 0)) (.slice al (nl (dman dl).natAbs) cl) (dexp dl) := (by refine DyV.below ?_ hb9; (repeat (with_reducible first | refine DyV.drew ?_ | refine DyV.drewN ?_ _ | refine DyV.alloc ?_ _)); exact Vl8.out)
  (try clear lc0 lc1 lc2 lc3 lc4)
  obtain ⟨lc0, lc1, lc2, lc3, lc4, lc5⟩ := Vl9
  have Vl9 := Lib.hid (DyV.mk lc0 lc1 lc2 lc3 lc4 lc5)
  have Vh9 : DyV w9 zh (dbad dh) (decide (dman dh < 0)) (.slice ah (nl (dman dh).natAbs) ch) (dexp dh) := (by refine DyV.below ?_ hb9; (repeat (with_reducible first | refine DyV.drew ?_ | refine DyV.drewN ?_ _ | refine DyV.alloc ?_ _)); exact Vh8.out)
  (try clear hc0 hc1 hc2 hc3 hc4)
  obtain ⟨hc0, hc1, hc2, hc3, hc4, hc5⟩ := Vh9
  have Vh9 := Lib.hid (DyV.mk hc0 hc1 hc2 hc3 hc4 hc5)
  have Vn9 : DyV w9 zn (dbad dn) (decide (dman dn < 0)) (.slice an (nl (dman dn).natAbs) cn) (dexp dn) := (by refine DyV.below ?_ hb9; (repeat (with_reducible first | refine DyV.drew ?_ | refine DyV.drewN ?_ _ | refine DyV.alloc ?_ _)); exact Vn8.out)
  (try clear nc0 nc1 nc2 nc3 nc4)
  obtain ⟨nc0, nc1, nc2, nc3, nc4, nc5⟩ := Vn9
  have Vn9 := Lib.hid (DyV.mk nc0 nc1 nc2 nc3 nc4 nc5)
  have Vi9 : DyV w9 zi (dbad di) (decide (dman di < 0)) (.slice ai (nl (dman di).natAbs) ci) (dexp di) := (by refine DyV.below ?_ hb9; (repeat (with_reducible first | refine DyV.drew ?_ | refine DyV.drewN ?_ _ | refine DyV.alloc ?_ _)); exact Vi8.out)
  (try clear ic0 ic1 ic2 ic3 ic4)
  obtain ⟨ic0, ic1, ic2, ic3, ic4, ic5⟩ := Vi9
  have Vi9 := Lib.hid (DyV.mk ic0 ic1 ic2 ic3 ic4 ic5)
  have Ml9 : Mag w9 al (nl (dman dl).natAbs) cl (dman dl).natAbs := Mag.below (by repeat (with_reducible first | refine Mag.set ?_ (fun h => by have := Ml8 h; omega) _ _ | refine Mag.drew ?_ | refine Mag.alloc ?_ _ | refine Mag.drewN ?_ _ | exact Ml8)) hb9
  have Mh9 : Mag w9 ah (nl (dman dh).natAbs) ch (dman dh).natAbs := Mag.below (by repeat (with_reducible first | refine Mag.set ?_ (fun h => by have := Mh8 h; omega) _ _ | refine Mag.drew ?_ | refine Mag.alloc ?_ _ | refine Mag.drewN ?_ _ | exact Mh8)) hb9
  have Mn9 : Mag w9 an (nl (dman dn).natAbs) cn (dman dn).natAbs := Mag.below (by repeat (with_reducible first | refine Mag.set ?_ (fun h => by have := Mn8 h; omega) _ _ | refine Mag.drew ?_ | refine Mag.alloc ?_ _ | refine Mag.drewN ?_ _ | exact Mn8)) hb9
  have Mi9 : Mag w9 ai (nl (dman di).natAbs) ci (dman di).natAbs := Mag.below (by repeat (with_reducible first | refine Mag.set ?_ (fun h => by have := Mi8 h; omega) _ _ | refine Mag.drew ?_ | refine Mag.alloc ?_ _ | refine Mag.drewN ?_ _ | exact Mi8)) hb9
  have B9 := below_box (w := w) (by have hszw := (B8).size; repeat (with_reducible first | refine Below.setCell ?_ (by first | omega | (simp <;> omega)) _ | refine Below.alloc ?_ (by first | omega | (simp <;> omega)) _ | refine Below.drew ?_ | refine below_drewN ?_ _ | exact B8)) hb9
  clear hb9
  go_wp2_with fail
  refine (HRn _ (Ga.out.below (by have hszw := (B9).size; repeat (with_reducible first | refine Below.setCell ?_ (by first | omega | (simp <;> omega)) _ | refine Below.alloc ?_ (by first | omega | (simp <;> omega)) _ | refine Below.drew ?_ | refine below_drewN ?_ _ | exact B9))) (hT.below (by have hszw := (B9).size; repeat (with_reducible first | refine Below.setCell ?_ (by first | omega | (simp <;> omega)) _ | refine Below.alloc ?_ (by first | omega | (simp <;> omega)) _ | refine Below.drew ?_ | refine below_drewN ?_ _ | exact B9)))).out.mono ?_
  rintro e w10 ⟨av, cv, rfl, Mv10, hb10, hf10⟩
  have Va10 : DyV w10 b0 bda sa (.slice aa na pa) ea := (by refine DyV.below ?_ hb10; (repeat (with_reducible first | refine DyV.drew ?_ | refine DyV.drewN ?_ _ | refine DyV.alloc ?_ _)); exact Va9.out)
  (try clear ac0 ac1 ac2 ac3 ac4)
  obtain ⟨ac0, ac1, ac2, ac3, ac4, ac5⟩ := Va10
  have Va10 := Lib.hid (DyV.mk ac0 ac1 ac2 ac3 ac4 ac5)
  have Vl10 : DyV w10 zl (dbad dl) (decide (dman dl < 0)) (.slice al (nl (dman dl).natAbs) cl) (dexp dl) := (by refine DyV.below ?_ hb10; (repeat (with_reducible first | refine DyV.drew ?_ | refine DyV.drewN ?_ _ | refine DyV.alloc ?_ _)); exact Vl9.out)
  (try clear lc0 lc1 lc2 lc3 lc4)
  obtain ⟨lc0, lc1, lc2, lc3, lc4, lc5⟩ := Vl10
  have Vl10 := Lib.hid (DyV.mk lc0 lc1 lc2 lc3 lc4 lc5)
  have Vh10 : DyV w10 zh (dbad dh) (decide (dman dh < 0)) (.slice ah (nl (dman dh).natAbs) ch) (dexp dh) := (by refine DyV.below ?_ hb10; (repeat (with_reducible first | refine DyV.drew ?_ | refine DyV.drewN ?_ _ | refine DyV.alloc ?_ _)); exact Vh9.out)
  (try clear hc0 hc1 hc2 hc3 hc4)
  obtain ⟨hc0, hc1, hc2, hc3, hc4, hc5⟩ := Vh10
  have Vh10 := Lib.hid (DyV.mk hc0 hc1 hc2 hc3 hc4 hc5)
  have Vn10 : DyV w10 zn (dbad dn) (decide (dman dn < 0)) (.slice an (nl (dman dn).natAbs) cn) (dexp dn) := (by refine DyV.below ?_ hb10; (repeat (with_reducible first | refine DyV.drew ?_ | refine DyV.drewN ?_ _ | refine DyV.alloc ?_ _)); exact Vn9.out)
  (try clear nc0 nc1 nc2 nc3 nc4)
  obtain ⟨nc0, nc1, nc2, nc3, nc4, nc5⟩ := Vn10
  have Vn10 := Lib.hid (DyV.mk nc0 nc1 nc2 nc3 nc4 nc5)
  have Vi10 : DyV w10 zi (dbad di) (decide (dman di < 0)) (.slice ai (nl (dman di).natAbs) ci) (dexp di) := (by refine DyV.below ?_ hb10; (repeat (with_reducible first | refine DyV.drew ?_ | refine DyV.drewN ?_ _ | refine DyV.alloc ?_ _)); exact Vi9.out)
  (try clear ic0 ic1 ic2 ic3 ic4)
  obtain ⟨ic0, ic1, ic2, ic3, ic4, ic5⟩ := Vi10
  have Vi10 := Lib.hid (DyV.mk ic0 ic1 ic2 ic3 ic4 ic5)
  have Ml10 : Mag w10 al (nl (dman dl).natAbs) cl (dman dl).natAbs := Mag.below (by repeat (with_reducible first | refine Mag.set ?_ (fun h => by have := Ml9 h; omega) _ _ | refine Mag.drew ?_ | refine Mag.alloc ?_ _ | refine Mag.drewN ?_ _ | exact Ml9)) hb10
  have Mh10 : Mag w10 ah (nl (dman dh).natAbs) ch (dman dh).natAbs := Mag.below (by repeat (with_reducible first | refine Mag.set ?_ (fun h => by have := Mh9 h; omega) _ _ | refine Mag.drew ?_ | refine Mag.alloc ?_ _ | refine Mag.drewN ?_ _ | exact Mh9)) hb10
  have Mn10 : Mag w10 an (nl (dman dn).natAbs) cn (dman dn).natAbs := Mag.below (by repeat (with_reducible first | refine Mag.set ?_ (fun h => by have := Mn9 h; omega) _ _ | refine Mag.drew ?_ | refine Mag.alloc ?_ _ | refine Mag.drewN ?_ _ | exact Mn9)) hb10
  have Mi10 : Mag w10 ai (nl (dman di).natAbs) ci (dman di).natAbs := Mag.below (by repeat (with_reducible first | refine Mag.set ?_ (fun h => by have := Mi9 h; omega) _ _ | refine Mag.drew ?_ | refine Mag.alloc ?_ _ | refine Mag.drewN ?_ _ | exact Mi9)) hb10
  have B10 := below_box (w := w) (by have hszw := (B9).size; repeat (with_reducible first | refine Below.setCell ?_ (by first | omega | (simp <;> omega)) _ | refine Below.alloc ?_ (by first | omega | (simp <;> omega)) _ | refine Below.drew ?_ | refine below_drewN ?_ _ | exact B9)) hb10
  clear hb10
  clear hf10
  go_wp2_with fail
  refine (HBa _ av cv (by repeat (with_reducible first | refine Mag.set ?_ (fun h => by have := Mv10 h; omega) _ _ | refine Mag.drew ?_ | refine Mag.alloc ?_ _ | refine Mag.drewN ?_ _ | exact Mv10))).out.mono ?_
  rintro e w11 ⟨rfl, hb11⟩
  have Va11 : DyV w11 b0 bda sa (.slice aa na pa) ea := (by refine DyV.below ?_ hb11; (repeat (with_reducible first | refine DyV.drew ?_ | refine DyV.drewN ?_ _ | refine DyV.alloc ?_ _)); exact Va10.out)
  (try clear ac0 ac1 ac2 ac3 ac4)
  obtain ⟨ac0, ac1, ac2, ac3, ac4, ac5⟩ := Va11
  have Va11 := Lib.hid (DyV.mk ac0 ac1 ac2 ac3 ac4 ac5)
  have Vl11 : DyV w11 zl (dbad dl) (decide (dman dl < 0)) (.slice al (nl (dman dl).natAbs) cl) (dexp dl) := (by refine DyV.below ?_ hb11; (repeat (with_reducible first | refine DyV.drew ?_ | refine DyV.drewN ?_ _ | refine DyV.alloc ?_ _)); exact Vl10.out)
  (try clear lc0 lc1 lc2 lc3 lc4)
  obtain ⟨lc0, lc1, lc2, lc3, lc4, lc5⟩ := Vl11
  have Vl11 := Lib.hid (DyV.mk lc0 lc1 lc2 lc3 lc4 lc5)
  have Vh11 : DyV w11 zh (dbad dh) (decide (dman dh < 0)) (.slice ah (nl (dman dh).natAbs) ch) (dexp dh) := (by refine DyV.below ?_ hb11; (repeat (with_reducible first | refine DyV.drew ?_ | refine DyV.drewN ?_ _ | refine DyV.alloc ?_ _)); exact Vh10.out)
  (try clear hc0 hc1 hc2 hc3 hc4)
  obtain ⟨hc0, hc1, hc2, hc3, hc4, hc5⟩ := Vh11
  have Vh11 := Lib.hid (DyV.mk hc0 hc1 hc2 hc3 hc4 hc5)
  have Vn11 : DyV w11 zn (dbad dn) (decide (dman dn < 0)) (.slice an (nl (dman dn).natAbs) cn) (dexp dn) := (by refine DyV.below ?_ hb11; (repeat (with_reducible first | refine DyV.drew ?_ | refine DyV.drewN ?_ _ | refine DyV.alloc ?_ _)); exact Vn10.out)
  (try clear nc0 nc1 nc2 nc3 nc4)
  obtain ⟨nc0, nc1, nc2, nc3, nc4, nc5⟩ := Vn11
  have Vn11 := Lib.hid (DyV.mk nc0 nc1 nc2 nc3 nc4 nc5)
  have Vi11 : DyV w11 zi (dbad di) (decide (dman di < 0)) (.slice ai (nl (dman di).natAbs) ci) (dexp di) := (by refine DyV.below ?_ hb11; (repeat (with_reducible first | refine DyV.drew ?_ | refine DyV.drewN ?_ _ | refine DyV.alloc ?_ _)); exact Vi10.out)
  (try clear ic0 ic1 ic2 ic3 ic4)
  obtain ⟨ic0, ic1, ic2, ic3, ic4, ic5⟩ := Vi11
  have Vi11 := Lib.hid (DyV.mk ic0 ic1 ic2 ic3 ic4 ic5)
  have Ml11 : Mag w11 al (nl (dman dl).natAbs) cl (dman dl).natAbs := Mag.below (by repeat (with_reducible first | refine Mag.set ?_ (fun h => by have := Ml10 h; omega) _ _ | refine Mag.drew ?_ | refine Mag.alloc ?_ _ | refine Mag.drewN ?_ _ | exact Ml10)) hb11
  have Mh11 : Mag w11 ah (nl (dman dh).natAbs) ch (dman dh).natAbs := Mag.below (by repeat (with_reducible first | refine Mag.set ?_ (fun h => by have := Mh10 h; omega) _ _ | refine Mag.drew ?_ | refine Mag.alloc ?_ _ | refine Mag.drewN ?_ _ | exact Mh10)) hb11
  have Mn11 : Mag w11 an (nl (dman dn).natAbs) cn (dman dn).natAbs := Mag.below (by repeat (with_reducible first | refine Mag.set ?_ (fun h => by have := Mn10 h; omega) _ _ | refine Mag.drew ?_ | refine Mag.alloc ?_ _ | refine Mag.drewN ?_ _ | exact Mn10)) hb11
  have Mi11 : Mag w11 ai (nl (dman di).natAbs) ci (dman di).natAbs := Mag.below (by repeat (with_reducible first | refine Mag.set ?_ (fun h => by have := Mi10 h; omega) _ _ | refine Mag.drew ?_ | refine Mag.alloc ?_ _ | refine Mag.drewN ?_ _ | exact Mi10)) hb11
  have Mv11 : Mag w11 av (nl (dman da).natAbs) cv (dman da).natAbs := Mag.below (by repeat (with_reducible first | refine Mag.set ?_ (fun h => by have := Mv10 h; omega) _ _ | refine Mag.drew ?_ | refine Mag.alloc ?_ _ | refine Mag.drewN ?_ _ | exact Mv10)) hb11
  have B11 := below_box (w := w) (by have hszw := (B10).size; repeat (with_reducible first | refine Below.setCell ?_ (by first | omega | (simp <;> omega)) _ | refine Below.alloc ?_ (by first | omega | (simp <;> omega)) _ | refine Below.drew ?_ | refine below_drewN ?_ _ | exact B10)) hb11
  clear hb11
  go_wp2_with fail
  go_cut [13, 14] (fun ptm ptu wx => ∃ zm am cm zu au cu, ptm = .pointer (some ⟨zm, 0, none⟩) ∧ ptu = .pointer (some ⟨zu, 0, none⟩) ∧ Below w11.heap.size w11 wx ∧ DyV wx zm (dbad dm) (decide (dman dm < 0)) (.slice am (nl (dman dm).natAbs) cm) (dexp dm) ∧ Mag wx am (nl (dman dm).natAbs) cm (dman dm).natAbs ∧ DyV wx zu (dbad du) (decide (dman du < 0)) (.slice au (nl (dman du).natAbs) cu) (dexp du) ∧ Mag wx au (nl (dman du).natAbs) cu (dman du).natAbs)
  case first =>
    have hBz11 : Below w11.heap.size w11 w11 := Below.refl _ _
    go_region_held3 (fun w' => w'.cell? ⟨b0, 0, none⟩ = some (.bool bda) ∧ w'.cell? ⟨b0, 1, none⟩ = some (.bool sa) ∧ w'.cell? ⟨b0, 2, none⟩ = some ((.slice aa na pa)) ∧ w'.cell? ⟨b0, 3, none⟩ = some (.int .i64 ea) ∧ w'.cell? ⟨zl, 0, none⟩ = some (.bool (dbad dl)) ∧ w'.cell? ⟨zl, 1, none⟩ = some (.bool (decide (dman dl < 0))) ∧ w'.cell? ⟨zl, 2, none⟩ = some ((.slice al (nl (dman dl).natAbs) cl)) ∧ w'.cell? ⟨zl, 3, none⟩ = some (.int .i64 (dexp dl)) ∧ w'.cell? ⟨zh, 0, none⟩ = some (.bool (dbad dh)) ∧ w'.cell? ⟨zh, 1, none⟩ = some (.bool (decide (dman dh < 0))) ∧ w'.cell? ⟨zh, 2, none⟩ = some ((.slice ah (nl (dman dh).natAbs) ch)) ∧ w'.cell? ⟨zh, 3, none⟩ = some (.int .i64 (dexp dh))) (first | (go_keep; done) | (go_simp; done))
      (first
        | (go_at_call 30; have xx := B12; refine (H8 _ ah ch (by repeat (with_reducible first | refine Mag.set ?_ (fun h => by have := Mh12 h; omega) _ _ | refine Mag.drew ?_ | refine Mag.alloc ?_ _ | refine Mag.drewN ?_ _ | exact Mh12)) (Ga.out.1.below (by have hszw := (B12).size; repeat (with_reducible first | refine Below.setCell ?_ (by first | omega | (simp <;> omega)) _ | refine Below.alloc ?_ (by first | omega | (simp <;> omega)) _ | refine Below.drew ?_ | refine below_drewN ?_ _ | exact B12))) (hT.below (by have hszw := (B12).size; repeat (with_reducible first | refine Below.setCell ?_ (by first | omega | (simp <;> omega)) _ | refine Below.alloc ?_ (by first | omega | (simp <;> omega)) _ | refine Below.drew ?_ | refine below_drewN ?_ _ | exact B12)))).out.mono ?_; rintro e w13 ⟨au, cu, rfl, Mu13, hb13, hf13⟩; have hs13 := hb13.size; (try simp at hs13 hf13); have o13 := Mu13.old; have Va13 : DyV w13 b0 bda sa (.slice aa na pa) ea := (by refine DyV.below ?_ hb13; (repeat (with_reducible first | refine DyV.drew ?_ | refine DyV.drewN ?_ _ | refine DyV.alloc ?_ _)); exact Va12.out); (try clear ac0 ac1 ac2 ac3 ac4); obtain ⟨ac0, ac1, ac2, ac3, ac4, ac5⟩ := Va13; have Va13 := Lib.hid (DyV.mk ac0 ac1 ac2 ac3 ac4 ac5); have Vl13 : DyV w13 zl (dbad dl) (decide (dman dl < 0)) (.slice al (nl (dman dl).natAbs) cl) (dexp dl) := (by refine DyV.below ?_ hb13; (repeat (with_reducible first | refine DyV.drew ?_ | refine DyV.drewN ?_ _ | refine DyV.alloc ?_ _)); exact Vl12.out); (try clear lc0 lc1 lc2 lc3 lc4); obtain ⟨lc0, lc1, lc2, lc3, lc4, lc5⟩ := Vl13; have Vl13 := Lib.hid (DyV.mk lc0 lc1 lc2 lc3 lc4 lc5); have Vh13 : DyV w13 zh (dbad dh) (decide (dman dh < 0)) (.slice ah (nl (dman dh).natAbs) ch) (dexp dh) := (by refine DyV.below ?_ hb13; (repeat (with_reducible first | refine DyV.drew ?_ | refine DyV.drewN ?_ _ | refine DyV.alloc ?_ _)); exact Vh12.out); (try clear hc0 hc1 hc2 hc3 hc4); obtain ⟨hc0, hc1, hc2, hc3, hc4, hc5⟩ := Vh13; have Vh13 := Lib.hid (DyV.mk hc0 hc1 hc2 hc3 hc4 hc5); have Vn13 : DyV w13 zn (dbad dn) (decide (dman dn < 0)) (.slice an (nl (dman dn).natAbs) cn) (dexp dn) := (by refine DyV.below ?_ hb13; (repeat (with_reducible first | refine DyV.drew ?_ | refine DyV.drewN ?_ _ | refine DyV.alloc ?_ _)); exact Vn12.out); (try clear nc0 nc1 nc2 nc3 nc4); obtain ⟨nc0, nc1, nc2, nc3, nc4, nc5⟩ := Vn13; have Vn13 := Lib.hid (DyV.mk nc0 nc1 nc2 nc3 nc4 nc5); have Vi13 : DyV w13 zi (dbad di) (decide (dman di < 0)) (.slice ai (nl (dman di).natAbs) ci) (dexp di) := (by refine DyV.below ?_ hb13; (repeat (with_reducible first | refine DyV.drew ?_ | refine DyV.drewN ?_ _ | refine DyV.alloc ?_ _)); exact Vi12.out); (try clear ic0 ic1 ic2 ic3 ic4); obtain ⟨ic0, ic1, ic2, ic3, ic4, ic5⟩ := Vi13; have Vi13 := Lib.hid (DyV.mk ic0 ic1 ic2 ic3 ic4 ic5); have Mm13 : Mag w13 am (nl (dman dm).natAbs) cm (dman dm).natAbs := Mag.below (by repeat (with_reducible first | refine Mag.set ?_ (fun h => by have := Mm12 h; omega) _ _ | refine Mag.drew ?_ | refine Mag.alloc ?_ _ | refine Mag.drewN ?_ _ | exact Mm12)) hb13; have Ml13 : Mag w13 al (nl (dman dl).natAbs) cl (dman dl).natAbs := Mag.below (by repeat (with_reducible first | refine Mag.set ?_ (fun h => by have := Ml12 h; omega) _ _ | refine Mag.drew ?_ | refine Mag.alloc ?_ _ | refine Mag.drewN ?_ _ | exact Ml12)) hb13; have Mh13 : Mag w13 ah (nl (dman dh).natAbs) ch (dman dh).natAbs := Mag.below (by repeat (with_reducible first | refine Mag.set ?_ (fun h => by have := Mh12 h; omega) _ _ | refine Mag.drew ?_ | refine Mag.alloc ?_ _ | refine Mag.drewN ?_ _ | exact Mh12)) hb13; have Mn13 : Mag w13 an (nl (dman dn).natAbs) cn (dman dn).natAbs := Mag.below (by repeat (with_reducible first | refine Mag.set ?_ (fun h => by have := Mn12 h; omega) _ _ | refine Mag.drew ?_ | refine Mag.alloc ?_ _ | refine Mag.drewN ?_ _ | exact Mn12)) hb13; have Mi13 : Mag w13 ai (nl (dman di).natAbs) ci (dman di).natAbs := Mag.below (by repeat (with_reducible first | refine Mag.set ?_ (fun h => by have := Mi12 h; omega) _ _ | refine Mag.drew ?_ | refine Mag.alloc ?_ _ | refine Mag.drewN ?_ _ | exact Mi12)) hb13; have B13 := below_box (w := w) (by have hszw := (B12).size; repeat (with_reducible first | refine Below.setCell ?_ (by first | omega | (simp <;> omega)) _ | refine Below.alloc ?_ (by first | omega | (simp <;> omega)) _ | refine Below.drew ?_ | refine below_drewN ?_ _ | exact B12)) hb13; have hBz13 : Below w11.heap.size w11 w13 := Below.trans (by have hszw := (hBz12).size; repeat (with_reducible first | refine Below.setCell ?_ (by first | omega | (simp <;> omega)) _ | refine Below.alloc ?_ (by first | omega | (simp <;> omega)) _ | refine Below.drew ?_ | refine below_drewN ?_ _ | exact hBz12)) (hb13.mono (by first | exact Nat.le_refl _ | (simp; done) | omega | (simp <;> omega))); (try (have F0x0 : DyV w13 (w11.heap.size) false false (.slice none 0 0) 0 := (by first | (refine DyV.below ?_ hb13; (repeat (first | exact F0x0.out | (refine DyV.made' _ _ _ _ _ _ ?_; first | rfl | (simp; done)) | with_reducible refine DyV.drew ?_ | with_reducible refine DyV.alloc ?_ _)); done) | fail); obtain ⟨F0x0c0, F0x0c1, F0x0c2, F0x0c3, F0x0c4, F0x0c5⟩ := F0x0; have F0x0 := Lib.hid (DyV.mk F0x0c0 F0x0c1 F0x0c2 F0x0c3 F0x0c4 F0x0c5))); (try (have F0x1 : DyV w13 (w11.heap.size + 1) false false (.slice none 0 0) 0 := (by first | (refine DyV.below ?_ hb13; (repeat (first | exact F0x1.out | (refine DyV.made' _ _ _ _ _ _ ?_; first | rfl | (simp; done)) | with_reducible refine DyV.drew ?_ | with_reducible refine DyV.alloc ?_ _)); done) | fail); obtain ⟨F0x1c0, F0x1c1, F0x1c2, F0x1c3, F0x1c4, F0x1c5⟩ := F0x1; have F0x1 := Lib.hid (DyV.mk F0x1c0 F0x1c1 F0x1c2 F0x1c3 F0x1c4 F0x1c5))); (try (have F1x0 : DyV w13 (w12.heap.size) false false (.slice none 0 0) 0 := (by first | (refine DyV.below ?_ hb13; (repeat (first | exact F1x0.out | (refine DyV.made' _ _ _ _ _ _ ?_; first | rfl | (simp; done)) | with_reducible refine DyV.drew ?_ | with_reducible refine DyV.alloc ?_ _)); done) | fail); obtain ⟨F1x0c0, F1x0c1, F1x0c2, F1x0c3, F1x0c4, F1x0c5⟩ := F1x0; have F1x0 := Lib.hid (DyV.mk F1x0c0 F1x0c1 F1x0c2 F1x0c3 F1x0c4 F1x0c5))); (try (have F1x1 : DyV w13 (w12.heap.size + 1) false false (.slice none 0 0) 0 := (by first | (refine DyV.below ?_ hb13; (repeat (first | exact F1x1.out | (refine DyV.made' _ _ _ _ _ _ ?_; first | rfl | (simp; done)) | with_reducible refine DyV.drew ?_ | with_reducible refine DyV.alloc ?_ _)); done) | fail); obtain ⟨F1x1c0, F1x1c1, F1x1c2, F1x1c3, F1x1c4, F1x1c5⟩ := F1x1; have F1x1 := Lib.hid (DyV.mk F1x1c0 F1x1c1 F1x1c2 F1x1c3 F1x1c4 F1x1c5))))
        | (go_at_call 30; refine (H7 _ (Ga.out.1.below (by have hszw := (B11).size; repeat (with_reducible first | refine Below.setCell ?_ (by first | omega | (simp <;> omega)) _ | refine Below.alloc ?_ (by first | omega | (simp <;> omega)) _ | refine Below.drew ?_ | refine below_drewN ?_ _ | exact B11))) al cl (by repeat (with_reducible first | refine Mag.set ?_ (fun h => by have := Ml11 h; omega) _ _ | refine Mag.drew ?_ | refine Mag.alloc ?_ _ | refine Mag.drewN ?_ _ | exact Ml11)) (hT.below (by have hszw := (B11).size; repeat (with_reducible first | refine Below.setCell ?_ (by first | omega | (simp <;> omega)) _ | refine Below.alloc ?_ (by first | omega | (simp <;> omega)) _ | refine Below.drew ?_ | refine below_drewN ?_ _ | exact B11)))).out.mono ?_; rintro e w12 ⟨am, cm, rfl, Mm12, hb12, hf12⟩; have hs12 := hb12.size; (try simp at hs12 hf12); have o12 := Mm12.old; have Va12 : DyV w12 b0 bda sa (.slice aa na pa) ea := (by refine DyV.below ?_ hb12; (repeat (with_reducible first | refine DyV.drew ?_ | refine DyV.drewN ?_ _ | refine DyV.alloc ?_ _)); exact Va11.out); (try clear ac0 ac1 ac2 ac3 ac4); obtain ⟨ac0, ac1, ac2, ac3, ac4, ac5⟩ := Va12; have Va12 := Lib.hid (DyV.mk ac0 ac1 ac2 ac3 ac4 ac5); have Vl12 : DyV w12 zl (dbad dl) (decide (dman dl < 0)) (.slice al (nl (dman dl).natAbs) cl) (dexp dl) := (by refine DyV.below ?_ hb12; (repeat (with_reducible first | refine DyV.drew ?_ | refine DyV.drewN ?_ _ | refine DyV.alloc ?_ _)); exact Vl11.out); (try clear lc0 lc1 lc2 lc3 lc4); obtain ⟨lc0, lc1, lc2, lc3, lc4, lc5⟩ := Vl12; have Vl12 := Lib.hid (DyV.mk lc0 lc1 lc2 lc3 lc4 lc5); have Vh12 : DyV w12 zh (dbad dh) (decide (dman dh < 0)) (.slice ah (nl (dman dh).natAbs) ch) (dexp dh) := (by refine DyV.below ?_ hb12; (repeat (with_reducible first | refine DyV.drew ?_ | refine DyV.drewN ?_ _ | refine DyV.alloc ?_ _)); exact Vh11.out); (try clear hc0 hc1 hc2 hc3 hc4); obtain ⟨hc0, hc1, hc2, hc3, hc4, hc5⟩ := Vh12; have Vh12 := Lib.hid (DyV.mk hc0 hc1 hc2 hc3 hc4 hc5); have Vn12 : DyV w12 zn (dbad dn) (decide (dman dn < 0)) (.slice an (nl (dman dn).natAbs) cn) (dexp dn) := (by refine DyV.below ?_ hb12; (repeat (with_reducible first | refine DyV.drew ?_ | refine DyV.drewN ?_ _ | refine DyV.alloc ?_ _)); exact Vn11.out); (try clear nc0 nc1 nc2 nc3 nc4); obtain ⟨nc0, nc1, nc2, nc3, nc4, nc5⟩ := Vn12; have Vn12 := Lib.hid (DyV.mk nc0 nc1 nc2 nc3 nc4 nc5); have Vi12 : DyV w12 zi (dbad di) (decide (dman di < 0)) (.slice ai (nl (dman di).natAbs) ci) (dexp di) := (by refine DyV.below ?_ hb12; (repeat (with_reducible first | refine DyV.drew ?_ | refine DyV.drewN ?_ _ | refine DyV.alloc ?_ _)); exact Vi11.out); (try clear ic0 ic1 ic2 ic3 ic4); obtain ⟨ic0, ic1, ic2, ic3, ic4, ic5⟩ := Vi12; have Vi12 := Lib.hid (DyV.mk ic0 ic1 ic2 ic3 ic4 ic5); have Ml12 : Mag w12 al (nl (dman dl).natAbs) cl (dman dl).natAbs := Mag.below (by repeat (with_reducible first | refine Mag.set ?_ (fun h => by have := Ml11 h; omega) _ _ | refine Mag.drew ?_ | refine Mag.alloc ?_ _ | refine Mag.drewN ?_ _ | exact Ml11)) hb12; have Mh12 : Mag w12 ah (nl (dman dh).natAbs) ch (dman dh).natAbs := Mag.below (by repeat (with_reducible first | refine Mag.set ?_ (fun h => by have := Mh11 h; omega) _ _ | refine Mag.drew ?_ | refine Mag.alloc ?_ _ | refine Mag.drewN ?_ _ | exact Mh11)) hb12; have Mn12 : Mag w12 an (nl (dman dn).natAbs) cn (dman dn).natAbs := Mag.below (by repeat (with_reducible first | refine Mag.set ?_ (fun h => by have := Mn11 h; omega) _ _ | refine Mag.drew ?_ | refine Mag.alloc ?_ _ | refine Mag.drewN ?_ _ | exact Mn11)) hb12; have Mi12 : Mag w12 ai (nl (dman di).natAbs) ci (dman di).natAbs := Mag.below (by repeat (with_reducible first | refine Mag.set ?_ (fun h => by have := Mi11 h; omega) _ _ | refine Mag.drew ?_ | refine Mag.alloc ?_ _ | refine Mag.drewN ?_ _ | exact Mi11)) hb12; have B12 := below_box (w := w) (by have hszw := (B11).size; repeat (with_reducible first | refine Below.setCell ?_ (by first | omega | (simp <;> omega)) _ | refine Below.alloc ?_ (by first | omega | (simp <;> omega)) _ | refine Below.drew ?_ | refine below_drewN ?_ _ | exact B11)) hb12; have hBz12 : Below w11.heap.size w11 w12 := Below.trans (by have hszw := (hBz11).size; repeat (with_reducible first | refine Below.setCell ?_ (by first | omega | (simp <;> omega)) _ | refine Below.alloc ?_ (by first | omega | (simp <;> omega)) _ | refine Below.drew ?_ | refine below_drewN ?_ _ | exact hBz11)) (hb12.mono (by first | exact Nat.le_refl _ | (simp; done) | omega | (simp <;> omega))); (try (have F0x0 : DyV w12 (w11.heap.size) false false (.slice none 0 0) 0 := (by first | (refine DyV.below ?_ hb12; (repeat (first | exact F0x0.out | (refine DyV.made' _ _ _ _ _ _ ?_; first | rfl | (simp; done)) | with_reducible refine DyV.drew ?_ | with_reducible refine DyV.alloc ?_ _)); done) | fail); obtain ⟨F0x0c0, F0x0c1, F0x0c2, F0x0c3, F0x0c4, F0x0c5⟩ := F0x0; have F0x0 := Lib.hid (DyV.mk F0x0c0 F0x0c1 F0x0c2 F0x0c3 F0x0c4 F0x0c5))); (try (have F0x1 : DyV w12 (w11.heap.size + 1) false false (.slice none 0 0) 0 := (by first | (refine DyV.below ?_ hb12; (repeat (first | exact F0x1.out | (refine DyV.made' _ _ _ _ _ _ ?_; first | rfl | (simp; done)) | with_reducible refine DyV.drew ?_ | with_reducible refine DyV.alloc ?_ _)); done) | fail); obtain ⟨F0x1c0, F0x1c1, F0x1c2, F0x1c3, F0x1c4, F0x1c5⟩ := F0x1; have F0x1 := Lib.hid (DyV.mk F0x1c0 F0x1c1 F0x1c2 F0x1c3 F0x1c4 F0x1c5))))
        | fail)
    all_goals as_aux_lemma => (
      have ne0x1 : ¬ w11.heap.size = w11.heap.size + 1 := by omega
      have me0x1 : ¬ w11.heap.size + 1 = w11.heap.size := by omega
      (try have ne0x2 : ¬ w11.heap.size = w12.heap.size := by omega)
      (try have me0x2 : ¬ w12.heap.size = w11.heap.size := by omega)
      (try have ne0x3 : ¬ w11.heap.size = w12.heap.size + 1 := by omega)
      (try have me0x3 : ¬ w12.heap.size + 1 = w11.heap.size := by omega)
      (try have ne0x4 : ¬ w11.heap.size = w13.heap.size := by omega)
      (try have me0x4 : ¬ w13.heap.size = w11.heap.size := by omega)
      (try have ne0x5 : ¬ w11.heap.size = w13.heap.size + 1 := by omega)
      (try have me0x5 : ¬ w13.heap.size + 1 = w11.heap.size := by omega)
      (try have ne1x2 : ¬ w11.heap.size + 1 = w12.heap.size := by omega)
      (try have me1x2 : ¬ w12.heap.size = w11.heap.size + 1 := by omega)
      (try have ne1x3 : ¬ w11.heap.size + 1 = w12.heap.size + 1 := by omega)
      (try have me1x3 : ¬ w12.heap.size + 1 = w11.heap.size + 1 := by omega)
      (try have ne1x4 : ¬ w11.heap.size + 1 = w13.heap.size := by omega)
      (try have me1x4 : ¬ w13.heap.size = w11.heap.size + 1 := by omega)
      (try have ne1x5 : ¬ w11.heap.size + 1 = w13.heap.size + 1 := by omega)
      (try have me1x5 : ¬ w13.heap.size + 1 = w11.heap.size + 1 := by omega)
      have ne2x3 : ¬ w12.heap.size = w12.heap.size + 1 := by omega
      have me2x3 : ¬ w12.heap.size + 1 = w12.heap.size := by omega
      (try have ne2x4 : ¬ w12.heap.size = w13.heap.size := by omega)
      (try have me2x4 : ¬ w13.heap.size = w12.heap.size := by omega)
      (try have ne2x5 : ¬ w12.heap.size = w13.heap.size + 1 := by omega)
      (try have me2x5 : ¬ w13.heap.size + 1 = w12.heap.size := by omega)
      (try have ne3x4 : ¬ w12.heap.size + 1 = w13.heap.size := by omega)
      (try have me3x4 : ¬ w13.heap.size = w12.heap.size + 1 := by omega)
      (try have ne3x5 : ¬ w12.heap.size + 1 = w13.heap.size + 1 := by omega)
      (try have me3x5 : ¬ w13.heap.size + 1 = w12.heap.size + 1 := by omega)
      have ne4x5 : ¬ w13.heap.size = w13.heap.size + 1 := by omega
      have me4x5 : ¬ w13.heap.size + 1 = w13.heap.size := by omega
      go_wp2_with fail
      go_meet
      refine ⟨_, am, cm, _, au, cu, rfl, rfl, ?_, ⟨?_, ?_, ?_, ?_, ?_, ?_⟩, ?_, ⟨?_, ?_, ?_, ?_, ?_, ?_⟩, ?_⟩
      · exact (by have hszw := (hBz13).size; repeat (with_reducible first | refine Below.setCell ?_ (by first | omega | (simp <;> omega)) _ | refine Below.alloc ?_ (by first | omega | (simp <;> omega)) _ | refine Below.drew ?_ | refine below_drewN ?_ _ | exact hBz13))
      · go_simp
      · go_simp
      · go_simp
      · go_simp
      · intro i; go_simp
      · first | (simp; done) | omega | (simp <;> omega)
      · repeat (with_reducible first | refine Mag.set ?_ (fun h => by have := hf12 h; have := o12 h; first | omega | (simp; omega)) _ _ | refine Mag.drew ?_ | refine Mag.alloc ?_ _ | exact Mm13)
      · go_simp
      · go_simp
      · go_simp
      · go_simp
      · intro i; go_simp
      · first | (simp; done) | omega | (simp <;> omega)
      · repeat (with_reducible first | refine Mag.set ?_ (fun h => by have := hf13 h; have := o13 h; first | omega | (simp; omega)) _ _ | refine Mag.drew ?_ | refine Mag.alloc ?_ _ | exact Mu13))
  case rest =>
  obtain ⟨w12, hww⟩ : ∃ w12, w12 = wc := ⟨_, rfl⟩
  subst hww
  obtain ⟨zm, am, cm, zu, au, cu, rfl, rfl, hbz, Vm12, Mm12, Vu12, Mu12⟩ := hcut
  have Va12 : DyV w12 b0 bda sa (.slice aa na pa) ea := DyV.below Va11.out hbz
  (try clear ac0 ac1 ac2 ac3 ac4)
  obtain ⟨ac0, ac1, ac2, ac3, ac4, ac5⟩ := Va12
  have Va12 := Lib.hid (DyV.mk ac0 ac1 ac2 ac3 ac4 ac5)
  have Vl12 : DyV w12 zl (dbad dl) (decide (dman dl < 0)) (.slice al (nl (dman dl).natAbs) cl) (dexp dl) := DyV.below Vl11.out hbz
  (try clear lc0 lc1 lc2 lc3 lc4)
  obtain ⟨lc0, lc1, lc2, lc3, lc4, lc5⟩ := Vl12
  have Vl12 := Lib.hid (DyV.mk lc0 lc1 lc2 lc3 lc4 lc5)
  have Vh12 : DyV w12 zh (dbad dh) (decide (dman dh < 0)) (.slice ah (nl (dman dh).natAbs) ch) (dexp dh) := DyV.below Vh11.out hbz
  (try clear hc0 hc1 hc2 hc3 hc4)
  obtain ⟨hc0, hc1, hc2, hc3, hc4, hc5⟩ := Vh12
  have Vh12 := Lib.hid (DyV.mk hc0 hc1 hc2 hc3 hc4 hc5)
  have Vn12 : DyV w12 zn (dbad dn) (decide (dman dn < 0)) (.slice an (nl (dman dn).natAbs) cn) (dexp dn) := DyV.below Vn11.out hbz
  (try clear nc0 nc1 nc2 nc3 nc4)
  obtain ⟨nc0, nc1, nc2, nc3, nc4, nc5⟩ := Vn12
  have Vn12 := Lib.hid (DyV.mk nc0 nc1 nc2 nc3 nc4 nc5)
  have Vi12 : DyV w12 zi (dbad di) (decide (dman di < 0)) (.slice ai (nl (dman di).natAbs) ci) (dexp di) := DyV.below Vi11.out hbz
  (try clear ic0 ic1 ic2 ic3 ic4)
  obtain ⟨ic0, ic1, ic2, ic3, ic4, ic5⟩ := Vi12
  have Vi12 := Lib.hid (DyV.mk ic0 ic1 ic2 ic3 ic4 ic5)
  (try clear mc0 mc1 mc2 mc3 mc4)
  obtain ⟨mc0, mc1, mc2, mc3, mc4, mc5⟩ := Vm12
  have Vm12 := Lib.hid (DyV.mk mc0 mc1 mc2 mc3 mc4 mc5)
  (try clear uc0 uc1 uc2 uc3 uc4)
  obtain ⟨uc0, uc1, uc2, uc3, uc4, uc5⟩ := Vu12
  have Vu12 := Lib.hid (DyV.mk uc0 uc1 uc2 uc3 uc4 uc5)
  have Ml12 : Mag w12 al (nl (dman dl).natAbs) cl (dman dl).natAbs := Ml11.below hbz
  have Mh12 : Mag w12 ah (nl (dman dh).natAbs) ch (dman dh).natAbs := Mh11.below hbz
  have Mn12 : Mag w12 an (nl (dman dn).natAbs) cn (dman dn).natAbs := Mn11.below hbz
  have Mi12 : Mag w12 ai (nl (dman di).natAbs) ci (dman di).natAbs := Mi11.below hbz
  have B12 := below_box (w := w) B11 hbz
  clear hbz
  go_wp2_with fail
  refine (H9 _ am cm (by repeat (with_reducible first | refine Mag.set ?_ (fun h => by have := Mm12 h; omega) _ _ | refine Mag.drew ?_ | refine Mag.alloc ?_ _ | refine Mag.drewN ?_ _ | exact Mm12)) au cu (by repeat (with_reducible first | refine Mag.set ?_ (fun h => by have := Mu12 h; omega) _ _ | refine Mag.drew ?_ | refine Mag.alloc ?_ _ | refine Mag.drewN ?_ _ | exact Mu12)) (hT.below (by have hszw := (B12).size; repeat (with_reducible first | refine Below.setCell ?_ (by first | omega | (simp <;> omega)) _ | refine Below.alloc ?_ (by first | omega | (simp <;> omega)) _ | refine Below.drew ?_ | refine below_drewN ?_ _ | exact B12)))).out.mono ?_
  rintro e w13 ⟨rfl, hb13⟩
  have Va13 : DyV w13 b0 bda sa (.slice aa na pa) ea := (by refine DyV.below ?_ hb13; (repeat (with_reducible first | refine DyV.drew ?_ | refine DyV.drewN ?_ _ | refine DyV.alloc ?_ _)); exact Va12.out)
  (try clear ac0 ac1 ac2 ac3 ac4)
  obtain ⟨ac0, ac1, ac2, ac3, ac4, ac5⟩ := Va13
  have Va13 := Lib.hid (DyV.mk ac0 ac1 ac2 ac3 ac4 ac5)
  have Vl13 : DyV w13 zl (dbad dl) (decide (dman dl < 0)) (.slice al (nl (dman dl).natAbs) cl) (dexp dl) := (by refine DyV.below ?_ hb13; (repeat (with_reducible first | refine DyV.drew ?_ | refine DyV.drewN ?_ _ | refine DyV.alloc ?_ _)); exact Vl12.out)
  (try clear lc0 lc1 lc2 lc3 lc4)
  obtain ⟨lc0, lc1, lc2, lc3, lc4, lc5⟩ := Vl13
  have Vl13 := Lib.hid (DyV.mk lc0 lc1 lc2 lc3 lc4 lc5)
  have Vh13 : DyV w13 zh (dbad dh) (decide (dman dh < 0)) (.slice ah (nl (dman dh).natAbs) ch) (dexp dh) := (by refine DyV.below ?_ hb13; (repeat (with_reducible first | refine DyV.drew ?_ | refine DyV.drewN ?_ _ | refine DyV.alloc ?_ _)); exact Vh12.out)
  (try clear hc0 hc1 hc2 hc3 hc4)
  obtain ⟨hc0, hc1, hc2, hc3, hc4, hc5⟩ := Vh13
  have Vh13 := Lib.hid (DyV.mk hc0 hc1 hc2 hc3 hc4 hc5)
  have Vn13 : DyV w13 zn (dbad dn) (decide (dman dn < 0)) (.slice an (nl (dman dn).natAbs) cn) (dexp dn) := (by refine DyV.below ?_ hb13; (repeat (with_reducible first | refine DyV.drew ?_ | refine DyV.drewN ?_ _ | refine DyV.alloc ?_ _)); exact Vn12.out)
  (try clear nc0 nc1 nc2 nc3 nc4)
  obtain ⟨nc0, nc1, nc2, nc3, nc4, nc5⟩ := Vn13
  have Vn13 := Lib.hid (DyV.mk nc0 nc1 nc2 nc3 nc4 nc5)
  have Vi13 : DyV w13 zi (dbad di) (decide (dman di < 0)) (.slice ai (nl (dman di).natAbs) ci) (dexp di) := (by refine DyV.below ?_ hb13; (repeat (with_reducible first | refine DyV.drew ?_ | refine DyV.drewN ?_ _ | refine DyV.alloc ?_ _)); exact Vi12.out)
  (try clear ic0 ic1 ic2 ic3 ic4)
  obtain ⟨ic0, ic1, ic2, ic3, ic4, ic5⟩ := Vi13
  have Vi13 := Lib.hid (DyV.mk ic0 ic1 ic2 ic3 ic4 ic5)
  have Vm13 : DyV w13 zm (dbad dm) (decide (dman dm < 0)) (.slice am (nl (dman dm).natAbs) cm) (dexp dm) := (by refine DyV.below ?_ hb13; (repeat (with_reducible first | refine DyV.drew ?_ | refine DyV.drewN ?_ _ | refine DyV.alloc ?_ _)); exact Vm12.out)
  (try clear mc0 mc1 mc2 mc3 mc4)
  obtain ⟨mc0, mc1, mc2, mc3, mc4, mc5⟩ := Vm13
  have Vm13 := Lib.hid (DyV.mk mc0 mc1 mc2 mc3 mc4 mc5)
  have Vu13 : DyV w13 zu (dbad du) (decide (dman du < 0)) (.slice au (nl (dman du).natAbs) cu) (dexp du) := (by refine DyV.below ?_ hb13; (repeat (with_reducible first | refine DyV.drew ?_ | refine DyV.drewN ?_ _ | refine DyV.alloc ?_ _)); exact Vu12.out)
  (try clear uc0 uc1 uc2 uc3 uc4)
  obtain ⟨uc0, uc1, uc2, uc3, uc4, uc5⟩ := Vu13
  have Vu13 := Lib.hid (DyV.mk uc0 uc1 uc2 uc3 uc4 uc5)
  have Ml13 : Mag w13 al (nl (dman dl).natAbs) cl (dman dl).natAbs := Mag.below (by repeat (with_reducible first | refine Mag.set ?_ (fun h => by have := Ml12 h; omega) _ _ | refine Mag.drew ?_ | refine Mag.alloc ?_ _ | refine Mag.drewN ?_ _ | exact Ml12)) hb13
  have Mh13 : Mag w13 ah (nl (dman dh).natAbs) ch (dman dh).natAbs := Mag.below (by repeat (with_reducible first | refine Mag.set ?_ (fun h => by have := Mh12 h; omega) _ _ | refine Mag.drew ?_ | refine Mag.alloc ?_ _ | refine Mag.drewN ?_ _ | exact Mh12)) hb13
  have Mn13 : Mag w13 an (nl (dman dn).natAbs) cn (dman dn).natAbs := Mag.below (by repeat (with_reducible first | refine Mag.set ?_ (fun h => by have := Mn12 h; omega) _ _ | refine Mag.drew ?_ | refine Mag.alloc ?_ _ | refine Mag.drewN ?_ _ | exact Mn12)) hb13
  have Mi13 : Mag w13 ai (nl (dman di).natAbs) ci (dman di).natAbs := Mag.below (by repeat (with_reducible first | refine Mag.set ?_ (fun h => by have := Mi12 h; omega) _ _ | refine Mag.drew ?_ | refine Mag.alloc ?_ _ | refine Mag.drewN ?_ _ | exact Mi12)) hb13
  have Mm13 : Mag w13 am (nl (dman dm).natAbs) cm (dman dm).natAbs := Mag.below (by repeat (with_reducible first | refine Mag.set ?_ (fun h => by have := Mm12 h; omega) _ _ | refine Mag.drew ?_ | refine Mag.alloc ?_ _ | refine Mag.drewN ?_ _ | exact Mm12)) hb13
  have Mu13 : Mag w13 au (nl (dman du).natAbs) cu (dman du).natAbs := Mag.below (by repeat (with_reducible first | refine Mag.set ?_ (fun h => by have := Mu12 h; omega) _ _ | refine Mag.drew ?_ | refine Mag.alloc ?_ _ | refine Mag.drewN ?_ _ | exact Mu12)) hb13
  have B13 := below_box (w := w) (by have hszw := (B12).size; repeat (with_reducible first | refine Below.setCell ?_ (by first | omega | (simp <;> omega)) _ | refine Below.alloc ?_ (by first | omega | (simp <;> omega)) _ | refine Below.drew ?_ | refine below_drewN ?_ _ | exact B12)) hb13
  clear hb13
  obtain ⟨k1, k2, k3, k4, k5⟩ := KK.out
  clear KK
  have hc := Hhc.out
  clear Hhc
  have hsl := Hhsl.out
  clear Hhsl
  have hc1 : decide (c < 0) = false := by simp; omega
  have hc2 : decide (0 < c) = false := by simp; omega
  clear hc
  subst hsl
  go_wp2_with fail
  refine (H10 _ an cn (by repeat (with_reducible first | refine Mag.set ?_ (fun h => by have := Mn13 h; omega) _ _ | refine Mag.drew ?_ | refine Mag.alloc ?_ _ | refine Mag.drewN ?_ _ | exact Mn13)) al cl (by repeat (with_reducible first | refine Mag.set ?_ (fun h => by have := Ml13 h; omega) _ _ | refine Mag.drew ?_ | refine Mag.alloc ?_ _ | refine Mag.drewN ?_ _ | exact Ml13)) (hT.below (by have hszw := (B13).size; repeat (with_reducible first | refine Below.setCell ?_ (by first | omega | (simp <;> omega)) _ | refine Below.alloc ?_ (by first | omega | (simp <;> omega)) _ | refine Below.drew ?_ | refine below_drewN ?_ _ | exact B13)))).out.mono ?_
  rintro e w14 ⟨rfl, hb14⟩
  have Va14 : DyV w14 b0 bda sa (.slice aa na pa) ea := (by refine DyV.below ?_ hb14; (repeat (with_reducible first | refine DyV.drew ?_ | refine DyV.drewN ?_ _ | refine DyV.alloc ?_ _)); exact Va13.out)
  (try clear ac0 ac1 ac2 ac3 ac4)
  obtain ⟨ac0, ac1, ac2, ac3, ac4, ac5⟩ := Va14
  have Va14 := Lib.hid (DyV.mk ac0 ac1 ac2 ac3 ac4 ac5)
  have Vl14 : DyV w14 zl (dbad dl) (decide (dman dl < 0)) (.slice al (nl (dman dl).natAbs) cl) (dexp dl) := (by refine DyV.below ?_ hb14; (repeat (with_reducible first | refine DyV.drew ?_ | refine DyV.drewN ?_ _ | refine DyV.alloc ?_ _)); exact Vl13.out)
  (try clear lc0 lc1 lc2 lc3 lc4)
  obtain ⟨lc0, lc1, lc2, lc3, lc4, lc5⟩ := Vl14
  have Vl14 := Lib.hid (DyV.mk lc0 lc1 lc2 lc3 lc4 lc5)
  have Vh14 : DyV w14 zh (dbad dh) (decide (dman dh < 0)) (.slice ah (nl (dman dh).natAbs) ch) (dexp dh) := (by refine DyV.below ?_ hb14; (repeat (with_reducible first | refine DyV.drew ?_ | refine DyV.drewN ?_ _ | refine DyV.alloc ?_ _)); exact Vh13.out)
  (try clear hc0 hc1 hc2 hc3 hc4)
  obtain ⟨hc0, hc1, hc2, hc3, hc4, hc5⟩ := Vh14
  have Vh14 := Lib.hid (DyV.mk hc0 hc1 hc2 hc3 hc4 hc5)
  have Vn14 : DyV w14 zn (dbad dn) (decide (dman dn < 0)) (.slice an (nl (dman dn).natAbs) cn) (dexp dn) := (by refine DyV.below ?_ hb14; (repeat (with_reducible first | refine DyV.drew ?_ | refine DyV.drewN ?_ _ | refine DyV.alloc ?_ _)); exact Vn13.out)
  (try clear nc0 nc1 nc2 nc3 nc4)
  obtain ⟨nc0, nc1, nc2, nc3, nc4, nc5⟩ := Vn14
  have Vn14 := Lib.hid (DyV.mk nc0 nc1 nc2 nc3 nc4 nc5)
  have Vi14 : DyV w14 zi (dbad di) (decide (dman di < 0)) (.slice ai (nl (dman di).natAbs) ci) (dexp di) := (by refine DyV.below ?_ hb14; (repeat (with_reducible first | refine DyV.drew ?_ | refine DyV.drewN ?_ _ | refine DyV.alloc ?_ _)); exact Vi13.out)
  (try clear ic0 ic1 ic2 ic3 ic4)
  obtain ⟨ic0, ic1, ic2, ic3, ic4, ic5⟩ := Vi14
  have Vi14 := Lib.hid (DyV.mk ic0 ic1 ic2 ic3 ic4 ic5)
  have Ml14 : Mag w14 al (nl (dman dl).natAbs) cl (dman dl).natAbs := Mag.below (by repeat (with_reducible first | refine Mag.set ?_ (fun h => by have := Ml13 h; omega) _ _ | refine Mag.drew ?_ | refine Mag.alloc ?_ _ | refine Mag.drewN ?_ _ | exact Ml13)) hb14
  have Mh14 : Mag w14 ah (nl (dman dh).natAbs) ch (dman dh).natAbs := Mag.below (by repeat (with_reducible first | refine Mag.set ?_ (fun h => by have := Mh13 h; omega) _ _ | refine Mag.drew ?_ | refine Mag.alloc ?_ _ | refine Mag.drewN ?_ _ | exact Mh13)) hb14
  have Mn14 : Mag w14 an (nl (dman dn).natAbs) cn (dman dn).natAbs := Mag.below (by repeat (with_reducible first | refine Mag.set ?_ (fun h => by have := Mn13 h; omega) _ _ | refine Mag.drew ?_ | refine Mag.alloc ?_ _ | refine Mag.drewN ?_ _ | exact Mn13)) hb14
  have Mi14 : Mag w14 ai (nl (dman di).natAbs) ci (dman di).natAbs := Mag.below (by repeat (with_reducible first | refine Mag.set ?_ (fun h => by have := Mi13 h; omega) _ _ | refine Mag.drew ?_ | refine Mag.alloc ?_ _ | refine Mag.drewN ?_ _ | exact Mi13)) hb14
  have B14 := below_box (w := w) (by have hszw := (B13).size; repeat (with_reducible first | refine Below.setCell ?_ (by first | omega | (simp <;> omega)) _ | refine Below.alloc ?_ (by first | omega | (simp <;> omega)) _ | refine Below.drew ?_ | refine below_drewN ?_ _ | exact B13)) hb14
  clear hb14
  go_wp2_with fail
  refine (H14 _ (Ga.out.1.below (by have hszw := (B14).size; repeat (with_reducible first | refine Below.setCell ?_ (by first | omega | (simp <;> omega)) _ | refine Below.alloc ?_ (by first | omega | (simp <;> omega)) _ | refine Below.drew ?_ | refine below_drewN ?_ _ | exact B14))) (hT.below (by have hszw := (B14).size; repeat (with_reducible first | refine Below.setCell ?_ (by first | omega | (simp <;> omega)) _ | refine Below.alloc ?_ (by first | omega | (simp <;> omega)) _ | refine Below.drew ?_ | refine below_drewN ?_ _ | exact B14)))).out.mono ?_
  rintro e w15 ⟨rfl, hb15⟩
  have Va15 : DyV w15 b0 bda sa (.slice aa na pa) ea := (by refine DyV.below ?_ hb15; (repeat (with_reducible first | refine DyV.drew ?_ | refine DyV.drewN ?_ _ | refine DyV.alloc ?_ _)); exact Va14.out)
  (try clear ac0 ac1 ac2 ac3 ac4)
  obtain ⟨ac0, ac1, ac2, ac3, ac4, ac5⟩ := Va15
  have Va15 := Lib.hid (DyV.mk ac0 ac1 ac2 ac3 ac4 ac5)
  have Vl15 : DyV w15 zl (dbad dl) (decide (dman dl < 0)) (.slice al (nl (dman dl).natAbs) cl) (dexp dl) := (by refine DyV.below ?_ hb15; (repeat (with_reducible first | refine DyV.drew ?_ | refine DyV.drewN ?_ _ | refine DyV.alloc ?_ _)); exact Vl14.out)
  (try clear lc0 lc1 lc2 lc3 lc4)
  obtain ⟨lc0, lc1, lc2, lc3, lc4, lc5⟩ := Vl15
  have Vl15 := Lib.hid (DyV.mk lc0 lc1 lc2 lc3 lc4 lc5)
  have Vh15 : DyV w15 zh (dbad dh) (decide (dman dh < 0)) (.slice ah (nl (dman dh).natAbs) ch) (dexp dh) := (by refine DyV.below ?_ hb15; (repeat (with_reducible first | refine DyV.drew ?_ | refine DyV.drewN ?_ _ | refine DyV.alloc ?_ _)); exact Vh14.out)
  (try clear hc0 hc1 hc2 hc3 hc4)
  obtain ⟨hc0, hc1, hc2, hc3, hc4, hc5⟩ := Vh15
  have Vh15 := Lib.hid (DyV.mk hc0 hc1 hc2 hc3 hc4 hc5)
  have Vn15 : DyV w15 zn (dbad dn) (decide (dman dn < 0)) (.slice an (nl (dman dn).natAbs) cn) (dexp dn) := (by refine DyV.below ?_ hb15; (repeat (with_reducible first | refine DyV.drew ?_ | refine DyV.drewN ?_ _ | refine DyV.alloc ?_ _)); exact Vn14.out)
  (try clear nc0 nc1 nc2 nc3 nc4)
  obtain ⟨nc0, nc1, nc2, nc3, nc4, nc5⟩ := Vn15
  have Vn15 := Lib.hid (DyV.mk nc0 nc1 nc2 nc3 nc4 nc5)
  have Vi15 : DyV w15 zi (dbad di) (decide (dman di < 0)) (.slice ai (nl (dman di).natAbs) ci) (dexp di) := (by refine DyV.below ?_ hb15; (repeat (with_reducible first | refine DyV.drew ?_ | refine DyV.drewN ?_ _ | refine DyV.alloc ?_ _)); exact Vi14.out)
  (try clear ic0 ic1 ic2 ic3 ic4)
  obtain ⟨ic0, ic1, ic2, ic3, ic4, ic5⟩ := Vi15
  have Vi15 := Lib.hid (DyV.mk ic0 ic1 ic2 ic3 ic4 ic5)
  have Ml15 : Mag w15 al (nl (dman dl).natAbs) cl (dman dl).natAbs := Mag.below (by repeat (with_reducible first | refine Mag.set ?_ (fun h => by have := Ml14 h; omega) _ _ | refine Mag.drew ?_ | refine Mag.alloc ?_ _ | refine Mag.drewN ?_ _ | exact Ml14)) hb15
  have Mh15 : Mag w15 ah (nl (dman dh).natAbs) ch (dman dh).natAbs := Mag.below (by repeat (with_reducible first | refine Mag.set ?_ (fun h => by have := Mh14 h; omega) _ _ | refine Mag.drew ?_ | refine Mag.alloc ?_ _ | refine Mag.drewN ?_ _ | exact Mh14)) hb15
  have Mn15 : Mag w15 an (nl (dman dn).natAbs) cn (dman dn).natAbs := Mag.below (by repeat (with_reducible first | refine Mag.set ?_ (fun h => by have := Mn14 h; omega) _ _ | refine Mag.drew ?_ | refine Mag.alloc ?_ _ | refine Mag.drewN ?_ _ | exact Mn14)) hb15
  have Mi15 : Mag w15 ai (nl (dman di).natAbs) ci (dman di).natAbs := Mag.below (by repeat (with_reducible first | refine Mag.set ?_ (fun h => by have := Mi14 h; omega) _ _ | refine Mag.drew ?_ | refine Mag.alloc ?_ _ | refine Mag.drewN ?_ _ | exact Mi14)) hb15
  have B15 := below_box (w := w) (by have hszw := (B14).size; repeat (with_reducible first | refine Below.setCell ?_ (by first | omega | (simp <;> omega)) _ | refine Below.alloc ?_ (by first | omega | (simp <;> omega)) _ | refine Below.drew ?_ | refine below_drewN ?_ _ | exact B14)) hb15
  clear hb15
  by_cases hg : g < 0
  · have hg1 : decide (g < 0) = true := by simpa using hg
    have hv := k4 (by omega)
    subst hv
    go_wp2_with fail
    refine (H12 _ ai ci (by repeat (with_reducible first | refine Mag.set ?_ (fun h => by have := Mi15 h; omega) _ _ | refine Mag.drew ?_ | refine Mag.alloc ?_ _ | refine Mag.drewN ?_ _ | exact Mi15)) ah ch (by repeat (with_reducible first | refine Mag.set ?_ (fun h => by have := Mh15 h; omega) _ _ | refine Mag.drew ?_ | refine Mag.alloc ?_ _ | refine Mag.drewN ?_ _ | exact Mh15)) (hT.below (by have hszw := (B15).size; repeat (with_reducible first | refine Below.setCell ?_ (by first | omega | (simp <;> omega)) _ | refine Below.alloc ?_ (by first | omega | (simp <;> omega)) _ | refine Below.drew ?_ | refine below_drewN ?_ _ | exact B15)))).out.mono ?_
    rintro e w16 ⟨rfl, hb16⟩
    have Va16 : DyV w16 b0 bda sa (.slice aa na pa) ea := (by refine DyV.below ?_ hb16; (repeat (with_reducible first | refine DyV.drew ?_ | refine DyV.drewN ?_ _ | refine DyV.alloc ?_ _)); exact Va15.out)
    (try clear ac0 ac1 ac2 ac3 ac4)
    obtain ⟨ac0, ac1, ac2, ac3, ac4, ac5⟩ := Va16
    have Va16 := Lib.hid (DyV.mk ac0 ac1 ac2 ac3 ac4 ac5)
    have Vl16 : DyV w16 zl (dbad dl) (decide (dman dl < 0)) (.slice al (nl (dman dl).natAbs) cl) (dexp dl) := (by refine DyV.below ?_ hb16; (repeat (with_reducible first | refine DyV.drew ?_ | refine DyV.drewN ?_ _ | refine DyV.alloc ?_ _)); exact Vl15.out)
    (try clear lc0 lc1 lc2 lc3 lc4)
    obtain ⟨lc0, lc1, lc2, lc3, lc4, lc5⟩ := Vl16
    have Vl16 := Lib.hid (DyV.mk lc0 lc1 lc2 lc3 lc4 lc5)
    have Vh16 : DyV w16 zh (dbad dh) (decide (dman dh < 0)) (.slice ah (nl (dman dh).natAbs) ch) (dexp dh) := (by refine DyV.below ?_ hb16; (repeat (with_reducible first | refine DyV.drew ?_ | refine DyV.drewN ?_ _ | refine DyV.alloc ?_ _)); exact Vh15.out)
    (try clear hc0 hc1 hc2 hc3 hc4)
    obtain ⟨hc0, hc1, hc2, hc3, hc4, hc5⟩ := Vh16
    have Vh16 := Lib.hid (DyV.mk hc0 hc1 hc2 hc3 hc4 hc5)
    have Vn16 : DyV w16 zn (dbad dn) (decide (dman dn < 0)) (.slice an (nl (dman dn).natAbs) cn) (dexp dn) := (by refine DyV.below ?_ hb16; (repeat (with_reducible first | refine DyV.drew ?_ | refine DyV.drewN ?_ _ | refine DyV.alloc ?_ _)); exact Vn15.out)
    (try clear nc0 nc1 nc2 nc3 nc4)
    obtain ⟨nc0, nc1, nc2, nc3, nc4, nc5⟩ := Vn16
    have Vn16 := Lib.hid (DyV.mk nc0 nc1 nc2 nc3 nc4 nc5)
    have Vi16 : DyV w16 zi (dbad di) (decide (dman di < 0)) (.slice ai (nl (dman di).natAbs) ci) (dexp di) := (by refine DyV.below ?_ hb16; (repeat (with_reducible first | refine DyV.drew ?_ | refine DyV.drewN ?_ _ | refine DyV.alloc ?_ _)); exact Vi15.out)
    (try clear ic0 ic1 ic2 ic3 ic4)
    obtain ⟨ic0, ic1, ic2, ic3, ic4, ic5⟩ := Vi16
    have Vi16 := Lib.hid (DyV.mk ic0 ic1 ic2 ic3 ic4 ic5)
    have Ml16 : Mag w16 al (nl (dman dl).natAbs) cl (dman dl).natAbs := Mag.below (by repeat (with_reducible first | refine Mag.set ?_ (fun h => by have := Ml15 h; omega) _ _ | refine Mag.drew ?_ | refine Mag.alloc ?_ _ | refine Mag.drewN ?_ _ | exact Ml15)) hb16
    have Mh16 : Mag w16 ah (nl (dman dh).natAbs) ch (dman dh).natAbs := Mag.below (by repeat (with_reducible first | refine Mag.set ?_ (fun h => by have := Mh15 h; omega) _ _ | refine Mag.drew ?_ | refine Mag.alloc ?_ _ | refine Mag.drewN ?_ _ | exact Mh15)) hb16
    have Mn16 : Mag w16 an (nl (dman dn).natAbs) cn (dman dn).natAbs := Mag.below (by repeat (with_reducible first | refine Mag.set ?_ (fun h => by have := Mn15 h; omega) _ _ | refine Mag.drew ?_ | refine Mag.alloc ?_ _ | refine Mag.drewN ?_ _ | exact Mn15)) hb16
    have Mi16 : Mag w16 ai (nl (dman di).natAbs) ci (dman di).natAbs := Mag.below (by repeat (with_reducible first | refine Mag.set ?_ (fun h => by have := Mi15 h; omega) _ _ | refine Mag.drew ?_ | refine Mag.alloc ?_ _ | refine Mag.drewN ?_ _ | exact Mi15)) hb16
    have B16 := below_box (w := w) (by have hszw := (B15).size; repeat (with_reducible first | refine Below.setCell ?_ (by first | omega | (simp <;> omega)) _ | refine Below.alloc ?_ (by first | omega | (simp <;> omega)) _ | refine Below.drew ?_ | refine below_drewN ?_ _ | exact B15)) hb16
    clear hb16
    go_wp2_with fail
    refine (HW _ (hT.below (by have hszw := (B16).size; repeat (with_reducible first | refine Below.setCell ?_ (by first | omega | (simp <;> omega)) _ | refine Below.alloc ?_ (by first | omega | (simp <;> omega)) _ | refine Below.drew ?_ | refine below_drewN ?_ _ | exact B16)))).out.mono ?_
    rintro e w17 ⟨rfl, hb17⟩
    have Va17 : DyV w17 b0 bda sa (.slice aa na pa) ea := (by refine DyV.below ?_ hb17; (repeat (with_reducible first | refine DyV.drew ?_ | refine DyV.drewN ?_ _ | refine DyV.alloc ?_ _)); exact Va16.out)
    (try clear ac0 ac1 ac2 ac3 ac4)
    obtain ⟨ac0, ac1, ac2, ac3, ac4, ac5⟩ := Va17
    have Va17 := Lib.hid (DyV.mk ac0 ac1 ac2 ac3 ac4 ac5)
    have Vl17 : DyV w17 zl (dbad dl) (decide (dman dl < 0)) (.slice al (nl (dman dl).natAbs) cl) (dexp dl) := (by refine DyV.below ?_ hb17; (repeat (with_reducible first | refine DyV.drew ?_ | refine DyV.drewN ?_ _ | refine DyV.alloc ?_ _)); exact Vl16.out)
    (try clear lc0 lc1 lc2 lc3 lc4)
    obtain ⟨lc0, lc1, lc2, lc3, lc4, lc5⟩ := Vl17
    have Vl17 := Lib.hid (DyV.mk lc0 lc1 lc2 lc3 lc4 lc5)
    have Vh17 : DyV w17 zh (dbad dh) (decide (dman dh < 0)) (.slice ah (nl (dman dh).natAbs) ch) (dexp dh) := (by refine DyV.below ?_ hb17; (repeat (with_reducible first | refine DyV.drew ?_ | refine DyV.drewN ?_ _ | refine DyV.alloc ?_ _)); exact Vh16.out)
    (try clear hc0 hc1 hc2 hc3 hc4)
    obtain ⟨hc0, hc1, hc2, hc3, hc4, hc5⟩ := Vh17
    have Vh17 := Lib.hid (DyV.mk hc0 hc1 hc2 hc3 hc4 hc5)
    have Vn17 : DyV w17 zn (dbad dn) (decide (dman dn < 0)) (.slice an (nl (dman dn).natAbs) cn) (dexp dn) := (by refine DyV.below ?_ hb17; (repeat (with_reducible first | refine DyV.drew ?_ | refine DyV.drewN ?_ _ | refine DyV.alloc ?_ _)); exact Vn16.out)
    (try clear nc0 nc1 nc2 nc3 nc4)
    obtain ⟨nc0, nc1, nc2, nc3, nc4, nc5⟩ := Vn17
    have Vn17 := Lib.hid (DyV.mk nc0 nc1 nc2 nc3 nc4 nc5)
    have Vi17 : DyV w17 zi (dbad di) (decide (dman di < 0)) (.slice ai (nl (dman di).natAbs) ci) (dexp di) := (by refine DyV.below ?_ hb17; (repeat (with_reducible first | refine DyV.drew ?_ | refine DyV.drewN ?_ _ | refine DyV.alloc ?_ _)); exact Vi16.out)
    (try clear ic0 ic1 ic2 ic3 ic4)
    obtain ⟨ic0, ic1, ic2, ic3, ic4, ic5⟩ := Vi17
    have Vi17 := Lib.hid (DyV.mk ic0 ic1 ic2 ic3 ic4 ic5)
    have Ml17 : Mag w17 al (nl (dman dl).natAbs) cl (dman dl).natAbs := Mag.below (by repeat (with_reducible first | refine Mag.set ?_ (fun h => by have := Ml16 h; omega) _ _ | refine Mag.drew ?_ | refine Mag.alloc ?_ _ | refine Mag.drewN ?_ _ | exact Ml16)) hb17
    have Mh17 : Mag w17 ah (nl (dman dh).natAbs) ch (dman dh).natAbs := Mag.below (by repeat (with_reducible first | refine Mag.set ?_ (fun h => by have := Mh16 h; omega) _ _ | refine Mag.drew ?_ | refine Mag.alloc ?_ _ | refine Mag.drewN ?_ _ | exact Mh16)) hb17
    have Mn17 : Mag w17 an (nl (dman dn).natAbs) cn (dman dn).natAbs := Mag.below (by repeat (with_reducible first | refine Mag.set ?_ (fun h => by have := Mn16 h; omega) _ _ | refine Mag.drew ?_ | refine Mag.alloc ?_ _ | refine Mag.drewN ?_ _ | exact Mn16)) hb17
    have Mi17 : Mag w17 ai (nl (dman di).natAbs) ci (dman di).natAbs := Mag.below (by repeat (with_reducible first | refine Mag.set ?_ (fun h => by have := Mi16 h; omega) _ _ | refine Mag.drew ?_ | refine Mag.alloc ?_ _ | refine Mag.drewN ?_ _ | exact Mi16)) hb17
    have B17 := below_box (w := w) (by have hszw := (B16).size; repeat (with_reducible first | refine Below.setCell ?_ (by first | omega | (simp <;> omega)) _ | refine Below.alloc ?_ (by first | omega | (simp <;> omega)) _ | refine Below.drew ?_ | refine below_drewN ?_ _ | exact B16)) hb17
    clear hb17
    go_wp2_with fail
    go_ret
    exact ⟨rfl, (by have hszw := (B17).size; repeat (with_reducible first | refine Below.setCell ?_ (by first | omega | (simp <;> omega)) _ | refine Below.alloc ?_ (by first | omega | (simp <;> omega)) _ | refine Below.drew ?_ | refine below_drewN ?_ _ | exact B17))⟩
  · have hg1 : decide (g < 0) = false := by simpa using hg
    have hv := k5 (by omega)
    subst hv
    go_wp2_with fail
    refine (H13 _ ai ci (by repeat (with_reducible first | refine Mag.set ?_ (fun h => by have := Mi15 h; omega) _ _ | refine Mag.drew ?_ | refine Mag.alloc ?_ _ | refine Mag.drewN ?_ _ | exact Mi15)) al cl (by repeat (with_reducible first | refine Mag.set ?_ (fun h => by have := Ml15 h; omega) _ _ | refine Mag.drew ?_ | refine Mag.alloc ?_ _ | refine Mag.drewN ?_ _ | exact Ml15)) (hT.below (by have hszw := (B15).size; repeat (with_reducible first | refine Below.setCell ?_ (by first | omega | (simp <;> omega)) _ | refine Below.alloc ?_ (by first | omega | (simp <;> omega)) _ | refine Below.drew ?_ | refine below_drewN ?_ _ | exact B15)))).out.mono ?_
    rintro e w16 ⟨rfl, hb16⟩
    have Va16 : DyV w16 b0 bda sa (.slice aa na pa) ea := (by refine DyV.below ?_ hb16; (repeat (with_reducible first | refine DyV.drew ?_ | refine DyV.drewN ?_ _ | refine DyV.alloc ?_ _)); exact Va15.out)
    (try clear ac0 ac1 ac2 ac3 ac4)
    obtain ⟨ac0, ac1, ac2, ac3, ac4, ac5⟩ := Va16
    have Va16 := Lib.hid (DyV.mk ac0 ac1 ac2 ac3 ac4 ac5)
    have Vl16 : DyV w16 zl (dbad dl) (decide (dman dl < 0)) (.slice al (nl (dman dl).natAbs) cl) (dexp dl) := (by refine DyV.below ?_ hb16; (repeat (with_reducible first | refine DyV.drew ?_ | refine DyV.drewN ?_ _ | refine DyV.alloc ?_ _)); exact Vl15.out)
    (try clear lc0 lc1 lc2 lc3 lc4)
    obtain ⟨lc0, lc1, lc2, lc3, lc4, lc5⟩ := Vl16
    have Vl16 := Lib.hid (DyV.mk lc0 lc1 lc2 lc3 lc4 lc5)
    have Vh16 : DyV w16 zh (dbad dh) (decide (dman dh < 0)) (.slice ah (nl (dman dh).natAbs) ch) (dexp dh) := (by refine DyV.below ?_ hb16; (repeat (with_reducible first | refine DyV.drew ?_ | refine DyV.drewN ?_ _ | refine DyV.alloc ?_ _)); exact Vh15.out)
    (try clear hc0 hc1 hc2 hc3 hc4)
    obtain ⟨hc0, hc1, hc2, hc3, hc4, hc5⟩ := Vh16
    have Vh16 := Lib.hid (DyV.mk hc0 hc1 hc2 hc3 hc4 hc5)
    have Vn16 : DyV w16 zn (dbad dn) (decide (dman dn < 0)) (.slice an (nl (dman dn).natAbs) cn) (dexp dn) := (by refine DyV.below ?_ hb16; (repeat (with_reducible first | refine DyV.drew ?_ | refine DyV.drewN ?_ _ | refine DyV.alloc ?_ _)); exact Vn15.out)
    (try clear nc0 nc1 nc2 nc3 nc4)
    obtain ⟨nc0, nc1, nc2, nc3, nc4, nc5⟩ := Vn16
    have Vn16 := Lib.hid (DyV.mk nc0 nc1 nc2 nc3 nc4 nc5)
    have Vi16 : DyV w16 zi (dbad di) (decide (dman di < 0)) (.slice ai (nl (dman di).natAbs) ci) (dexp di) := (by refine DyV.below ?_ hb16; (repeat (with_reducible first | refine DyV.drew ?_ | refine DyV.drewN ?_ _ | refine DyV.alloc ?_ _)); exact Vi15.out)
    (try clear ic0 ic1 ic2 ic3 ic4)
    obtain ⟨ic0, ic1, ic2, ic3, ic4, ic5⟩ := Vi16
    have Vi16 := Lib.hid (DyV.mk ic0 ic1 ic2 ic3 ic4 ic5)
    have Ml16 : Mag w16 al (nl (dman dl).natAbs) cl (dman dl).natAbs := Mag.below (by repeat (with_reducible first | refine Mag.set ?_ (fun h => by have := Ml15 h; omega) _ _ | refine Mag.drew ?_ | refine Mag.alloc ?_ _ | refine Mag.drewN ?_ _ | exact Ml15)) hb16
    have Mh16 : Mag w16 ah (nl (dman dh).natAbs) ch (dman dh).natAbs := Mag.below (by repeat (with_reducible first | refine Mag.set ?_ (fun h => by have := Mh15 h; omega) _ _ | refine Mag.drew ?_ | refine Mag.alloc ?_ _ | refine Mag.drewN ?_ _ | exact Mh15)) hb16
    have Mn16 : Mag w16 an (nl (dman dn).natAbs) cn (dman dn).natAbs := Mag.below (by repeat (with_reducible first | refine Mag.set ?_ (fun h => by have := Mn15 h; omega) _ _ | refine Mag.drew ?_ | refine Mag.alloc ?_ _ | refine Mag.drewN ?_ _ | exact Mn15)) hb16
    have Mi16 : Mag w16 ai (nl (dman di).natAbs) ci (dman di).natAbs := Mag.below (by repeat (with_reducible first | refine Mag.set ?_ (fun h => by have := Mi15 h; omega) _ _ | refine Mag.drew ?_ | refine Mag.alloc ?_ _ | refine Mag.drewN ?_ _ | exact Mi15)) hb16
    have B16 := below_box (w := w) (by have hszw := (B15).size; repeat (with_reducible first | refine Below.setCell ?_ (by first | omega | (simp <;> omega)) _ | refine Below.alloc ?_ (by first | omega | (simp <;> omega)) _ | refine Below.drew ?_ | refine below_drewN ?_ _ | exact B15)) hb16
    clear hb16
    go_wp2_with fail
    refine (HW _ (hT.below (by have hszw := (B16).size; repeat (with_reducible first | refine Below.setCell ?_ (by first | omega | (simp <;> omega)) _ | refine Below.alloc ?_ (by first | omega | (simp <;> omega)) _ | refine Below.drew ?_ | refine below_drewN ?_ _ | exact B16)))).out.mono ?_
    rintro e w17 ⟨rfl, hb17⟩
    have Va17 : DyV w17 b0 bda sa (.slice aa na pa) ea := (by refine DyV.below ?_ hb17; (repeat (with_reducible first | refine DyV.drew ?_ | refine DyV.drewN ?_ _ | refine DyV.alloc ?_ _)); exact Va16.out)
    (try clear ac0 ac1 ac2 ac3 ac4)
    obtain ⟨ac0, ac1, ac2, ac3, ac4, ac5⟩ := Va17
    have Va17 := Lib.hid (DyV.mk ac0 ac1 ac2 ac3 ac4 ac5)
    have Vl17 : DyV w17 zl (dbad dl) (decide (dman dl < 0)) (.slice al (nl (dman dl).natAbs) cl) (dexp dl) := (by refine DyV.below ?_ hb17; (repeat (with_reducible first | refine DyV.drew ?_ | refine DyV.drewN ?_ _ | refine DyV.alloc ?_ _)); exact Vl16.out)
    (try clear lc0 lc1 lc2 lc3 lc4)
    obtain ⟨lc0, lc1, lc2, lc3, lc4, lc5⟩ := Vl17
    have Vl17 := Lib.hid (DyV.mk lc0 lc1 lc2 lc3 lc4 lc5)
    have Vh17 : DyV w17 zh (dbad dh) (decide (dman dh < 0)) (.slice ah (nl (dman dh).natAbs) ch) (dexp dh) := (by refine DyV.below ?_ hb17; (repeat (with_reducible first | refine DyV.drew ?_ | refine DyV.drewN ?_ _ | refine DyV.alloc ?_ _)); exact Vh16.out)
    (try clear hc0 hc1 hc2 hc3 hc4)
    obtain ⟨hc0, hc1, hc2, hc3, hc4, hc5⟩ := Vh17
    have Vh17 := Lib.hid (DyV.mk hc0 hc1 hc2 hc3 hc4 hc5)
    have Vn17 : DyV w17 zn (dbad dn) (decide (dman dn < 0)) (.slice an (nl (dman dn).natAbs) cn) (dexp dn) := (by refine DyV.below ?_ hb17; (repeat (with_reducible first | refine DyV.drew ?_ | refine DyV.drewN ?_ _ | refine DyV.alloc ?_ _)); exact Vn16.out)
    (try clear nc0 nc1 nc2 nc3 nc4)
    obtain ⟨nc0, nc1, nc2, nc3, nc4, nc5⟩ := Vn17
    have Vn17 := Lib.hid (DyV.mk nc0 nc1 nc2 nc3 nc4 nc5)
    have Vi17 : DyV w17 zi (dbad di) (decide (dman di < 0)) (.slice ai (nl (dman di).natAbs) ci) (dexp di) := (by refine DyV.below ?_ hb17; (repeat (with_reducible first | refine DyV.drew ?_ | refine DyV.drewN ?_ _ | refine DyV.alloc ?_ _)); exact Vi16.out)
    (try clear ic0 ic1 ic2 ic3 ic4)
    obtain ⟨ic0, ic1, ic2, ic3, ic4, ic5⟩ := Vi17
    have Vi17 := Lib.hid (DyV.mk ic0 ic1 ic2 ic3 ic4 ic5)
    have Ml17 : Mag w17 al (nl (dman dl).natAbs) cl (dman dl).natAbs := Mag.below (by repeat (with_reducible first | refine Mag.set ?_ (fun h => by have := Ml16 h; omega) _ _ | refine Mag.drew ?_ | refine Mag.alloc ?_ _ | refine Mag.drewN ?_ _ | exact Ml16)) hb17
    have Mh17 : Mag w17 ah (nl (dman dh).natAbs) ch (dman dh).natAbs := Mag.below (by repeat (with_reducible first | refine Mag.set ?_ (fun h => by have := Mh16 h; omega) _ _ | refine Mag.drew ?_ | refine Mag.alloc ?_ _ | refine Mag.drewN ?_ _ | exact Mh16)) hb17
    have Mn17 : Mag w17 an (nl (dman dn).natAbs) cn (dman dn).natAbs := Mag.below (by repeat (with_reducible first | refine Mag.set ?_ (fun h => by have := Mn16 h; omega) _ _ | refine Mag.drew ?_ | refine Mag.alloc ?_ _ | refine Mag.drewN ?_ _ | exact Mn16)) hb17
    have Mi17 : Mag w17 ai (nl (dman di).natAbs) ci (dman di).natAbs := Mag.below (by repeat (with_reducible first | refine Mag.set ?_ (fun h => by have := Mi16 h; omega) _ _ | refine Mag.drew ?_ | refine Mag.alloc ?_ _ | refine Mag.drewN ?_ _ | exact Mi16)) hb17
    have B17 := below_box (w := w) (by have hszw := (B16).size; repeat (with_reducible first | refine Below.setCell ?_ (by first | omega | (simp <;> omega)) _ | refine Below.alloc ?_ (by first | omega | (simp <;> omega)) _ | refine Below.drew ?_ | refine below_drewN ?_ _ | exact B16)) hb17
    clear hb17
    go_wp2_with fail
    go_ret
    exact ⟨rfl, (by have hszw := (B17).size; repeat (with_reducible first | refine Below.setCell ?_ (by first | omega | (simp <;> omega)) _ | refine Below.alloc ?_ (by first | omega | (simp <;> omega)) _ | refine Below.drew ?_ | refine below_drewN ?_ _ | exact B17))⟩

end Go.Proofs.YtjhngehajahbnaaDoor

