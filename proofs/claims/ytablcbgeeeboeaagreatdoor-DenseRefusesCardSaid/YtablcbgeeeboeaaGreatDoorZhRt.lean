/-
  Walks: the reference's dyads: Neg, Abs, FromInt, FromBig, Scale, Log2, Floor, align, Cmp, Add, Sub, Mul.
-/
import Derived.Test.YtablcbgeeeboeaaGreatDoorZhRq
import Derived.Test.YtablcbgeeeboeaaGreatDoorZhGi
import Derived.Test.YtablcbgeeeboeaaGreatDoorZhBg
set_option maxRecDepth 100000
set_option maxHeartbeats 2000000
namespace Go.Proofs.YtablcbgeeeboeaaGreatDoor
open Go.RowKit Sp
theorem zOk (w : World) (a : Option Addr) (cap : Nat) (z y : Int) (hy : y = -z) (hm : Mag w a (nl z.natAbs) cap z.natAbs) (hl : nl z.natAbs ≤ 549755813888) :
 Calls Tryz.prog 57 #[.agg #[.bool (decide (z < 0)), .slice a (nl z.natAbs) cap]] w (zAj w y) := by
 have h := zHu w (decide (z < 0)) a _ cap _ hm (by omega)
 rwa [zAg, ← hy] at h
theorem zJO (w : World) (a : Option Addr) (cap : Nat) (z y : Int) (hy : y = (z.natAbs : Int)) (hm : Mag w a (nl z.natAbs) cap z.natAbs) (hl : nl z.natAbs ≤ 549755813888) :
 Calls Tryz.prog 102 #[.agg #[.bool (decide (z < 0)), .slice a (nl z.natAbs) cap]] w (zAj w y) := by
 have h := zHz w (decide (z < 0)) a _ cap _ hm (by omega)
 rwa [show sgn false z.natAbs = y by rw [hy]; rfl] at h
theorem zOl (w : World) (a a' : Option Addr) (cap cap' : Nat) (x y v : Int) (hv : v = x * y) (hx : Mag w a (nl x.natAbs) cap x.natAbs) (hy : Mag w a' (nl y.natAbs) cap' y.natAbs) (hl : nl x.natAbs ≤ 549755813888) (hl' : nl y.natAbs ≤ 549755813888) :
 Calls Tryz.prog 59 #[.agg #[.bool (decide (x < 0)), .slice a (nl x.natAbs) cap], .agg #[.bool (decide (y < 0)), .slice a' (nl y.natAbs) cap']] w (zAj w v) := by
 have h := zHv w (decide (x < 0)) (decide (y < 0)) a a' _ _ cap cap' _ _ hx hy hl hl'
 rwa [zAg, zAg, ← hv] at h
theorem zJN (w : World) (a a' : Option Addr) (cap cap' : Nat) (x y v : Int) (hv : v = x + y) (hx : Mag w a (nl x.natAbs) cap x.natAbs) (hy : Mag w a' (nl y.natAbs) cap' y.natAbs) (hl : nl x.natAbs ≤ 549755813888) (hl' : nl y.natAbs ≤ 549755813888) :
 Calls Tryz.prog 62 #[.agg #[.bool (decide (x < 0)), .slice a (nl x.natAbs) cap], .agg #[.bool (decide (y < 0)), .slice a' (nl y.natAbs) cap']] w (zAj w v) := by
 have h := zDR w (decide (x < 0)) (decide (y < 0)) a a' _ _ cap cap' _ _ hx hy hl hl'
 rwa [zAg, zAg, ← hv] at h
theorem zCR (w : World) (a : Option Addr) (cap : Nat) (z g : Int) (hg : g = sg z) (hx : Mag w a (nl z.natAbs) cap z.natAbs) (hl : nl z.natAbs ≤ 549755813888) :
 Calls Tryz.prog 61 #[.agg #[.bool (decide (z < 0)), .slice a (nl z.natAbs) cap]] w fun e w' => e = .returned (.int .i64 g) ∧ Below w.heap.size w w' := by
 have h := zC9 w (decide (z < 0)) a _ cap _ hx (by omega)
 rwa [zAg, ← hg] at h
theorem zMF (w : World) (a : Option Addr) (cap : Nat) (z k y : Int) (hy : y = z * 2 ^ k.toNat) (hx : Mag w a (nl z.natAbs) cap z.natAbs) (hl : nl z.natAbs ≤ 549755813888) (h0 : 0 ≤ k) (h1 : k ≤ 1048576) :
 Calls Tryz.prog 63 #[.agg #[.bool (decide (z < 0)), .slice a (nl z.natAbs) cap], .int .i64 k] w (zAj w y) := by
 obtain ⟨q, rfl⟩ := Int.eq_ofNat_of_zero_le h0
 have h := zBT w (decide (z < 0)) a _ cap _ q hx hl (by omega)
 rw [zAg] at h
 rw [hy]
 exact h
theorem zFb (w : World) (a : Option Addr) (cap : Nat) (z e : Int) (d : Option (Int × Int)) (hd : d = nrm z e) (hm : Mag w a (nl z.natAbs) cap z.natAbs) (hT : Tab w) (hl : nl z.natAbs ≤ 549755813888) (hB : zA4 z.natAbs ≤ 1048576) (he0 : -9223372036854775808 ≤ e) :
 Calls Tryz.prog 56 #[.agg #[.bool (decide (z < 0)), .slice a (nl z.natAbs) cap], .int .i64 e] w (zAy w d) := by
 have h := zCw w (decide (z < 0)) a _ cap _ e hm hl hT hB he0
 rwa [zAg, ← hd] at h
theorem zAS {x : Nat} (h : zA4 x ≤ 1048576) : nl x ≤ 549755813888 := Nat.le_trans (zAe x) (by omega)
theorem zLN {d : Option (Int × Int)} (h : IsN d) (hb : zA3 d = false) : zIV d = nrm (-(zA1 d)) (zA2 d) := by
 cases d with
 | none => exact absurd hb (by decide)
 | some p => obtain ⟨m, e⟩ := p; exact (zDV (zJV (h m e rfl))).symm
theorem zBl {d : Option (Int × Int)} (hb : zA3 d = true) : d = none := by cases d with | none => rfl | some p => cases hb
theorem zJF (w : World) (bd s : Bool) (a : Option Addr) (n cap : Nat) (e : Int) (d : Option (Int × Int)) (hx : DyIs w bd s a n cap e d) (hT : Tab w) (hb : zA3 d = true) :
 Calls Tryz.prog 18 #[.agg #[.bool bd, .bool s, .slice a n cap, .int .i64 e]] w (zAy w d) := by
 have HN := fun W h ht => Lib.hid (@zAt W bd s a n cap e d h ht)
 go_enter Tryz.func18, Tryz.ntmps18
 go_wp2_with fail
 have Ix := ((DyV.made' w 46 bd s (.slice a n cap) e (n := w.heap.size) (by rfl)).alloc (.cells #[.bool false, .bool false, (.slice none 0 0), .int .i64 0] 46))
 have Ir := (DyV.made' (w.alloc (.cells #[.bool bd, .bool s, (.slice a n cap), .int .i64 e] 46)) 46 false false (.slice none 0 0) 0 (n := w.heap.size + 1) (by rw [World.size_alloc]))
 have B0 : Below w.heap.size w ((w.alloc (.cells #[.bool bd, .bool s, (.slice a n cap), .int .i64 e] 46)).alloc (.cells #[.bool false, .bool false, (.slice none 0 0), .int .i64 0] 46)) := zbh
 have nxr : ¬ w.heap.size = w.heap.size + 1 := by omega
 have nrx : ¬ w.heap.size + 1 = w.heap.size := by omega
 generalize ((w.alloc (.cells #[.bool bd, .bool s, (.slice a n cap), .int .i64 e] 46)).alloc (.cells #[.bool false, .bool false, (.slice none 0 0), .int .i64 0] 46)) = w0 at Ix Ir B0 ⊢
 generalize hb1 : w.heap.size + 1 = b1 at Ir nxr nrx ⊢
 generalize hb0 : w.heap.size = b0 at Ix nxr nrx hb1 ⊢
 obtain ⟨xc0, xc1, xc2, xc3, xc4, xc5⟩ := Ix
 have Vx0 := Lib.hid (DyV.mk xc0 xc1 xc2 xc3 xc4 xc5)
 obtain ⟨rc0, rc1, rc2, rc3, rc4, rc5⟩ := Ir
 have Vr0 := Lib.hid (DyV.mk rc0 rc1 rc2 rc3 rc4 rc5)
 refine (HN _ (hx.below (have := Beh.mk B0; zbh)) (hT.below (have := Beh.mk B0; zbh))).out.mono ?_
 rintro e w1 ⟨a1, c1, rfl, M11, hb1, hf1⟩
 have Vx1 : DyV w1 b0 bd s (.slice a n cap) e := (Vx0.out.on.below hb1)
 (try clear xc0 xc1 xc2 xc3 xc4)
 obtain ⟨xc0, xc1, xc2, xc3, xc4, xc5⟩ := Vx1
 have Vx1 := Lib.hid (DyV.mk xc0 xc1 xc2 xc3 xc4 xc5)
 have Vr1 : DyV w1 b1 false false (.slice none 0 0) 0 := (Vr0.out.on.below hb1)
 (try clear rc0 rc1 rc2 rc3 rc4)
 obtain ⟨rc0, rc1, rc2, rc3, rc4, rc5⟩ := Vr1
 have Vr1 := Lib.hid (DyV.mk rc0 rc1 rc2 rc3 rc4 rc5)
 have B1 := zA0 (w := w) (have := Beh.mk B0; zbh) hb1
 have hF1 : 0 < (nl (zA1 d).natAbs) → w0.heap.size ≤ ab a1 := (fun h => by have hq := hf1 h; (try simp at hq); omega)
 have fr1x : 0 < (nl (zA1 d).natAbs) → ab a1 ≠ b0 := (fun h => by have := hF1 h; have := Vx0.out.lt; omega)
 have fr1r : 0 < (nl (zA1 d).natAbs) → ab a1 ≠ b1 := (fun h => by have := hF1 h; have := Vr0.out.lt; omega)
 have fo1 : 0 < (nl (zA1 d).natAbs) → w.heap.size ≤ ab a1 := (fun h => by have := hF1 h; have := B0.size; omega)
 clear hF1
 clear hb1 hf1
 go_wp2_with fail
 have Vx2 := DyV.put Vx1.out true (decide (zA1 d < 0)) (.slice a1 (nl (zA1 d).natAbs) c1) (zA2 d)
 have Vr2 := (DyV.set (DyV.set (DyV.set (DyV.set Vr1.out nrx 0 (.bool true)) nrx 1 (.bool (decide (zA1 d < 0)))) nrx 2 (.slice a1 (nl (zA1 d).natAbs) c1)) nrx 3 (.int .i64 (zA2 d)))
 have M12 := (Mag.set (Mag.set (Mag.set (Mag.set M11 fr1x 0 (.bool true)) fr1x 1 (.bool (decide (zA1 d < 0)))) fr1x 2 (.slice a1 (nl (zA1 d).natAbs) c1)) fr1x 3 (.int .i64 (zA2 d)))
 have B2 : Below w.heap.size w ((((w1.setCell ⟨b0, 0, none⟩ (.bool true)).setCell ⟨b0, 1, none⟩ (.bool (decide (zA1 d < 0)))).setCell ⟨b0, 2, none⟩ (.slice a1 (nl (zA1 d).natAbs) c1)).setCell ⟨b0, 3, none⟩ (.int .i64 (zA2 d))) := (by have hszw := (B1).size; repeat (with_reducible first | refine Below.setCell ?_ (by first | omega | (simp <;> omega)) _ | refine Below.alloc ?_ (by first | omega | (simp <;> omega)) _ | refine Below.drew ?_ | refine below_drewN ?_ _ | exact B1))
 generalize ((((w1.setCell ⟨b0, 0, none⟩ (.bool true)).setCell ⟨b0, 1, none⟩ (.bool (decide (zA1 d < 0)))).setCell ⟨b0, 2, none⟩ (.slice a1 (nl (zA1 d).natAbs) c1)).setCell ⟨b0, 3, none⟩ (.int .i64 (zA2 d))) = w2 at Vx2 Vr2 M12 B2 ⊢
 (try clear xc0 xc1 xc2 xc3 xc4)
 obtain ⟨xc0, xc1, xc2, xc3, xc4, xc5⟩ := Vx2
 have Vx2 := Lib.hid (DyV.mk xc0 xc1 xc2 xc3 xc4 xc5)
 (try clear rc0 rc1 rc2 rc3 rc4)
 obtain ⟨rc0, rc1, rc2, rc3, rc4, rc5⟩ := Vr2
 have Vr2 := Lib.hid (DyV.mk rc0 rc1 rc2 rc3 rc4 rc5)
 refine bodyPost_ret (v := .agg #[.bool true, .bool (decide (zA1 d < 0)), .slice a1 (nl (zA1 d).natAbs) c1, .int .i64 (zA2 d)]) (by simp only [results, Tryz.results18]; go_simp) rfl ?_
 rw [← hb]
 exact ⟨a1, c1, rfl, (by repeat (with_reducible first | refine Mag.set ?_ fr1x _ _ | refine Mag.set ?_ fr1r _ _ | refine Mag.drew ?_ | refine Mag.drewN ?_ _ | refine Mag.alloc ?_ _ | exact M12)), (by have hszw := (B2).size; repeat (with_reducible first | refine Below.setCell ?_ (by first | omega | (simp <;> omega)) _ | refine Below.alloc ?_ (by first | omega | (simp <;> omega)) _ | refine Below.drew ?_ | refine below_drewN ?_ _ | exact B2)), fo1⟩
theorem zLF (w : World) (bd s : Bool) (a : Option Addr) (n cap : Nat) (e : Int) (d : Option (Int × Int)) (hx : DyIs w bd s a n cap e d) (hT : Tab w) (hb : zA3 d = false) :
 Calls Tryz.prog 18 #[.agg #[.bool bd, .bool s, .slice a n cap, .int .i64 e]] w (zAy w (zIV d)) := by
 have HN := fun W h ht => Lib.hid (@zAt W bd s a n cap e d h ht)
 have hbz := zA7 hx.1.isN
 have hd := zLN hx.1.isN hb
 obtain ⟨u, hu⟩ : ∃ u, u = -(zA1 d) := ⟨_, rfl⟩
 have hul : zA4 u.natAbs ≤ 131072 := by rw [show u.natAbs = (zA1 d).natAbs by omega]; exact hbz.1
 rw [← hu] at hd
 have HG := fun W b c h => Lib.hid (zOk W b c (zA1 d) u hu h (zAS (by omega)))
 have HM := fun W b c h ht => Lib.hid (zFb W b c u (zA2 d) (zIV d) hd h ht (zAS (by omega)) (by omega) (by omega))
 generalize zIV d = y at HM ⊢
 clear hd hu hul hbz
 go_enter Tryz.func18, Tryz.ntmps18
 go_wp2_with fail
 have Ix := ((DyV.made' w 46 bd s (.slice a n cap) e (n := w.heap.size) (by rfl)).alloc (.cells #[.bool false, .bool false, (.slice none 0 0), .int .i64 0] 46))
 have Ir := (DyV.made' (w.alloc (.cells #[.bool bd, .bool s, (.slice a n cap), .int .i64 e] 46)) 46 false false (.slice none 0 0) 0 (n := w.heap.size + 1) (by rw [World.size_alloc]))
 have B0 : Below w.heap.size w ((w.alloc (.cells #[.bool bd, .bool s, (.slice a n cap), .int .i64 e] 46)).alloc (.cells #[.bool false, .bool false, (.slice none 0 0), .int .i64 0] 46)) := (by repeat (with_reducible first | refine Below.setCell ?_ (by simp <;> omega) _ | refine Below.alloc ?_ (by simp <;> omega) _ | refine Below.drew ?_ | refine below_drewN ?_ _ | exact Below.refl _ _))
 have nxr : ¬ w.heap.size = w.heap.size + 1 := by omega
 have nrx : ¬ w.heap.size + 1 = w.heap.size := by omega
 generalize ((w.alloc (.cells #[.bool bd, .bool s, (.slice a n cap), .int .i64 e] 46)).alloc (.cells #[.bool false, .bool false, (.slice none 0 0), .int .i64 0] 46)) = w0 at Ix Ir B0 ⊢
 generalize hb1 : w.heap.size + 1 = b1 at Ir nxr nrx ⊢
 generalize hb0 : w.heap.size = b0 at Ix nxr nrx hb1 ⊢
 obtain ⟨xc0, xc1, xc2, xc3, xc4, xc5⟩ := Ix
 have Vx0 := Lib.hid (DyV.mk xc0 xc1 xc2 xc3 xc4 xc5)
 obtain ⟨rc0, rc1, rc2, rc3, rc4, rc5⟩ := Ir
 have Vr0 := Lib.hid (DyV.mk rc0 rc1 rc2 rc3 rc4 rc5)
 refine (HN _ (hx.below (by have hszw := (B0).size; repeat (with_reducible first | refine Below.setCell ?_ (by first | omega | (simp <;> omega)) _ | refine Below.alloc ?_ (by first | omega | (simp <;> omega)) _ | refine Below.drew ?_ | refine below_drewN ?_ _ | exact B0))) (hT.below (by have hszw := (B0).size; repeat (with_reducible first | refine Below.setCell ?_ (by first | omega | (simp <;> omega)) _ | refine Below.alloc ?_ (by first | omega | (simp <;> omega)) _ | refine Below.drew ?_ | refine below_drewN ?_ _ | exact B0)))).out.mono ?_
 rintro e w1 ⟨a1, c1, rfl, M11, hb1, hf1⟩
 have Vx1 : DyV w1 b0 bd s (.slice a n cap) e := (by refine DyV.below ?_ hb1; (repeat (with_reducible first | refine DyV.drew ?_ | refine DyV.drewN ?_ _ | refine DyV.alloc ?_ _)); exact Vx0.out)
 (try clear xc0 xc1 xc2 xc3 xc4)
 obtain ⟨xc0, xc1, xc2, xc3, xc4, xc5⟩ := Vx1
 have Vx1 := Lib.hid (DyV.mk xc0 xc1 xc2 xc3 xc4 xc5)
 have Vr1 : DyV w1 b1 false false (.slice none 0 0) 0 := (by refine DyV.below ?_ hb1; (repeat (with_reducible first | refine DyV.drew ?_ | refine DyV.drewN ?_ _ | refine DyV.alloc ?_ _)); exact Vr0.out)
 (try clear rc0 rc1 rc2 rc3 rc4)
 obtain ⟨rc0, rc1, rc2, rc3, rc4, rc5⟩ := Vr1
 have Vr1 := Lib.hid (DyV.mk rc0 rc1 rc2 rc3 rc4 rc5)
 have B1 := zA0 (w := w) (by have hszw := (B0).size; repeat (with_reducible first | refine Below.setCell ?_ (by first | omega | (simp <;> omega)) _ | refine Below.alloc ?_ (by first | omega | (simp <;> omega)) _ | refine Below.drew ?_ | refine below_drewN ?_ _ | exact B0)) hb1
 have hF1 : 0 < (nl (zA1 d).natAbs) → w0.heap.size ≤ ab a1 := (fun h => by have hq := hf1 h; (try simp at hq); omega)
 have fr1x : 0 < (nl (zA1 d).natAbs) → ab a1 ≠ b0 := (fun h => by have := hF1 h; have := Vx0.out.lt; omega)
 have fr1r : 0 < (nl (zA1 d).natAbs) → ab a1 ≠ b1 := (fun h => by have := hF1 h; have := Vr0.out.lt; omega)
 have fo1 : 0 < (nl (zA1 d).natAbs) → w.heap.size ≤ ab a1 := (fun h => by have := hF1 h; have := B0.size; omega)
 clear hF1
 clear hb1 hf1
 go_wp2_with fail
 have Vx2 := DyV.put Vx1.out false (decide (zA1 d < 0)) (.slice a1 (nl (zA1 d).natAbs) c1) (zA2 d)
 have Vr2 := (DyV.set (DyV.set (DyV.set (DyV.set Vr1.out nrx 0 (.bool false)) nrx 1 (.bool (decide (zA1 d < 0)))) nrx 2 (.slice a1 (nl (zA1 d).natAbs) c1)) nrx 3 (.int .i64 (zA2 d)))
 have M12 := (Mag.set (Mag.set (Mag.set (Mag.set M11 fr1x 0 (.bool false)) fr1x 1 (.bool (decide (zA1 d < 0)))) fr1x 2 (.slice a1 (nl (zA1 d).natAbs) c1)) fr1x 3 (.int .i64 (zA2 d)))
 have B2 : Below w.heap.size w ((((w1.setCell ⟨b0, 0, none⟩ (.bool false)).setCell ⟨b0, 1, none⟩ (.bool (decide (zA1 d < 0)))).setCell ⟨b0, 2, none⟩ (.slice a1 (nl (zA1 d).natAbs) c1)).setCell ⟨b0, 3, none⟩ (.int .i64 (zA2 d))) := (by have hszw := (B1).size; repeat (with_reducible first | refine Below.setCell ?_ (by first | omega | (simp <;> omega)) _ | refine Below.alloc ?_ (by first | omega | (simp <;> omega)) _ | refine Below.drew ?_ | refine below_drewN ?_ _ | exact B1))
 generalize ((((w1.setCell ⟨b0, 0, none⟩ (.bool false)).setCell ⟨b0, 1, none⟩ (.bool (decide (zA1 d < 0)))).setCell ⟨b0, 2, none⟩ (.slice a1 (nl (zA1 d).natAbs) c1)).setCell ⟨b0, 3, none⟩ (.int .i64 (zA2 d))) = w2 at Vx2 Vr2 M12 B2 ⊢
 (try clear xc0 xc1 xc2 xc3 xc4)
 obtain ⟨xc0, xc1, xc2, xc3, xc4, xc5⟩ := Vx2
 have Vx2 := Lib.hid (DyV.mk xc0 xc1 xc2 xc3 xc4 xc5)
 (try clear rc0 rc1 rc2 rc3 rc4)
 obtain ⟨rc0, rc1, rc2, rc3, rc4, rc5⟩ := Vr2
 have Vr2 := Lib.hid (DyV.mk rc0 rc1 rc2 rc3 rc4 rc5)
 first
 | go_region_held3 (fun w' => w'.cell? ⟨b0, 0, none⟩ = some (.bool false) ∧ w'.cell? ⟨b0, 1, none⟩ = some (.bool (decide (zA1 d < 0))) ∧ w'.cell? ⟨b0, 2, none⟩ = some ((.slice a1 (nl (zA1 d).natAbs) c1)) ∧ w'.cell? ⟨b0, 3, none⟩ = some (.int .i64 (zA2 d))) (first | (go_keep; done) | (go_simp; done))
  (first
   | (go_at_call 56; have xx := B3; refine (HM _ a2 c2 (by repeat (with_reducible first | refine Mag.set ?_ (fun h => by have := M23 h; omega) _ _ | refine Mag.drew ?_ | refine Mag.alloc ?_ _ | refine Mag.drewN ?_ _ | exact M23)) (hT.below (by have hszw := (B3).size; repeat (with_reducible first | refine Below.setCell ?_ (by first | omega | (simp <;> omega)) _ | refine Below.alloc ?_ (by first | omega | (simp <;> omega)) _ | refine Below.drew ?_ | refine below_drewN ?_ _ | exact B3)))).out.mono ?_; rintro e w4 ⟨ay, cy, rfl, My4, hb4, hf4⟩; have Vx4 : DyV w4 b0 false (decide (zA1 d < 0)) (.slice a1 (nl (zA1 d).natAbs) c1) (zA2 d) := (by refine DyV.below ?_ hb4; (repeat (with_reducible first | refine DyV.drew ?_ | refine DyV.drewN ?_ _ | refine DyV.alloc ?_ _)); exact Vx3.out); (try clear xc0 xc1 xc2 xc3 xc4); obtain ⟨xc0, xc1, xc2, xc3, xc4, xc5⟩ := Vx4; have Vx4 := Lib.hid (DyV.mk xc0 xc1 xc2 xc3 xc4 xc5); have Vr4 : DyV w4 b1 false false (.slice none 0 0) 0 := (by refine DyV.below ?_ hb4; (repeat (with_reducible first | refine DyV.drew ?_ | refine DyV.drewN ?_ _ | refine DyV.alloc ?_ _)); exact Vr3.out); (try clear rc0 rc1 rc2 rc3 rc4); obtain ⟨rc0, rc1, rc2, rc3, rc4, rc5⟩ := Vr4; have Vr4 := Lib.hid (DyV.mk rc0 rc1 rc2 rc3 rc4 rc5); have M14 : Mag w4 a1 (nl (zA1 d).natAbs) c1 (zA1 d).natAbs := Mag.below (by repeat (with_reducible first | refine Mag.set ?_ (fun h => by have := M13 h; omega) _ _ | refine Mag.drew ?_ | refine Mag.alloc ?_ _ | refine Mag.drewN ?_ _ | exact M13)) hb4; have M24 : Mag w4 a2 (nl u.natAbs) c2 u.natAbs := Mag.below (by repeat (with_reducible first | refine Mag.set ?_ (fun h => by have := M23 h; omega) _ _ | refine Mag.drew ?_ | refine Mag.alloc ?_ _ | refine Mag.drewN ?_ _ | exact M23)) hb4; have B4 := zA0 (w := w) (by have hszw := (B3).size; repeat (with_reducible first | refine Below.setCell ?_ (by first | omega | (simp <;> omega)) _ | refine Below.alloc ?_ (by first | omega | (simp <;> omega)) _ | refine Below.drew ?_ | refine below_drewN ?_ _ | exact B3)) hb4; have hF4 : 0 < (nl (zA1 y).natAbs) → w3.heap.size ≤ ab ay := (fun h => by have hq := hf4 h; (try simp at hq); omega); have fryx : 0 < (nl (zA1 y).natAbs) → ab ay ≠ b0 := (fun h => by have := hF4 h; have := Vx3.out.lt; omega); have fryr : 0 < (nl (zA1 y).natAbs) → ab ay ≠ b1 := (fun h => by have := hF4 h; have := Vr3.out.lt; omega); have foy : 0 < (nl (zA1 y).natAbs) → w.heap.size ≤ ab ay := (fun h => by have := hF4 h; have := B3.size; omega); clear hF4; clear hb4 hf4)
   | (go_at_call 57; have xx := B2; refine (HG _ a1 c1 (by repeat (with_reducible first | refine Mag.set ?_ (fun h => by have := M12 h; omega) _ _ | refine Mag.drew ?_ | refine Mag.alloc ?_ _ | refine Mag.drewN ?_ _ | exact M12))).out.mono ?_; rintro e w3 ⟨a2, c2, rfl, M23, hb3, hf3⟩; have Vx3 : DyV w3 b0 false (decide (zA1 d < 0)) (.slice a1 (nl (zA1 d).natAbs) c1) (zA2 d) := (by refine DyV.below ?_ hb3; (repeat (with_reducible first | refine DyV.drew ?_ | refine DyV.drewN ?_ _ | refine DyV.alloc ?_ _)); exact Vx2.out); (try clear xc0 xc1 xc2 xc3 xc4); obtain ⟨xc0, xc1, xc2, xc3, xc4, xc5⟩ := Vx3; have Vx3 := Lib.hid (DyV.mk xc0 xc1 xc2 xc3 xc4 xc5); have Vr3 : DyV w3 b1 false false (.slice none 0 0) 0 := (by refine DyV.below ?_ hb3; (repeat (with_reducible first | refine DyV.drew ?_ | refine DyV.drewN ?_ _ | refine DyV.alloc ?_ _)); exact Vr2.out); (try clear rc0 rc1 rc2 rc3 rc4); obtain ⟨rc0, rc1, rc2, rc3, rc4, rc5⟩ := Vr3; have Vr3 := Lib.hid (DyV.mk rc0 rc1 rc2 rc3 rc4 rc5); have M13 : Mag w3 a1 (nl (zA1 d).natAbs) c1 (zA1 d).natAbs := Mag.below (by repeat (with_reducible first | refine Mag.set ?_ (fun h => by have := M12 h; omega) _ _ | refine Mag.drew ?_ | refine Mag.alloc ?_ _ | refine Mag.drewN ?_ _ | exact M12)) hb3; have B3 := zA0 (w := w) (by have hszw := (B2).size; repeat (with_reducible first | refine Below.setCell ?_ (by first | omega | (simp <;> omega)) _ | refine Below.alloc ?_ (by first | omega | (simp <;> omega)) _ | refine Below.drew ?_ | refine below_drewN ?_ _ | exact B2)) hb3; have hF3 : 0 < (nl u.natAbs) → w2.heap.size ≤ ab a2 := (fun h => by have hq := hf3 h; (try simp at hq); omega); have fr2x : 0 < (nl u.natAbs) → ab a2 ≠ b0 := (fun h => by have := hF3 h; have := Vx2.out.lt; omega); have fr2r : 0 < (nl u.natAbs) → ab a2 ≠ b1 := (fun h => by have := hF3 h; have := Vr2.out.lt; omega); have fo2 : 0 < (nl u.natAbs) → w.heap.size ≤ ab a2 := (fun h => by have := hF3 h; have := B2.size; omega); clear hF3; clear hb3 hf3)
   | fail)
 | fail "region"
 go_wp2_with fail
 refine bodyPost_ret (v := .agg #[.bool (zA3 y), .bool (decide (zA1 y < 0)), .slice ay (nl (zA1 y).natAbs) cy, .int .i64 (zA2 y)]) (by simp only [results, Tryz.results18]; go_simp) rfl ?_
 exact ⟨ay, cy, rfl, (by repeat (with_reducible first | refine Mag.set ?_ fryx _ _ | refine Mag.set ?_ fryr _ _ | refine Mag.drew ?_ | refine Mag.drewN ?_ _ | refine Mag.alloc ?_ _ | exact My4)), (by have hszw := (B4).size; repeat (with_reducible first | refine Below.setCell ?_ (by first | omega | (simp <;> omega)) _ | refine Below.alloc ?_ (by first | omega | (simp <;> omega)) _ | refine Below.drew ?_ | refine below_drewN ?_ _ | exact B4)), foy⟩
theorem zJG (w : World) (bd s : Bool) (a : Option Addr) (n cap : Nat) (e : Int) (d : Option (Int × Int)) (hx : DyIs w bd s a n cap e d) (hT : Tab w) :
 Calls Tryz.prog 18 #[.agg #[.bool bd, .bool s, .slice a n cap, .int .i64 e]] w (zAy w (zIV d)) := by
 cases hb : zA3 d with
 | true => have h := zJF w bd s a n cap e d hx hT hb; rw [zBl hb] at h ⊢; exact h
 | false => exact zLF w bd s a n cap e d hx hT hb
theorem zBL (w : World) (n : Int) (hT : Tab w) (h0 : -9223372036854775808 ≤ n) (h1 : n ≤ 9223372036854775807) :
 Calls Tryz.prog 54 #[.int .i64 n] w (zAy w (nrm n 0)) := by
 have hb : zA4 n.natAbs ≤ 64 := zAq (by omega)
 have HI := fun W => Lib.hid (zCy W n h0 h1)
 have HM := fun W b c h ht => Lib.hid (zFb W b c n 0 _ rfl h ht (zAS (by omega)) (by omega) (by omega))
 generalize nrm n 0 = y at HM ⊢
 clear hb h0 h1
 go_enter Tryz.func54, Tryz.ntmps54
 go_wp2_with fail
 have Ir := (DyV.made' w 46 false false (.slice none 0 0) 0 (n := w.heap.size) (by rfl))
 have B0 : Below w.heap.size w (w.alloc (.cells #[.bool false, .bool false, (.slice none 0 0), .int .i64 0] 46)) := zbh
 generalize (w.alloc (.cells #[.bool false, .bool false, (.slice none 0 0), .int .i64 0] 46)) = w0 at Ir B0 ⊢
 generalize hb0 : w.heap.size = b0 at Ir ⊢
 obtain ⟨rc0, rc1, rc2, rc3, rc4, rc5⟩ := Ir
 have Vr0 := Lib.hid (DyV.mk rc0 rc1 rc2 rc3 rc4 rc5)
 refine (HI _).out.mono ?_
 rintro e w1 ⟨a1, c1, rfl, M11, hb1, hf1⟩
 have Vr1 : DyV w1 b0 false false (.slice none 0 0) 0 := (Vr0.out.on.below hb1)
 (try clear rc0 rc1 rc2 rc3 rc4)
 obtain ⟨rc0, rc1, rc2, rc3, rc4, rc5⟩ := Vr1
 have Vr1 := Lib.hid (DyV.mk rc0 rc1 rc2 rc3 rc4 rc5)
 have B1 := zA0 (w := w) (have := Beh.mk B0; zbh) hb1
 have hF1 : 0 < (nl n.natAbs) → w0.heap.size ≤ ab a1 := (fun h => by have hq := hf1 h; (try simp at hq); omega)
 have fr1r : 0 < (nl n.natAbs) → ab a1 ≠ b0 := (fun h => by have := hF1 h; have := Vr0.out.lt; omega)
 have fo1 : 0 < (nl n.natAbs) → w.heap.size ≤ ab a1 := (fun h => by have := hF1 h; have := B0.size; omega)
 clear hF1
 clear hb1 hf1
 go_wp2_with fail
 refine (HM _ a1 c1 M11.on (hT.below (have := Beh.mk B1; zbh))).out.mono ?_
 rintro e w2 ⟨ay, cy, rfl, My2, hb2, hf2⟩
 have Vr2 : DyV w2 b0 false false (.slice none 0 0) 0 := (Vr1.out.on.below hb2)
 (try clear rc0 rc1 rc2 rc3 rc4)
 obtain ⟨rc0, rc1, rc2, rc3, rc4, rc5⟩ := Vr2
 have Vr2 := Lib.hid (DyV.mk rc0 rc1 rc2 rc3 rc4 rc5)
 have M12 : Mag w2 a1 (nl n.natAbs) c1 n.natAbs := Mag.below M11.on hb2
 have B2 := zA0 (w := w) (have := Beh.mk B1; zbh) hb2
 have hF2 : 0 < (nl (zA1 y).natAbs) → w1.heap.size ≤ ab ay := (fun h => by have hq := hf2 h; (try simp at hq); omega)
 have fryr : 0 < (nl (zA1 y).natAbs) → ab ay ≠ b0 := (fun h => by have := hF2 h; have := Vr1.out.lt; omega)
 have foy : 0 < (nl (zA1 y).natAbs) → w.heap.size ≤ ab ay := (fun h => by have := hF2 h; have := B1.size; omega)
 clear hF2
 clear hb2 hf2
 go_wp2_with fail
 refine bodyPost_ret (v := .agg #[.bool (zA3 y), .bool (decide (zA1 y < 0)), .slice ay (nl (zA1 y).natAbs) cy, .int .i64 (zA2 y)]) (by simp only [results, Tryz.results54]; go_simp) rfl ?_
 exact ⟨ay, cy, rfl, (by repeat (with_reducible first | refine Mag.set ?_ fryr _ _ | refine Mag.drew ?_ | refine Mag.drewN ?_ _ | refine Mag.alloc ?_ _ | exact My2)), (by have hszw := (B2).size; repeat (with_reducible first | refine Below.setCell ?_ (by first | omega | (simp <;> omega)) _ | refine Below.alloc ?_ (by first | omega | (simp <;> omega)) _ | refine Below.drew ?_ | refine below_drewN ?_ _ | exact B2)), foy⟩
end Go.Proofs.YtablcbgeeeboeaaGreatDoor
