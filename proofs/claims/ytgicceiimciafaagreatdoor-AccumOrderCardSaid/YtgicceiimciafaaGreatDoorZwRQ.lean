/-
  Walks: the reference's integers: Mul, Cmp, Lost, Shift to the right of any number.
  Walks: the reference's dyads: Neg, Abs, FromInt, FromBig, Scale, Log2, Floor, align, Cmp, Add, Sub, Mul.
-/
import Derived.Test.YtgicceiimciafaaGreatDoorZwRP
import Derived.Test.YtgicceiimciafaaGreatDoorZwBf
import Derived.Test.YtgicceiimciafaaGreatDoorZwRm
import Derived.Test.YtgicceiimciafaaGreatDoorZwBg
set_option maxRecDepth 100000
set_option maxHeartbeats 2000000
namespace Go.Proofs.YtgicceiimciafaaGreatDoor
open Go.RowKit Sp
theorem DyV.put {W : World} {b : Nat} {v s : Bool} {sl : Value} {f : Int} (h : DyV W b v s sl f) (v' s' : Bool) (sl' : Value) (f' : Int) :
 DyV ((((W.setCell ⟨b, 0, none⟩ (.bool v')).setCell ⟨b, 1, none⟩ (.bool s')).setCell ⟨b, 2, none⟩ sl').setCell ⟨b, 3, none⟩ (.int .i64 f')) b v' s' sl' f' := by
 obtain ⟨c0, c1, c2, c3, c4, c5⟩ := h
 exact ⟨by go_simp, by go_simp, by go_simp, by go_simp, fun i => by go_simp, by simpa using c5⟩
theorem BgV.put {W : World} {b : Nat} {s : Bool} {sl : Value} (h : BgV W b s sl) (s' : Bool) (sl' : Value) :
 BgV ((W.setCell ⟨b, 0, none⟩ (.bool s')).setCell ⟨b, 1, none⟩ sl') b s' sl' := by
 obtain ⟨c0, c1, c2, c3⟩ := h
 exact ⟨by go_simp, by go_simp, fun i => by go_simp, by simpa using c3⟩
theorem rlost_any (w : World) (s : Bool) (a : Option Addr) (n cap x k : Nat) (hx : Mag w a n cap x) (hlim : n ≤ 549755813888) (hk : k ≤ 1048576) :
 Calls Tryz.prog 190 #[.agg #[.bool s, .slice a n cap], .int .i64 k] w fun e w' => e = .returned (.bool (decide (x % 2 ^ k ≠ 0))) ∧ Below w.heap.size w w' := by
 have nx := nl_le hx.lt
 have HT := fun W h => Lib.hid (rtrim_any W a n cap x h (by omega))
 have HR := fun W b c h => Lib.hid (rshr_any W b (nl x) c x k h (by omega) hk _ rfl)
 generalize decide (x % 2 ^ k ≠ 0) = lb at HR ⊢
 generalize x / 2 ^ k = q at HR
 clear nx hk hlim
 go_enter Tryz.func190, Tryz.ntmps190
 go_wp2_with fail
 have Ix := (BgV.made' w 32 s (.slice a n cap) (n := w.heap.size) (by rfl))
 have B0 : Below w.heap.size w (w.alloc (.cells #[.bool s, (.slice a n cap)] 32)) := zbh
 generalize (w.alloc (.cells #[.bool s, (.slice a n cap)] 32)) = w0 at Ix B0 ⊢
 generalize hb0 : w.heap.size = b0 at Ix ⊢
 obtain ⟨xc0, xc1, xc2, xc3⟩ := Ix
 have Vx0 := Lib.hid (BgV.mk xc0 xc1 xc2 xc3)
 refine (HT _ (hx.below (have := Beh.mk B0; zbh))).out.mono ?_
 rintro e w1 ⟨a1, c1, rfl, M11, hb1, hf1⟩
 have Vx1 : BgV w1 b0 s (.slice a n cap) := (Vx0.out.on.below hb1)
 (try clear xc0 xc1 xc2)
 obtain ⟨xc0, xc1, xc2, xc3⟩ := Vx1
 have Vx1 := Lib.hid (BgV.mk xc0 xc1 xc2 xc3)
 have B1 := below_box (w := w) (have := Beh.mk B0; zbh) hb1
 have hF1 : 0 < (nl x) → w0.heap.size ≤ ab a1 := (fun h => by have hq := hf1 h; (try simp at hq); omega)
 have fr1x : 0 < (nl x) → ab a1 ≠ b0 := (fun h => by have := hF1 h; have := Vx0.out.lt; omega)
 have fo1 : 0 < (nl x) → w.heap.size ≤ ab a1 := (fun h => by have := hF1 h; have := B0.size; omega)
 clear hF1
 clear hb1 hf1
 go_wp2_with fail
 refine (HR _ a1 c1 M11.on).out.mono ?_
 rintro e w2 ⟨a2, n2, c2, rfl, M22, hn2, hb2, hf2⟩
 have Vx2 : BgV w2 b0 s (.slice a n cap) := (Vx1.out.on.below hb2)
 (try clear xc0 xc1 xc2)
 obtain ⟨xc0, xc1, xc2, xc3⟩ := Vx2
 have Vx2 := Lib.hid (BgV.mk xc0 xc1 xc2 xc3)
 have M12 : Mag w2 a1 (nl x) c1 x := Mag.below M11.on hb2
 have B2 := below_box (w := w) (have := Beh.mk B1; zbh) hb2
 have hF2 : 0 < n2 → w1.heap.size ≤ ab a2 := (fun h => by have hq := hf2 h; (try simp at hq); omega)
 have fr2x : 0 < n2 → ab a2 ≠ b0 := (fun h => by have := hF2 h; have := Vx1.out.lt; omega)
 have fo2 : 0 < n2 → w.heap.size ≤ ab a2 := (fun h => by have := hF2 h; have := B1.size; omega)
 clear hF2
 clear hb2 hf2
 go_wp2_with fail
 go_ret
 exact ⟨rfl, (have := Beh.mk B2; zbh)⟩
theorem rabs_z (w : World) (a : Option Addr) (cap : Nat) (z y : Int) (hy : y = (z.natAbs : Int)) (hm : Mag w a (nl z.natAbs) cap z.natAbs) (hl : nl z.natAbs ≤ 549755813888) :
 Calls Tryz.prog 126 #[.agg #[.bool (decide (z < 0)), .slice a (nl z.natAbs) cap]] w (RetBig w y) := by
 have h := rabs_any w (decide (z < 0)) a _ cap _ hm (by omega)
 rwa [show sgn false z.natAbs = y by rw [hy]; rfl] at h
theorem radd_zz (w : World) (a a' : Option Addr) (cap cap' : Nat) (x y v : Int) (hv : v = x + y) (hx : Mag w a (nl x.natAbs) cap x.natAbs) (hy : Mag w a' (nl y.natAbs) cap' y.natAbs) (hl : nl x.natAbs ≤ 549755813888) (hl' : nl y.natAbs ≤ 549755813888) :
 Calls Tryz.prog 148 #[.agg #[.bool (decide (x < 0)), .slice a (nl x.natAbs) cap], .agg #[.bool (decide (y < 0)), .slice a' (nl y.natAbs) cap']] w (RetBig w v) := by
 have h := radd_any w (decide (x < 0)) (decide (y < 0)) a a' _ _ cap cap' _ _ hx hy hl hl'
 rwa [sgn_self, sgn_self, ← hv] at h
theorem rsgn_z (w : World) (a : Option Addr) (cap : Nat) (z g : Int) (hg : g = sg z) (hx : Mag w a (nl z.natAbs) cap z.natAbs) (hl : nl z.natAbs ≤ 549755813888) :
 Calls Tryz.prog 124 #[.agg #[.bool (decide (z < 0)), .slice a (nl z.natAbs) cap]] w fun e w' => e = .returned (.int .i64 g) ∧ Below w.heap.size w w' := by
 have h := rsign_any w (decide (z < 0)) a _ cap _ hx (by omega)
 rwa [sgn_self, ← hg] at h
theorem rmake_z (w : World) (a : Option Addr) (cap : Nat) (z e : Int) (d : Option (Int × Int)) (hd : d = nrm z e) (hm : Mag w a (nl z.natAbs) cap z.natAbs) (hT : Tab w) (hl : nl z.natAbs ≤ 549755813888) (hB : blen z.natAbs ≤ 1048576) (he0 : -9223372036854775808 ≤ e) :
 Calls Tryz.prog 127 #[.agg #[.bool (decide (z < 0)), .slice a (nl z.natAbs) cap], .int .i64 e] w (RetDy w d) := by
 have h := rmake_any w (decide (z < 0)) a _ cap _ e hm hl hT hB he0
 rwa [sgn_self, ← hd] at h
theorem nl_lim5 {x : Nat} (h : blen x ≤ 1048576) : nl x ≤ 549755813888 := Nat.le_trans (nl_le_blen x) (by omega)
theorem dbad_none {d : Option (Int × Int)} (hb : dbad d = true) : d = none := by cases d with | none => rfl | some p => cases hb
theorem rdfromInt_any (w : World) (n : Int) (hT : Tab w) (h0 : -9223372036854775808 ≤ n) (h1 : n ≤ 9223372036854775807) :
 Calls Tryz.prog 79 #[.int .i64 n] w (RetDy w (nrm n 0)) := by
 have hb : blen n.natAbs ≤ 64 := blen_le (by omega)
 have HI := fun W => Lib.hid (rfromInt_any W n h0 h1)
 have HM := fun W b c h ht => Lib.hid (rmake_z W b c n 0 _ rfl h ht (nl_lim5 (by omega)) (by omega) (by omega))
 generalize nrm n 0 = y at HM ⊢
 clear hb h0 h1
 go_enter Tryz.func79, Tryz.ntmps79
 go_wp2_with fail
 have Ir := (DyV.made' w 34 false false (.slice none 0 0) 0 (n := w.heap.size) (by rfl))
 have B0 : Below w.heap.size w (w.alloc (.cells #[.bool false, .bool false, (.slice none 0 0), .int .i64 0] 34)) := zbh
 generalize (w.alloc (.cells #[.bool false, .bool false, (.slice none 0 0), .int .i64 0] 34)) = w0 at Ir B0 ⊢
 generalize hb0 : w.heap.size = b0 at Ir ⊢
 obtain ⟨rc0, rc1, rc2, rc3, rc4, rc5⟩ := Ir
 have Vr0 := Lib.hid (DyV.mk rc0 rc1 rc2 rc3 rc4 rc5)
 refine (HI _).out.mono ?_
 rintro e w1 ⟨a1, c1, rfl, M11, hb1, hf1⟩
 have Vr1 : DyV w1 b0 false false (.slice none 0 0) 0 := (Vr0.out.on.below hb1)
 (try clear rc0 rc1 rc2 rc3 rc4)
 obtain ⟨rc0, rc1, rc2, rc3, rc4, rc5⟩ := Vr1
 have Vr1 := Lib.hid (DyV.mk rc0 rc1 rc2 rc3 rc4 rc5)
 have B1 := below_box (w := w) (have := Beh.mk B0; zbh) hb1
 have hF1 : 0 < (nl n.natAbs) → w0.heap.size ≤ ab a1 := (fun h => by have hq := hf1 h; (try simp at hq); omega)
 have fr1r : 0 < (nl n.natAbs) → ab a1 ≠ b0 := (fun h => by have := hF1 h; have := Vr0.out.lt; omega)
 have fo1 : 0 < (nl n.natAbs) → w.heap.size ≤ ab a1 := (fun h => by have := hF1 h; have := B0.size; omega)
 clear hF1
 clear hb1 hf1
 go_wp2_with fail
 refine (HM _ a1 c1 M11.on (hT.below (have := Beh.mk B1; zbh))).out.mono ?_
 rintro e w2 ⟨ay, cy, rfl, My2, hb2, hf2⟩
 have Vr2 : DyV w2 b0 false false (.slice none 0 0) 0 := (Vr1.out.on.below hb2)
 (try clear rc0 rc1 rc2 rc3 rc4)
 obtain ⟨rc0, rc1, rc2, rc3, rc4, rc5⟩ := Vr2
 have Vr2 := Lib.hid (DyV.mk rc0 rc1 rc2 rc3 rc4 rc5)
 have M12 : Mag w2 a1 (nl n.natAbs) c1 n.natAbs := Mag.below M11.on hb2
 have B2 := below_box (w := w) (have := Beh.mk B1; zbh) hb2
 have hF2 : 0 < (nl (dman y).natAbs) → w1.heap.size ≤ ab ay := (fun h => by have hq := hf2 h; (try simp at hq); omega)
 have fryr : 0 < (nl (dman y).natAbs) → ab ay ≠ b0 := (fun h => by have := hF2 h; have := Vr1.out.lt; omega)
 have foy : 0 < (nl (dman y).natAbs) → w.heap.size ≤ ab ay := (fun h => by have := hF2 h; have := B1.size; omega)
 clear hF2
 clear hb2 hf2
 go_wp2_with fail
 refine bodyPost_ret (v := .agg #[.bool (dbad y), .bool (decide (dman y < 0)), .slice ay (nl (dman y).natAbs) cy, .int .i64 (dexp y)]) (by simp only [results, Tryz.results79]; go_simp) rfl ?_
 exact ⟨ay, cy, rfl, (by repeat (with_reducible first | refine Mag.set ?_ fryr _ _ | refine Mag.drew ?_ | refine Mag.drewN ?_ _ | refine Mag.alloc ?_ _ | exact My2)), (by have hszw := (B2).size; repeat (with_reducible first | refine Below.setCell ?_ (by first | omega | (simp <;> omega)) _ | refine Below.alloc ?_ (by first | omega | (simp <;> omega)) _ | refine Below.drew ?_ | refine below_drewN ?_ _ | exact B2)), foy⟩
end Go.Proofs.YtgicceiimciafaaGreatDoor
