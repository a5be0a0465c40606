/-
  Walks: the reference's dyads: Scale, Log2, Floor, align, Cmp, Add, Sub, Mul.
-/
import Derived.Test.YtakbappmkdaioaaGreatDoorZlRt
import Derived.Test.YtakbappmkdaioaaGreatDoorZlBg
import Derived.Test.YtakbappmkdaioaaGreatDoorZlBf
namespace Go.Proofs.YtakbappmkdaioaaGreatDoor
open Go.RowKit Sp

theorem tz_le_blen {z : Int} (h : z ≠ 0) : tz z.natAbs ≤ blen z.natAbs := by
  have := blen_div_tz (x := z.natAbs) (by omega); omega
theorem sg0 {z : Int} (h : z = 0) : (sg z == 0) = true := by rw [h]; rfl
theorem sg1 {z : Int} (h : z ≠ 0) : (sg z == 0) = false := by
  rw [beq_eq_false_iff_ne]; unfold sg cmpI; split <;> (try split) <;> omega
theorem isN_zero {d : Option (Int × Int)} (h : IsN d) (hb : dbad d = false) (hz : dman d = 0) : d = some (0, 0) := by
  cases d with
  | none => cases hb
  | some p =>
    obtain ⟨m, e⟩ := p
    have hm : m = 0 := hz
    rcases h m e rfl with ⟨h1, h2⟩ | ⟨h1, _⟩
    · rw [h1, h2]
    · omega
theorem some_of {d : Option (Int × Int)} (hb : dbad d = false) : d = some (dman d, dexp d) := by cases d with | none => cases hb | some p => rfl

set_option maxRecDepth 100000 in
set_option maxHeartbeats 2000000 in
theorem rdscale_bad (w : World) (bd s : Bool) (a : Option Addr) (n cap : Nat) (e k : Int) (d : Option (Int × Int)) (hx : DyIs w bd s a n cap e d) (hT : Tab w) (hb : dbad d = true) :
    Calls Tryz.prog 178 #[.agg #[.bool bd, .bool s, .slice a n cap, .int .i64 e], .int .i64 k] w (RetDy w d) := by
  have HN := fun W h ht => Lib.hid (@rdnorm_in W bd s a n cap e d h ht)
  go_enter Tryz.func178, Tryz.ntmps178
  go_wp2_with fail
  have Ix := ((DyV.made' w 26 bd s (.slice a n cap) e (n := w.heap.size) (by rfl)).alloc (.cells #[.bool false, .bool false, (.slice none 0 0), .int .i64 0] 26))
  have Ir := (DyV.made' (w.alloc (.cells #[.bool bd, .bool s, (.slice a n cap), .int .i64 e] 26)) 26 false false (.slice none 0 0) 0 (n := w.heap.size + 1) (by rw [World.size_alloc]))
  have B0 : Below w.heap.size w ((w.alloc (.cells #[.bool bd, .bool s, (.slice a n cap), .int .i64 e] 26)).alloc (.cells #[.bool false, .bool false, (.slice none 0 0), .int .i64 0] 26)) := zbh
  have nxr : ¬ w.heap.size = w.heap.size + 1 := by omega
  have nrx : ¬ w.heap.size + 1 = w.heap.size := by omega
  generalize ((w.alloc (.cells #[.bool bd, .bool s, (.slice a n cap), .int .i64 e] 26)).alloc (.cells #[.bool false, .bool false, (.slice none 0 0), .int .i64 0] 26)) = w0 at Ix Ir B0 ⊢
  generalize hb1 : w.heap.size + 1 = b1 at Ir nxr nrx ⊢
  generalize hb0 : w.heap.size = b0 at Ix nxr nrx hb1 ⊢
  obtain ⟨xc0, xc1, xc2, xc3, xc4, xc5⟩ := Ix
  have Vx0 := Lib.hid (DyV.mk xc0 xc1 xc2 xc3 xc4 xc5)
  obtain ⟨rc0, rc1, rc2, rc3, rc4, rc5⟩ := Ir
  have Vr0 := Lib.hid (DyV.mk rc0 rc1 rc2 rc3 rc4 rc5)
  refine (HN _ (hx.below (have := Beh.mk B0; zbh)) (hT.below (have := Beh.mk B0; zbh))).out.mono ?_
  rintro e w1 ⟨a1, c1, rfl, M11, hb1, hf1⟩
  have Vx1 : DyV w1 b0 bd s (.slice a n cap) e := (Vx0.out.on.below hb1)
  (try clear xc0 xc1 xc2 xc3 xc4)
  obtain ⟨xc0, xc1, xc2, xc3, xc4, xc5⟩ := Vx1
  have Vx1 := Lib.hid (DyV.mk xc0 xc1 xc2 xc3 xc4 xc5)
  have Vr1 : DyV w1 b1 false false (.slice none 0 0) 0 := (Vr0.out.on.below hb1)
  (try clear rc0 rc1 rc2 rc3 rc4)
  obtain ⟨rc0, rc1, rc2, rc3, rc4, rc5⟩ := Vr1
  have Vr1 := Lib.hid (DyV.mk rc0 rc1 rc2 rc3 rc4 rc5)
  have B1 := below_box (w := w) (have := Beh.mk B0; zbh) hb1
  have hF1 : 0 < (nl (dman d).natAbs) → w0.heap.size ≤ ab a1 := (fun h => by have hq := hf1 h; (try simp at hq); omega)
  have fr1x : 0 < (nl (dman d).natAbs) → ab a1 ≠ b0 := (fun h => by have := hF1 h; have := Vx0.out.lt; omega)
  have fr1r : 0 < (nl (dman d).natAbs) → ab a1 ≠ b1 := (fun h => by have := hF1 h; have := Vr0.out.lt; omega)
  have fo1 : 0 < (nl (dman d).natAbs) → w.heap.size ≤ ab a1 := (fun h => by have := hF1 h; have := B0.size; omega)
  clear hF1
  clear hb1 hf1
  go_wp2_with fail
  have Vx2 := DyV.put Vx1.out true (decide (dman d < 0)) (.slice a1 (nl (dman d).natAbs) c1) (dexp d)
  have Vr2 := (DyV.set (DyV.set (DyV.set (DyV.set Vr1.out nrx 0 (.bool true)) nrx 1 (.bool (decide (dman d < 0)))) nrx 2 (.slice a1 (nl (dman d).natAbs) c1)) nrx 3 (.int .i64 (dexp d)))
  have M12 := (Mag.set (Mag.set (Mag.set (Mag.set M11 fr1x 0 (.bool true)) fr1x 1 (.bool (decide (dman d < 0)))) fr1x 2 (.slice a1 (nl (dman d).natAbs) c1)) fr1x 3 (.int .i64 (dexp d)))
  have B2 : Below w.heap.size w ((((w1.setCell ⟨b0, 0, none⟩ (.bool true)).setCell ⟨b0, 1, none⟩ (.bool (decide (dman d < 0)))).setCell ⟨b0, 2, none⟩ (.slice a1 (nl (dman d).natAbs) c1)).setCell ⟨b0, 3, none⟩ (.int .i64 (dexp d))) := (by have hszw := (B1).size; repeat (with_reducible first | refine Below.setCell ?_ (by first | omega | (simp <;> omega)) _ | refine Below.alloc ?_ (by first | omega | (simp <;> omega)) _ | refine Below.drew ?_ | refine below_drewN ?_ _ | exact B1))
  generalize ((((w1.setCell ⟨b0, 0, none⟩ (.bool true)).setCell ⟨b0, 1, none⟩ (.bool (decide (dman d < 0)))).setCell ⟨b0, 2, none⟩ (.slice a1 (nl (dman d).natAbs) c1)).setCell ⟨b0, 3, none⟩ (.int .i64 (dexp d))) = w2 at Vx2 Vr2 M12 B2 ⊢
  (try clear xc0 xc1 xc2 xc3 xc4)
  obtain ⟨xc0, xc1, xc2, xc3, xc4, xc5⟩ := Vx2
  have Vx2 := Lib.hid (DyV.mk xc0 xc1 xc2 xc3 xc4 xc5)
  (try clear rc0 rc1 rc2 rc3 rc4)
  obtain ⟨rc0, rc1, rc2, rc3, rc4, rc5⟩ := Vr2
  have Vr2 := Lib.hid (DyV.mk rc0 rc1 rc2 rc3 rc4 rc5)
  refine bodyPost_ret (v := .agg #[.bool true, .bool (decide (dman d < 0)), .slice a1 (nl (dman d).natAbs) c1, .int .i64 (dexp d)]) (by simp only [results, Tryz.results178]; go_simp) rfl ?_
  rw [← hb]
  exact ⟨a1, c1, rfl, (by repeat (with_reducible first | refine Mag.set ?_ fr1x _ _ | refine Mag.set ?_ fr1r _ _ | refine Mag.drew ?_ | refine Mag.drewN ?_ _ | refine Mag.alloc ?_ _ | exact M12)), (by have hszw := (B2).size; repeat (with_reducible first | refine Below.setCell ?_ (by first | omega | (simp <;> omega)) _ | refine Below.alloc ?_ (by first | omega | (simp <;> omega)) _ | refine Below.drew ?_ | refine below_drewN ?_ _ | exact B2)), fo1⟩

set_option maxRecDepth 100000 in
set_option maxHeartbeats 2000000 in
theorem rdscale_zero (w : World) (bd s : Bool) (a : Option Addr) (n cap : Nat) (e k : Int) (d : Option (Int × Int)) (hx : DyIs w bd s a n cap e d) (hT : Tab w) (hb : dbad d = false) (hz : dman d = 0) :
    Calls Tryz.prog 178 #[.agg #[.bool bd, .bool s, .slice a n cap, .int .i64 e], .int .i64 k] w (RetDy w d) := by
  have HN := fun W h ht => Lib.hid (@rdnorm_in W bd s a n cap e d h ht)
  have hbz := isN_bounds hx.1.isN
  have HS := fun W b c h => Lib.hid (rsgn_z W b c (dman d) _ rfl h (nl_lim5 (by omega)))
  obtain ⟨g, hg⟩ : ∃ g, g = sg (dman d) := ⟨_, rfl⟩
  have hgz : (g == 0) = true := by rw [hg]; exact sg0 hz
  rw [← hg] at HS
  clear hg
  clear hz hbz
  go_enter Tryz.func178, Tryz.ntmps178
  go_wp2_with fail
  have Ix := ((DyV.made' w 26 bd s (.slice a n cap) e (n := w.heap.size) (by rfl)).alloc (.cells #[.bool false, .bool false, (.slice none 0 0), .int .i64 0] 26))
  have Ir := (DyV.made' (w.alloc (.cells #[.bool bd, .bool s, (.slice a n cap), .int .i64 e] 26)) 26 false false (.slice none 0 0) 0 (n := w.heap.size + 1) (by rw [World.size_alloc]))
  have B0 : Below w.heap.size w ((w.alloc (.cells #[.bool bd, .bool s, (.slice a n cap), .int .i64 e] 26)).alloc (.cells #[.bool false, .bool false, (.slice none 0 0), .int .i64 0] 26)) := zbh
  have nxr : ¬ w.heap.size = w.heap.size + 1 := by omega
  have nrx : ¬ w.heap.size + 1 = w.heap.size := by omega
  generalize ((w.alloc (.cells #[.bool bd, .bool s, (.slice a n cap), .int .i64 e] 26)).alloc (.cells #[.bool false, .bool false, (.slice none 0 0), .int .i64 0] 26)) = w0 at Ix Ir B0 ⊢
  generalize hb1 : w.heap.size + 1 = b1 at Ir nxr nrx ⊢
  generalize hb0 : w.heap.size = b0 at Ix nxr nrx hb1 ⊢
  obtain ⟨xc0, xc1, xc2, xc3, xc4, xc5⟩ := Ix
  have Vx0 := Lib.hid (DyV.mk xc0 xc1 xc2 xc3 xc4 xc5)
  obtain ⟨rc0, rc1, rc2, rc3, rc4, rc5⟩ := Ir
  have Vr0 := Lib.hid (DyV.mk rc0 rc1 rc2 rc3 rc4 rc5)
  refine (HN _ (hx.below (have := Beh.mk B0; zbh)) (hT.below (have := Beh.mk B0; zbh))).out.mono ?_
  rintro e w1 ⟨a1, c1, rfl, M11, hb1, hf1⟩
  have Vx1 : DyV w1 b0 bd s (.slice a n cap) e := (Vx0.out.on.below hb1)
  (try clear xc0 xc1 xc2 xc3 xc4)
  obtain ⟨xc0, xc1, xc2, xc3, xc4, xc5⟩ := Vx1
  have Vx1 := Lib.hid (DyV.mk xc0 xc1 xc2 xc3 xc4 xc5)
  have Vr1 : DyV w1 b1 false false (.slice none 0 0) 0 := (Vr0.out.on.below hb1)
  (try clear rc0 rc1 rc2 rc3 rc4)
  obtain ⟨rc0, rc1, rc2, rc3, rc4, rc5⟩ := Vr1
  have Vr1 := Lib.hid (DyV.mk rc0 rc1 rc2 rc3 rc4 rc5)
  have B1 := below_box (w := w) (have := Beh.mk B0; zbh) hb1
  have hF1 : 0 < (nl (dman d).natAbs) → w0.heap.size ≤ ab a1 := (fun h => by have hq := hf1 h; (try simp at hq); omega)
  have fr1x : 0 < (nl (dman d).natAbs) → ab a1 ≠ b0 := (fun h => by have := hF1 h; have := Vx0.out.lt; omega)
  have fr1r : 0 < (nl (dman d).natAbs) → ab a1 ≠ b1 := (fun h => by have := hF1 h; have := Vr0.out.lt; omega)
  have fo1 : 0 < (nl (dman d).natAbs) → w.heap.size ≤ ab a1 := (fun h => by have := hF1 h; have := B0.size; omega)
  clear hF1
  clear hb1 hf1
  go_wp2_with fail
  have Vx2 := DyV.put Vx1.out false (decide (dman d < 0)) (.slice a1 (nl (dman d).natAbs) c1) (dexp d)
  have Vr2 := (DyV.set (DyV.set (DyV.set (DyV.set Vr1.out nrx 0 (.bool false)) nrx 1 (.bool (decide (dman d < 0)))) nrx 2 (.slice a1 (nl (dman d).natAbs) c1)) nrx 3 (.int .i64 (dexp d)))
  have M12 := (Mag.set (Mag.set (Mag.set (Mag.set M11 fr1x 0 (.bool false)) fr1x 1 (.bool (decide (dman d < 0)))) fr1x 2 (.slice a1 (nl (dman d).natAbs) c1)) fr1x 3 (.int .i64 (dexp d)))
  have B2 : Below w.heap.size w ((((w1.setCell ⟨b0, 0, none⟩ (.bool false)).setCell ⟨b0, 1, none⟩ (.bool (decide (dman d < 0)))).setCell ⟨b0, 2, none⟩ (.slice a1 (nl (dman d).natAbs) c1)).setCell ⟨b0, 3, none⟩ (.int .i64 (dexp d))) := (by have hszw := (B1).size; repeat (with_reducible first | refine Below.setCell ?_ (by first | omega | (simp <;> omega)) _ | refine Below.alloc ?_ (by first | omega | (simp <;> omega)) _ | refine Below.drew ?_ | refine below_drewN ?_ _ | exact B1))
  generalize ((((w1.setCell ⟨b0, 0, none⟩ (.bool false)).setCell ⟨b0, 1, none⟩ (.bool (decide (dman d < 0)))).setCell ⟨b0, 2, none⟩ (.slice a1 (nl (dman d).natAbs) c1)).setCell ⟨b0, 3, none⟩ (.int .i64 (dexp d))) = w2 at Vx2 Vr2 M12 B2 ⊢
  (try clear xc0 xc1 xc2 xc3 xc4)
  obtain ⟨xc0, xc1, xc2, xc3, xc4, xc5⟩ := Vx2
  have Vx2 := Lib.hid (DyV.mk xc0 xc1 xc2 xc3 xc4 xc5)
  (try clear rc0 rc1 rc2 rc3 rc4)
  obtain ⟨rc0, rc1, rc2, rc3, rc4, rc5⟩ := Vr2
  have Vr2 := Lib.hid (DyV.mk rc0 rc1 rc2 rc3 rc4 rc5)
  refine (HS _ a1 c1 (by repeat (with_reducible first | refine Mag.set ?_ (fun h => by have := M12 h; omega) _ _ | refine Mag.drew ?_ | refine Mag.alloc ?_ _ | refine Mag.drewN ?_ _ | exact M12))).out.mono ?_
  rintro e w3 ⟨rfl, hb3⟩
  have Vx3 : DyV w3 b0 false (decide (dman d < 0)) (.slice a1 (nl (dman d).natAbs) c1) (dexp d) := (Vx2.out.on.below hb3)
  (try clear xc0 xc1 xc2 xc3 xc4)
  obtain ⟨xc0, xc1, xc2, xc3, xc4, xc5⟩ := Vx3
  have Vx3 := Lib.hid (DyV.mk xc0 xc1 xc2 xc3 xc4 xc5)
  have Vr3 : DyV w3 b1 false false (.slice none 0 0) 0 := (Vr2.out.on.below hb3)
  (try clear rc0 rc1 rc2 rc3 rc4)
  obtain ⟨rc0, rc1, rc2, rc3, rc4, rc5⟩ := Vr3
  have Vr3 := Lib.hid (DyV.mk rc0 rc1 rc2 rc3 rc4 rc5)
  have M13 : Mag w3 a1 (nl (dman d).natAbs) c1 (dman d).natAbs := Mag.below (by repeat (with_reducible first | refine Mag.set ?_ (fun h => by have := M12 h; omega) _ _ | refine Mag.drew ?_ | refine Mag.alloc ?_ _ | refine Mag.drewN ?_ _ | exact M12)) hb3
  have B3 := below_box (w := w) (have := Beh.mk B2; zbh) hb3
  clear hb3
  go_wp2_with fail
  refine bodyPost_ret (v := .agg #[.bool false, .bool (decide (dman d < 0)), .slice a1 (nl (dman d).natAbs) c1, .int .i64 (dexp d)]) (by simp only [results, Tryz.results178]; go_simp) rfl ?_
  rw [← hb]
  exact ⟨a1, c1, rfl, (by repeat (with_reducible first | refine Mag.set ?_ fr1x _ _ | refine Mag.set ?_ fr1r _ _ | refine Mag.drew ?_ | refine Mag.drewN ?_ _ | refine Mag.alloc ?_ _ | exact M13)), (by have hszw := (B3).size; repeat (with_reducible first | refine Below.setCell ?_ (by first | omega | (simp <;> omega)) _ | refine Below.alloc ?_ (by first | omega | (simp <;> omega)) _ | refine Below.drew ?_ | refine below_drewN ?_ _ | exact B3)), fo1⟩

set_option maxRecDepth 100000 in
set_option maxHeartbeats 2000000 in
theorem rdscale_hi (w : World) (bd s : Bool) (a : Option Addr) (n cap : Nat) (e k : Int) (d : Option (Int × Int)) (hx : DyIs w bd s a n cap e d) (hT : Tab w) (hb : dbad d = false) (hz : dman d ≠ 0) (hk : 262144 < k) :
    Calls Tryz.prog 178 #[.agg #[.bool bd, .bool s, .slice a n cap, .int .i64 e], .int .i64 k] w (RetDy w none) := by
  have HN := fun W h ht => Lib.hid (@rdnorm_in W bd s a n cap e d h ht)
  have hbz := isN_bounds hx.1.isN
  have HS := fun W b c h => Lib.hid (rsgn_z W b c (dman d) _ rfl h (nl_lim5 (by omega)))
  obtain ⟨g, hg⟩ : ∃ g, g = sg (dman d) := ⟨_, rfl⟩
  have hgz : (g == 0) = false := by rw [hg]; exact sg1 hz
  rw [← hg] at HS
  clear hg
  have HB := fun W => Lib.hid (rbad_any W)
  have k1 : decide ((262144 : Int) < k) = true := by simpa using hk
  clear hz hk hbz
  go_enter Tryz.func178, Tryz.ntmps178
  go_wp2_with fail
  have Ix := ((DyV.made' w 26 bd s (.slice a n cap) e (n := w.heap.size) (by rfl)).alloc (.cells #[.bool false, .bool false, (.slice none 0 0), .int .i64 0] 26))
  have Ir := (DyV.made' (w.alloc (.cells #[.bool bd, .bool s, (.slice a n cap), .int .i64 e] 26)) 26 false false (.slice none 0 0) 0 (n := w.heap.size + 1) (by rw [World.size_alloc]))
  have B0 : Below w.heap.size w ((w.alloc (.cells #[.bool bd, .bool s, (.slice a n cap), .int .i64 e] 26)).alloc (.cells #[.bool false, .bool false, (.slice none 0 0), .int .i64 0] 26)) := zbh
  have nxr : ¬ w.heap.size = w.heap.size + 1 := by omega
  have nrx : ¬ w.heap.size + 1 = w.heap.size := by omega
  generalize ((w.alloc (.cells #[.bool bd, .bool s, (.slice a n cap), .int .i64 e] 26)).alloc (.cells #[.bool false, .bool false, (.slice none 0 0), .int .i64 0] 26)) = w0 at Ix Ir B0 ⊢
  generalize hb1 : w.heap.size + 1 = b1 at Ir nxr nrx ⊢
  generalize hb0 : w.heap.size = b0 at Ix nxr nrx hb1 ⊢
  obtain ⟨xc0, xc1, xc2, xc3, xc4, xc5⟩ := Ix
  have Vx0 := Lib.hid (DyV.mk xc0 xc1 xc2 xc3 xc4 xc5)
  obtain ⟨rc0, rc1, rc2, rc3, rc4, rc5⟩ := Ir
  have Vr0 := Lib.hid (DyV.mk rc0 rc1 rc2 rc3 rc4 rc5)
  refine (HN _ (hx.below (have := Beh.mk B0; zbh)) (hT.below (have := Beh.mk B0; zbh))).out.mono ?_
  rintro e w1 ⟨a1, c1, rfl, M11, hb1, hf1⟩
  have Vx1 : DyV w1 b0 bd s (.slice a n cap) e := (Vx0.out.on.below hb1)
  (try clear xc0 xc1 xc2 xc3 xc4)
  obtain ⟨xc0, xc1, xc2, xc3, xc4, xc5⟩ := Vx1
  have Vx1 := Lib.hid (DyV.mk xc0 xc1 xc2 xc3 xc4 xc5)
  have Vr1 : DyV w1 b1 false false (.slice none 0 0) 0 := (Vr0.out.on.below hb1)
  (try clear rc0 rc1 rc2 rc3 rc4)
  obtain ⟨rc0, rc1, rc2, rc3, rc4, rc5⟩ := Vr1
  have Vr1 := Lib.hid (DyV.mk rc0 rc1 rc2 rc3 rc4 rc5)
  have B1 := below_box (w := w) (have := Beh.mk B0; zbh) hb1
  have hF1 : 0 < (nl (dman d).natAbs) → w0.heap.size ≤ ab a1 := (fun h => by have hq := hf1 h; (try simp at hq); omega)
  have fr1x : 0 < (nl (dman d).natAbs) → ab a1 ≠ b0 := (fun h => by have := hF1 h; have := Vx0.out.lt; omega)
  have fr1r : 0 < (nl (dman d).natAbs) → ab a1 ≠ b1 := (fun h => by have := hF1 h; have := Vr0.out.lt; omega)
  have fo1 : 0 < (nl (dman d).natAbs) → w.heap.size ≤ ab a1 := (fun h => by have := hF1 h; have := B0.size; omega)
  clear hF1
  clear hb1 hf1
  go_wp2_with fail
  have Vx2 := DyV.put Vx1.out false (decide (dman d < 0)) (.slice a1 (nl (dman d).natAbs) c1) (dexp d)
  have Vr2 := (DyV.set (DyV.set (DyV.set (DyV.set Vr1.out nrx 0 (.bool false)) nrx 1 (.bool (decide (dman d < 0)))) nrx 2 (.slice a1 (nl (dman d).natAbs) c1)) nrx 3 (.int .i64 (dexp d)))
  have M12 := (Mag.set (Mag.set (Mag.set (Mag.set M11 fr1x 0 (.bool false)) fr1x 1 (.bool (decide (dman d < 0)))) fr1x 2 (.slice a1 (nl (dman d).natAbs) c1)) fr1x 3 (.int .i64 (dexp d)))
  have B2 : Below w.heap.size w ((((w1.setCell ⟨b0, 0, none⟩ (.bool false)).setCell ⟨b0, 1, none⟩ (.bool (decide (dman d < 0)))).setCell ⟨b0, 2, none⟩ (.slice a1 (nl (dman d).natAbs) c1)).setCell ⟨b0, 3, none⟩ (.int .i64 (dexp d))) := (by have hszw := (B1).size; repeat (with_reducible first | refine Below.setCell ?_ (by first | omega | (simp <;> omega)) _ | refine Below.alloc ?_ (by first | omega | (simp <;> omega)) _ | refine Below.drew ?_ | refine below_drewN ?_ _ | exact B1))
  generalize ((((w1.setCell ⟨b0, 0, none⟩ (.bool false)).setCell ⟨b0, 1, none⟩ (.bool (decide (dman d < 0)))).setCell ⟨b0, 2, none⟩ (.slice a1 (nl (dman d).natAbs) c1)).setCell ⟨b0, 3, none⟩ (.int .i64 (dexp d))) = w2 at Vx2 Vr2 M12 B2 ⊢
  (try clear xc0 xc1 xc2 xc3 xc4)
  obtain ⟨xc0, xc1, xc2, xc3, xc4, xc5⟩ := Vx2
  have Vx2 := Lib.hid (DyV.mk xc0 xc1 xc2 xc3 xc4 xc5)
  (try clear rc0 rc1 rc2 rc3 rc4)
  obtain ⟨rc0, rc1, rc2, rc3, rc4, rc5⟩ := Vr2
  have Vr2 := Lib.hid (DyV.mk rc0 rc1 rc2 rc3 rc4 rc5)
  refine (HS _ a1 c1 (by repeat (with_reducible first | refine Mag.set ?_ (fun h => by have := M12 h; omega) _ _ | refine Mag.drew ?_ | refine Mag.alloc ?_ _ | refine Mag.drewN ?_ _ | exact M12))).out.mono ?_
  rintro e w3 ⟨rfl, hb3⟩
  have Vx3 : DyV w3 b0 false (decide (dman d < 0)) (.slice a1 (nl (dman d).natAbs) c1) (dexp d) := (Vx2.out.on.below hb3)
  (try clear xc0 xc1 xc2 xc3 xc4)
  obtain ⟨xc0, xc1, xc2, xc3, xc4, xc5⟩ := Vx3
  have Vx3 := Lib.hid (DyV.mk xc0 xc1 xc2 xc3 xc4 xc5)
  have Vr3 : DyV w3 b1 false false (.slice none 0 0) 0 := (Vr2.out.on.below hb3)
  (try clear rc0 rc1 rc2 rc3 rc4)
  obtain ⟨rc0, rc1, rc2, rc3, rc4, rc5⟩ := Vr3
  have Vr3 := Lib.hid (DyV.mk rc0 rc1 rc2 rc3 rc4 rc5)
  have M13 : Mag w3 a1 (nl (dman d).natAbs) c1 (dman d).natAbs := Mag.below (by repeat (with_reducible first | refine Mag.set ?_ (fun h => by have := M12 h; omega) _ _ | refine Mag.drew ?_ | refine Mag.alloc ?_ _ | refine Mag.drewN ?_ _ | exact M12)) hb3
  have B3 := below_box (w := w) (have := Beh.mk B2; zbh) hb3
  clear hb3
  go_wp2_with fail
  refine (HB _).out.mono ?_
  rintro e w4 ⟨rfl, hb4⟩
  have Vx4 : DyV w4 b0 false (decide (dman d < 0)) (.slice a1 (nl (dman d).natAbs) c1) (dexp d) := (Vx3.out.on.below hb4)
  (try clear xc0 xc1 xc2 xc3 xc4)
  obtain ⟨xc0, xc1, xc2, xc3, xc4, xc5⟩ := Vx4
  have Vx4 := Lib.hid (DyV.mk xc0 xc1 xc2 xc3 xc4 xc5)
  have Vr4 : DyV w4 b1 false false (.slice none 0 0) 0 := (Vr3.out.on.below hb4)
  (try clear rc0 rc1 rc2 rc3 rc4)
  obtain ⟨rc0, rc1, rc2, rc3, rc4, rc5⟩ := Vr4
  have Vr4 := Lib.hid (DyV.mk rc0 rc1 rc2 rc3 rc4 rc5)
  have M14 : Mag w4 a1 (nl (dman d).natAbs) c1 (dman d).natAbs := Mag.below (by repeat (with_reducible first | refine Mag.set ?_ (fun h => by have := M13 h; omega) _ _ | refine Mag.drew ?_ | refine Mag.alloc ?_ _ | refine Mag.drewN ?_ _ | exact M13)) hb4
  have B4 := below_box (w := w) (have := Beh.mk B3; zbh) hb4
  clear hb4
  go_wp2_with fail
  refine bodyPost_ret (v := .agg #[.bool true, .bool false, .slice none 0 0, .int .i64 0]) (by simp only [results, Tryz.results178]; go_simp) rfl ?_
  exact ⟨none, 0, rfl, Mag.nil _, (by have hszw := (B4).size; repeat (with_reducible first | refine Below.setCell ?_ (by first | omega | (simp <;> omega)) _ | refine Below.alloc ?_ (by first | omega | (simp <;> omega)) _ | refine Below.drew ?_ | refine below_drewN ?_ _ | exact B4)), nl0⟩

set_option maxRecDepth 100000 in
set_option maxHeartbeats 2000000 in
theorem rdscale_lo (w : World) (bd s : Bool) (a : Option Addr) (n cap : Nat) (e k : Int) (d : Option (Int × Int)) (hx : DyIs w bd s a n cap e d) (hT : Tab w) (hb : dbad d = false) (hz : dman d ≠ 0) (hk : k < -262144) :
    Calls Tryz.prog 178 #[.agg #[.bool bd, .bool s, .slice a n cap, .int .i64 e], .int .i64 k] w (RetDy w none) := by
  have HN := fun W h ht => Lib.hid (@rdnorm_in W bd s a n cap e d h ht)
  have hbz := isN_bounds hx.1.isN
  have HS := fun W b c h => Lib.hid (rsgn_z W b c (dman d) _ rfl h (nl_lim5 (by omega)))
  obtain ⟨g, hg⟩ : ∃ g, g = sg (dman d) := ⟨_, rfl⟩
  have hgz : (g == 0) = false := by rw [hg]; exact sg1 hz
  rw [← hg] at HS
  clear hg
  have HB := fun W => Lib.hid (rbad_any W)
  have k1 : decide ((262144 : Int) < k) = false := by simp; omega
  have k2 : decide (k < -262144) = true := by simpa using hk
  clear hz hk hbz
  go_enter Tryz.func178, Tryz.ntmps178
  go_wp2_with fail
  have Ix := ((DyV.made' w 26 bd s (.slice a n cap) e (n := w.heap.size) (by rfl)).alloc (.cells #[.bool false, .bool false, (.slice none 0 0), .int .i64 0] 26))
  have Ir := (DyV.made' (w.alloc (.cells #[.bool bd, .bool s, (.slice a n cap), .int .i64 e] 26)) 26 false false (.slice none 0 0) 0 (n := w.heap.size + 1) (by rw [World.size_alloc]))
  have B0 : Below w.heap.size w ((w.alloc (.cells #[.bool bd, .bool s, (.slice a n cap), .int .i64 e] 26)).alloc (.cells #[.bool false, .bool false, (.slice none 0 0), .int .i64 0] 26)) := zbh
  have nxr : ¬ w.heap.size = w.heap.size + 1 := by omega
  have nrx : ¬ w.heap.size + 1 = w.heap.size := by omega
  generalize ((w.alloc (.cells #[.bool bd, .bool s, (.slice a n cap), .int .i64 e] 26)).alloc (.cells #[.bool false, .bool false, (.slice none 0 0), .int .i64 0] 26)) = w0 at Ix Ir B0 ⊢
  generalize hb1 : w.heap.size + 1 = b1 at Ir nxr nrx ⊢
  generalize hb0 : w.heap.size = b0 at Ix nxr nrx hb1 ⊢
  obtain ⟨xc0, xc1, xc2, xc3, xc4, xc5⟩ := Ix
  have Vx0 := Lib.hid (DyV.mk xc0 xc1 xc2 xc3 xc4 xc5)
  obtain ⟨rc0, rc1, rc2, rc3, rc4, rc5⟩ := Ir
  have Vr0 := Lib.hid (DyV.mk rc0 rc1 rc2 rc3 rc4 rc5)
  refine (HN _ (hx.below (have := Beh.mk B0; zbh)) (hT.below (have := Beh.mk B0; zbh))).out.mono ?_
  rintro e w1 ⟨a1, c1, rfl, M11, hb1, hf1⟩
  have Vx1 : DyV w1 b0 bd s (.slice a n cap) e := (Vx0.out.on.below hb1)
  (try clear xc0 xc1 xc2 xc3 xc4)
  obtain ⟨xc0, xc1, xc2, xc3, xc4, xc5⟩ := Vx1
  have Vx1 := Lib.hid (DyV.mk xc0 xc1 xc2 xc3 xc4 xc5)
  have Vr1 : DyV w1 b1 false false (.slice none 0 0) 0 := (Vr0.out.on.below hb1)
  (try clear rc0 rc1 rc2 rc3 rc4)
  obtain ⟨rc0, rc1, rc2, rc3, rc4, rc5⟩ := Vr1
  have Vr1 := Lib.hid (DyV.mk rc0 rc1 rc2 rc3 rc4 rc5)
  have B1 := below_box (w := w) (have := Beh.mk B0; zbh) hb1
  have hF1 : 0 < (nl (dman d).natAbs) → w0.heap.size ≤ ab a1 := (fun h => by have hq := hf1 h; (try simp at hq); omega)
  have fr1x : 0 < (nl (dman d).natAbs) → ab a1 ≠ b0 := (fun h => by have := hF1 h; have := Vx0.out.lt; omega)
  have fr1r : 0 < (nl (dman d).natAbs) → ab a1 ≠ b1 := (fun h => by have := hF1 h; have := Vr0.out.lt; omega)
  have fo1 : 0 < (nl (dman d).natAbs) → w.heap.size ≤ ab a1 := (fun h => by have := hF1 h; have := B0.size; omega)
  clear hF1
  clear hb1 hf1
  go_wp2_with fail
  have Vx2 := DyV.put Vx1.out false (decide (dman d < 0)) (.slice a1 (nl (dman d).natAbs) c1) (dexp d)
  have Vr2 := (DyV.set (DyV.set (DyV.set (DyV.set Vr1.out nrx 0 (.bool false)) nrx 1 (.bool (decide (dman d < 0)))) nrx 2 (.slice a1 (nl (dman d).natAbs) c1)) nrx 3 (.int .i64 (dexp d)))
  have M12 := (Mag.set (Mag.set (Mag.set (Mag.set M11 fr1x 0 (.bool false)) fr1x 1 (.bool (decide (dman d < 0)))) fr1x 2 (.slice a1 (nl (dman d).natAbs) c1)) fr1x 3 (.int .i64 (dexp d)))
  have B2 : Below w.heap.size w ((((w1.setCell ⟨b0, 0, none⟩ (.bool false)).setCell ⟨b0, 1, none⟩ (.bool (decide (dman d < 0)))).setCell ⟨b0, 2, none⟩ (.slice a1 (nl (dman d).natAbs) c1)).setCell ⟨b0, 3, none⟩ (.int .i64 (dexp d))) := (by have hszw := (B1).size; repeat (with_reducible first | refine Below.setCell ?_ (by first | omega | (simp <;> omega)) _ | refine Below.alloc ?_ (by first | omega | (simp <;> omega)) _ | refine Below.drew ?_ | refine below_drewN ?_ _ | exact B1))
  generalize ((((w1.setCell ⟨b0, 0, none⟩ (.bool false)).setCell ⟨b0, 1, none⟩ (.bool (decide (dman d < 0)))).setCell ⟨b0, 2, none⟩ (.slice a1 (nl (dman d).natAbs) c1)).setCell ⟨b0, 3, none⟩ (.int .i64 (dexp d))) = w2 at Vx2 Vr2 M12 B2 ⊢
  (try clear xc0 xc1 xc2 xc3 xc4)
  obtain ⟨xc0, xc1, xc2, xc3, xc4, xc5⟩ := Vx2
  have Vx2 := Lib.hid (DyV.mk xc0 xc1 xc2 xc3 xc4 xc5)
  (try clear rc0 rc1 rc2 rc3 rc4)
  obtain ⟨rc0, rc1, rc2, rc3, rc4, rc5⟩ := Vr2
  have Vr2 := Lib.hid (DyV.mk rc0 rc1 rc2 rc3 rc4 rc5)
  refine (HS _ a1 c1 (by repeat (with_reducible first | refine Mag.set ?_ (fun h => by have := M12 h; omega) _ _ | refine Mag.drew ?_ | refine Mag.alloc ?_ _ | refine Mag.drewN ?_ _ | exact M12))).out.mono ?_
  rintro e w3 ⟨rfl, hb3⟩
  have Vx3 : DyV w3 b0 false (decide (dman d < 0)) (.slice a1 (nl (dman d).natAbs) c1) (dexp d) := (Vx2.out.on.below hb3)
  (try clear xc0 xc1 xc2 xc3 xc4)
  obtain ⟨xc0, xc1, xc2, xc3, xc4, xc5⟩ := Vx3
  have Vx3 := Lib.hid (DyV.mk xc0 xc1 xc2 xc3 xc4 xc5)
  have Vr3 : DyV w3 b1 false false (.slice none 0 0) 0 := (Vr2.out.on.below hb3)
  (try clear rc0 rc1 rc2 rc3 rc4)
  obtain ⟨rc0, rc1, rc2, rc3, rc4, rc5⟩ := Vr3
  have Vr3 := Lib.hid (DyV.mk rc0 rc1 rc2 rc3 rc4 rc5)
  have M13 : Mag w3 a1 (nl (dman d).natAbs) c1 (dman d).natAbs := Mag.below (by repeat (with_reducible first | refine Mag.set ?_ (fun h => by have := M12 h; omega) _ _ | refine Mag.drew ?_ | refine Mag.alloc ?_ _ | refine Mag.drewN ?_ _ | exact M12)) hb3
  have B3 := below_box (w := w) (have := Beh.mk B2; zbh) hb3
  clear hb3
  go_wp2_with fail
  refine (HB _).out.mono ?_
  rintro e w4 ⟨rfl, hb4⟩
  have Vx4 : DyV w4 b0 false (decide (dman d < 0)) (.slice a1 (nl (dman d).natAbs) c1) (dexp d) := (Vx3.out.on.below hb4)
  (try clear xc0 xc1 xc2 xc3 xc4)
  obtain ⟨xc0, xc1, xc2, xc3, xc4, xc5⟩ := Vx4
  have Vx4 := Lib.hid (DyV.mk xc0 xc1 xc2 xc3 xc4 xc5)
  have Vr4 : DyV w4 b1 false false (.slice none 0 0) 0 := (Vr3.out.on.below hb4)
  (try clear rc0 rc1 rc2 rc3 rc4)
  obtain ⟨rc0, rc1, rc2, rc3, rc4, rc5⟩ := Vr4
  have Vr4 := Lib.hid (DyV.mk rc0 rc1 rc2 rc3 rc4 rc5)
  have M14 : Mag w4 a1 (nl (dman d).natAbs) c1 (dman d).natAbs := Mag.below (by repeat (with_reducible first | refine Mag.set ?_ (fun h => by have := M13 h; omega) _ _ | refine Mag.drew ?_ | refine Mag.alloc ?_ _ | refine Mag.drewN ?_ _ | exact M13)) hb4
  have B4 := below_box (w := w) (have := Beh.mk B3; zbh) hb4
  clear hb4
  go_wp2_with fail
  refine bodyPost_ret (v := .agg #[.bool true, .bool false, .slice none 0 0, .int .i64 0]) (by simp only [results, Tryz.results178]; go_simp) rfl ?_
  exact ⟨none, 0, rfl, Mag.nil _, (by have hszw := (B4).size; repeat (with_reducible first | refine Below.setCell ?_ (by first | omega | (simp <;> omega)) _ | refine Below.alloc ?_ (by first | omega | (simp <;> omega)) _ | refine Below.drew ?_ | refine below_drewN ?_ _ | exact B4)), nl0⟩

set_option maxRecDepth 100000 in
set_option maxHeartbeats 2000000 in
theorem rdscale_ok (w : World) (bd s : Bool) (a : Option Addr) (n cap : Nat) (e k : Int) (d : Option (Int × Int)) (hx : DyIs w bd s a n cap e d) (hT : Tab w) (hb : dbad d = false) (hz : dman d ≠ 0) (hk1 : -262144 ≤ k) (hk2 : k ≤ 262144) (y : Option (Int × Int)) (hy : y = nrm (dman d) (dexp d + k)) :
    Calls Tryz.prog 178 #[.agg #[.bool bd, .bool s, .slice a n cap, .int .i64 e], .int .i64 k] w (RetDy w y) := by
  have HN := fun W h ht => Lib.hid (@rdnorm_in W bd s a n cap e d h ht)
  have hbz := isN_bounds hx.1.isN
  have HS := fun W b c h => Lib.hid (rsgn_z W b c (dman d) _ rfl h (nl_lim5 (by omega)))
  obtain ⟨g, hg⟩ : ∃ g, g = sg (dman d) := ⟨_, rfl⟩
  have hgz : (g == 0) = false := by rw [hg]; exact sg1 hz
  rw [← hg] at HS
  clear hg
  have k1 : decide ((262144 : Int) < k) = false := by simp; omega
  have k2 : decide (k < -262144) = false := by simp; omega
  obtain ⟨f, hf⟩ : ∃ f, f = dexp d + k := ⟨_, rfl⟩
  have hw : IntKind.i64.wrap (dexp d + k) = f := by rw [IntKind.wrap_i64]; omega
  rw [← hf] at hy
  have HM := fun W b c h ht => Lib.hid (rmake_z W b c (dman d) f y hy h ht (nl_lim5 (by omega)) (by omega) (by omega))
  clear hz hk1 hk2 hbz hf hy
  go_enter Tryz.func178, Tryz.ntmps178
  go_wp2_with fail
  have Ix := ((DyV.made' w 26 bd s (.slice a n cap) e (n := w.heap.size) (by rfl)).alloc (.cells #[.bool false, .bool false, (.slice none 0 0), .int .i64 0] 26))
  have Ir := (DyV.made' (w.alloc (.cells #[.bool bd, .bool s, (.slice a n cap), .int .i64 e] 26)) 26 false false (.slice none 0 0) 0 (n := w.heap.size + 1) (by rw [World.size_alloc]))
  have B0 : Below w.heap.size w ((w.alloc (.cells #[.bool bd, .bool s, (.slice a n cap), .int .i64 e] 26)).alloc (.cells #[.bool false, .bool false, (.slice none 0 0), .int .i64 0] 26)) := zbh
  have nxr : ¬ w.heap.size = w.heap.size + 1 := by omega
  have nrx : ¬ w.heap.size + 1 = w.heap.size := by omega
  generalize ((w.alloc (.cells #[.bool bd, .bool s, (.slice a n cap), .int .i64 e] 26)).alloc (.cells #[.bool false, .bool false, (.slice none 0 0), .int .i64 0] 26)) = w0 at Ix Ir B0 ⊢
  generalize hb1 : w.heap.size + 1 = b1 at Ir nxr nrx ⊢
  generalize hb0 : w.heap.size = b0 at Ix nxr nrx hb1 ⊢
  obtain ⟨xc0, xc1, xc2, xc3, xc4, xc5⟩ := Ix
  have Vx0 := Lib.hid (DyV.mk xc0 xc1 xc2 xc3 xc4 xc5)
  obtain ⟨rc0, rc1, rc2, rc3, rc4, rc5⟩ := Ir
  have Vr0 := Lib.hid (DyV.mk rc0 rc1 rc2 rc3 rc4 rc5)
  refine (HN _ (hx.below (have := Beh.mk B0; zbh)) (hT.below (have := Beh.mk B0; zbh))).out.mono ?_
  rintro e w1 ⟨a1, c1, rfl, M11, hb1, hf1⟩
  have Vx1 : DyV w1 b0 bd s (.slice a n cap) e := (Vx0.out.on.below hb1)
  (try clear xc0 xc1 xc2 xc3 xc4)
  obtain ⟨xc0, xc1, xc2, xc3, xc4, xc5⟩ := Vx1
  have Vx1 := Lib.hid (DyV.mk xc0 xc1 xc2 xc3 xc4 xc5)
  have Vr1 : DyV w1 b1 false false (.slice none 0 0) 0 := (Vr0.out.on.below hb1)
  (try clear rc0 rc1 rc2 rc3 rc4)
  obtain ⟨rc0, rc1, rc2, rc3, rc4, rc5⟩ := Vr1
  have Vr1 := Lib.hid (DyV.mk rc0 rc1 rc2 rc3 rc4 rc5)
  have B1 := below_box (w := w) (have := Beh.mk B0; zbh) hb1
  have hF1 : 0 < (nl (dman d).natAbs) → w0.heap.size ≤ ab a1 := (fun h => by have hq := hf1 h; (try simp at hq); omega)
  have fr1x : 0 < (nl (dman d).natAbs) → ab a1 ≠ b0 := (fun h => by have := hF1 h; have := Vx0.out.lt; omega)
  have fr1r : 0 < (nl (dman d).natAbs) → ab a1 ≠ b1 := (fun h => by have := hF1 h; have := Vr0.out.lt; omega)
  have fo1 : 0 < (nl (dman d).natAbs) → w.heap.size ≤ ab a1 := (fun h => by have := hF1 h; have := B0.size; omega)
  clear hF1
  clear hb1 hf1
  go_wp2_with fail
  have Vx2 := DyV.put Vx1.out false (decide (dman d < 0)) (.slice a1 (nl (dman d).natAbs) c1) (dexp d)
  have Vr2 := (DyV.set (DyV.set (DyV.set (DyV.set Vr1.out nrx 0 (.bool false)) nrx 1 (.bool (decide (dman d < 0)))) nrx 2 (.slice a1 (nl (dman d).natAbs) c1)) nrx 3 (.int .i64 (dexp d)))
  have M12 := (Mag.set (Mag.set (Mag.set (Mag.set M11 fr1x 0 (.bool false)) fr1x 1 (.bool (decide (dman d < 0)))) fr1x 2 (.slice a1 (nl (dman d).natAbs) c1)) fr1x 3 (.int .i64 (dexp d)))
  have B2 : Below w.heap.size w ((((w1.setCell ⟨b0, 0, none⟩ (.bool false)).setCell ⟨b0, 1, none⟩ (.bool (decide (dman d < 0)))).setCell ⟨b0, 2, none⟩ (.slice a1 (nl (dman d).natAbs) c1)).setCell ⟨b0, 3, none⟩ (.int .i64 (dexp d))) := (by have hszw := (B1).size; repeat (with_reducible first | refine Below.setCell ?_ (by first | omega | (simp <;> omega)) _ | refine Below.alloc ?_ (by first | omega | (simp <;> omega)) _ | refine Below.drew ?_ | refine below_drewN ?_ _ | exact B1))
  generalize ((((w1.setCell ⟨b0, 0, none⟩ (.bool false)).setCell ⟨b0, 1, none⟩ (.bool (decide (dman d < 0)))).setCell ⟨b0, 2, none⟩ (.slice a1 (nl (dman d).natAbs) c1)).setCell ⟨b0, 3, none⟩ (.int .i64 (dexp d))) = w2 at Vx2 Vr2 M12 B2 ⊢
  (try clear xc0 xc1 xc2 xc3 xc4)
  obtain ⟨xc0, xc1, xc2, xc3, xc4, xc5⟩ := Vx2
  have Vx2 := Lib.hid (DyV.mk xc0 xc1 xc2 xc3 xc4 xc5)
  (try clear rc0 rc1 rc2 rc3 rc4)
  obtain ⟨rc0, rc1, rc2, rc3, rc4, rc5⟩ := Vr2
  have Vr2 := Lib.hid (DyV.mk rc0 rc1 rc2 rc3 rc4 rc5)
  refine (HS _ a1 c1 (by repeat (with_reducible first | refine Mag.set ?_ (fun h => by have := M12 h; omega) _ _ | refine Mag.drew ?_ | refine Mag.alloc ?_ _ | refine Mag.drewN ?_ _ | exact M12))).out.mono ?_
  rintro e w3 ⟨rfl, hb3⟩
  have Vx3 : DyV w3 b0 false (decide (dman d < 0)) (.slice a1 (nl (dman d).natAbs) c1) (dexp d) := (Vx2.out.on.below hb3)
  (try clear xc0 xc1 xc2 xc3 xc4)
  obtain ⟨xc0, xc1, xc2, xc3, xc4, xc5⟩ := Vx3
  have Vx3 := Lib.hid (DyV.mk xc0 xc1 xc2 xc3 xc4 xc5)
  have Vr3 : DyV w3 b1 false false (.slice none 0 0) 0 := (Vr2.out.on.below hb3)
  (try clear rc0 rc1 rc2 rc3 rc4)
  obtain ⟨rc0, rc1, rc2, rc3, rc4, rc5⟩ := Vr3
  have Vr3 := Lib.hid (DyV.mk rc0 rc1 rc2 rc3 rc4 rc5)
  have M13 : Mag w3 a1 (nl (dman d).natAbs) c1 (dman d).natAbs := Mag.below (by repeat (with_reducible first | refine Mag.set ?_ (fun h => by have := M12 h; omega) _ _ | refine Mag.drew ?_ | refine Mag.alloc ?_ _ | refine Mag.drewN ?_ _ | exact M12)) hb3
  have B3 := below_box (w := w) (have := Beh.mk B2; zbh) hb3
  clear hb3
  go_wp2_with fail
  refine (HM _ a1 c1 (by repeat (with_reducible first | refine Mag.set ?_ (fun h => by have := M13 h; omega) _ _ | refine Mag.drew ?_ | refine Mag.alloc ?_ _ | refine Mag.drewN ?_ _ | exact M13)) (hT.below (by have hszw := (B3).size; repeat (with_reducible first | refine Below.setCell ?_ (by first | omega | (simp <;> omega)) _ | refine Below.alloc ?_ (by first | omega | (simp <;> omega)) _ | refine Below.drew ?_ | refine below_drewN ?_ _ | exact B3)))).out.mono ?_
  rintro e w4 ⟨ay, cy, rfl, My4, hb4, hf4⟩
  have Vx4 : DyV w4 b0 false (decide (dman d < 0)) (.slice a1 (nl (dman d).natAbs) c1) (dexp d) := (Vx3.out.on.below hb4)
  (try clear xc0 xc1 xc2 xc3 xc4)
  obtain ⟨xc0, xc1, xc2, xc3, xc4, xc5⟩ := Vx4
  have Vx4 := Lib.hid (DyV.mk xc0 xc1 xc2 xc3 xc4 xc5)
  have Vr4 : DyV w4 b1 false false (.slice none 0 0) 0 := (Vr3.out.on.below hb4)
  (try clear rc0 rc1 rc2 rc3 rc4)
  obtain ⟨rc0, rc1, rc2, rc3, rc4, rc5⟩ := Vr4
  have Vr4 := Lib.hid (DyV.mk rc0 rc1 rc2 rc3 rc4 rc5)
  have M14 : Mag w4 a1 (nl (dman d).natAbs) c1 (dman d).natAbs := Mag.below (by repeat (with_reducible first | refine Mag.set ?_ (fun h => by have := M13 h; omega) _ _ | refine Mag.drew ?_ | refine Mag.alloc ?_ _ | refine Mag.drewN ?_ _ | exact M13)) hb4
  have B4 := below_box (w := w) (have := Beh.mk B3; zbh) hb4
  have hF4 : 0 < (nl (dman y).natAbs) → w3.heap.size ≤ ab ay := (fun h => by have hq := hf4 h; (try simp at hq); omega)
  have fryx : 0 < (nl (dman y).natAbs) → ab ay ≠ b0 := (fun h => by have := hF4 h; have := Vx3.out.lt; omega)
  have fryr : 0 < (nl (dman y).natAbs) → ab ay ≠ b1 := (fun h => by have := hF4 h; have := Vr3.out.lt; omega)
  have foy : 0 < (nl (dman y).natAbs) → w.heap.size ≤ ab ay := (fun h => by have := hF4 h; have := B3.size; omega)
  clear hF4
  clear hb4 hf4
  go_wp2_with fail
  refine bodyPost_ret (v := .agg #[.bool (dbad y), .bool (decide (dman y < 0)), .slice ay (nl (dman y).natAbs) cy, .int .i64 (dexp y)]) (by simp only [results, Tryz.results178]; go_simp) rfl ?_
  exact ⟨ay, cy, rfl, (by repeat (with_reducible first | refine Mag.set ?_ fryx _ _ | refine Mag.set ?_ fryr _ _ | refine Mag.drew ?_ | refine Mag.drewN ?_ _ | refine Mag.alloc ?_ _ | exact My4)), (by have hszw := (B4).size; repeat (with_reducible first | refine Below.setCell ?_ (by first | omega | (simp <;> omega)) _ | refine Below.alloc ?_ (by first | omega | (simp <;> omega)) _ | refine Below.drew ?_ | refine below_drewN ?_ _ | exact B4)), foy⟩

theorem rdscale_any (w : World) (bd s : Bool) (a : Option Addr) (n cap : Nat) (e k : Int) (d : Option (Int × Int)) (hx : DyIs w bd s a n cap e d) (hT : Tab w) (hk0 : -9223372036854775808 ≤ k) (hk1 : k ≤ 9223372036854775807) :
    Calls Tryz.prog 178 #[.agg #[.bool bd, .bool s, .slice a n cap, .int .i64 e], .int .i64 k] w (RetDy w (dscale d k)) := by
  have hbz := isN_bounds hx.1.isN
  cases hb : dbad d with
  | true => have h := rdscale_bad w bd s a n cap e k d hx hT hb; rw [dbad_none hb] at h ⊢; exact h
  | false =>
    by_cases hz : dman d = 0
    · have h := rdscale_zero w bd s a n cap e k d hx hT hb hz
      rw [isN_zero hx.1.isN hb hz] at h ⊢; exact h
    · have hd : dscale d k = nrm (dman d) (dexp d + max (min k 262144) (-262144)) := by
        conv => lhs; rw [some_of hb]
        rfl
      rw [hd]
      have hbl := blen_nz hz
      by_cases h1 : 262144 < k
      · rw [nrm_none.2 ⟨hz, .inl (by omega)⟩]
        exact rdscale_hi w bd s a n cap e k d hx hT hb hz h1
      · by_cases h2 : k < -262144
        · have ho := okd_bounds (hx.1.isN _ _ (some_of hb))
          rw [nrm_none.2 ⟨hz, .inr (by have := tz_le_blen hz; omega)⟩]
          exact rdscale_lo w bd s a n cap e k d hx hT hb hz h2
        · exact rdscale_ok w bd s a n cap e k d hx hT hb hz (by omega) (by omega) _ (by rw [show max (min k 262144) (-262144) = k by omega])

end Go.Proofs.YtakbappmkdaioaaGreatDoor

