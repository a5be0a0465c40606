/-
  Walks: the reference's package sparseref01: Add.
-/
import Derived.Test.YtablcbgeeeboeaaGreatDoorZhRd
import Derived.Test.YtablcbgeeeboeaaGreatDoorZhBf
set_option maxRecDepth 100000
set_option maxHeartbeats 2000000
namespace Go.Proofs.YtablcbgeeeboeaaGreatDoor
open Go.RowKit Sp
theorem zNk (w : World) (s s' : Bool) (a a' : Option Addr) (n n' cap cap' x y : Nat) (hx : Mag w a n cap x) (hy : Mag w a' n' cap' y) (hl : n ≤ 549755813888) (hl' : n' ≤ 549755813888) (v : Int) (hs : (s == s') = true) (hv : v = sgn s (x + y)) :
 Calls Tryz.prog 62 #[.agg #[.bool s, .slice a n cap], .agg #[.bool s', .slice a' n' cap']] w (zAj w v) := by
 have nx := zAB hx.lt
 have ny := zAB hy.lt
 have HT := fun W h => Lib.hid (zAL W a n cap x h (by omega))
 have HT' := fun W h => Lib.hid (zAL W a' n' cap' y h (by omega))
 obtain ⟨N, hN⟩ : ∃ N, N = max (nl x) (nl y) := ⟨_, rfl⟩
 obtain ⟨z, hz⟩ : ∃ z, z = x + y := ⟨_, rfl⟩
 have HD := fun W b b' q q' h h' => Lib.hid (zJM W b b' (nl x) (nl y) q q' x y N h h' hN (by omega))
 have HM := fun W b m q h (hm : m ≤ N + 1) => Lib.hid (zAK W s b m q z h (by omega))
 rw [← hz] at HD
 rw [hz, ← hv, ← hz] at HM
 clear hz hv hN
 have e1 : ¬ w.heap.size + 1 = w.heap.size := by omega
 have e2 : ¬ w.heap.size + 1 + 1 = w.heap.size := by omega
 have e3 : ¬ w.heap.size + 1 + 1 = w.heap.size + 1 := by omega
 have n1 : ¬ w.heap.size = w.heap.size + 1 := by omega
 have n2 : ¬ w.heap.size = w.heap.size + 1 + 1 := by omega
 have n3 : ¬ w.heap.size + 1 = w.heap.size + 1 + 1 := by omega
 go_enter Tryz.func62, Tryz.ntmps62
 go_wp2_with fail
 have Ix := ((BgV.made w 44 s (.slice a n cap)).alloc (.cells #[.bool s', .slice a' n' cap'] 44)).alloc (.cells #[.bool false, .slice none 0 0] 44)
 have Iy := (BgV.made' (w.alloc (.cells #[.bool s, .slice a n cap] 44)) 44 s' (.slice a' n' cap') (n := w.heap.size + 1) (by rw [World.size_alloc])).alloc (.cells #[.bool false, .slice none 0 0] 44)
 have Ir := BgV.made' ((w.alloc (.cells #[.bool s, .slice a n cap] 44)).alloc (.cells #[.bool s', .slice a' n' cap'] 44)) 44 false (.slice none 0 0) (n := w.heap.size + 1 + 1) (by rw [World.size_alloc, World.size_alloc])
 have B0 : Below w.heap.size w (((w.alloc (.cells #[.bool s, .slice a n cap] 44)).alloc (.cells #[.bool s', .slice a' n' cap'] 44)).alloc (.cells #[.bool false, .slice none 0 0] 44)) := zbh
 have hb2w : w.heap.size ≤ w.heap.size + 1 + 1 := by omega
 generalize (((w.alloc (.cells #[.bool s, .slice a n cap] 44)).alloc (.cells #[.bool s', .slice a' n' cap'] 44)).alloc (.cells #[.bool false, .slice none 0 0] 44)) = w0 at Ix Iy Ir B0 ⊢
 generalize w.heap.size + 1 + 1 = b2 at Ir hb2w e2 e3 n2 n3 ⊢
 generalize w.heap.size + 1 = b1 at Iy e1 e3 n1 n3 ⊢
 generalize hb0 : w.heap.size = b0 at Ix e1 e2 n1 n2 ⊢
 obtain ⟨xc0, xc1, xc2, xc3⟩ := Ix
 have Vx0 := Lib.hid (BgV.mk xc0 xc1 xc2 xc3)
 obtain ⟨yc0, yc1, yc2, yc3⟩ := Iy
 have Vy0 := Lib.hid (BgV.mk yc0 yc1 yc2 yc3)
 obtain ⟨rc0, rc1, rc2, rc3⟩ := Ir
 have Vr0 := Lib.hid (BgV.mk rc0 rc1 rc2 rc3)
 first
 | go_region_held3 (fun w' => w'.cell? ⟨b0, 0, none⟩ = some (.bool s) ∧ w'.cell? ⟨b0, 1, none⟩ = some ((.slice a n cap)) ∧ w'.cell? ⟨b1, 0, none⟩ = some (.bool s') ∧ w'.cell? ⟨b1, 1, none⟩ = some ((.slice a' n' cap'))) (first | (go_keep; done) | (go_simp; done))
  (first
   | (go_at_call 107; have xx := B1; refine (HT' _ (hy.below (have := Beh.mk B1; zbh))).out.mono ?_; rintro e w2 ⟨a2, c2, rfl, M22, hb2, hf2⟩; have Vx2 : BgV w2 b0 s (.slice a n cap) := (Vx1.out.on.below hb2); obtain ⟨xc0, xc1, xc2, xc3⟩ := Vx2; have Vx2 := Lib.hid (BgV.mk xc0 xc1 xc2 xc3); have Vy2 : BgV w2 b1 s' (.slice a' n' cap') := (Vy1.out.on.below hb2); obtain ⟨yc0, yc1, yc2, yc3⟩ := Vy2; have Vy2 := Lib.hid (BgV.mk yc0 yc1 yc2 yc3); have Vr2 : BgV w2 b2 false (.slice none 0 0) := (Vr1.out.on.below hb2); obtain ⟨rc0, rc1, rc2, rc3⟩ := Vr2; have Vr2 := Lib.hid (BgV.mk rc0 rc1 rc2 rc3); have M12 : Mag w2 a1 (nl x) c1 x := Mag.below M11.on hb2; have B2 := zA0 (w := w) (have := Beh.mk B1; zbh) hb2; clear hb2 hf2)
   | (go_at_call 107; refine (HT _ (hx.below (have := Beh.mk B0; zbh))).out.mono ?_; rintro e w1 ⟨a1, c1, rfl, M11, hb1, hf1⟩; have Vx1 : BgV w1 b0 s (.slice a n cap) := (Vx0.out.on.below hb1); obtain ⟨xc0, xc1, xc2, xc3⟩ := Vx1; have Vx1 := Lib.hid (BgV.mk xc0 xc1 xc2 xc3); have Vy1 : BgV w1 b1 s' (.slice a' n' cap') := (Vy0.out.on.below hb1); obtain ⟨yc0, yc1, yc2, yc3⟩ := Vy1; have Vy1 := Lib.hid (BgV.mk yc0 yc1 yc2 yc3); have Vr1 : BgV w1 b2 false (.slice none 0 0) := (Vr0.out.on.below hb1); obtain ⟨rc0, rc1, rc2, rc3⟩ := Vr1; have Vr1 := Lib.hid (BgV.mk rc0 rc1 rc2 rc3); have B1 := zA0 (w := w) (have := Beh.mk B0; zbh) hb1; clear hb1 hf1)
   | fail)
 | fail "region"
 go_wp2_with fail
 first
 | go_region_held3 (fun w' => w'.cell? ⟨b0, 0, none⟩ = some (.bool s) ∧ w'.cell? ⟨b0, 1, none⟩ = some ((.slice a n cap))) (first | (go_keep; done) | (go_simp; done))
  (first
   | (go_at_call 105; have xx := B3; refine (HM _ a3 n3 c3 M33.on hn3).out.mono ?_; rintro e w4 ⟨a4, c4, rfl, M44, hb4, hf4⟩; have Vx4 : BgV w4 b0 s (.slice a n cap) := (Vx3.out.on.below hb4); obtain ⟨xc0, xc1, xc2, xc3⟩ := Vx4; have Vx4 := Lib.hid (BgV.mk xc0 xc1 xc2 xc3); have Vy4 : BgV w4 b1 s' (.slice a' n' cap') := (Vy3.out.on.below hb4); obtain ⟨yc0, yc1, yc2, yc3⟩ := Vy4; have Vy4 := Lib.hid (BgV.mk yc0 yc1 yc2 yc3); have Vr4 : BgV w4 b2 false (.slice none 0 0) := (Vr3.out.on.below hb4); obtain ⟨rc0, rc1, rc2, rc3⟩ := Vr4; have Vr4 := Lib.hid (BgV.mk rc0 rc1 rc2 rc3); have M14 : Mag w4 a1 (nl x) c1 x := Mag.below M13.on hb4; have M24 : Mag w4 a2 (nl y) c2 y := Mag.below M23.on hb4; have M34 : Mag w4 a3 n3 c3 z := Mag.below M33.on hb4; have B4 := zA0 (w := w) (have := Beh.mk B3; zbh) hb4; have fr4 : 0 < nl v.natAbs → b2 < ab a4 := (fun h => by have := hf4 h; (try simp at this); have := Vr3.out.lt; omega); clear hb4 hf4)
   | (go_at_call 108; have xx := B2; refine (HD _ a1 a2 c1 c2 M12.on M22.on).out.mono ?_; rintro e w3 ⟨a3, n3, c3, rfl, M33, hn3, hb3, hf3⟩; have Vx3 : BgV w3 b0 s (.slice a n cap) := (Vx2.out.on.below hb3); obtain ⟨xc0, xc1, xc2, xc3⟩ := Vx3; have Vx3 := Lib.hid (BgV.mk xc0 xc1 xc2 xc3); have Vy3 : BgV w3 b1 s' (.slice a' n' cap') := (Vy2.out.on.below hb3); obtain ⟨yc0, yc1, yc2, yc3⟩ := Vy3; have Vy3 := Lib.hid (BgV.mk yc0 yc1 yc2 yc3); have Vr3 : BgV w3 b2 false (.slice none 0 0) := (Vr2.out.on.below hb3); obtain ⟨rc0, rc1, rc2, rc3⟩ := Vr3; have Vr3 := Lib.hid (BgV.mk rc0 rc1 rc2 rc3); have M13 : Mag w3 a1 (nl x) c1 x := Mag.below M12.on hb3; have M23 : Mag w3 a2 (nl y) c2 y := Mag.below M22.on hb3; have B3 := zA0 (w := w) (have := Beh.mk B2; zbh) hb3; clear hb3 hf3)
   | fail)
 | fail "region"
 all_goals go_wp2_with fail
 all_goals (
  refine bodyPost_ret (v := .agg #[.bool (decide (v < 0)), .slice a4 (nl v.natAbs) c4]) (by simp only [results, Tryz.results62]; go_simp) rfl ?_
  exact ⟨a4, c4, rfl, (by repeat (with_reducible first | refine Mag.set ?_ (fun h => by have := fr4 h; omega) _ _ | exact M44)), (by have hszw := (B4).size; repeat (with_reducible first | refine Below.setCell ?_ (by first | omega | (simp <;> omega)) _ | refine Below.alloc ?_ (by first | omega | (simp <;> omega)) _ | refine Below.drew ?_ | refine below_drewN ?_ _ | exact B4)), fun h => by have := fr4 h; omega⟩)
theorem zNj (w : World) (s s' : Bool) (a a' : Option Addr) (n n' cap cap' x y : Nat) (hx : Mag w a n cap x) (hy : Mag w a' n' cap' y) (hl : n ≤ 549755813888) (hl' : n' ≤ 549755813888) (v : Int) (hs : (s == s') = false) (hxy : y ≤ x) (hv : v = sgn s (x - y)) :
 Calls Tryz.prog 62 #[.agg #[.bool s, .slice a n cap], .agg #[.bool s', .slice a' n' cap']] w (zAj w v) := by
 have nx := zAB hx.lt
 have ny := zAB hy.lt
 have HT := fun W h => Lib.hid (zAL W a n cap x h (by omega))
 have HT' := fun W h => Lib.hid (zAL W a' n' cap' y h (by omega))
 obtain ⟨z, hz⟩ : ∃ z, z = x - y := ⟨_, rfl⟩
 have HC := fun W b b' q q' h h' => Lib.hid (zD9 W b b' (nl x) (nl y) q q' x y h h' rfl rfl)
 have hg : decide ((0 : Int) ≤ zAr x y) = true := by have := zBw (m := (x : Int)) (n := y) (by omega); simpa using this
 have HD := fun W b b' q q' h h' => Lib.hid (zFV W b b' (nl x) (nl y) q q' x y z h h' (by omega) (by omega))
 have HM := fun W b m q h (hm : m ≤ nl x) => Lib.hid (zAK W s b m q z h (by omega))
 rw [hz, ← hv, ← hz] at HM
 generalize zAr (x : Int) (y : Int) = g at HC hg
 clear hz hv
 have e1 : ¬ w.heap.size + 1 = w.heap.size := by omega
 have e2 : ¬ w.heap.size + 1 + 1 = w.heap.size := by omega
 have e3 : ¬ w.heap.size + 1 + 1 = w.heap.size + 1 := by omega
 have n1 : ¬ w.heap.size = w.heap.size + 1 := by omega
 have n2 : ¬ w.heap.size = w.heap.size + 1 + 1 := by omega
 have n3 : ¬ w.heap.size + 1 = w.heap.size + 1 + 1 := by omega
 go_enter Tryz.func62, Tryz.ntmps62
 go_wp2_with fail
 have Ix := ((BgV.made w 44 s (.slice a n cap)).alloc (.cells #[.bool s', .slice a' n' cap'] 44)).alloc (.cells #[.bool false, .slice none 0 0] 44)
 have Iy := (BgV.made' (w.alloc (.cells #[.bool s, .slice a n cap] 44)) 44 s' (.slice a' n' cap') (n := w.heap.size + 1) (by rw [World.size_alloc])).alloc (.cells #[.bool false, .slice none 0 0] 44)
 have Ir := BgV.made' ((w.alloc (.cells #[.bool s, .slice a n cap] 44)).alloc (.cells #[.bool s', .slice a' n' cap'] 44)) 44 false (.slice none 0 0) (n := w.heap.size + 1 + 1) (by rw [World.size_alloc, World.size_alloc])
 have B0 : Below w.heap.size w (((w.alloc (.cells #[.bool s, .slice a n cap] 44)).alloc (.cells #[.bool s', .slice a' n' cap'] 44)).alloc (.cells #[.bool false, .slice none 0 0] 44)) := zbh
 have hb2w : w.heap.size ≤ w.heap.size + 1 + 1 := by omega
 generalize (((w.alloc (.cells #[.bool s, .slice a n cap] 44)).alloc (.cells #[.bool s', .slice a' n' cap'] 44)).alloc (.cells #[.bool false, .slice none 0 0] 44)) = w0 at Ix Iy Ir B0 ⊢
 generalize w.heap.size + 1 + 1 = b2 at Ir hb2w e2 e3 n2 n3 ⊢
 generalize w.heap.size + 1 = b1 at Iy e1 e3 n1 n3 ⊢
 generalize hb0 : w.heap.size = b0 at Ix e1 e2 n1 n2 ⊢
 obtain ⟨xc0, xc1, xc2, xc3⟩ := Ix
 have Vx0 := Lib.hid (BgV.mk xc0 xc1 xc2 xc3)
 obtain ⟨yc0, yc1, yc2, yc3⟩ := Iy
 have Vy0 := Lib.hid (BgV.mk yc0 yc1 yc2 yc3)
 obtain ⟨rc0, rc1, rc2, rc3⟩ := Ir
 have Vr0 := Lib.hid (BgV.mk rc0 rc1 rc2 rc3)
 first
 | go_region_held3 (fun w' => w'.cell? ⟨b0, 0, none⟩ = some (.bool s) ∧ w'.cell? ⟨b0, 1, none⟩ = some ((.slice a n cap)) ∧ w'.cell? ⟨b1, 0, none⟩ = some (.bool s') ∧ w'.cell? ⟨b1, 1, none⟩ = some ((.slice a' n' cap'))) (first | (go_keep; done) | (go_simp; done))
  (first
   | (go_at_call 107; have xx := B1; refine (HT' _ (hy.below (have := Beh.mk B1; zbh))).out.mono ?_; rintro e w2 ⟨a2, c2, rfl, M22, hb2, hf2⟩; have Vx2 : BgV w2 b0 s (.slice a n cap) := (Vx1.out.on.below hb2); obtain ⟨xc0, xc1, xc2, xc3⟩ := Vx2; have Vx2 := Lib.hid (BgV.mk xc0 xc1 xc2 xc3); have Vy2 : BgV w2 b1 s' (.slice a' n' cap') := (Vy1.out.on.below hb2); obtain ⟨yc0, yc1, yc2, yc3⟩ := Vy2; have Vy2 := Lib.hid (BgV.mk yc0 yc1 yc2 yc3); have Vr2 : BgV w2 b2 false (.slice none 0 0) := (Vr1.out.on.below hb2); obtain ⟨rc0, rc1, rc2, rc3⟩ := Vr2; have Vr2 := Lib.hid (BgV.mk rc0 rc1 rc2 rc3); have M12 : Mag w2 a1 (nl x) c1 x := Mag.below M11.on hb2; have B2 := zA0 (w := w) (have := Beh.mk B1; zbh) hb2; clear hb2 hf2)
   | (go_at_call 107; refine (HT _ (hx.below (have := Beh.mk B0; zbh))).out.mono ?_; rintro e w1 ⟨a1, c1, rfl, M11, hb1, hf1⟩; have Vx1 : BgV w1 b0 s (.slice a n cap) := (Vx0.out.on.below hb1); obtain ⟨xc0, xc1, xc2, xc3⟩ := Vx1; have Vx1 := Lib.hid (BgV.mk xc0 xc1 xc2 xc3); have Vy1 : BgV w1 b1 s' (.slice a' n' cap') := (Vy0.out.on.below hb1); obtain ⟨yc0, yc1, yc2, yc3⟩ := Vy1; have Vy1 := Lib.hid (BgV.mk yc0 yc1 yc2 yc3); have Vr1 : BgV w1 b2 false (.slice none 0 0) := (Vr0.out.on.below hb1); obtain ⟨rc0, rc1, rc2, rc3⟩ := Vr1; have Vr1 := Lib.hid (BgV.mk rc0 rc1 rc2 rc3); have B1 := zA0 (w := w) (have := Beh.mk B0; zbh) hb1; clear hb1 hf1)
   | fail)
 | fail "region"
 go_wp2_with fail
 refine (HC _ a1 a2 c1 c2 M12.on M22.on).out.mono ?_
 rintro e w3 ⟨rfl, qq, hqq⟩
 have hb3 : Below w2.heap.size w2 w3 := by rw [hqq]; exact below_drewN (Below.refl _ _) _
 clear hqq
 have Vx3 : BgV w3 b0 s (.slice a n cap) := (Vx2.out.on.below hb3)
 obtain ⟨xc0, xc1, xc2, xc3⟩ := Vx3
 have Vx3 := Lib.hid (BgV.mk xc0 xc1 xc2 xc3)
 have Vy3 : BgV w3 b1 s' (.slice a' n' cap') := (Vy2.out.on.below hb3)
 obtain ⟨yc0, yc1, yc2, yc3⟩ := Vy3
 have Vy3 := Lib.hid (BgV.mk yc0 yc1 yc2 yc3)
 have Vr3 : BgV w3 b2 false (.slice none 0 0) := (Vr2.out.on.below hb3)
 obtain ⟨rc0, rc1, rc2, rc3⟩ := Vr3
 have Vr3 := Lib.hid (BgV.mk rc0 rc1 rc2 rc3)
 have M13 : Mag w3 a1 (nl x) c1 x := Mag.below M12.on hb3
 have M23 : Mag w3 a2 (nl y) c2 y := Mag.below M22.on hb3
 have B3 := zA0 (w := w) (have := Beh.mk B2; zbh) hb3
 go_wp2_with fail
 first
 | go_region_held3 (fun w' => w'.cell? ⟨b0, 0, none⟩ = some (.bool s) ∧ w'.cell? ⟨b0, 1, none⟩ = some ((.slice a n cap))) (first | (go_keep; done) | (go_simp; done))
  (first
   | (go_at_call 105; have xx := B4; refine (HM _ a3 n3 c3 M34.on hn3).out.mono ?_; rintro e w5 ⟨a4, c4, rfl, M45, hb5, hf5⟩; have Vx5 : BgV w5 b0 s (.slice a n cap) := (Vx4.out.on.below hb5); obtain ⟨xc0, xc1, xc2, xc3⟩ := Vx5; have Vx5 := Lib.hid (BgV.mk xc0 xc1 xc2 xc3); have Vy5 : BgV w5 b1 s' (.slice a' n' cap') := (Vy4.out.on.below hb5); obtain ⟨yc0, yc1, yc2, yc3⟩ := Vy5; have Vy5 := Lib.hid (BgV.mk yc0 yc1 yc2 yc3); have Vr5 : BgV w5 b2 false (.slice none 0 0) := (Vr4.out.on.below hb5); obtain ⟨rc0, rc1, rc2, rc3⟩ := Vr5; have Vr5 := Lib.hid (BgV.mk rc0 rc1 rc2 rc3); have M15 : Mag w5 a1 (nl x) c1 x := Mag.below M14.on hb5; have M25 : Mag w5 a2 (nl y) c2 y := Mag.below M24.on hb5; have M35 : Mag w5 a3 n3 c3 z := Mag.below M34.on hb5; have B5 := zA0 (w := w) (have := Beh.mk B4; zbh) hb5; have fr4 : 0 < nl v.natAbs → b2 < ab a4 := (fun h => by have := hf5 h; (try simp at this); have := Vr4.out.lt; omega); clear hb5 hf5)
   | (go_at_call 110; have xx := B3; refine (HD _ a1 a2 c1 c2 M13.on M23.on).out.mono ?_; rintro e w4 ⟨a3, n3, c3, rfl, M34, hn3, hb4, hf4⟩; have Vx4 : BgV w4 b0 s (.slice a n cap) := (Vx3.out.on.below hb4); obtain ⟨xc0, xc1, xc2, xc3⟩ := Vx4; have Vx4 := Lib.hid (BgV.mk xc0 xc1 xc2 xc3); have Vy4 : BgV w4 b1 s' (.slice a' n' cap') := (Vy3.out.on.below hb4); obtain ⟨yc0, yc1, yc2, yc3⟩ := Vy4; have Vy4 := Lib.hid (BgV.mk yc0 yc1 yc2 yc3); have Vr4 : BgV w4 b2 false (.slice none 0 0) := (Vr3.out.on.below hb4); obtain ⟨rc0, rc1, rc2, rc3⟩ := Vr4; have Vr4 := Lib.hid (BgV.mk rc0 rc1 rc2 rc3); have M14 : Mag w4 a1 (nl x) c1 x := Mag.below M13.on hb4; have M24 : Mag w4 a2 (nl y) c2 y := Mag.below M23.on hb4; have B4 := zA0 (w := w) (have := Beh.mk B3; zbh) hb4; clear hb4 hf4)
   | fail)
 | fail "region"
 all_goals go_wp2_with fail
 all_goals (
  refine bodyPost_ret (v := .agg #[.bool (decide (v < 0)), .slice a4 (nl v.natAbs) c4]) (by simp only [results, Tryz.results62]; go_simp) rfl ?_
  exact ⟨a4, c4, rfl, (by repeat (with_reducible first | refine Mag.set ?_ (fun h => by have := fr4 h; omega) _ _ | exact M45)), (by have hszw := (B5).size; repeat (with_reducible first | refine Below.setCell ?_ (by first | omega | (simp <;> omega)) _ | refine Below.alloc ?_ (by first | omega | (simp <;> omega)) _ | refine Below.drew ?_ | refine below_drewN ?_ _ | exact B5)), fun h => by have := fr4 h; omega⟩)
theorem zNi (w : World) (s s' : Bool) (a a' : Option Addr) (n n' cap cap' x y : Nat) (hx : Mag w a n cap x) (hy : Mag w a' n' cap' y) (hl : n ≤ 549755813888) (hl' : n' ≤ 549755813888) (v : Int) (hs : (s == s') = false) (hxy : x < y) (hv : v = sgn s' (y - x)) :
 Calls Tryz.prog 62 #[.agg #[.bool s, .slice a n cap], .agg #[.bool s', .slice a' n' cap']] w (zAj w v) := by
 have nx := zAB hx.lt
 have ny := zAB hy.lt
 have HT := fun W h => Lib.hid (zAL W a n cap x h (by omega))
 have HT' := fun W h => Lib.hid (zAL W a' n' cap' y h (by omega))
 obtain ⟨z, hz⟩ : ∃ z, z = y - x := ⟨_, rfl⟩
 have HC := fun W b b' q q' h h' => Lib.hid (zD9 W b b' (nl x) (nl y) q q' x y h h' rfl rfl)
 have hg : decide ((0 : Int) ≤ zAr x y) = false := by rw [zAT (by omega)]; rfl
 have HD := fun W b b' q q' h h' => Lib.hid (zFV W b b' (nl y) (nl x) q q' y x z h h' (by omega) (by omega))
 have HM := fun W b m q h (hm : m ≤ nl y) => Lib.hid (zAK W s' b m q z h (by omega))
 rw [hz, ← hv, ← hz] at HM
 generalize zAr (x : Int) (y : Int) = g at HC hg
 clear hz hv
 have e1 : ¬ w.heap.size + 1 = w.heap.size := by omega
 have e2 : ¬ w.heap.size + 1 + 1 = w.heap.size := by omega
 have e3 : ¬ w.heap.size + 1 + 1 = w.heap.size + 1 := by omega
 have n1 : ¬ w.heap.size = w.heap.size + 1 := by omega
 have n2 : ¬ w.heap.size = w.heap.size + 1 + 1 := by omega
 have n3 : ¬ w.heap.size + 1 = w.heap.size + 1 + 1 := by omega
 go_enter Tryz.func62, Tryz.ntmps62
 go_wp2_with fail
 have Ix := ((BgV.made w 44 s (.slice a n cap)).alloc (.cells #[.bool s', .slice a' n' cap'] 44)).alloc (.cells #[.bool false, .slice none 0 0] 44)
 have Iy := (BgV.made' (w.alloc (.cells #[.bool s, .slice a n cap] 44)) 44 s' (.slice a' n' cap') (n := w.heap.size + 1) (by rw [World.size_alloc])).alloc (.cells #[.bool false, .slice none 0 0] 44)
 have Ir := BgV.made' ((w.alloc (.cells #[.bool s, .slice a n cap] 44)).alloc (.cells #[.bool s', .slice a' n' cap'] 44)) 44 false (.slice none 0 0) (n := w.heap.size + 1 + 1) (by rw [World.size_alloc, World.size_alloc])
 have B0 : Below w.heap.size w (((w.alloc (.cells #[.bool s, .slice a n cap] 44)).alloc (.cells #[.bool s', .slice a' n' cap'] 44)).alloc (.cells #[.bool false, .slice none 0 0] 44)) := zbh
 have hb2w : w.heap.size ≤ w.heap.size + 1 + 1 := by omega
 generalize (((w.alloc (.cells #[.bool s, .slice a n cap] 44)).alloc (.cells #[.bool s', .slice a' n' cap'] 44)).alloc (.cells #[.bool false, .slice none 0 0] 44)) = w0 at Ix Iy Ir B0 ⊢
 generalize w.heap.size + 1 + 1 = b2 at Ir hb2w e2 e3 n2 n3 ⊢
 generalize w.heap.size + 1 = b1 at Iy e1 e3 n1 n3 ⊢
 generalize hb0 : w.heap.size = b0 at Ix e1 e2 n1 n2 ⊢
 obtain ⟨xc0, xc1, xc2, xc3⟩ := Ix
 have Vx0 := Lib.hid (BgV.mk xc0 xc1 xc2 xc3)
 obtain ⟨yc0, yc1, yc2, yc3⟩ := Iy
 have Vy0 := Lib.hid (BgV.mk yc0 yc1 yc2 yc3)
 obtain ⟨rc0, rc1, rc2, rc3⟩ := Ir
 have Vr0 := Lib.hid (BgV.mk rc0 rc1 rc2 rc3)
 first
 | go_region_held3 (fun w' => w'.cell? ⟨b0, 0, none⟩ = some (.bool s) ∧ w'.cell? ⟨b0, 1, none⟩ = some ((.slice a n cap)) ∧ w'.cell? ⟨b1, 0, none⟩ = some (.bool s') ∧ w'.cell? ⟨b1, 1, none⟩ = some ((.slice a' n' cap'))) (first | (go_keep; done) | (go_simp; done))
  (first
   | (go_at_call 107; have xx := B1; refine (HT' _ (hy.below (have := Beh.mk B1; zbh))).out.mono ?_; rintro e w2 ⟨a2, c2, rfl, M22, hb2, hf2⟩; have Vx2 : BgV w2 b0 s (.slice a n cap) := (Vx1.out.on.below hb2); obtain ⟨xc0, xc1, xc2, xc3⟩ := Vx2; have Vx2 := Lib.hid (BgV.mk xc0 xc1 xc2 xc3); have Vy2 : BgV w2 b1 s' (.slice a' n' cap') := (Vy1.out.on.below hb2); obtain ⟨yc0, yc1, yc2, yc3⟩ := Vy2; have Vy2 := Lib.hid (BgV.mk yc0 yc1 yc2 yc3); have Vr2 : BgV w2 b2 false (.slice none 0 0) := (Vr1.out.on.below hb2); obtain ⟨rc0, rc1, rc2, rc3⟩ := Vr2; have Vr2 := Lib.hid (BgV.mk rc0 rc1 rc2 rc3); have M12 : Mag w2 a1 (nl x) c1 x := Mag.below M11.on hb2; have B2 := zA0 (w := w) (have := Beh.mk B1; zbh) hb2; clear hb2 hf2)
   | (go_at_call 107; refine (HT _ (hx.below (have := Beh.mk B0; zbh))).out.mono ?_; rintro e w1 ⟨a1, c1, rfl, M11, hb1, hf1⟩; have Vx1 : BgV w1 b0 s (.slice a n cap) := (Vx0.out.on.below hb1); obtain ⟨xc0, xc1, xc2, xc3⟩ := Vx1; have Vx1 := Lib.hid (BgV.mk xc0 xc1 xc2 xc3); have Vy1 : BgV w1 b1 s' (.slice a' n' cap') := (Vy0.out.on.below hb1); obtain ⟨yc0, yc1, yc2, yc3⟩ := Vy1; have Vy1 := Lib.hid (BgV.mk yc0 yc1 yc2 yc3); have Vr1 : BgV w1 b2 false (.slice none 0 0) := (Vr0.out.on.below hb1); obtain ⟨rc0, rc1, rc2, rc3⟩ := Vr1; have Vr1 := Lib.hid (BgV.mk rc0 rc1 rc2 rc3); have B1 := zA0 (w := w) (have := Beh.mk B0; zbh) hb1; clear hb1 hf1)
   | fail)
 | fail "region"
 go_wp2_with fail
 refine (HC _ a1 a2 c1 c2 M12.on M22.on).out.mono ?_
 rintro e w3 ⟨rfl, qq, hqq⟩
 have hb3 : Below w2.heap.size w2 w3 := by rw [hqq]; exact below_drewN (Below.refl _ _) _
 clear hqq
 have Vx3 : BgV w3 b0 s (.slice a n cap) := (Vx2.out.on.below hb3)
 obtain ⟨xc0, xc1, xc2, xc3⟩ := Vx3
 have Vx3 := Lib.hid (BgV.mk xc0 xc1 xc2 xc3)
 have Vy3 : BgV w3 b1 s' (.slice a' n' cap') := (Vy2.out.on.below hb3)
 obtain ⟨yc0, yc1, yc2, yc3⟩ := Vy3
 have Vy3 := Lib.hid (BgV.mk yc0 yc1 yc2 yc3)
 have Vr3 : BgV w3 b2 false (.slice none 0 0) := (Vr2.out.on.below hb3)
 obtain ⟨rc0, rc1, rc2, rc3⟩ := Vr3
 have Vr3 := Lib.hid (BgV.mk rc0 rc1 rc2 rc3)
 have M13 : Mag w3 a1 (nl x) c1 x := Mag.below M12.on hb3
 have M23 : Mag w3 a2 (nl y) c2 y := Mag.below M22.on hb3
 have B3 := zA0 (w := w) (have := Beh.mk B2; zbh) hb3
 go_wp2_with fail
 first
 | go_region_held3 (fun w' => w'.cell? ⟨b1, 0, none⟩ = some (.bool s') ∧ w'.cell? ⟨b1, 1, none⟩ = some ((.slice a' n' cap'))) (first | (go_keep; done) | (go_simp; done))
  (first
   | (go_at_call 105; have xx := B4; refine (HM _ a3 n3 c3 M34.on hn3).out.mono ?_; rintro e w5 ⟨a4, c4, rfl, M45, hb5, hf5⟩; have Vx5 : BgV w5 b0 s (.slice a n cap) := (Vx4.out.on.below hb5); obtain ⟨xc0, xc1, xc2, xc3⟩ := Vx5; have Vx5 := Lib.hid (BgV.mk xc0 xc1 xc2 xc3); have Vy5 : BgV w5 b1 s' (.slice a' n' cap') := (Vy4.out.on.below hb5); obtain ⟨yc0, yc1, yc2, yc3⟩ := Vy5; have Vy5 := Lib.hid (BgV.mk yc0 yc1 yc2 yc3); have Vr5 : BgV w5 b2 false (.slice none 0 0) := (Vr4.out.on.below hb5); obtain ⟨rc0, rc1, rc2, rc3⟩ := Vr5; have Vr5 := Lib.hid (BgV.mk rc0 rc1 rc2 rc3); have M15 : Mag w5 a1 (nl x) c1 x := Mag.below M14.on hb5; have M25 : Mag w5 a2 (nl y) c2 y := Mag.below M24.on hb5; have M35 : Mag w5 a3 n3 c3 z := Mag.below M34.on hb5; have B5 := zA0 (w := w) (have := Beh.mk B4; zbh) hb5; have fr4 : 0 < nl v.natAbs → b2 < ab a4 := (fun h => by have := hf5 h; (try simp at this); have := Vr4.out.lt; omega); clear hb5 hf5)
   | (go_at_call 110; have xx := B3; refine (HD _ a2 a1 c2 c1 M23.on M13.on).out.mono ?_; rintro e w4 ⟨a3, n3, c3, rfl, M34, hn3, hb4, hf4⟩; have Vx4 : BgV w4 b0 s (.slice a n cap) := (Vx3.out.on.below hb4); obtain ⟨xc0, xc1, xc2, xc3⟩ := Vx4; have Vx4 := Lib.hid (BgV.mk xc0 xc1 xc2 xc3); have Vy4 : BgV w4 b1 s' (.slice a' n' cap') := (Vy3.out.on.below hb4); obtain ⟨yc0, yc1, yc2, yc3⟩ := Vy4; have Vy4 := Lib.hid (BgV.mk yc0 yc1 yc2 yc3); have Vr4 : BgV w4 b2 false (.slice none 0 0) := (Vr3.out.on.below hb4); obtain ⟨rc0, rc1, rc2, rc3⟩ := Vr4; have Vr4 := Lib.hid (BgV.mk rc0 rc1 rc2 rc3); have M14 : Mag w4 a1 (nl x) c1 x := Mag.below M13.on hb4; have M24 : Mag w4 a2 (nl y) c2 y := Mag.below M23.on hb4; have B4 := zA0 (w := w) (have := Beh.mk B3; zbh) hb4; clear hb4 hf4)
   | fail)
 | fail "region"
 all_goals go_wp2_with fail
 all_goals (
  refine bodyPost_ret (v := .agg #[.bool (decide (v < 0)), .slice a4 (nl v.natAbs) c4]) (by simp only [results, Tryz.results62]; go_simp) rfl ?_
  exact ⟨a4, c4, rfl, (by repeat (with_reducible first | refine Mag.set ?_ (fun h => by have := fr4 h; omega) _ _ | exact M45)), (by have hszw := (B5).size; repeat (with_reducible first | refine Below.setCell ?_ (by first | omega | (simp <;> omega)) _ | refine Below.alloc ?_ (by first | omega | (simp <;> omega)) _ | refine Below.drew ?_ | refine below_drewN ?_ _ | exact B5)), fun h => by have := fr4 h; omega⟩)
theorem zDR (w : World) (s s' : Bool) (a a' : Option Addr) (n n' cap cap' x y : Nat) (hx : Mag w a n cap x) (hy : Mag w a' n' cap' y) (hl : n ≤ 549755813888) (hl' : n' ≤ 549755813888) :
 Calls Tryz.prog 62 #[.agg #[.bool s, .slice a n cap], .agg #[.bool s', .slice a' n' cap']] w (zAj w (sgn s x + sgn s' y)) := by
 cases hs : (s == s') with
 | true =>
  obtain rfl : s = s' := by simpa using hs
  exact zNk w s s a a' n n' cap cap' x y hx hy hl hl' _ hs (by cases s <;> simp [sgn] <;> omega)
 | false =>
  by_cases hxy : y ≤ x
  · exact zNj w s s' a a' n n' cap cap' x y hx hy hl hl' _ hs hxy (by cases s <;> cases s' <;> simp at hs <;> simp [sgn] <;> omega)
  · exact zNi w s s' a a' n n' cap cap' x y hx hy hl hl' _ hs (by omega) (by cases s <;> cases s' <;> simp at hs <;> simp [sgn] <;> omega)
end Go.Proofs.YtablcbgeeeboeaaGreatDoor
