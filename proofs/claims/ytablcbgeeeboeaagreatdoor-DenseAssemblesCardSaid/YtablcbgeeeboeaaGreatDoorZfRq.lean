/-
  Walks: the reference's integers: Mul, Cmp, Lost, Shift to the right of any number.
-/
import Derived.Test.YtablcbgeeeboeaaGreatDoorZfRp
import Derived.Test.YtablcbgeeeboeaaGreatDoorZfBf
set_option maxRecDepth 100000
set_option maxHeartbeats 2000000
namespace Go.Proofs.YtablcbgeeeboeaaGreatDoor
open Go.RowKit Sp
theorem DyV.put {W : World} {b : Nat} {v s : Bool} {sl : Value} {f : Int} (h : DyV W b v s sl f) (v' s' : Bool) (sl' : Value) (f' : Int) :
 DyV ((((W.setCell ⟨b, 0, none⟩ (.bool v')).setCell ⟨b, 1, none⟩ (.bool s')).setCell ⟨b, 2, none⟩ sl').setCell ⟨b, 3, none⟩ (.int .i64 f')) b v' s' sl' f' := by
 obtain ⟨c0, c1, c2, c3, c4, c5⟩ := h
 exact ⟨by go_simp, by go_simp, by go_simp, by go_simp, fun i => by go_simp, by simpa using c5⟩
theorem BgV.put {W : World} {b : Nat} {s : Bool} {sl : Value} (h : BgV W b s sl) (s' : Bool) (sl' : Value) :
 BgV ((W.setCell ⟨b, 0, none⟩ (.bool s')).setCell ⟨b, 1, none⟩ sl') b s' sl' := by
 obtain ⟨c0, c1, c2, c3⟩ := h
 exact ⟨by go_simp, by go_simp, fun i => by go_simp, by simpa using c3⟩
theorem nl_sub_le {s s' : Bool} {x y n n' : Nat} (hx : x < B ^ n) (hy : y < B ^ n') : nl (sgn s x - sgn s' y).natAbs ≤ max n n' + 1 := by
 have h0 : (sgn s x - sgn s' y).natAbs ≤ x + y := by unfold sgn; cases s <;> cases s' <;> simp <;> omega
 have h1 : B ^ n ≤ B ^ max n n' := Nat.pow_le_pow_right (by rw [B_eq]; omega) (Nat.le_max_left _ _)
 have h2 : B ^ n' ≤ B ^ max n n' := Nat.pow_le_pow_right (by rw [B_eq]; omega) (Nat.le_max_right _ _)
 refine nl_le (Nat.lt_of_le_of_lt h0 ?_)
 rw [Nat.pow_succ]
 generalize B ^ max n n' = Q at h1 h2 ⊢
 generalize B ^ n = P at hx h1
 generalize B ^ n' = P' at hy h2
 have hB : 2 ≤ B := by rw [B_eq]; omega
 have := Nat.mul_le_mul_left Q hB
 omega
theorem sg_sub (x y : Int) : sg (x - y) = cmpI x y := by
 unfold sg cmpI; split <;> (try split) <;> (try split) <;> (try split) <;> omega
theorem rcmp_any (w : World) (s s' : Bool) (a a' : Option Addr) (n n' cap cap' x y : Nat) (hx : Mag w a n cap x) (hy : Mag w a' n' cap' y) (hl : n ≤ 549755813888) (hl' : n' ≤ 549755813888) :
 Calls Tryz.prog 164 #[.agg #[.bool s, .slice a n cap], .agg #[.bool s', .slice a' n' cap']] w fun e w' => e = .returned (.int .i64 (cmpI (sgn s x) (sgn s' y))) ∧ Below w.heap.size w w' := by
 have hlu := nl_sub_le (s := s) (s' := s') hx.lt hy.lt
 have HS := fun W h h' => Lib.hid (rsub_any W s s' a a' n n' cap cap' x y h h' hl hl')
 rw [← sg_sub]
 generalize sgn s x - sgn s' y = u at HS hlu ⊢
 have HG := fun W b c h => Lib.hid (rsign_any W (decide (u < 0)) b (nl u.natAbs) c u.natAbs h (by omega))
 rw [sgn_self] at HG
 generalize sg u = g at HG ⊢
 clear hlu
 go_enter Tryz.func164, Tryz.ntmps164
 go_wp2_with fail
 have Ix := ((BgV.made' w 44 s (.slice a n cap) (n := w.heap.size) (by rfl)).alloc (.cells #[.bool s', (.slice a' n' cap')] 44))
 have Iy := (BgV.made' (w.alloc (.cells #[.bool s, (.slice a n cap)] 44)) 44 s' (.slice a' n' cap') (n := w.heap.size + 1) (by rw [World.size_alloc]))
 have B0 : Below w.heap.size w ((w.alloc (.cells #[.bool s, (.slice a n cap)] 44)).alloc (.cells #[.bool s', (.slice a' n' cap')] 44)) := zbh
 have nxy : ¬ w.heap.size = w.heap.size + 1 := by omega
 have nyx : ¬ w.heap.size + 1 = w.heap.size := by omega
 generalize ((w.alloc (.cells #[.bool s, (.slice a n cap)] 44)).alloc (.cells #[.bool s', (.slice a' n' cap')] 44)) = w0 at Ix Iy B0 ⊢
 generalize hb1 : w.heap.size + 1 = b1 at Iy nxy nyx ⊢
 generalize hb0 : w.heap.size = b0 at Ix nxy nyx hb1 ⊢
 obtain ⟨xc0, xc1, xc2, xc3⟩ := Ix
 have Vx0 := Lib.hid (BgV.mk xc0 xc1 xc2 xc3)
 obtain ⟨yc0, yc1, yc2, yc3⟩ := Iy
 have Vy0 := Lib.hid (BgV.mk yc0 yc1 yc2 yc3)
 refine (HS _ (hx.below (have := Beh.mk B0; zbh)) (hy.below (have := Beh.mk B0; zbh))).out.mono ?_
 rintro e w1 ⟨au, cu, rfl, Mu1, hb1, hf1⟩
 have Vx1 : BgV w1 b0 s (.slice a n cap) := (Vx0.out.on.below hb1)
 (try clear xc0 xc1 xc2)
 obtain ⟨xc0, xc1, xc2, xc3⟩ := Vx1
 have Vx1 := Lib.hid (BgV.mk xc0 xc1 xc2 xc3)
 have Vy1 : BgV w1 b1 s' (.slice a' n' cap') := (Vy0.out.on.below hb1)
 (try clear yc0 yc1 yc2)
 obtain ⟨yc0, yc1, yc2, yc3⟩ := Vy1
 have Vy1 := Lib.hid (BgV.mk yc0 yc1 yc2 yc3)
 have B1 := below_box (w := w) (have := Beh.mk B0; zbh) hb1
 have hF1 : 0 < (nl u.natAbs) → w0.heap.size ≤ ab au := (fun h => by have hq := hf1 h; (try simp at hq); omega)
 have frux : 0 < (nl u.natAbs) → ab au ≠ b0 := (fun h => by have := hF1 h; have := Vx0.out.lt; omega)
 have fruy : 0 < (nl u.natAbs) → ab au ≠ b1 := (fun h => by have := hF1 h; have := Vy0.out.lt; omega)
 have fou : 0 < (nl u.natAbs) → w.heap.size ≤ ab au := (fun h => by have := hF1 h; have := B0.size; omega)
 clear hF1
 clear hb1 hf1
 go_wp2_with fail
 refine (HG _ au cu Mu1.on).out.mono ?_
 rintro e w2 ⟨rfl, hb2⟩
 have Vx2 : BgV w2 b0 s (.slice a n cap) := (Vx1.out.on.below hb2)
 (try clear xc0 xc1 xc2)
 obtain ⟨xc0, xc1, xc2, xc3⟩ := Vx2
 have Vx2 := Lib.hid (BgV.mk xc0 xc1 xc2 xc3)
 have Vy2 : BgV w2 b1 s' (.slice a' n' cap') := (Vy1.out.on.below hb2)
 (try clear yc0 yc1 yc2)
 obtain ⟨yc0, yc1, yc2, yc3⟩ := Vy2
 have Vy2 := Lib.hid (BgV.mk yc0 yc1 yc2 yc3)
 have Mu2 : Mag w2 au (nl u.natAbs) cu u.natAbs := Mag.below Mu1.on hb2
 have B2 := below_box (w := w) (have := Beh.mk B1; zbh) hb2
 clear hb2
 go_wp2_with fail
 go_ret
 exact ⟨rfl, (have := Beh.mk B2; zbh)⟩
theorem rmul_any (w : World) (s s' : Bool) (a a' : Option Addr) (n n' cap cap' x y : Nat) (hx : Mag w a n cap x) (hy : Mag w a' n' cap' y) (hl : n ≤ 549755813888) (hl' : n' ≤ 549755813888) :
 Calls Tryz.prog 59 #[.agg #[.bool s, .slice a n cap], .agg #[.bool s', .slice a' n' cap']] w (RetBig w (sgn s x * sgn s' y)) := by
 have nx := nl_le hx.lt
 have ny := nl_le hy.lt
 have HT := fun W h => Lib.hid (rtrim_any W a n cap x h (by omega))
 have HT' := fun W h => Lib.hid (rtrim_any W a' n' cap' y h (by omega))
 have HMM := fun W b c b' c' h h' => Lib.hid (rmulm_any W b b' (nl x) (nl y) c c' x y h h' (by omega) (by omega))
 have HK := fun W b m c h (hm : m ≤ nl x + nl y) => Lib.hid (rmake1_any W (s != s') b m c (x * y) h (by omega))
 rw [sgn_mul] at HK
 generalize sgn s x * sgn s' y = v at HK ⊢
 obtain ⟨t, ht⟩ : ∃ t, t = (s != s') := ⟨_, rfl⟩
 have ht1 : (s != s') = t := ht.symm
 have ht2 : (!(s == s')) = t := ht.symm
 rw [← ht] at HK
 generalize x * y = p at HMM HK
 clear ht nx ny hl hl'
 go_enter Tryz.func59, Tryz.ntmps59
 go_wp2_with fail
 have Ix := (((BgV.made' w 44 s (.slice a n cap) (n := w.heap.size) (by rfl)).alloc (.cells #[.bool s', (.slice a' n' cap')] 44)).alloc (.cells #[.bool false, (.slice none 0 0)] 44))
 have Iy := ((BgV.made' (w.alloc (.cells #[.bool s, (.slice a n cap)] 44)) 44 s' (.slice a' n' cap') (n := w.heap.size + 1) (by rw [World.size_alloc])).alloc (.cells #[.bool false, (.slice none 0 0)] 44))
 have Ir := (BgV.made' ((w.alloc (.cells #[.bool s, (.slice a n cap)] 44)).alloc (.cells #[.bool s', (.slice a' n' cap')] 44)) 44 false (.slice none 0 0) (n := w.heap.size + 1 + 1) (by rw [World.size_alloc, World.size_alloc]))
 have B0 : Below w.heap.size w (((w.alloc (.cells #[.bool s, (.slice a n cap)] 44)).alloc (.cells #[.bool s', (.slice a' n' cap')] 44)).alloc (.cells #[.bool false, (.slice none 0 0)] 44)) := zbh
 have nxy : ¬ w.heap.size = w.heap.size + 1 := by omega
 have nxr : ¬ w.heap.size = w.heap.size + 1 + 1 := by omega
 have nyx : ¬ w.heap.size + 1 = w.heap.size := by omega
 have nyr : ¬ w.heap.size + 1 = w.heap.size + 1 + 1 := by omega
 have nrx : ¬ w.heap.size + 1 + 1 = w.heap.size := by omega
 have nry : ¬ w.heap.size + 1 + 1 = w.heap.size + 1 := by omega
 generalize (((w.alloc (.cells #[.bool s, (.slice a n cap)] 44)).alloc (.cells #[.bool s', (.slice a' n' cap')] 44)).alloc (.cells #[.bool false, (.slice none 0 0)] 44)) = w0 at Ix Iy Ir B0 ⊢
 generalize hb2 : w.heap.size + 1 + 1 = b2 at Ir nxy nxr nyx nyr nrx nry ⊢
 generalize hb1 : w.heap.size + 1 = b1 at Iy nxy nxr nyx nyr nrx nry hb2 ⊢
 generalize hb0 : w.heap.size = b0 at Ix nxy nxr nyx nyr nrx nry hb1 ⊢
 obtain ⟨xc0, xc1, xc2, xc3⟩ := Ix
 have Vx0 := Lib.hid (BgV.mk xc0 xc1 xc2 xc3)
 obtain ⟨yc0, yc1, yc2, yc3⟩ := Iy
 have Vy0 := Lib.hid (BgV.mk yc0 yc1 yc2 yc3)
 obtain ⟨rc0, rc1, rc2, rc3⟩ := Ir
 have Vr0 := Lib.hid (BgV.mk rc0 rc1 rc2 rc3)
 first
 | go_region_held3 (fun w' => w'.cell? ⟨b0, 0, none⟩ = some (.bool s) ∧ w'.cell? ⟨b0, 1, none⟩ = some ((.slice a n cap)) ∧ w'.cell? ⟨b1, 0, none⟩ = some (.bool s') ∧ w'.cell? ⟨b1, 1, none⟩ = some ((.slice a' n' cap'))) (first | (go_keep; done) | (go_simp; done))
  (first
   | (go_at_call 105; have xx := B3; refine (HK _ a3 n3 c3 M33.on hn3).out.mono ?_; rintro e w4 ⟨av, cv, rfl, Mv4, hb4, hf4⟩; have Vx4 : BgV w4 b0 s (.slice a n cap) := (Vx3.out.on.below hb4); (try clear xc0 xc1 xc2); obtain ⟨xc0, xc1, xc2, xc3⟩ := Vx4; have Vx4 := Lib.hid (BgV.mk xc0 xc1 xc2 xc3); have Vy4 : BgV w4 b1 s' (.slice a' n' cap') := (Vy3.out.on.below hb4); (try clear yc0 yc1 yc2); obtain ⟨yc0, yc1, yc2, yc3⟩ := Vy4; have Vy4 := Lib.hid (BgV.mk yc0 yc1 yc2 yc3); have Vr4 : BgV w4 b2 false (.slice none 0 0) := (Vr3.out.on.below hb4); (try clear rc0 rc1 rc2); obtain ⟨rc0, rc1, rc2, rc3⟩ := Vr4; have Vr4 := Lib.hid (BgV.mk rc0 rc1 rc2 rc3); have M14 : Mag w4 a1 (nl x) c1 x := Mag.below M13.on hb4; have M24 : Mag w4 a2 (nl y) c2 y := Mag.below M23.on hb4; have M34 : Mag w4 a3 n3 c3 p := Mag.below M33.on hb4; have B4 := below_box (w := w) (have := Beh.mk B3; zbh) hb4; have hF4 : 0 < (nl v.natAbs) → w3.heap.size ≤ ab av := (fun h => by have hq := hf4 h; (try simp at hq); omega); have frvx : 0 < (nl v.natAbs) → ab av ≠ b0 := (fun h => by have := hF4 h; have := Vx3.out.lt; omega); have frvy : 0 < (nl v.natAbs) → ab av ≠ b1 := (fun h => by have := hF4 h; have := Vy3.out.lt; omega); have frvr : 0 < (nl v.natAbs) → ab av ≠ b2 := (fun h => by have := hF4 h; have := Vr3.out.lt; omega); have fov : 0 < (nl v.natAbs) → w.heap.size ≤ ab av := (fun h => by have := hF4 h; have := B3.size; omega); clear hF4; clear hb4 hf4)
   | (go_at_call 106; have xx := B2; refine (HMM _ a1 c1 a2 c2 M12.on M22.on).out.mono ?_; rintro e w3 ⟨a3, n3, c3, rfl, M33, hn3, hb3, hf3⟩; have Vx3 : BgV w3 b0 s (.slice a n cap) := (Vx2.out.on.below hb3); (try clear xc0 xc1 xc2); obtain ⟨xc0, xc1, xc2, xc3⟩ := Vx3; have Vx3 := Lib.hid (BgV.mk xc0 xc1 xc2 xc3); have Vy3 : BgV w3 b1 s' (.slice a' n' cap') := (Vy2.out.on.below hb3); (try clear yc0 yc1 yc2); obtain ⟨yc0, yc1, yc2, yc3⟩ := Vy3; have Vy3 := Lib.hid (BgV.mk yc0 yc1 yc2 yc3); have Vr3 : BgV w3 b2 false (.slice none 0 0) := (Vr2.out.on.below hb3); (try clear rc0 rc1 rc2); obtain ⟨rc0, rc1, rc2, rc3⟩ := Vr3; have Vr3 := Lib.hid (BgV.mk rc0 rc1 rc2 rc3); have M13 : Mag w3 a1 (nl x) c1 x := Mag.below M12.on hb3; have M23 : Mag w3 a2 (nl y) c2 y := Mag.below M22.on hb3; have B3 := below_box (w := w) (have := Beh.mk B2; zbh) hb3; have hF3 : 0 < n3 → w2.heap.size ≤ ab a3 := (fun h => by have hq := hf3 h; (try simp at hq); omega); have fr3x : 0 < n3 → ab a3 ≠ b0 := (fun h => by have := hF3 h; have := Vx2.out.lt; omega); have fr3y : 0 < n3 → ab a3 ≠ b1 := (fun h => by have := hF3 h; have := Vy2.out.lt; omega); have fr3r : 0 < n3 → ab a3 ≠ b2 := (fun h => by have := hF3 h; have := Vr2.out.lt; omega); have fo3 : 0 < n3 → w.heap.size ≤ ab a3 := (fun h => by have := hF3 h; have := B2.size; omega); clear hF3; clear hb3 hf3)
   | (go_at_call 107; have xx := B1; refine (HT' _ (hy.below (have := Beh.mk B1; zbh))).out.mono ?_; rintro e w2 ⟨a2, c2, rfl, M22, hb2, hf2⟩; have Vx2 : BgV w2 b0 s (.slice a n cap) := (Vx1.out.on.below hb2); (try clear xc0 xc1 xc2); obtain ⟨xc0, xc1, xc2, xc3⟩ := Vx2; have Vx2 := Lib.hid (BgV.mk xc0 xc1 xc2 xc3); have Vy2 : BgV w2 b1 s' (.slice a' n' cap') := (Vy1.out.on.below hb2); (try clear yc0 yc1 yc2); obtain ⟨yc0, yc1, yc2, yc3⟩ := Vy2; have Vy2 := Lib.hid (BgV.mk yc0 yc1 yc2 yc3); have Vr2 : BgV w2 b2 false (.slice none 0 0) := (Vr1.out.on.below hb2); (try clear rc0 rc1 rc2); obtain ⟨rc0, rc1, rc2, rc3⟩ := Vr2; have Vr2 := Lib.hid (BgV.mk rc0 rc1 rc2 rc3); have M12 : Mag w2 a1 (nl x) c1 x := Mag.below M11.on hb2; have B2 := below_box (w := w) (have := Beh.mk B1; zbh) hb2; have hF2 : 0 < (nl y) → w1.heap.size ≤ ab a2 := (fun h => by have hq := hf2 h; (try simp at hq); omega); have fr2x : 0 < (nl y) → ab a2 ≠ b0 := (fun h => by have := hF2 h; have := Vx1.out.lt; omega); have fr2y : 0 < (nl y) → ab a2 ≠ b1 := (fun h => by have := hF2 h; have := Vy1.out.lt; omega); have fr2r : 0 < (nl y) → ab a2 ≠ b2 := (fun h => by have := hF2 h; have := Vr1.out.lt; omega); have fo2 : 0 < (nl y) → w.heap.size ≤ ab a2 := (fun h => by have := hF2 h; have := B1.size; omega); clear hF2; clear hb2 hf2)
   | (go_at_call 107; refine (HT _ (hx.below (have := Beh.mk B0; zbh))).out.mono ?_; rintro e w1 ⟨a1, c1, rfl, M11, hb1, hf1⟩; have Vx1 : BgV w1 b0 s (.slice a n cap) := (Vx0.out.on.below hb1); (try clear xc0 xc1 xc2); obtain ⟨xc0, xc1, xc2, xc3⟩ := Vx1; have Vx1 := Lib.hid (BgV.mk xc0 xc1 xc2 xc3); have Vy1 : BgV w1 b1 s' (.slice a' n' cap') := (Vy0.out.on.below hb1); (try clear yc0 yc1 yc2); obtain ⟨yc0, yc1, yc2, yc3⟩ := Vy1; have Vy1 := Lib.hid (BgV.mk yc0 yc1 yc2 yc3); have Vr1 : BgV w1 b2 false (.slice none 0 0) := (Vr0.out.on.below hb1); (try clear rc0 rc1 rc2); obtain ⟨rc0, rc1, rc2, rc3⟩ := Vr1; have Vr1 := Lib.hid (BgV.mk rc0 rc1 rc2 rc3); have B1 := below_box (w := w) (have := Beh.mk B0; zbh) hb1; have hF1 : 0 < (nl x) → w0.heap.size ≤ ab a1 := (fun h => by have hq := hf1 h; (try simp at hq); omega); have fr1x : 0 < (nl x) → ab a1 ≠ b0 := (fun h => by have := hF1 h; have := Vx0.out.lt; omega); have fr1y : 0 < (nl x) → ab a1 ≠ b1 := (fun h => by have := hF1 h; have := Vy0.out.lt; omega); have fr1r : 0 < (nl x) → ab a1 ≠ b2 := (fun h => by have := hF1 h; have := Vr0.out.lt; omega); have fo1 : 0 < (nl x) → w.heap.size ≤ ab a1 := (fun h => by have := hF1 h; have := B0.size; omega); clear hF1; clear hb1 hf1)
   | fail)
 | fail "region"
 go_wp2_with fail
 refine bodyPost_ret (v := .agg #[.bool (decide (v < 0)), .slice av (nl v.natAbs) cv]) (by simp only [results, Tryz.results59]; go_simp) rfl ?_
 exact ⟨av, cv, rfl, (by repeat (with_reducible first | refine Mag.set ?_ frvx _ _ | refine Mag.set ?_ frvy _ _ | refine Mag.set ?_ frvr _ _ | refine Mag.drew ?_ | refine Mag.drewN ?_ _ | refine Mag.alloc ?_ _ | exact Mv4)), (by have hszw := (B4).size; repeat (with_reducible first | refine Below.setCell ?_ (by first | omega | (simp <;> omega)) _ | refine Below.alloc ?_ (by first | omega | (simp <;> omega)) _ | refine Below.drew ?_ | refine below_drewN ?_ _ | exact B4)), fov⟩
theorem rlost_any (w : World) (s : Bool) (a : Option Addr) (n cap x k : Nat) (hx : Mag w a n cap x) (hlim : n ≤ 549755813888) (hk : k ≤ 1048576) :
 Calls Tryz.prog 180 #[.agg #[.bool s, .slice a n cap], .int .i64 k] w fun e w' => e = .returned (.bool (decide (x % 2 ^ k ≠ 0))) ∧ Below w.heap.size w w' := by
 have nx := nl_le hx.lt
 have HT := fun W h => Lib.hid (rtrim_any W a n cap x h (by omega))
 have HR := fun W b c h => Lib.hid (rshr_any W b (nl x) c x k h (by omega) hk _ rfl)
 generalize decide (x % 2 ^ k ≠ 0) = lb at HR ⊢
 generalize x / 2 ^ k = q at HR
 clear nx hk hlim
 go_enter Tryz.func180, Tryz.ntmps180
 go_wp2_with fail
 have Ix := (BgV.made' w 44 s (.slice a n cap) (n := w.heap.size) (by rfl))
 have B0 : Below w.heap.size w (w.alloc (.cells #[.bool s, (.slice a n cap)] 44)) := zbh
 generalize (w.alloc (.cells #[.bool s, (.slice a n cap)] 44)) = w0 at Ix B0 ⊢
 generalize hb0 : w.heap.size = b0 at Ix ⊢
 obtain ⟨xc0, xc1, xc2, xc3⟩ := Ix
 have Vx0 := Lib.hid (BgV.mk xc0 xc1 xc2 xc3)
 refine (HT _ (hx.below (have := Beh.mk B0; zbh))).out.mono ?_
 rintro e w1 ⟨a1, c1, rfl, M11, hb1, hf1⟩
 have Vx1 : BgV w1 b0 s (.slice a n cap) := (Vx0.out.on.below hb1)
 (try clear xc0 xc1 xc2)
 obtain ⟨xc0, xc1, xc2, xc3⟩ := Vx1
 have Vx1 := Lib.hid (BgV.mk xc0 xc1 xc2 xc3)
 have B1 := below_box (w := w) (have := Beh.mk B0; zbh) hb1
 have hF1 : 0 < (nl x) → w0.heap.size ≤ ab a1 := (fun h => by have hq := hf1 h; (try simp at hq); omega)
 have fr1x : 0 < (nl x) → ab a1 ≠ b0 := (fun h => by have := hF1 h; have := Vx0.out.lt; omega)
 have fo1 : 0 < (nl x) → w.heap.size ≤ ab a1 := (fun h => by have := hF1 h; have := B0.size; omega)
 clear hF1
 clear hb1 hf1
 go_wp2_with fail
 refine (HR _ a1 c1 M11.on).out.mono ?_
 rintro e w2 ⟨a2, n2, c2, rfl, M22, hn2, hb2, hf2⟩
 have Vx2 : BgV w2 b0 s (.slice a n cap) := (Vx1.out.on.below hb2)
 (try clear xc0 xc1 xc2)
 obtain ⟨xc0, xc1, xc2, xc3⟩ := Vx2
 have Vx2 := Lib.hid (BgV.mk xc0 xc1 xc2 xc3)
 have M12 : Mag w2 a1 (nl x) c1 x := Mag.below M11.on hb2
 have B2 := below_box (w := w) (have := Beh.mk B1; zbh) hb2
 have hF2 : 0 < n2 → w1.heap.size ≤ ab a2 := (fun h => by have hq := hf2 h; (try simp at hq); omega)
 have fr2x : 0 < n2 → ab a2 ≠ b0 := (fun h => by have := hF2 h; have := Vx1.out.lt; omega)
 have fo2 : 0 < n2 → w.heap.size ≤ ab a2 := (fun h => by have := hF2 h; have := B1.size; omega)
 clear hF2
 clear hb2 hf2
 go_wp2_with fail
 go_ret
 exact ⟨rfl, (have := Beh.mk B2; zbh)⟩
end Go.Proofs.YtablcbgeeeboeaaGreatDoor
