/-
  Walks: the reference's integers: Mul, Cmp, Lost, Shift to the right of any number.
-/
import Derived.Test.YtakbappmkdaioaaGreatDoorZlRP
import Derived.Test.YtakbappmkdaioaaGreatDoorZlBf
namespace Go.Proofs.YtakbappmkdaioaaGreatDoor
open Go.RowKit Sp

theorem DyV.put {W : World} {b : Nat} {v s : Bool} {sl : Value} {f : Int} (h : DyV W b v s sl f) (v' s' : Bool) (sl' : Value) (f' : Int) :
    DyV ((((W.setCell ⟨b, 0, none⟩ (.bool v')).setCell ⟨b, 1, none⟩ (.bool s')).setCell ⟨b, 2, none⟩ sl').setCell ⟨b, 3, none⟩ (.int .i64 f')) b v' s' sl' f' := by
  obtain ⟨c0, c1, c2, c3, c4, c5⟩ := h
  exact ⟨by go_simp, by go_simp, by go_simp, by go_simp, fun i => by go_simp, by simpa using c5⟩
theorem BgV.put {W : World} {b : Nat} {s : Bool} {sl : Value} (h : BgV W b s sl) (s' : Bool) (sl' : Value) :
    BgV ((W.setCell ⟨b, 0, none⟩ (.bool s')).setCell ⟨b, 1, none⟩ sl') b s' sl' := by
  obtain ⟨c0, c1, c2, c3⟩ := h
  exact ⟨by go_simp, by go_simp, fun i => by go_simp, by simpa using c3⟩

theorem nl_sub_le {s s' : Bool} {x y n n' : Nat} (hx : x < B ^ n) (hy : y < B ^ n') : nl (sgn s x - sgn s' y).natAbs ≤ max n n' + 1 := by
  have h0 : (sgn s x - sgn s' y).natAbs ≤ x + y := by unfold sgn; cases s <;> cases s' <;> simp <;> omega
  have h1 : B ^ n ≤ B ^ max n n' := Nat.pow_le_pow_right (by rw [B_eq]; omega) (Nat.le_max_left _ _)
  have h2 : B ^ n' ≤ B ^ max n n' := Nat.pow_le_pow_right (by rw [B_eq]; omega) (Nat.le_max_right _ _)
  refine nl_le (Nat.lt_of_le_of_lt h0 ?_)
  rw [Nat.pow_succ]
  generalize B ^ max n n' = Q at h1 h2 ⊢
  generalize B ^ n = P at hx h1
  generalize B ^ n' = P' at hy h2
  have hB : 2 ≤ B := by rw [B_eq]; omega
  have := Nat.mul_le_mul_left Q hB
  omega
theorem sg_sub (x y : Int) : sg (x - y) = cmpI x y := by
  unfold sg cmpI; split <;> (try split) <;> (try split) <;> (try split) <;> omega

set_option maxRecDepth 100000 in
set_option maxHeartbeats 2000000 in
theorem rcmp_any (w : World) (s s' : Bool) (a a' : Option Addr) (n n' cap cap' x y : Nat) (hx : Mag w a n cap x) (hy : Mag w a' n' cap' y) (hl : n ≤ 549755813888) (hl' : n' ≤ 549755813888) :
    Calls Tryz.prog 230 #[.agg #[.bool s, .slice a n cap], .agg #[.bool s', .slice a' n' cap']] w fun e w' => e = .returned (.int .i64 (cmpI (sgn s x) (sgn s' y))) ∧ Below w.heap.size w w' := by
  have hlu := nl_sub_le (s := s) (s' := s') hx.lt hy.lt
  have HS := fun W h h' => Lib.hid (rsub_any W s s' a a' n n' cap cap' x y h h' hl hl')
  rw [← sg_sub]
  generalize sgn s x - sgn s' y = u at HS hlu ⊢
  have HG := fun W b c h => Lib.hid (rsign_any W (decide (u < 0)) b (nl u.natAbs) c u.natAbs h (by omega))
  rw [sgn_self] at HG
  generalize sg u = g at HG ⊢
  clear hlu
  go_enter Tryz.func230, Tryz.ntmps230
  go_wp2_with fail
  have Ix := ((BgV.made' w 24 s (.slice a n cap) (n := w.heap.size) (by rfl)).alloc (.cells #[.bool s', (.slice a' n' cap')] 24))
  have Iy := (BgV.made' (w.alloc (.cells #[.bool s, (.slice a n cap)] 24)) 24 s' (.slice a' n' cap') (n := w.heap.size + 1) (by rw [World.size_alloc]))
  have B0 : Below w.heap.size w ((w.alloc (.cells #[.bool s, (.slice a n cap)] 24)).alloc (.cells #[.bool s', (.slice a' n' cap')] 24)) := zbh
  have nxy : ¬ w.heap.size = w.heap.size + 1 := by omega
  have nyx : ¬ w.heap.size + 1 = w.heap.size := by omega
  generalize ((w.alloc (.cells #[.bool s, (.slice a n cap)] 24)).alloc (.cells #[.bool s', (.slice a' n' cap')] 24)) = w0 at Ix Iy B0 ⊢
  generalize hb1 : w.heap.size + 1 = b1 at Iy nxy nyx ⊢
  generalize hb0 : w.heap.size = b0 at Ix nxy nyx hb1 ⊢
  obtain ⟨xc0, xc1, xc2, xc3⟩ := Ix
  have Vx0 := Lib.hid (BgV.mk xc0 xc1 xc2 xc3)
  obtain ⟨yc0, yc1, yc2, yc3⟩ := Iy
  have Vy0 := Lib.hid (BgV.mk yc0 yc1 yc2 yc3)
  refine (HS _ (hx.below (have := Beh.mk B0; zbh)) (hy.below (have := Beh.mk B0; zbh))).out.mono ?_
  rintro e w1 ⟨au, cu, rfl, Mu1, hb1, hf1⟩
  have Vx1 : BgV w1 b0 s (.slice a n cap) := (Vx0.out.on.below hb1)
  (try clear xc0 xc1 xc2)
  obtain ⟨xc0, xc1, xc2, xc3⟩ := Vx1
  have Vx1 := Lib.hid (BgV.mk xc0 xc1 xc2 xc3)
  have Vy1 : BgV w1 b1 s' (.slice a' n' cap') := (Vy0.out.on.below hb1)
  (try clear yc0 yc1 yc2)
  obtain ⟨yc0, yc1, yc2, yc3⟩ := Vy1
  have Vy1 := Lib.hid (BgV.mk yc0 yc1 yc2 yc3)
  have B1 := below_box (w := w) (have := Beh.mk B0; zbh) hb1
  have hF1 : 0 < (nl u.natAbs) → w0.heap.size ≤ ab au := (fun h => by have hq := hf1 h; (try simp at hq); omega)
  have frux : 0 < (nl u.natAbs) → ab au ≠ b0 := (fun h => by have := hF1 h; have := Vx0.out.lt; omega)
  have fruy : 0 < (nl u.natAbs) → ab au ≠ b1 := (fun h => by have := hF1 h; have := Vy0.out.lt; omega)
  have fou : 0 < (nl u.natAbs) → w.heap.size ≤ ab au := (fun h => by have := hF1 h; have := B0.size; omega)
  clear hF1
  clear hb1 hf1
  go_wp2_with fail
  refine (HG _ au cu (by repeat (with_reducible first | refine Mag.set ?_ (fun h => by have := Mu1 h; omega) _ _ | refine Mag.drew ?_ | refine Mag.alloc ?_ _ | refine Mag.drewN ?_ _ | exact Mu1))).out.mono ?_
  rintro e w2 ⟨rfl, hb2⟩
  have Vx2 : BgV w2 b0 s (.slice a n cap) := (Vx1.out.on.below hb2)
  (try clear xc0 xc1 xc2)
  obtain ⟨xc0, xc1, xc2, xc3⟩ := Vx2
  have Vx2 := Lib.hid (BgV.mk xc0 xc1 xc2 xc3)
  have Vy2 : BgV w2 b1 s' (.slice a' n' cap') := (Vy1.out.on.below hb2)
  (try clear yc0 yc1 yc2)
  obtain ⟨yc0, yc1, yc2, yc3⟩ := Vy2
  have Vy2 := Lib.hid (BgV.mk yc0 yc1 yc2 yc3)
  have Mu2 : Mag w2 au (nl u.natAbs) cu u.natAbs := Mag.below (by repeat (with_reducible first | refine Mag.set ?_ (fun h => by have := Mu1 h; omega) _ _ | refine Mag.drew ?_ | refine Mag.alloc ?_ _ | refine Mag.drewN ?_ _ | exact Mu1)) hb2
  have B2 := below_box (w := w) (have := Beh.mk B1; zbh) hb2
  clear hb2
  go_wp2_with fail
  go_ret
  exact ⟨rfl, (have := Beh.mk B2; zbh)⟩

set_option maxRecDepth 100000 in
set_option maxHeartbeats 2000000 in
theorem rlost_any (w : World) (s : Bool) (a : Option Addr) (n cap x k : Nat) (hx : Mag w a n cap x) (hlim : n ≤ 549755813888) (hk : k ≤ 1048576) :
    Calls Tryz.prog 260 #[.agg #[.bool s, .slice a n cap], .int .i64 k] w fun e w' => e = .returned (.bool (decide (x % 2 ^ k ≠ 0))) ∧ Below w.heap.size w w' := by
  have nx := nl_le hx.lt
  have HT := fun W h => Lib.hid (rtrim_any W a n cap x h (by omega))
  have HR := fun W b c h => Lib.hid (rshr_any W b (nl x) c x k h (by omega) hk _ rfl)
  generalize decide (x % 2 ^ k ≠ 0) = lb at HR ⊢
  generalize x / 2 ^ k = q at HR
  clear nx hk hlim
  go_enter Tryz.func260, Tryz.ntmps260
  go_wp2_with fail
  have Ix := (BgV.made' w 24 s (.slice a n cap) (n := w.heap.size) (by rfl))
  have B0 : Below w.heap.size w (w.alloc (.cells #[.bool s, (.slice a n cap)] 24)) := zbh
  generalize (w.alloc (.cells #[.bool s, (.slice a n cap)] 24)) = w0 at Ix B0 ⊢
  generalize hb0 : w.heap.size = b0 at Ix ⊢
  obtain ⟨xc0, xc1, xc2, xc3⟩ := Ix
  have Vx0 := Lib.hid (BgV.mk xc0 xc1 xc2 xc3)
  refine (HT _ (hx.below (have := Beh.mk B0; zbh))).out.mono ?_
  rintro e w1 ⟨a1, c1, rfl, M11, hb1, hf1⟩
  have Vx1 : BgV w1 b0 s (.slice a n cap) := (Vx0.out.on.below hb1)
  (try clear xc0 xc1 xc2)
  obtain ⟨xc0, xc1, xc2, xc3⟩ := Vx1
  have Vx1 := Lib.hid (BgV.mk xc0 xc1 xc2 xc3)
  have B1 := below_box (w := w) (have := Beh.mk B0; zbh) hb1
  have hF1 : 0 < (nl x) → w0.heap.size ≤ ab a1 := (fun h => by have hq := hf1 h; (try simp at hq); omega)
  have fr1x : 0 < (nl x) → ab a1 ≠ b0 := (fun h => by have := hF1 h; have := Vx0.out.lt; omega)
  have fo1 : 0 < (nl x) → w.heap.size ≤ ab a1 := (fun h => by have := hF1 h; have := B0.size; omega)
  clear hF1
  clear hb1 hf1
  go_wp2_with fail
  refine (HR _ a1 c1 (by repeat (with_reducible first | refine Mag.set ?_ (fun h => by have := M11 h; omega) _ _ | refine Mag.drew ?_ | refine Mag.alloc ?_ _ | refine Mag.drewN ?_ _ | exact M11))).out.mono ?_
  rintro e w2 ⟨a2, n2, c2, rfl, M22, hn2, hb2, hf2⟩
  have Vx2 : BgV w2 b0 s (.slice a n cap) := (Vx1.out.on.below hb2)
  (try clear xc0 xc1 xc2)
  obtain ⟨xc0, xc1, xc2, xc3⟩ := Vx2
  have Vx2 := Lib.hid (BgV.mk xc0 xc1 xc2 xc3)
  have M12 : Mag w2 a1 (nl x) c1 x := Mag.below (by repeat (with_reducible first | refine Mag.set ?_ (fun h => by have := M11 h; omega) _ _ | refine Mag.drew ?_ | refine Mag.alloc ?_ _ | refine Mag.drewN ?_ _ | exact M11)) hb2
  have B2 := below_box (w := w) (have := Beh.mk B1; zbh) hb2
  have hF2 : 0 < n2 → w1.heap.size ≤ ab a2 := (fun h => by have hq := hf2 h; (try simp at hq); omega)
  have fr2x : 0 < n2 → ab a2 ≠ b0 := (fun h => by have := hF2 h; have := Vx1.out.lt; omega)
  have fo2 : 0 < n2 → w.heap.size ≤ ab a2 := (fun h => by have := hF2 h; have := B1.size; omega)
  clear hF2
  clear hb2 hf2
  go_wp2_with fail
  go_ret
  exact ⟨rfl, (have := Beh.mk B2; zbh)⟩

end Go.Proofs.YtakbappmkdaioaaGreatDoor

