/-
  Walks: the reference's integers: Mul, Cmp, Lost, Shift to the right of any number.
-/
import Derived.Test.YtjhngehajahbnaaGreatDoorRk
import Derived.Test.YtjhngehajahbnaaGreatDoorRp
import Derived.Test.YtjhngehajahbnaaGreatDoorBf
namespace Go.Proofs.YtjhngehajahbnaaGreatDoor
open Go.RowKit Sp

theorem DyV.put {W : World} {b : Nat} {v s : Bool} {sl : Value} {f : Int} (h : DyV W b v s sl f) (v' s' : Bool) (sl' : Value) (f' : Int) :
    DyV ((((W.setCell ⟨b, 0, none⟩ (.bool v')).setCell ⟨b, 1, none⟩ (.bool s')).setCell ⟨b, 2, none⟩ sl').setCell ⟨b, 3, none⟩ (.int .i64 f')) b v' s' sl' f' := by
  obtain ⟨c0, c1, c2, c3, c4, c5⟩ := h
  exact ⟨by go_simp, by go_simp, by go_simp, by go_simp, fun i => by go_simp, by simpa using c5⟩
theorem BgV.put {W : World} {b : Nat} {s : Bool} {sl : Value} (h : BgV W b s sl) (s' : Bool) (sl' : Value) :
    BgV ((W.setCell ⟨b, 0, none⟩ (.bool s')).setCell ⟨b, 1, none⟩ sl') b s' sl' := by
  obtain ⟨c0, c1, c2, c3⟩ := h
  exact ⟨by go_simp, by go_simp, fun i => by go_simp, by simpa using c3⟩

theorem nl_sub_le {s s' : Bool} {x y n n' : Nat} (hx : x < B ^ n) (hy : y < B ^ n') : nl (sgn s x - sgn s' y).natAbs ≤ max n n' + 1 := by
  have h0 : (sgn s x - sgn s' y).natAbs ≤ x + y := by unfold sgn; cases s <;> cases s' <;> simp <;> omega
  have h1 : B ^ n ≤ B ^ max n n' := Nat.pow_le_pow_right (by rw [B_eq]; omega) (Nat.le_max_left _ _)
  have h2 : B ^ n' ≤ B ^ max n n' := Nat.pow_le_pow_right (by rw [B_eq]; omega) (Nat.le_max_right _ _)
  refine nl_le (Nat.lt_of_le_of_lt h0 ?_)
  rw [Nat.pow_succ]
  generalize B ^ max n n' = Q at h1 h2 ⊢
  generalize B ^ n = P at hx h1
  generalize B ^ n' = P' at hy h2
  have hB : 2 ≤ B := by rw [B_eq]; omega
  have := Nat.mul_le_mul_left Q hB
  omega
theorem sg_sub (x y : Int) : sg (x - y) = cmpI x y := by
  unfold sg cmpI; split <;> (try split) <;> (try split) <;> (try split) <;> omega

set_option maxRecDepth 100000 in
set_option maxHeartbeats 2000000 in
theorem rcmp_any (w : World) (s s' : Bool) (a a' : Option Addr) (n n' cap cap' x y : Nat) (hx : Mag w a n cap x) (hy : Mag w a' n' cap' y) (hl : n ≤ 549755813888) (hl' : n' ≤ 549755813888) :
    Calls Tryz.prog 66 #[.agg #[.bool s, .slice a n cap], .agg #[.bool s', .slice a' n' cap']] w fun e w' => e = .returned (.int .i64 (cmpI (sgn s x) (sgn s' y))) ∧ Below w.heap.size w w' := by
  have hlu := nl_sub_le (s := s) (s' := s') hx.lt hy.lt
  have HS := fun W h h' => Lib.hid (rsub_any W s s' a a' n n' cap cap' x y h h' hl hl')
  rw [← sg_sub]
  generalize sgn s x - sgn s' y = u at HS hlu ⊢
  have HG := fun W b c h => Lib.hid (rsign_any W (decide (u < 0)) b (nl u.natAbs) c u.natAbs h (by omega))
  rw [sgn_self] at HG
  generalize sg u = g at HG ⊢
  clear hlu
  go_enter Tryz.func66, Tryz.ntmps66
  go_wp2_with fail
  have Ix := ((BgV.made' w 24 s (.slice a n cap) (n := w.heap.size) (by rfl)).alloc (.cells #[.bool s', (.slice a' n' cap')] 24))
  have Iy := (BgV.made' (w.alloc (.cells #[.bool s, (.slice a n cap)] 24)) 24 s' (.slice a' n' cap') (n := w.heap.size + 1) (by rw [World.size_alloc]))
  have B0 : Below w.heap.size w ((w.alloc (.cells #[.bool s, (.slice a n cap)] 24)).alloc (.cells #[.bool s', (.slice a' n' cap')] 24)) := (by repeat (with_reducible first | refine Below.setCell ?_ (by simp <;> omega) _ | refine Below.alloc ?_ (by simp <;> omega) _ | refine Below.drew ?_ | refine below_drewN ?_ _ | exact Below.refl _ _))
  have nxy : ¬ w.heap.size = w.heap.size + 1 := by omega
  have nyx : ¬ w.heap.size + 1 = w.heap.size := by omega
  generalize ((w.alloc (.cells #[.bool s, (.slice a n cap)] 24)).alloc (.cells #[.bool s', (.slice a' n' cap')] 24)) = w0 at Ix Iy B0 ⊢
  generalize hb1 : w.heap.size + 1 = b1 at Iy nxy nyx ⊢
  generalize hb0 : w.heap.size = b0 at Ix nxy nyx hb1 ⊢
  obtain ⟨xc0, xc1, xc2, xc3⟩ := Ix
  have Vx0 := Lib.hid (BgV.mk xc0 xc1 xc2 xc3)
  obtain ⟨yc0, yc1, yc2, yc3⟩ := Iy
  have Vy0 := Lib.hid (BgV.mk yc0 yc1 yc2 yc3)
  refine (HS _ (hx.below (by have hszw := (B0).size; repeat (with_reducible first | refine Below.setCell ?_ (by first | omega | (simp <;> omega)) _ | refine Below.alloc ?_ (by first | omega | (simp <;> omega)) _ | refine Below.drew ?_ | refine below_drewN ?_ _ | exact B0))) (hy.below (by have hszw := (B0).size; repeat (with_reducible first | refine Below.setCell ?_ (by first | omega | (simp <;> omega)) _ | refine Below.alloc ?_ (by first | omega | (simp <;> omega)) _ | refine Below.drew ?_ | refine below_drewN ?_ _ | exact B0)))).out.mono ?_
  rintro e w1 ⟨au, cu, rfl, Mu1, hb1, hf1⟩
  have Vx1 : BgV w1 b0 s (.slice a n cap) := (by refine BgV.below ?_ hb1; (repeat (with_reducible first | refine BgV.drew ?_ | refine BgV.drewN ?_ _ | refine BgV.alloc ?_ _)); exact Vx0.out)
  (try clear xc0 xc1 xc2)
  obtain ⟨xc0, xc1, xc2, xc3⟩ := Vx1
  have Vx1 := Lib.hid (BgV.mk xc0 xc1 xc2 xc3)
  have Vy1 : BgV w1 b1 s' (.slice a' n' cap') := (by refine BgV.below ?_ hb1; (repeat (with_reducible first | refine BgV.drew ?_ | refine BgV.drewN ?_ _ | refine BgV.alloc ?_ _)); exact Vy0.out)
  (try clear yc0 yc1 yc2)
  obtain ⟨yc0, yc1, yc2, yc3⟩ := Vy1
  have Vy1 := Lib.hid (BgV.mk yc0 yc1 yc2 yc3)
  have B1 := below_box (w := w) (by have hszw := (B0).size; repeat (with_reducible first | refine Below.setCell ?_ (by first | omega | (simp <;> omega)) _ | refine Below.alloc ?_ (by first | omega | (simp <;> omega)) _ | refine Below.drew ?_ | refine below_drewN ?_ _ | exact B0)) hb1
  have hF1 : 0 < (nl u.natAbs) → w0.heap.size ≤ ab au := (fun h => by have hq := hf1 h; (try simp at hq); omega)
  have frux : 0 < (nl u.natAbs) → ab au ≠ b0 := (fun h => by have := hF1 h; have := Vx0.out.lt; omega)
  have fruy : 0 < (nl u.natAbs) → ab au ≠ b1 := (fun h => by have := hF1 h; have := Vy0.out.lt; omega)
  have fou : 0 < (nl u.natAbs) → w.heap.size ≤ ab au := (fun h => by have := hF1 h; have := B0.size; omega)
  clear hF1
  clear hb1 hf1
  go_wp2_with fail
  refine (HG _ au cu (by repeat (with_reducible first | refine Mag.set ?_ (fun h => by have := Mu1 h; omega) _ _ | refine Mag.drew ?_ | refine Mag.alloc ?_ _ | refine Mag.drewN ?_ _ | exact Mu1))).out.mono ?_
  rintro e w2 ⟨rfl, hb2⟩
  have Vx2 : BgV w2 b0 s (.slice a n cap) := (by refine BgV.below ?_ hb2; (repeat (with_reducible first | refine BgV.drew ?_ | refine BgV.drewN ?_ _ | refine BgV.alloc ?_ _)); exact Vx1.out)
  (try clear xc0 xc1 xc2)
  obtain ⟨xc0, xc1, xc2, xc3⟩ := Vx2
  have Vx2 := Lib.hid (BgV.mk xc0 xc1 xc2 xc3)
  have Vy2 : BgV w2 b1 s' (.slice a' n' cap') := (by refine BgV.below ?_ hb2; (repeat (with_reducible first | refine BgV.drew ?_ | refine BgV.drewN ?_ _ | refine BgV.alloc ?_ _)); exact Vy1.out)
  (try clear yc0 yc1 yc2)
  obtain ⟨yc0, yc1, yc2, yc3⟩ := Vy2
  have Vy2 := Lib.hid (BgV.mk yc0 yc1 yc2 yc3)
  have Mu2 : Mag w2 au (nl u.natAbs) cu u.natAbs := Mag.below (by repeat (with_reducible first | refine Mag.set ?_ (fun h => by have := Mu1 h; omega) _ _ | refine Mag.drew ?_ | refine Mag.alloc ?_ _ | refine Mag.drewN ?_ _ | exact Mu1)) hb2
  have B2 := below_box (w := w) (by have hszw := (B1).size; repeat (with_reducible first | refine Below.setCell ?_ (by first | omega | (simp <;> omega)) _ | refine Below.alloc ?_ (by first | omega | (simp <;> omega)) _ | refine Below.drew ?_ | refine below_drewN ?_ _ | exact B1)) hb2
  clear hb2
  go_wp2_with fail
  go_ret
  exact ⟨rfl, (by have hszw := (B2).size; repeat (with_reducible first | refine Below.setCell ?_ (by first | omega | (simp <;> omega)) _ | refine Below.alloc ?_ (by first | omega | (simp <;> omega)) _ | refine Below.drew ?_ | refine below_drewN ?_ _ | exact B2))⟩

set_option maxRecDepth 100000 in
set_option maxHeartbeats 2000000 in
theorem rmul_any (w : World) (s s' : Bool) (a a' : Option Addr) (n n' cap cap' x y : Nat) (hx : Mag w a n cap x) (hy : Mag w a' n' cap' y) (hl : n ≤ 549755813888) (hl' : n' ≤ 549755813888) :
    Calls Tryz.prog 75 #[.agg #[.bool s, .slice a n cap], .agg #[.bool s', .slice a' n' cap']] w (RetBig w (sgn s x * sgn s' y)) := by
  have nx := nl_le hx.lt
  have ny := nl_le hy.lt
  have HT := fun W h => Lib.hid (rtrim_any W a n cap x h (by omega))
  have HT' := fun W h => Lib.hid (rtrim_any W a' n' cap' y h (by omega))
  have HMM := fun W b c b' c' h h' => Lib.hid (rmulm_any W b b' (nl x) (nl y) c c' x y h h' (by omega) (by omega))
  have HK := fun W b m c h (hm : m ≤ nl x + nl y) => Lib.hid (rmake1_any W (s != s') b m c (x * y) h (by omega))
  rw [sgn_mul] at HK
  generalize sgn s x * sgn s' y = v at HK ⊢
  obtain ⟨t, ht⟩ : ∃ t, t = (s != s') := ⟨_, rfl⟩
  have ht1 : (s != s') = t := ht.symm
  have ht2 : (!(s == s')) = t := ht.symm
  rw [← ht] at HK
  generalize x * y = p at HMM HK
  clear ht nx ny hl hl'
  go_enter Tryz.func75, Tryz.ntmps75
  go_wp2_with fail
  have Ix := (((BgV.made' w 24 s (.slice a n cap) (n := w.heap.size) (by rfl)).alloc (.cells #[.bool s', (.slice a' n' cap')] 24)).alloc (.cells #[.bool false, (.slice none 0 0)] 24))
  have Iy := ((BgV.made' (w.alloc (.cells #[.bool s, (.slice a n cap)] 24)) 24 s' (.slice a' n' cap') (n := w.heap.size + 1) (by rw [World.size_alloc])).alloc (.cells #[.bool false, (.slice none 0 0)] 24))
  have Ir := (BgV.made' ((w.alloc (.cells #[.bool s, (.slice a n cap)] 24)).alloc (.cells #[.bool s', (.slice a' n' cap')] 24)) 24 false (.slice none 0 0) (n := w.heap.size + 1 + 1) (by rw [World.size_alloc, World.size_alloc]))
  have B0 : Below w.heap.size w (((w.alloc (.cells #[.bool s, (.slice a n cap)] 24)).alloc (.cells #[.bool s', (.slice a' n' cap')] 24)).alloc (.cells #[.bool false, (.slice none 0 0)] 24)) := (by repeat (with_reducible first | refine Below.setCell ?_ (by simp <;> omega) _ | refine Below.alloc ?_ (by simp <;> omega) _ | refine Below.drew ?_ | refine below_drewN ?_ _ | exact Below.refl _ _))
  have nxy : ¬ w.heap.size = w.heap.size + 1 := by omega
  have nxr : ¬ w.heap.size = w.heap.size + 1 + 1 := by omega
  have nyx : ¬ w.heap.size + 1 = w.heap.size := by omega
  have nyr : ¬ w.heap.size + 1 = w.heap.size + 1 + 1 := by omega
  have nrx : ¬ w.heap.size + 1 + 1 = w.heap.size := by omega
  have nry : ¬ w.heap.size + 1 + 1 = w.heap.size + 1 := by omega
  generalize (((w.alloc (.cells #[.bool s, (.slice a n cap)] 24)).alloc (.cells #[.bool s', (.slice a' n' cap')] 24)).alloc (.cells #[.bool false, (.slice none 0 0)] 24)) = w0 at Ix Iy Ir B0 ⊢
  generalize hb2 : w.heap.size + 1 + 1 = b2 at Ir nxy nxr nyx nyr nrx nry ⊢
  generalize hb1 : w.heap.size + 1 = b1 at Iy nxy nxr nyx nyr nrx nry hb2 ⊢
  generalize hb0 : w.heap.size = b0 at Ix nxy nxr nyx nyr nrx nry hb1 ⊢
  obtain ⟨xc0, xc1, xc2, xc3⟩ := Ix
  have Vx0 := Lib.hid (BgV.mk xc0 xc1 xc2 xc3)
  obtain ⟨yc0, yc1, yc2, yc3⟩ := Iy
  have Vy0 := Lib.hid (BgV.mk yc0 yc1 yc2 yc3)
  obtain ⟨rc0, rc1, rc2, rc3⟩ := Ir
  have Vr0 := Lib.hid (BgV.mk rc0 rc1 rc2 rc3)
  first
  | go_region_held3 (fun w' => w'.cell? ⟨b0, 0, none⟩ = some (.bool s) ∧ w'.cell? ⟨b0, 1, none⟩ = some ((.slice a n cap)) ∧ w'.cell? ⟨b1, 0, none⟩ = some (.bool s') ∧ w'.cell? ⟨b1, 1, none⟩ = some ((.slice a' n' cap'))) (first | (go_keep; done) | (go_simp; done))
      (first
        | (go_at_call 91; have xx := B3; refine (HK _ a3 n3 c3 (by repeat (with_reducible first | refine Mag.set ?_ (fun h => by have := M33 h; omega) _ _ | refine Mag.drew ?_ | refine Mag.alloc ?_ _ | refine Mag.drewN ?_ _ | exact M33)) hn3).out.mono ?_; rintro e w4 ⟨av, cv, rfl, Mv4, hb4, hf4⟩; have Vx4 : BgV w4 b0 s (.slice a n cap) := (by refine BgV.below ?_ hb4; (repeat (with_reducible first | refine BgV.drew ?_ | refine BgV.drewN ?_ _ | refine BgV.alloc ?_ _)); exact Vx3.out); (try clear xc0 xc1 xc2); obtain ⟨xc0, xc1, xc2, xc3⟩ := Vx4; have Vx4 := Lib.hid (BgV.mk xc0 xc1 xc2 xc3); have Vy4 : BgV w4 b1 s' (.slice a' n' cap') := (by refine BgV.below ?_ hb4; (repeat (with_reducible first | refine BgV.drew ?_ | refine BgV.drewN ?_ _ | refine BgV.alloc ?_ _)); exact Vy3.out); (try clear yc0 yc1 yc2); obtain ⟨yc0, yc1, yc2, yc3⟩ := Vy4; have Vy4 := Lib.hid (BgV.mk yc0 yc1 yc2 yc3); have Vr4 : BgV w4 b2 false (.slice none 0 0) := (by refine BgV.below ?_ hb4; (repeat (with_reducible first | refine BgV.drew ?_ | refine BgV.drewN ?_ _ | refine BgV.alloc ?_ _)); exact Vr3.out); (try clear rc0 rc1 rc2); obtain ⟨rc0, rc1, rc2, rc3⟩ := Vr4; have Vr4 := Lib.hid (BgV.mk rc0 rc1 rc2 rc3); have M14 : Mag w4 a1 (nl x) c1 x := Mag.below (by repeat (with_reducible first | refine Mag.set ?_ (fun h => by have := M13 h; omega) _ _ | refine Mag.drew ?_ | refine Mag.alloc ?_ _ | refine Mag.drewN ?_ _ | exact M13)) hb4; have M24 : Mag w4 a2 (nl y) c2 y := Mag.below (by repeat (with_reducible first | refine Mag.set ?_ (fun h => by have := M23 h; omega) _ _ | refine Mag.drew ?_ | refine Mag.alloc ?_ _ | refine Mag.drewN ?_ _ | exact M23)) hb4; have M34 : Mag w4 a3 n3 c3 p := Mag.below (by repeat (with_reducible first | refine Mag.set ?_ (fun h => by have := M33 h; omega) _ _ | refine Mag.drew ?_ | refine Mag.alloc ?_ _ | refine Mag.drewN ?_ _ | exact M33)) hb4; have B4 := below_box (w := w) (by have hszw := (B3).size; repeat (with_reducible first | refine Below.setCell ?_ (by first | omega | (simp <;> omega)) _ | refine Below.alloc ?_ (by first | omega | (simp <;> omega)) _ | refine Below.drew ?_ | refine below_drewN ?_ _ | exact B3)) hb4; have hF4 : 0 < (nl v.natAbs) → w3.heap.size ≤ ab av := (fun h => by have hq := hf4 h; (try simp at hq); omega); have frvx : 0 < (nl v.natAbs) → ab av ≠ b0 := (fun h => by have := hF4 h; have := Vx3.out.lt; omega); have frvy : 0 < (nl v.natAbs) → ab av ≠ b1 := (fun h => by have := hF4 h; have := Vy3.out.lt; omega); have frvr : 0 < (nl v.natAbs) → ab av ≠ b2 := (fun h => by have := hF4 h; have := Vr3.out.lt; omega); have fov : 0 < (nl v.natAbs) → w.heap.size ≤ ab av := (fun h => by have := hF4 h; have := B3.size; omega); clear hF4; clear hb4 hf4)
        | (go_at_call 108; have xx := B2; refine (HMM _ a1 c1 a2 c2 (by repeat (with_reducible first | refine Mag.set ?_ (fun h => by have := M12 h; omega) _ _ | refine Mag.drew ?_ | refine Mag.alloc ?_ _ | refine Mag.drewN ?_ _ | exact M12)) (by repeat (with_reducible first | refine Mag.set ?_ (fun h => by have := M22 h; omega) _ _ | refine Mag.drew ?_ | refine Mag.alloc ?_ _ | refine Mag.drewN ?_ _ | exact M22))).out.mono ?_; rintro e w3 ⟨a3, n3, c3, rfl, M33, hn3, hb3, hf3⟩; have Vx3 : BgV w3 b0 s (.slice a n cap) := (by refine BgV.below ?_ hb3; (repeat (with_reducible first | refine BgV.drew ?_ | refine BgV.drewN ?_ _ | refine BgV.alloc ?_ _)); exact Vx2.out); (try clear xc0 xc1 xc2); obtain ⟨xc0, xc1, xc2, xc3⟩ := Vx3; have Vx3 := Lib.hid (BgV.mk xc0 xc1 xc2 xc3); have Vy3 : BgV w3 b1 s' (.slice a' n' cap') := (by refine BgV.below ?_ hb3; (repeat (with_reducible first | refine BgV.drew ?_ | refine BgV.drewN ?_ _ | refine BgV.alloc ?_ _)); exact Vy2.out); (try clear yc0 yc1 yc2); obtain ⟨yc0, yc1, yc2, yc3⟩ := Vy3; have Vy3 := Lib.hid (BgV.mk yc0 yc1 yc2 yc3); have Vr3 : BgV w3 b2 false (.slice none 0 0) := (by refine BgV.below ?_ hb3; (repeat (with_reducible first | refine BgV.drew ?_ | refine BgV.drewN ?_ _ | refine BgV.alloc ?_ _)); exact Vr2.out); (try clear rc0 rc1 rc2); obtain ⟨rc0, rc1, rc2, rc3⟩ := Vr3; have Vr3 := Lib.hid (BgV.mk rc0 rc1 rc2 rc3); have M13 : Mag w3 a1 (nl x) c1 x := Mag.below (by repeat (with_reducible first | refine Mag.set ?_ (fun h => by have := M12 h; omega) _ _ | refine Mag.drew ?_ | refine Mag.alloc ?_ _ | refine Mag.drewN ?_ _ | exact M12)) hb3; have M23 : Mag w3 a2 (nl y) c2 y := Mag.below (by repeat (with_reducible first | refine Mag.set ?_ (fun h => by have := M22 h; omega) _ _ | refine Mag.drew ?_ | refine Mag.alloc ?_ _ | refine Mag.drewN ?_ _ | exact M22)) hb3; have B3 := below_box (w := w) (by have hszw := (B2).size; repeat (with_reducible first | refine Below.setCell ?_ (by first | omega | (simp <;> omega)) _ | refine Below.alloc ?_ (by first | omega | (simp <;> omega)) _ | refine Below.drew ?_ | refine below_drewN ?_ _ | exact B2)) hb3; have hF3 : 0 < n3 → w2.heap.size ≤ ab a3 := (fun h => by have hq := hf3 h; (try simp at hq); omega); have fr3x : 0 < n3 → ab a3 ≠ b0 := (fun h => by have := hF3 h; have := Vx2.out.lt; omega); have fr3y : 0 < n3 → ab a3 ≠ b1 := (fun h => by have := hF3 h; have := Vy2.out.lt; omega); have fr3r : 0 < n3 → ab a3 ≠ b2 := (fun h => by have := hF3 h; have := Vr2.out.lt; omega); have fo3 : 0 < n3 → w.heap.size ≤ ab a3 := (fun h => by have := hF3 h; have := B2.size; omega); clear hF3; clear hb3 hf3)
        | (go_at_call 103; have xx := B1; refine (HT' _ (hy.below (by have hszw := (B1).size; repeat (with_reducible first | refine Below.setCell ?_ (by first | omega | (simp <;> omega)) _ | refine Below.alloc ?_ (by first | omega | (simp <;> omega)) _ | refine Below.drew ?_ | refine below_drewN ?_ _ | exact B1)))).out.mono ?_; rintro e w2 ⟨a2, c2, rfl, M22, hb2, hf2⟩; have Vx2 : BgV w2 b0 s (.slice a n cap) := (by refine BgV.below ?_ hb2; (repeat (with_reducible first | refine BgV.drew ?_ | refine BgV.drewN ?_ _ | refine BgV.alloc ?_ _)); exact Vx1.out); (try clear xc0 xc1 xc2); obtain ⟨xc0, xc1, xc2, xc3⟩ := Vx2; have Vx2 := Lib.hid (BgV.mk xc0 xc1 xc2 xc3); have Vy2 : BgV w2 b1 s' (.slice a' n' cap') := (by refine BgV.below ?_ hb2; (repeat (with_reducible first | refine BgV.drew ?_ | refine BgV.drewN ?_ _ | refine BgV.alloc ?_ _)); exact Vy1.out); (try clear yc0 yc1 yc2); obtain ⟨yc0, yc1, yc2, yc3⟩ := Vy2; have Vy2 := Lib.hid (BgV.mk yc0 yc1 yc2 yc3); have Vr2 : BgV w2 b2 false (.slice none 0 0) := (by refine BgV.below ?_ hb2; (repeat (with_reducible first | refine BgV.drew ?_ | refine BgV.drewN ?_ _ | refine BgV.alloc ?_ _)); exact Vr1.out); (try clear rc0 rc1 rc2); obtain ⟨rc0, rc1, rc2, rc3⟩ := Vr2; have Vr2 := Lib.hid (BgV.mk rc0 rc1 rc2 rc3); have M12 : Mag w2 a1 (nl x) c1 x := Mag.below (by repeat (with_reducible first | refine Mag.set ?_ (fun h => by have := M11 h; omega) _ _ | refine Mag.drew ?_ | refine Mag.alloc ?_ _ | refine Mag.drewN ?_ _ | exact M11)) hb2; have B2 := below_box (w := w) (by have hszw := (B1).size; repeat (with_reducible first | refine Below.setCell ?_ (by first | omega | (simp <;> omega)) _ | refine Below.alloc ?_ (by first | omega | (simp <;> omega)) _ | refine Below.drew ?_ | refine below_drewN ?_ _ | exact B1)) hb2; have hF2 : 0 < (nl y) → w1.heap.size ≤ ab a2 := (fun h => by have hq := hf2 h; (try simp at hq); omega); have fr2x : 0 < (nl y) → ab a2 ≠ b0 := (fun h => by have := hF2 h; have := Vx1.out.lt; omega); have fr2y : 0 < (nl y) → ab a2 ≠ b1 := (fun h => by have := hF2 h; have := Vy1.out.lt; omega); have fr2r : 0 < (nl y) → ab a2 ≠ b2 := (fun h => by have := hF2 h; have := Vr1.out.lt; omega); have fo2 : 0 < (nl y) → w.heap.size ≤ ab a2 := (fun h => by have := hF2 h; have := B1.size; omega); clear hF2; clear hb2 hf2)
        | (go_at_call 103; refine (HT _ (hx.below (by have hszw := (B0).size; repeat (with_reducible first | refine Below.setCell ?_ (by first | omega | (simp <;> omega)) _ | refine Below.alloc ?_ (by first | omega | (simp <;> omega)) _ | refine Below.drew ?_ | refine below_drewN ?_ _ | exact B0)))).out.mono ?_; rintro e w1 ⟨a1, c1, rfl, M11, hb1, hf1⟩; have Vx1 : BgV w1 b0 s (.slice a n cap) := (by refine BgV.below ?_ hb1; (repeat (with_reducible first | refine BgV.drew ?_ | refine BgV.drewN ?_ _ | refine BgV.alloc ?_ _)); exact Vx0.out); (try clear xc0 xc1 xc2); obtain ⟨xc0, xc1, xc2, xc3⟩ := Vx1; have Vx1 := Lib.hid (BgV.mk xc0 xc1 xc2 xc3); have Vy1 : BgV w1 b1 s' (.slice a' n' cap') := (by refine BgV.below ?_ hb1; (repeat (with_reducible first | refine BgV.drew ?_ | refine BgV.drewN ?_ _ | refine BgV.alloc ?_ _)); exact Vy0.out); (try clear yc0 yc1 yc2); obtain ⟨yc0, yc1, yc2, yc3⟩ := Vy1; have Vy1 := Lib.hid (BgV.mk yc0 yc1 yc2 yc3); have Vr1 : BgV w1 b2 false (.slice none 0 0) := (by refine BgV.below ?_ hb1; (repeat (with_reducible first | refine BgV.drew ?_ | refine BgV.drewN ?_ _ | refine BgV.alloc ?_ _)); exact Vr0.out); (try clear rc0 rc1 rc2); obtain ⟨rc0, rc1, rc2, rc3⟩ := Vr1; have Vr1 := Lib.hid (BgV.mk rc0 rc1 rc2 rc3); have B1 := below_box (w := w) (by have hszw := (B0).size; repeat (with_reducible first | refine Below.setCell ?_ (by first | omega | (simp <;> omega)) _ | refine Below.alloc ?_ (by first | omega | (simp <;> omega)) _ | refine Below.drew ?_ | refine below_drewN ?_ _ | exact B0)) hb1; have hF1 : 0 < (nl x) → w0.heap.size ≤ ab a1 := (fun h => by have hq := hf1 h; (try simp at hq); omega); have fr1x : 0 < (nl x) → ab a1 ≠ b0 := (fun h => by have := hF1 h; have := Vx0.out.lt; omega); have fr1y : 0 < (nl x) → ab a1 ≠ b1 := (fun h => by have := hF1 h; have := Vy0.out.lt; omega); have fr1r : 0 < (nl x) → ab a1 ≠ b2 := (fun h => by have := hF1 h; have := Vr0.out.lt; omega); have fo1 : 0 < (nl x) → w.heap.size ≤ ab a1 := (fun h => by have := hF1 h; have := B0.size; omega); clear hF1; clear hb1 hf1)
        | fail)
  | fail "region"
  go_wp2_with fail
  refine bodyPost_ret (v := .agg #[.bool (decide (v < 0)), .slice av (nl v.natAbs) cv]) (by simp only [results, Tryz.results75]; go_simp) rfl ?_
  exact ⟨av, cv, rfl, (by repeat (with_reducible first | refine Mag.set ?_ frvx _ _ | refine Mag.set ?_ frvy _ _ | refine Mag.set ?_ frvr _ _ | refine Mag.drew ?_ | refine Mag.drewN ?_ _ | refine Mag.alloc ?_ _ | exact Mv4)), (by have hszw := (B4).size; repeat (with_reducible first | refine Below.setCell ?_ (by first | omega | (simp <;> omega)) _ | refine Below.alloc ?_ (by first | omega | (simp <;> omega)) _ | refine Below.drew ?_ | refine below_drewN ?_ _ | exact B4)), fov⟩

set_option maxRecDepth 100000 in
set_option maxHeartbeats 2000000 in
theorem rlost_any (w : World) (s : Bool) (a : Option Addr) (n cap x k : Nat) (hx : Mag w a n cap x) (hlim : n ≤ 549755813888) (hk : k ≤ 1048576) :
    Calls Tryz.prog 117 #[.agg #[.bool s, .slice a n cap], .int .i64 k] w fun e w' => e = .returned (.bool (decide (x % 2 ^ k ≠ 0))) ∧ Below w.heap.size w w' := by
  have nx := nl_le hx.lt
  have HT := fun W h => Lib.hid (rtrim_any W a n cap x h (by omega))
  have HR := fun W b c h => Lib.hid (rshr_any W b (nl x) c x k h (by omega) hk _ rfl)
  generalize decide (x % 2 ^ k ≠ 0) = lb at HR ⊢
  generalize x / 2 ^ k = q at HR
  clear nx hk hlim
  go_enter Tryz.func117, Tryz.ntmps117
  go_wp2_with fail
  have Ix := (BgV.made' w 24 s (.slice a n cap) (n := w.heap.size) (by rfl))
  have B0 : Below w.heap.size w (w.alloc (.cells #[.bool s, (.slice a n cap)] 24)) := (by repeat (with_reducible first | refine Below.setCell ?_ (by simp <;> omega) _ | refine Below.alloc ?_ (by simp <;> omega) _ | refine Below.drew ?_ | refine below_drewN ?_ _ | exact Below.refl _ _))
  generalize (w.alloc (.cells #[.bool s, (.slice a n cap)] 24)) = w0 at Ix B0 ⊢
  generalize hb0 : w.heap.size = b0 at Ix ⊢
  obtain ⟨xc0, xc1, xc2, xc3⟩ := Ix
  have Vx0 := Lib.hid (BgV.mk xc0 xc1 xc2 xc3)
  refine (HT _ (hx.below (by have hszw := (B0).size; repeat (with_reducible first | refine Below.setCell ?_ (by first | omega | (simp <;> omega)) _ | refine Below.alloc ?_ (by first | omega | (simp <;> omega)) _ | refine Below.drew ?_ | refine below_drewN ?_ _ | exact B0)))).out.mono ?_
  rintro e w1 ⟨a1, c1, rfl, M11, hb1, hf1⟩
  have Vx1 : BgV w1 b0 s (.slice a n cap) := (by refine BgV.below ?_ hb1; (repeat (with_reducible first | refine BgV.drew ?_ | refine BgV.drewN ?_ _ | refine BgV.alloc ?_ _)); exact Vx0.out)
  (try clear xc0 xc1 xc2)
  obtain ⟨xc0, xc1, xc2, xc3⟩ := Vx1
  have Vx1 := Lib.hid (BgV.mk xc0 xc1 xc2 xc3)
  have B1 := below_box (w := w) (by have hszw := (B0).size; repeat (with_reducible first | refine Below.setCell ?_ (by first | omega | (simp <;> omega)) _ | refine Below.alloc ?_ (by first | omega | (simp <;> omega)) _ | refine Below.drew ?_ | refine below_drewN ?_ _ | exact B0)) hb1
  have hF1 : 0 < (nl x) → w0.heap.size ≤ ab a1 := (fun h => by have hq := hf1 h; (try simp at hq); omega)
  have fr1x : 0 < (nl x) → ab a1 ≠ b0 := (fun h => by have := hF1 h; have := Vx0.out.lt; omega)
  have fo1 : 0 < (nl x) → w.heap.size ≤ ab a1 := (fun h => by have := hF1 h; have := B0.size; omega)
  clear hF1
  clear hb1 hf1
  go_wp2_with fail
  refine (HR _ a1 c1 (by repeat (with_reducible first | refine Mag.set ?_ (fun h => by have := M11 h; omega) _ _ | refine Mag.drew ?_ | refine Mag.alloc ?_ _ | refine Mag.drewN ?_ _ | exact M11))).out.mono ?_
  rintro e w2 ⟨a2, n2, c2, rfl, M22, hn2, hb2, hf2⟩
  have Vx2 : BgV w2 b0 s (.slice a n cap) := (by refine BgV.below ?_ hb2; (repeat (with_reducible first | refine BgV.drew ?_ | refine BgV.drewN ?_ _ | refine BgV.alloc ?_ _)); exact Vx1.out)
  (try clear xc0 xc1 xc2)
  obtain ⟨xc0, xc1, xc2, xc3⟩ := Vx2
  have Vx2 := Lib.hid (BgV.mk xc0 xc1 xc2 xc3)
  have M12 : Mag w2 a1 (nl x) c1 x := Mag.below (by repeat (with_reducible first | refine Mag.set ?_ (fun h => by have := M11 h; omega) _ _ | refine Mag.drew ?_ | refine Mag.alloc ?_ _ | refine Mag.drewN ?_ _ | exact M11)) hb2
  have B2 := below_box (w := w) (by have hszw := (B1).size; repeat (with_reducible first | refine Below.setCell ?_ (by first | omega | (simp <;> omega)) _ | refine Below.alloc ?_ (by first | omega | (simp <;> omega)) _ | refine Below.drew ?_ | refine below_drewN ?_ _ | exact B1)) hb2
  have hF2 : 0 < n2 → w1.heap.size ≤ ab a2 := (fun h => by have hq := hf2 h; (try simp at hq); omega)
  have fr2x : 0 < n2 → ab a2 ≠ b0 := (fun h => by have := hF2 h; have := Vx1.out.lt; omega)
  have fo2 : 0 < n2 → w.heap.size ≤ ab a2 := (fun h => by have := hF2 h; have := B1.size; omega)
  clear hF2
  clear hb2 hf2
  go_wp2_with fail
  go_ret
  exact ⟨rfl, (by have hszw := (B2).size; repeat (with_reducible first | refine Below.setCell ?_ (by first | omega | (simp <;> omega)) _ | refine Below.alloc ?_ (by first | omega | (simp <;> omega)) _ | refine Below.drew ?_ | refine below_drewN ?_ _ | exact B2))⟩

theorem ediv_neg_nat (z : Int) (k : Nat) (h : z < 0) : z / 2 ^ k = -((z.natAbs / 2 ^ k : Nat) : Int) - (if z.natAbs % 2 ^ k = 0 then 0 else 1) := by
  have hp : 0 < 2 ^ k := Nat.pow_pos (n := k) (by decide : 0 < 2)
  have e : (2 : Int) ^ k = ((2 ^ k : Nat) : Int) := by simp
  rw [e]
  generalize 2 ^ k = P at hp ⊢
  obtain ⟨x, hx⟩ : ∃ x : Nat, z = -(x : Int) := ⟨z.natAbs, by omega⟩
  have hxa : z.natAbs = x := by omega
  rw [hxa, hx]
  have h1 := Nat.div_add_mod x P
  have h2 := Nat.mod_lt x hp
  generalize x / P = q at h1 ⊢
  generalize x % P = r at h1 h2 ⊢
  have hP : (0 : Int) < (P : Int) := by omega
  have h3 : (x : Int) = P * q + r := by rw [← h1]; simp
  rw [h3]
  split
  · next h0 =>
    subst h0
    rw [show -((P : Int) * q + ((0 : Nat) : Int)) = (-(q : Int)) * P by rw [Int.neg_mul, Int.mul_comm]; simp, Int.mul_ediv_cancel _ (by omega)]; omega
  · next h0 =>
    rw [show -((P : Int) * q + (r : Int)) = ((P : Int) - r) + (-(q : Int) - 1) * P by rw [Int.sub_mul, Int.neg_mul, Int.mul_comm (q : Int)]; omega, Int.add_mul_ediv_right _ _ (by omega), Int.ediv_eq_zero_of_lt (by omega) (by omega)]; omega

set_option maxRecDepth 100000 in
set_option maxHeartbeats 2000000 in
theorem rshift_ng (w : World) (a : Option Addr) (n cap x k : Nat) (m : Int) (hx : Mag w a n cap x) (hlim : n ≤ 549755813888) (hk0 : 1 ≤ k) (hk : k ≤ 1048576) (hmk : m = -(k : Int)) (hx0 : 0 < x) :
    Calls Tryz.prog 77 #[.agg #[.bool true, .slice a n cap], .int .i64 m] w (RetBig w (-(x : Int) / 2 ^ k)) := by
  have hnz : nl x ≤ n := nl_le hx.lt
  have HR := fun W h => Lib.hid (rnorm_any W true a n cap x h (by omega))
  obtain ⟨z, hz⟩ : ∃ z, z = sgn true x := ⟨_, rfl⟩
  have hz1 : z = -(x : Int) := hz
  have hzx : z.natAbs = x := by rw [hz, sgn_natAbs]
  have hz0 : decide (z < 0) = true := by rw [hz1]; simp; omega
  rw [← hz] at HR
  rw [← hz1, ediv_neg_nat z k (by omega)]
  rw [← hzx] at hnz
  clear hz hzx hz1 hx0
  have HS := fun W b c h => Lib.hid (rshr_any W b (nl z.natAbs) c z.natAbs k h (by omega) hk _ rfl)
  have HM := fun W b m c h (hm : m ≤ nl z.natAbs) => Lib.hid (rmake1_any W true b m c (z.natAbs / 2 ^ k) h (by omega))
  obtain ⟨u, hu⟩ : ∃ u, u = sgn true (z.natAbs / 2 ^ k) := ⟨_, rfl⟩
  have hu1 : -((z.natAbs / 2 ^ k : Nat) : Int) = u := by rw [hu]; rfl
  have hul : nl u.natAbs ≤ 549755813888 := by
    have : u.natAbs ≤ z.natAbs := by rw [hu, sgn_natAbs]; exact Nat.div_le_self _ _
    exact Nat.le_trans (nl_mono this) (by omega)
  rw [← hu] at HM
  rw [hu1]
  generalize z.natAbs / 2 ^ k = X at HS HM
  obtain ⟨lb, hlb⟩ : ∃ lb, lb = decide (z.natAbs % 2 ^ k ≠ 0) := ⟨_, rfl⟩
  rw [← hlb] at HS
  obtain ⟨v, hv⟩ : ∃ v, v = u - (if z.natAbs % 2 ^ k = 0 then 0 else 1) := ⟨_, rfl⟩
  rw [← hv]
  obtain ⟨o, ho⟩ : ∃ o : Int, o = 1 := ⟨_, rfl⟩
  have HO : ∀ W, Hid (Calls Tryz.prog 68 #[.int .i64 1] W (RetBig W o)) := fun W => by rw [ho]; exact Lib.hid (rfromInt_any W 1 (by omega) (by omega))
  have HU := fun W b c b' c' h h' => Lib.hid (rsub_any W (decide (u < 0)) (decide (o < 0)) b b' (nl u.natAbs) (nl o.natAbs) c c' u.natAbs o.natAbs h h' hul (by rw [ho]; decide))
  rw [sgn_self, sgn_self] at HU
  have t3 : decide ((0 : Int) ≤ m) = false := by simp; omega
  have t4 : IntKind.i64.wrap (-m) = (k : Int) := by rw [IntKind.wrap_i64]; omega
  cases lb
  · have hvu : v = u := by
      rw [hv]; simp at hlb; rw [if_pos hlb]; omega
    subst hvu
    clear hv hlb HU HO hu hu1 hk hlim hmk hk0 hul ho
    go_enter Tryz.func77, Tryz.ntmps77
    go_wp2_with fail
    have Ip := ((BgV.made' w 24 true (.slice a n cap) (n := w.heap.size) (by rfl)).alloc (.cells #[.bool false, (.slice none 0 0)] 24))
    have Ir := (BgV.made' (w.alloc (.cells #[.bool true, (.slice a n cap)] 24)) 24 false (.slice none 0 0) (n := w.heap.size + 1) (by rw [World.size_alloc]))
    have B0 : Below w.heap.size w ((w.alloc (.cells #[.bool true, (.slice a n cap)] 24)).alloc (.cells #[.bool false, (.slice none 0 0)] 24)) := (by repeat (with_reducible first | refine Below.setCell ?_ (by simp <;> omega) _ | refine Below.alloc ?_ (by simp <;> omega) _ | refine Below.drew ?_ | refine below_drewN ?_ _ | exact Below.refl _ _))
    have npr : ¬ w.heap.size = w.heap.size + 1 := by omega
    have nrp : ¬ w.heap.size + 1 = w.heap.size := by omega
    generalize ((w.alloc (.cells #[.bool true, (.slice a n cap)] 24)).alloc (.cells #[.bool false, (.slice none 0 0)] 24)) = w0 at Ip Ir B0 ⊢
    generalize hb1 : w.heap.size + 1 = b1 at Ir npr nrp ⊢
    generalize hb0 : w.heap.size = b0 at Ip npr nrp hb1 ⊢
    obtain ⟨pc0, pc1, pc2, pc3⟩ := Ip
    have Vp0 := Lib.hid (BgV.mk pc0 pc1 pc2 pc3)
    obtain ⟨rc0, rc1, rc2, rc3⟩ := Ir
    have Vr0 := Lib.hid (BgV.mk rc0 rc1 rc2 rc3)
    refine (HR _ (hx.below (by have hszw := (B0).size; repeat (with_reducible first | refine Below.setCell ?_ (by first | omega | (simp <;> omega)) _ | refine Below.alloc ?_ (by first | omega | (simp <;> omega)) _ | refine Below.drew ?_ | refine below_drewN ?_ _ | exact B0)))).out.mono ?_
    rintro e w1 ⟨a1, c1, rfl, M11, hb1, hf1⟩
    have Vp1 : BgV w1 b0 true (.slice a n cap) := (by refine BgV.below ?_ hb1; (repeat (with_reducible first | refine BgV.drew ?_ | refine BgV.drewN ?_ _ | refine BgV.alloc ?_ _)); exact Vp0.out)
    (try clear pc0 pc1 pc2)
    obtain ⟨pc0, pc1, pc2, pc3⟩ := Vp1
    have Vp1 := Lib.hid (BgV.mk pc0 pc1 pc2 pc3)
    have Vr1 : BgV w1 b1 false (.slice none 0 0) := (by refine BgV.below ?_ hb1; (repeat (with_reducible first | refine BgV.drew ?_ | refine BgV.drewN ?_ _ | refine BgV.alloc ?_ _)); exact Vr0.out)
    (try clear rc0 rc1 rc2)
    obtain ⟨rc0, rc1, rc2, rc3⟩ := Vr1
    have Vr1 := Lib.hid (BgV.mk rc0 rc1 rc2 rc3)
    have B1 := below_box (w := w) (by have hszw := (B0).size; repeat (with_reducible first | refine Below.setCell ?_ (by first | omega | (simp <;> omega)) _ | refine Below.alloc ?_ (by first | omega | (simp <;> omega)) _ | refine Below.drew ?_ | refine below_drewN ?_ _ | exact B0)) hb1
    have hF1 : 0 < (nl z.natAbs) → w0.heap.size ≤ ab a1 := (fun h => by have hq := hf1 h; (try simp at hq); omega)
    have fr1p : 0 < (nl z.natAbs) → ab a1 ≠ b0 := (fun h => by have := hF1 h; have := Vp0.out.lt; omega)
    have fr1r : 0 < (nl z.natAbs) → ab a1 ≠ b1 := (fun h => by have := hF1 h; have := Vr0.out.lt; omega)
    have fo1 : 0 < (nl z.natAbs) → w.heap.size ≤ ab a1 := (fun h => by have := hF1 h; have := B0.size; omega)
    clear hF1
    clear hb1 hf1
    go_wp2_with fail
    have Vp2 := BgV.put Vp1.out true (.slice a1 (nl z.natAbs) c1)
    have Vr2 := (BgV.set (BgV.set Vr1.out nrp 0 (.bool true)) nrp 1 (.slice a1 (nl z.natAbs) c1))
    have M12 := (Mag.set (Mag.set M11 fr1p 0 (.bool true)) fr1p 1 (.slice a1 (nl z.natAbs) c1))
    have B2 : Below w.heap.size w ((w1.setCell ⟨b0, 0, none⟩ (.bool true)).setCell ⟨b0, 1, none⟩ (.slice a1 (nl z.natAbs) c1)) := (by have hszw := (B1).size; repeat (with_reducible first | refine Below.setCell ?_ (by first | omega | (simp <;> omega)) _ | refine Below.alloc ?_ (by first | omega | (simp <;> omega)) _ | refine Below.drew ?_ | refine below_drewN ?_ _ | exact B1))
    generalize ((w1.setCell ⟨b0, 0, none⟩ (.bool true)).setCell ⟨b0, 1, none⟩ (.slice a1 (nl z.natAbs) c1)) = w2 at Vp2 Vr2 M12 B2 ⊢
    (try clear pc0 pc1 pc2)
    obtain ⟨pc0, pc1, pc2, pc3⟩ := Vp2
    have Vp2 := Lib.hid (BgV.mk pc0 pc1 pc2 pc3)
    (try clear rc0 rc1 rc2)
    obtain ⟨rc0, rc1, rc2, rc3⟩ := Vr2
    have Vr2 := Lib.hid (BgV.mk rc0 rc1 rc2 rc3)
    refine (HS _ a1 c1 (by repeat (with_reducible first | refine Mag.set ?_ (fun h => by have := M12 h; omega) _ _ | refine Mag.drew ?_ | refine Mag.alloc ?_ _ | refine Mag.drewN ?_ _ | exact M12))).out.mono ?_
    rintro e w3 ⟨a2, n2, c2, rfl, M23, hn2, hb3, hf3⟩
    have Vp3 : BgV w3 b0 true (.slice a1 (nl z.natAbs) c1) := (by refine BgV.below ?_ hb3; (repeat (with_reducible first | refine BgV.drew ?_ | refine BgV.drewN ?_ _ | refine BgV.alloc ?_ _)); exact Vp2.out)
    (try clear pc0 pc1 pc2)
    obtain ⟨pc0, pc1, pc2, pc3⟩ := Vp3
    have Vp3 := Lib.hid (BgV.mk pc0 pc1 pc2 pc3)
    have Vr3 : BgV w3 b1 false (.slice none 0 0) := (by refine BgV.below ?_ hb3; (repeat (with_reducible first | refine BgV.drew ?_ | refine BgV.drewN ?_ _ | refine BgV.alloc ?_ _)); exact Vr2.out)
    (try clear rc0 rc1 rc2)
    obtain ⟨rc0, rc1, rc2, rc3⟩ := Vr3
    have Vr3 := Lib.hid (BgV.mk rc0 rc1 rc2 rc3)
    have M13 : Mag w3 a1 (nl z.natAbs) c1 z.natAbs := Mag.below (by repeat (with_reducible first | refine Mag.set ?_ (fun h => by have := M12 h; omega) _ _ | refine Mag.drew ?_ | refine Mag.alloc ?_ _ | refine Mag.drewN ?_ _ | exact M12)) hb3
    have B3 := below_box (w := w) (by have hszw := (B2).size; repeat (with_reducible first | refine Below.setCell ?_ (by first | omega | (simp <;> omega)) _ | refine Below.alloc ?_ (by first | omega | (simp <;> omega)) _ | refine Below.drew ?_ | refine below_drewN ?_ _ | exact B2)) hb3
    have hF3 : 0 < n2 → w2.heap.size ≤ ab a2 := (fun h => by have hq := hf3 h; (try simp at hq); omega)
    have fr2p : 0 < n2 → ab a2 ≠ b0 := (fun h => by have := hF3 h; have := Vp2.out.lt; omega)
    have fr2r : 0 < n2 → ab a2 ≠ b1 := (fun h => by have := hF3 h; have := Vr2.out.lt; omega)
    have fo2 : 0 < n2 → w.heap.size ≤ ab a2 := (fun h => by have := hF3 h; have := B2.size; omega)
    clear hF3
    clear hb3 hf3
    go_wp2_with fail
    refine (HM _ a2 n2 c2 (by repeat (with_reducible first | refine Mag.set ?_ (fun h => by have := M23 h; omega) _ _ | refine Mag.drew ?_ | refine Mag.alloc ?_ _ | refine Mag.drewN ?_ _ | exact M23)) hn2).out.mono ?_
    rintro e w4 ⟨a3, c3, rfl, M34, hb4, hf4⟩
    have Vp4 : BgV w4 b0 true (.slice a1 (nl z.natAbs) c1) := (by refine BgV.below ?_ hb4; (repeat (with_reducible first | refine BgV.drew ?_ | refine BgV.drewN ?_ _ | refine BgV.alloc ?_ _)); exact Vp3.out)
    (try clear pc0 pc1 pc2)
    obtain ⟨pc0, pc1, pc2, pc3⟩ := Vp4
    have Vp4 := Lib.hid (BgV.mk pc0 pc1 pc2 pc3)
    have Vr4 : BgV w4 b1 false (.slice none 0 0) := (by refine BgV.below ?_ hb4; (repeat (with_reducible first | refine BgV.drew ?_ | refine BgV.drewN ?_ _ | refine BgV.alloc ?_ _)); exact Vr3.out)
    (try clear rc0 rc1 rc2)
    obtain ⟨rc0, rc1, rc2, rc3⟩ := Vr4
    have Vr4 := Lib.hid (BgV.mk rc0 rc1 rc2 rc3)
    have M14 : Mag w4 a1 (nl z.natAbs) c1 z.natAbs := Mag.below (by repeat (with_reducible first | refine Mag.set ?_ (fun h => by have := M13 h; omega) _ _ | refine Mag.drew ?_ | refine Mag.alloc ?_ _ | refine Mag.drewN ?_ _ | exact M13)) hb4
    have M24 : Mag w4 a2 n2 c2 X := Mag.below (by repeat (with_reducible first | refine Mag.set ?_ (fun h => by have := M23 h; omega) _ _ | refine Mag.drew ?_ | refine Mag.alloc ?_ _ | refine Mag.drewN ?_ _ | exact M23)) hb4
    have B4 := below_box (w := w) (by have hszw := (B3).size; repeat (with_reducible first | refine Below.setCell ?_ (by first | omega | (simp <;> omega)) _ | refine Below.alloc ?_ (by first | omega | (simp <;> omega)) _ | refine Below.drew ?_ | refine below_drewN ?_ _ | exact B3)) hb4
    have hF4 : 0 < (nl v.natAbs) → w3.heap.size ≤ ab a3 := (fun h => by have hq := hf4 h; (try simp at hq); omega)
    have fr3p : 0 < (nl v.natAbs) → ab a3 ≠ b0 := (fun h => by have := hF4 h; have := Vp3.out.lt; omega)
    have fr3r : 0 < (nl v.natAbs) → ab a3 ≠ b1 := (fun h => by have := hF4 h; have := Vr3.out.lt; omega)
    have fo3 : 0 < (nl v.natAbs) → w.heap.size ≤ ab a3 := (fun h => by have := hF4 h; have := B3.size; omega)
    clear hF4
    clear hb4 hf4
    go_wp2_with fail
    refine bodyPost_ret (v := .agg #[.bool (decide (v < 0)), .slice a3 (nl v.natAbs) c3]) (by simp only [results, Tryz.results77]; go_simp) rfl ?_
    exact ⟨a3, c3, rfl, (by repeat (with_reducible first | refine Mag.set ?_ fr3p _ _ | refine Mag.set ?_ fr3r _ _ | refine Mag.drew ?_ | refine Mag.drewN ?_ _ | refine Mag.alloc ?_ _ | exact M34)), (by have hszw := (B4).size; repeat (with_reducible first | refine Below.setCell ?_ (by first | omega | (simp <;> omega)) _ | refine Below.alloc ?_ (by first | omega | (simp <;> omega)) _ | refine Below.drew ?_ | refine below_drewN ?_ _ | exact B4)), fo3⟩
  · have hvu : u - o = v := by
      rw [hv, ho, if_neg (by simp at hlb; omega)]
    rw [hvu] at HU
    clear hv hlb hu hu1 hk hlim hmk hk0 hul ho hvu
    go_enter Tryz.func77, Tryz.ntmps77
    go_wp2_with fail
    have Ip := ((BgV.made' w 24 true (.slice a n cap) (n := w.heap.size) (by rfl)).alloc (.cells #[.bool false, (.slice none 0 0)] 24))
    have Ir := (BgV.made' (w.alloc (.cells #[.bool true, (.slice a n cap)] 24)) 24 false (.slice none 0 0) (n := w.heap.size + 1) (by rw [World.size_alloc]))
    have B0 : Below w.heap.size w ((w.alloc (.cells #[.bool true, (.slice a n cap)] 24)).alloc (.cells #[.bool false, (.slice none 0 0)] 24)) := (by repeat (with_reducible first | refine Below.setCell ?_ (by simp <;> omega) _ | refine Below.alloc ?_ (by simp <;> omega) _ | refine Below.drew ?_ | refine below_drewN ?_ _ | exact Below.refl _ _))
    have npr : ¬ w.heap.size = w.heap.size + 1 := by omega
    have nrp : ¬ w.heap.size + 1 = w.heap.size := by omega
    generalize ((w.alloc (.cells #[.bool true, (.slice a n cap)] 24)).alloc (.cells #[.bool false, (.slice none 0 0)] 24)) = w0 at Ip Ir B0 ⊢
    generalize hb1 : w.heap.size + 1 = b1 at Ir npr nrp ⊢
    generalize hb0 : w.heap.size = b0 at Ip npr nrp hb1 ⊢
    obtain ⟨pc0, pc1, pc2, pc3⟩ := Ip
    have Vp0 := Lib.hid (BgV.mk pc0 pc1 pc2 pc3)
    obtain ⟨rc0, rc1, rc2, rc3⟩ := Ir
    have Vr0 := Lib.hid (BgV.mk rc0 rc1 rc2 rc3)
    refine (HR _ (hx.below (by have hszw := (B0).size; repeat (with_reducible first | refine Below.setCell ?_ (by first | omega | (simp <;> omega)) _ | refine Below.alloc ?_ (by first | omega | (simp <;> omega)) _ | refine Below.drew ?_ | refine below_drewN ?_ _ | exact B0)))).out.mono ?_
    rintro e w1 ⟨a1, c1, rfl, M11, hb1, hf1⟩
    have Vp1 : BgV w1 b0 true (.slice a n cap) := (by refine BgV.below ?_ hb1; (repeat (with_reducible first | refine BgV.drew ?_ | refine BgV.drewN ?_ _ | refine BgV.alloc ?_ _)); exact Vp0.out)
    (try clear pc0 pc1 pc2)
    obtain ⟨pc0, pc1, pc2, pc3⟩ := Vp1
    have Vp1 := Lib.hid (BgV.mk pc0 pc1 pc2 pc3)
    have Vr1 : BgV w1 b1 false (.slice none 0 0) := (by refine BgV.below ?_ hb1; (repeat (with_reducible first | refine BgV.drew ?_ | refine BgV.drewN ?_ _ | refine BgV.alloc ?_ _)); exact Vr0.out)
    (try clear rc0 rc1 rc2)
    obtain ⟨rc0, rc1, rc2, rc3⟩ := Vr1
    have Vr1 := Lib.hid (BgV.mk rc0 rc1 rc2 rc3)
    have B1 := below_box (w := w) (by have hszw := (B0).size; repeat (with_reducible first | refine Below.setCell ?_ (by first | omega | (simp <;> omega)) _ | refine Below.alloc ?_ (by first | omega | (simp <;> omega)) _ | refine Below.drew ?_ | refine below_drewN ?_ _ | exact B0)) hb1
    have hF1 : 0 < (nl z.natAbs) → w0.heap.size ≤ ab a1 := (fun h => by have hq := hf1 h; (try simp at hq); omega)
    have fr1p : 0 < (nl z.natAbs) → ab a1 ≠ b0 := (fun h => by have := hF1 h; have := Vp0.out.lt; omega)
    have fr1r : 0 < (nl z.natAbs) → ab a1 ≠ b1 := (fun h => by have := hF1 h; have := Vr0.out.lt; omega)
    have fo1 : 0 < (nl z.natAbs) → w.heap.size ≤ ab a1 := (fun h => by have := hF1 h; have := B0.size; omega)
    clear hF1
    clear hb1 hf1
    go_wp2_with fail
    have Vp2 := BgV.put Vp1.out true (.slice a1 (nl z.natAbs) c1)
    have Vr2 := (BgV.set (BgV.set Vr1.out nrp 0 (.bool true)) nrp 1 (.slice a1 (nl z.natAbs) c1))
    have M12 := (Mag.set (Mag.set M11 fr1p 0 (.bool true)) fr1p 1 (.slice a1 (nl z.natAbs) c1))
    have B2 : Below w.heap.size w ((w1.setCell ⟨b0, 0, none⟩ (.bool true)).setCell ⟨b0, 1, none⟩ (.slice a1 (nl z.natAbs) c1)) := (by have hszw := (B1).size; repeat (with_reducible first | refine Below.setCell ?_ (by first | omega | (simp <;> omega)) _ | refine Below.alloc ?_ (by first | omega | (simp <;> omega)) _ | refine Below.drew ?_ | refine below_drewN ?_ _ | exact B1))
    generalize ((w1.setCell ⟨b0, 0, none⟩ (.bool true)).setCell ⟨b0, 1, none⟩ (.slice a1 (nl z.natAbs) c1)) = w2 at Vp2 Vr2 M12 B2 ⊢
    (try clear pc0 pc1 pc2)
    obtain ⟨pc0, pc1, pc2, pc3⟩ := Vp2
    have Vp2 := Lib.hid (BgV.mk pc0 pc1 pc2 pc3)
    (try clear rc0 rc1 rc2)
    obtain ⟨rc0, rc1, rc2, rc3⟩ := Vr2
    have Vr2 := Lib.hid (BgV.mk rc0 rc1 rc2 rc3)
    refine (HS _ a1 c1 (by repeat (with_reducible first | refine Mag.set ?_ (fun h => by have := M12 h; omega) _ _ | refine Mag.drew ?_ | refine Mag.alloc ?_ _ | refine Mag.drewN ?_ _ | exact M12))).out.mono ?_
    rintro e w3 ⟨a2, n2, c2, rfl, M23, hn2, hb3, hf3⟩
    have Vp3 : BgV w3 b0 true (.slice a1 (nl z.natAbs) c1) := (by refine BgV.below ?_ hb3; (repeat (with_reducible first | refine BgV.drew ?_ | refine BgV.drewN ?_ _ | refine BgV.alloc ?_ _)); exact Vp2.out)
    (try clear pc0 pc1 pc2)
    obtain ⟨pc0, pc1, pc2, pc3⟩ := Vp3
    have Vp3 := Lib.hid (BgV.mk pc0 pc1 pc2 pc3)
    have Vr3 : BgV w3 b1 false (.slice none 0 0) := (by refine BgV.below ?_ hb3; (repeat (with_reducible first | refine BgV.drew ?_ | refine BgV.drewN ?_ _ | refine BgV.alloc ?_ _)); exact Vr2.out)
    (try clear rc0 rc1 rc2)
    obtain ⟨rc0, rc1, rc2, rc3⟩ := Vr3
    have Vr3 := Lib.hid (BgV.mk rc0 rc1 rc2 rc3)
    have M13 : Mag w3 a1 (nl z.natAbs) c1 z.natAbs := Mag.below (by repeat (with_reducible first | refine Mag.set ?_ (fun h => by have := M12 h; omega) _ _ | refine Mag.drew ?_ | refine Mag.alloc ?_ _ | refine Mag.drewN ?_ _ | exact M12)) hb3
    have B3 := below_box (w := w) (by have hszw := (B2).size; repeat (with_reducible first | refine Below.setCell ?_ (by first | omega | (simp <;> omega)) _ | refine Below.alloc ?_ (by first | omega | (simp <;> omega)) _ | refine Below.drew ?_ | refine below_drewN ?_ _ | exact B2)) hb3
    have hF3 : 0 < n2 → w2.heap.size ≤ ab a2 := (fun h => by have hq := hf3 h; (try simp at hq); omega)
    have fr2p : 0 < n2 → ab a2 ≠ b0 := (fun h => by have := hF3 h; have := Vp2.out.lt; omega)
    have fr2r : 0 < n2 → ab a2 ≠ b1 := (fun h => by have := hF3 h; have := Vr2.out.lt; omega)
    have fo2 : 0 < n2 → w.heap.size ≤ ab a2 := (fun h => by have := hF3 h; have := B2.size; omega)
    clear hF3
    clear hb3 hf3
    go_wp2_with fail
    refine (HM _ a2 n2 c2 (by repeat (with_reducible first | refine Mag.set ?_ (fun h => by have := M23 h; omega) _ _ | refine Mag.drew ?_ | refine Mag.alloc ?_ _ | refine Mag.drewN ?_ _ | exact M23)) hn2).out.mono ?_
    rintro e w4 ⟨a3, c3, rfl, M34, hb4, hf4⟩
    have Vp4 : BgV w4 b0 true (.slice a1 (nl z.natAbs) c1) := (by refine BgV.below ?_ hb4; (repeat (with_reducible first | refine BgV.drew ?_ | refine BgV.drewN ?_ _ | refine BgV.alloc ?_ _)); exact Vp3.out)
    (try clear pc0 pc1 pc2)
    obtain ⟨pc0, pc1, pc2, pc3⟩ := Vp4
    have Vp4 := Lib.hid (BgV.mk pc0 pc1 pc2 pc3)
    have Vr4 : BgV w4 b1 false (.slice none 0 0) := (by refine BgV.below ?_ hb4; (repeat (with_reducible first | refine BgV.drew ?_ | refine BgV.drewN ?_ _ | refine BgV.alloc ?_ _)); exact Vr3.out)
    (try clear rc0 rc1 rc2)
    obtain ⟨rc0, rc1, rc2, rc3⟩ := Vr4
    have Vr4 := Lib.hid (BgV.mk rc0 rc1 rc2 rc3)
    have M14 : Mag w4 a1 (nl z.natAbs) c1 z.natAbs := Mag.below (by repeat (with_reducible first | refine Mag.set ?_ (fun h => by have := M13 h; omega) _ _ | refine Mag.drew ?_ | refine Mag.alloc ?_ _ | refine Mag.drewN ?_ _ | exact M13)) hb4
    have M24 : Mag w4 a2 n2 c2 X := Mag.below (by repeat (with_reducible first | refine Mag.set ?_ (fun h => by have := M23 h; omega) _ _ | refine Mag.drew ?_ | refine Mag.alloc ?_ _ | refine Mag.drewN ?_ _ | exact M23)) hb4
    have B4 := below_box (w := w) (by have hszw := (B3).size; repeat (with_reducible first | refine Below.setCell ?_ (by first | omega | (simp <;> omega)) _ | refine Below.alloc ?_ (by first | omega | (simp <;> omega)) _ | refine Below.drew ?_ | refine below_drewN ?_ _ | exact B3)) hb4
    have hF4 : 0 < (nl u.natAbs) → w3.heap.size ≤ ab a3 := (fun h => by have hq := hf4 h; (try simp at hq); omega)
    have fr3p : 0 < (nl u.natAbs) → ab a3 ≠ b0 := (fun h => by have := hF4 h; have := Vp3.out.lt; omega)
    have fr3r : 0 < (nl u.natAbs) → ab a3 ≠ b1 := (fun h => by have := hF4 h; have := Vr3.out.lt; omega)
    have fo3 : 0 < (nl u.natAbs) → w.heap.size ≤ ab a3 := (fun h => by have := hF4 h; have := B3.size; omega)
    clear hF4
    clear hb4 hf4
    go_wp2_with fail
    have Vo5 := (BgV.made' w4 24 (decide (u < 0)) (.slice a3 (nl u.natAbs) c3) (n := w4.heap.size) (by rfl))
    have Vp5 := (BgV.alloc Vp4.out (.cells #[.bool (decide (u < 0)), (.slice a3 (nl u.natAbs) c3)] 24))
    have Vr5 := (BgV.alloc Vr4.out (.cells #[.bool (decide (u < 0)), (.slice a3 (nl u.natAbs) c3)] 24))
    have M15 := (Mag.alloc M14 (.cells #[.bool (decide (u < 0)), (.slice a3 (nl u.natAbs) c3)] 24))
    have M25 := (Mag.alloc M24 (.cells #[.bool (decide (u < 0)), (.slice a3 (nl u.natAbs) c3)] 24))
    have M35 := (Mag.alloc M34 (.cells #[.bool (decide (u < 0)), (.slice a3 (nl u.natAbs) c3)] 24))
    have B5 : Below w.heap.size w (w4.alloc (.cells #[.bool (decide (u < 0)), (.slice a3 (nl u.natAbs) c3)] 24)) := (by have hszw := (B4).size; repeat (with_reducible first | refine Below.setCell ?_ (by first | omega | (simp <;> omega)) _ | refine Below.alloc ?_ (by first | omega | (simp <;> omega)) _ | refine Below.drew ?_ | refine below_drewN ?_ _ | exact B4))
    have npo : ¬ b0 = w4.heap.size := by have := Vp4.out.lt; omega
    have nop : ¬ w4.heap.size = b0 := by have := Vp4.out.lt; omega
    have nro : ¬ b1 = w4.heap.size := by have := Vr4.out.lt; omega
    have nor : ¬ w4.heap.size = b1 := by have := Vr4.out.lt; omega
    have fr1o : 0 < (nl z.natAbs) → ab a1 ≠ w4.heap.size := fun h => by have := M14.old h; omega
    have fr2o : 0 < n2 → ab a2 ≠ w4.heap.size := fun h => by have := M24.old h; omega
    have fr3o : 0 < (nl u.natAbs) → ab a3 ≠ w4.heap.size := fun h => by have := M34.old h; omega
    have go : w.heap.size ≤ w4.heap.size := by have := B4.size; omega
    generalize (w4.alloc (.cells #[.bool (decide (u < 0)), (.slice a3 (nl u.natAbs) c3)] 24)) = w5 at Vo5 Vp5 Vr5 M15 M25 M35 B5 ⊢
    generalize w4.heap.size = zo at Vo5 npo nop nro nor fr1o fr2o fr3o go ⊢
    (try clear pc0 pc1 pc2)
    obtain ⟨pc0, pc1, pc2, pc3⟩ := Vp5
    have Vp5 := Lib.hid (BgV.mk pc0 pc1 pc2 pc3)
    (try clear rc0 rc1 rc2)
    obtain ⟨rc0, rc1, rc2, rc3⟩ := Vr5
    have Vr5 := Lib.hid (BgV.mk rc0 rc1 rc2 rc3)
    (try clear oc0 oc1 oc2)
    obtain ⟨oc0, oc1, oc2, oc3⟩ := Vo5
    have Vo5 := Lib.hid (BgV.mk oc0 oc1 oc2 oc3)
    first
    | go_region_with
        (first
          | (go_at_call 98; have xx := B6; refine (HU _ a3 c3 a4 c4 (by repeat (with_reducible first | refine Mag.set ?_ (fun h => by have := M36 h; omega) _ _ | refine Mag.drew ?_ | refine Mag.alloc ?_ _ | refine Mag.drewN ?_ _ | exact M36)) (by repeat (with_reducible first | refine Mag.set ?_ (fun h => by have := M46 h; omega) _ _ | refine Mag.drew ?_ | refine Mag.alloc ?_ _ | refine Mag.drewN ?_ _ | exact M46))).out.mono ?_; rintro e w7 ⟨av, cv, rfl, Mv7, hb7, hf7⟩; have Vp7 : BgV w7 b0 true (.slice a1 (nl z.natAbs) c1) := (by refine BgV.below ?_ hb7; (repeat (with_reducible first | refine BgV.drew ?_ | refine BgV.drewN ?_ _ | refine BgV.alloc ?_ _)); exact Vp6.out); (try clear pc0 pc1 pc2); obtain ⟨pc0, pc1, pc2, pc3⟩ := Vp7; have Vp7 := Lib.hid (BgV.mk pc0 pc1 pc2 pc3); have Vr7 : BgV w7 b1 false (.slice none 0 0) := (by refine BgV.below ?_ hb7; (repeat (with_reducible first | refine BgV.drew ?_ | refine BgV.drewN ?_ _ | refine BgV.alloc ?_ _)); exact Vr6.out); (try clear rc0 rc1 rc2); obtain ⟨rc0, rc1, rc2, rc3⟩ := Vr7; have Vr7 := Lib.hid (BgV.mk rc0 rc1 rc2 rc3); have Vo7 : BgV w7 zo (decide (u < 0)) (.slice a3 (nl u.natAbs) c3) := (by refine BgV.below ?_ hb7; (repeat (with_reducible first | refine BgV.drew ?_ | refine BgV.drewN ?_ _ | refine BgV.alloc ?_ _)); exact Vo6.out); (try clear oc0 oc1 oc2); obtain ⟨oc0, oc1, oc2, oc3⟩ := Vo7; have Vo7 := Lib.hid (BgV.mk oc0 oc1 oc2 oc3); have M17 : Mag w7 a1 (nl z.natAbs) c1 z.natAbs := Mag.below (by repeat (with_reducible first | refine Mag.set ?_ (fun h => by have := M16 h; omega) _ _ | refine Mag.drew ?_ | refine Mag.alloc ?_ _ | refine Mag.drewN ?_ _ | exact M16)) hb7; have M27 : Mag w7 a2 n2 c2 X := Mag.below (by repeat (with_reducible first | refine Mag.set ?_ (fun h => by have := M26 h; omega) _ _ | refine Mag.drew ?_ | refine Mag.alloc ?_ _ | refine Mag.drewN ?_ _ | exact M26)) hb7; have M37 : Mag w7 a3 (nl u.natAbs) c3 u.natAbs := Mag.below (by repeat (with_reducible first | refine Mag.set ?_ (fun h => by have := M36 h; omega) _ _ | refine Mag.drew ?_ | refine Mag.alloc ?_ _ | refine Mag.drewN ?_ _ | exact M36)) hb7; have M47 : Mag w7 a4 (nl o.natAbs) c4 o.natAbs := Mag.below (by repeat (with_reducible first | refine Mag.set ?_ (fun h => by have := M46 h; omega) _ _ | refine Mag.drew ?_ | refine Mag.alloc ?_ _ | refine Mag.drewN ?_ _ | exact M46)) hb7; have B7 := below_box (w := w) (by have hszw := (B6).size; repeat (with_reducible first | refine Below.setCell ?_ (by first | omega | (simp <;> omega)) _ | refine Below.alloc ?_ (by first | omega | (simp <;> omega)) _ | refine Below.drew ?_ | refine below_drewN ?_ _ | exact B6)) hb7; have hF7 : 0 < (nl v.natAbs) → w6.heap.size ≤ ab av := (fun h => by have hq := hf7 h; (try simp at hq); omega); have frvp : 0 < (nl v.natAbs) → ab av ≠ b0 := (fun h => by have := hF7 h; have := Vp6.out.lt; omega); have frvr : 0 < (nl v.natAbs) → ab av ≠ b1 := (fun h => by have := hF7 h; have := Vr6.out.lt; omega); have frvo : 0 < (nl v.natAbs) → ab av ≠ zo := (fun h => by have := hF7 h; have := Vo6.out.lt; omega); have fov : 0 < (nl v.natAbs) → w.heap.size ≤ ab av := (fun h => by have := hF7 h; have := B6.size; omega); clear hF7; clear hb7 hf7)
          | (go_at_call 68; have xx := B5; refine (HO _).out.mono ?_; rintro e w6 ⟨a4, c4, rfl, M46, hb6, hf6⟩; have Vp6 : BgV w6 b0 true (.slice a1 (nl z.natAbs) c1) := (by refine BgV.below ?_ hb6; (repeat (with_reducible first | refine BgV.drew ?_ | refine BgV.drewN ?_ _ | refine BgV.alloc ?_ _)); exact Vp5.out); (try clear pc0 pc1 pc2); obtain ⟨pc0, pc1, pc2, pc3⟩ := Vp6; have Vp6 := Lib.hid (BgV.mk pc0 pc1 pc2 pc3); have Vr6 : BgV w6 b1 false (.slice none 0 0) := (by refine BgV.below ?_ hb6; (repeat (with_reducible first | refine BgV.drew ?_ | refine BgV.drewN ?_ _ | refine BgV.alloc ?_ _)); exact Vr5.out); (try clear rc0 rc1 rc2); obtain ⟨rc0, rc1, rc2, rc3⟩ := Vr6; have Vr6 := Lib.hid (BgV.mk rc0 rc1 rc2 rc3); have Vo6 : BgV w6 zo (decide (u < 0)) (.slice a3 (nl u.natAbs) c3) := (by refine BgV.below ?_ hb6; (repeat (with_reducible first | refine BgV.drew ?_ | refine BgV.drewN ?_ _ | refine BgV.alloc ?_ _)); exact Vo5.out); (try clear oc0 oc1 oc2); obtain ⟨oc0, oc1, oc2, oc3⟩ := Vo6; have Vo6 := Lib.hid (BgV.mk oc0 oc1 oc2 oc3); have M16 : Mag w6 a1 (nl z.natAbs) c1 z.natAbs := Mag.below (by repeat (with_reducible first | refine Mag.set ?_ (fun h => by have := M15 h; omega) _ _ | refine Mag.drew ?_ | refine Mag.alloc ?_ _ | refine Mag.drewN ?_ _ | exact M15)) hb6; have M26 : Mag w6 a2 n2 c2 X := Mag.below (by repeat (with_reducible first | refine Mag.set ?_ (fun h => by have := M25 h; omega) _ _ | refine Mag.drew ?_ | refine Mag.alloc ?_ _ | refine Mag.drewN ?_ _ | exact M25)) hb6; have M36 : Mag w6 a3 (nl u.natAbs) c3 u.natAbs := Mag.below (by repeat (with_reducible first | refine Mag.set ?_ (fun h => by have := M35 h; omega) _ _ | refine Mag.drew ?_ | refine Mag.alloc ?_ _ | refine Mag.drewN ?_ _ | exact M35)) hb6; have B6 := below_box (w := w) (by have hszw := (B5).size; repeat (with_reducible first | refine Below.setCell ?_ (by first | omega | (simp <;> omega)) _ | refine Below.alloc ?_ (by first | omega | (simp <;> omega)) _ | refine Below.drew ?_ | refine below_drewN ?_ _ | exact B5)) hb6; have hF6 : 0 < (nl o.natAbs) → w5.heap.size ≤ ab a4 := (fun h => by have hq := hf6 h; (try simp at hq); omega); have fr4p : 0 < (nl o.natAbs) → ab a4 ≠ b0 := (fun h => by have := hF6 h; have := Vp5.out.lt; omega); have fr4r : 0 < (nl o.natAbs) → ab a4 ≠ b1 := (fun h => by have := hF6 h; have := Vr5.out.lt; omega); have fr4o : 0 < (nl o.natAbs) → ab a4 ≠ zo := (fun h => by have := hF6 h; have := Vo5.out.lt; omega); have fo4 : 0 < (nl o.natAbs) → w.heap.size ≤ ab a4 := (fun h => by have := hF6 h; have := B5.size; omega); clear hF6; clear hb6 hf6)
          | fail)
    | fail "region"
    all_goals (
      have Vo8 := BgV.put Vo7.out (decide (v < 0)) (.slice av (nl v.natAbs) cv)
      have Vp8 := (BgV.set (BgV.set Vp7.out npo 0 (.bool (decide (v < 0)))) npo 1 (.slice av (nl v.natAbs) cv))
      have Vr8 := (BgV.set (BgV.set Vr7.out nro 0 (.bool (decide (v < 0)))) nro 1 (.slice av (nl v.natAbs) cv))
      have M18 := (Mag.set (Mag.set M17 fr1o 0 (.bool (decide (v < 0)))) fr1o 1 (.slice av (nl v.natAbs) cv))
      have M28 := (Mag.set (Mag.set M27 fr2o 0 (.bool (decide (v < 0)))) fr2o 1 (.slice av (nl v.natAbs) cv))
      have M38 := (Mag.set (Mag.set M37 fr3o 0 (.bool (decide (v < 0)))) fr3o 1 (.slice av (nl v.natAbs) cv))
      have M48 := (Mag.set (Mag.set M47 fr4o 0 (.bool (decide (v < 0)))) fr4o 1 (.slice av (nl v.natAbs) cv))
      have Mv8 := (Mag.set (Mag.set Mv7 frvo 0 (.bool (decide (v < 0)))) frvo 1 (.slice av (nl v.natAbs) cv))
      have B8 : Below w.heap.size w ((w7.setCell ⟨zo, 0, none⟩ (.bool (decide (v < 0)))).setCell ⟨zo, 1, none⟩ (.slice av (nl v.natAbs) cv)) := (by have hszw := (B7).size; repeat (with_reducible first | refine Below.setCell ?_ (by first | omega | (simp <;> omega)) _ | refine Below.alloc ?_ (by first | omega | (simp <;> omega)) _ | refine Below.drew ?_ | refine below_drewN ?_ _ | exact B7))
      generalize ((w7.setCell ⟨zo, 0, none⟩ (.bool (decide (v < 0)))).setCell ⟨zo, 1, none⟩ (.slice av (nl v.natAbs) cv)) = w8 at Vo8 Vp8 Vr8 M18 M28 M38 M48 Mv8 B8 ⊢
      (try clear pc0 pc1 pc2)
      obtain ⟨pc0, pc1, pc2, pc3⟩ := Vp8
      have Vp8 := Lib.hid (BgV.mk pc0 pc1 pc2 pc3)
      (try clear rc0 rc1 rc2)
      obtain ⟨rc0, rc1, rc2, rc3⟩ := Vr8
      have Vr8 := Lib.hid (BgV.mk rc0 rc1 rc2 rc3)
      (try clear oc0 oc1 oc2)
      obtain ⟨oc0, oc1, oc2, oc3⟩ := Vo8
      have Vo8 := Lib.hid (BgV.mk oc0 oc1 oc2 oc3)
      go_wp2_with fail
      refine bodyPost_ret (v := .agg #[.bool (decide (v < 0)), .slice av (nl v.natAbs) cv]) (by simp only [results, Tryz.results77]; go_simp) rfl ?_
      exact ⟨av, cv, rfl, (by repeat (with_reducible first | refine Mag.set ?_ frvp _ _ | refine Mag.set ?_ frvr _ _ | refine Mag.set ?_ frvo _ _ | refine Mag.drew ?_ | refine Mag.drewN ?_ _ | refine Mag.alloc ?_ _ | exact Mv8)), (by have hszw := (B8).size; repeat (with_reducible first | refine Below.setCell ?_ (by first | omega | (simp <;> omega)) _ | refine Below.alloc ?_ (by first | omega | (simp <;> omega)) _ | refine Below.drew ?_ | refine below_drewN ?_ _ | exact B8)), fov⟩)

theorem rshift_zd (w : World) (a : Option Addr) (cap k : Nat) (z m : Int) (hx : Mag w a (nl z.natAbs) cap z.natAbs) (hlim : nl z.natAbs ≤ 549755813888) (hk : k ≤ 1048576) (hmk : m = -(k : Int)) :
    Calls Tryz.prog 77 #[.agg #[.bool (decide (z < 0)), .slice a (nl z.natAbs) cap], .int .i64 m] w (RetBig w (z / 2 ^ k)) := by
  by_cases hz : z < 0
  · rw [decide_eq_true hz]
    rcases Nat.eq_zero_or_pos k with h0 | h0
    · subst h0
      have := rshift_up w true a _ cap _ 0 hx hlim (by omega)
      rw [show sgn true z.natAbs * 2 ^ 0 = z / 2 ^ 0 by simp [sgn]; omega] at this
      rw [hmk]
      exact this
    · have := rshift_ng w a _ cap _ k m hx hlim h0 hk hmk (by omega)
      rwa [show -(z.natAbs : Int) = z by omega] at this
  · rw [decide_eq_false hz]
    have hd : ((z.natAbs / 2 ^ k : Nat) : Int) = z / 2 ^ k := by rw [Int.natCast_ediv, show (z.natAbs : Int) = z by omega]; simp
    rw [← hd]
    exact rshift_le w a _ cap _ k m hx hlim hk hmk

end Go.Proofs.YtjhngehajahbnaaGreatDoor

