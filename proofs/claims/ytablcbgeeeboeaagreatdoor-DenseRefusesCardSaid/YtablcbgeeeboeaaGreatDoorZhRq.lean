/-
  Walks: the reference's integers: Neg, Sub, FromInt.
-/
import Derived.Test.YtablcbgeeeboeaaGreatDoorZhBf
import Derived.Test.YtablcbgeeeboeaaGreatDoorZhRe
set_option maxRecDepth 100000
set_option maxHeartbeats 2000000
namespace Go.Proofs.YtablcbgeeeboeaaGreatDoor
open Go.RowKit Sp
theorem zHu (w : World) (s : Bool) (a : Option Addr) (n cap x : Nat) (hx : Mag w a n cap x) (hlim : n ≤ 1099511627776) :
 Calls Tryz.prog 57 #[.agg #[.bool s, .slice a n cap]] w (zAj w (-(sgn s x))) := by
 have HR := fun W h => Lib.hid (zAK W (!s) a n cap x h hlim)
 rw [zGI] at HR
 generalize -(sgn s x) = z at HR ⊢
 cases s <;> (
  go_enter Tryz.func57, Tryz.ntmps57
  go_wp2_with fail
  refine (HR _ (hx.below zbh)).out.mono ?_
  rintro e w1 ⟨a1, c1, rfl, hm1, hb, hf1⟩
  obtain ⟨hc1, hz1⟩ := zA8 (hb.mono (show w.heap.size + 2 ≤ _ by simp))
  have hfr1 : 0 < nl z.natAbs → w.heap.size + 2 ≤ ab a1 := fun h => by have := hf1 h; simpa using this
  have hbw := zA0 (w := w) zbh hb
  go_wp2_with fail
  refine bodyPost_ret (v := .agg #[.bool (decide (z < 0)), .slice a1 (nl z.natAbs) c1]) (by simp only [results, Tryz.results57]; go_simp) rfl ?_
  exact zBV hm1 (fun h => by have := hfr1 h; omega) hbw (by omega))
theorem zLs (w : World) (s s' : Bool) (a a' : Option Addr) (n n' cap cap' x y : Nat) (hx : Mag w a n cap x) (hy : Mag w a' n' cap' y) (hl : n ≤ 549755813888) (hl' : n' ≤ 549755813888) :
 Calls Tryz.prog 113 #[.agg #[.bool s, .slice a n cap], .agg #[.bool s', .slice a' n' cap']] w (zAj w (sgn s x - sgn s' y)) := by
 have hy2 : nl (-(sgn s' y)).natAbs ≤ 549755813888 := by rw [Int.natAbs_neg, zAb]; exact Nat.le_trans (zAB hy.lt) hl'
 have HN := fun W (h : Mag W a' n' cap' y) => Lib.hid (zHu W s' a' n' cap' y h (by omega))
 obtain ⟨u, hu⟩ : ∃ u, u = -(sgn s' y) := ⟨_, rfl⟩
 rw [← hu] at HN hy2
 have HA := fun W (h : Mag W a n cap x) b q (h' : Mag W b (nl u.natAbs) q u.natAbs) => Lib.hid (zDR W s (decide (u < 0)) a b n (nl u.natAbs) cap q x u.natAbs h h' hl hy2)
 rw [zAg] at HA
 have hv : sgn s x - sgn s' y = sgn s x + u := by rw [hu]; omega
 rw [hv]
 generalize sgn s x + u = v at HA ⊢
 clear hv hu hy2
 go_enter Tryz.func113, Tryz.ntmps113
 go_wp2_with fail
 have I0 := ((BgV.made w 44 s (.slice a n cap)).alloc (.cells #[.bool s', (.slice a' n' cap')] 44)).alloc (.cells #[.bool false, (.slice none 0 0)] 44)
 have I1 := (BgV.made' (w.alloc (.cells #[.bool s, (.slice a n cap)] 44)) 44 s' (.slice a' n' cap') (n := w.heap.size + 1) (by rw [World.size_alloc])).alloc (.cells #[.bool false, (.slice none 0 0)] 44)
 have I2 := BgV.made' ((w.alloc (.cells #[.bool s, (.slice a n cap)] 44)).alloc (.cells #[.bool s', (.slice a' n' cap')] 44)) 44 false (.slice none 0 0) (n := w.heap.size + 1 + 1) (by rw [World.size_alloc, World.size_alloc])
 have B0 : Below w.heap.size w (((w.alloc (.cells #[.bool s, (.slice a n cap)] 44)).alloc (.cells #[.bool s', (.slice a' n' cap')] 44)).alloc (.cells #[.bool false, (.slice none 0 0)] 44)) := zbh
 have n01 : ¬ w.heap.size = w.heap.size + 1 := by omega
 have n02 : ¬ w.heap.size = w.heap.size + 1 + 1 := by omega
 have n12 : ¬ w.heap.size + 1 = w.heap.size + 1 + 1 := by omega
 have n10 : ¬ w.heap.size + 1 = w.heap.size := by omega
 have n20 : ¬ w.heap.size + 1 + 1 = w.heap.size := by omega
 have n21 : ¬ w.heap.size + 1 + 1 = w.heap.size + 1 := by omega
 generalize (((w.alloc (.cells #[.bool s, (.slice a n cap)] 44)).alloc (.cells #[.bool s', (.slice a' n' cap')] 44)).alloc (.cells #[.bool false, (.slice none 0 0)] 44)) = w0 at I0 I1 I2 B0 ⊢
 generalize hb2 : w.heap.size + 1 + 1 = b2 at I2 n01 n02 n12 n10 n20 n21 ⊢
 generalize hb1 : w.heap.size + 1 = b1 at I1 n01 n02 n12 n10 n20 n21 hb2 ⊢
 generalize hb0 : w.heap.size = b0 at I0 n01 n02 n12 n10 n20 n21 hb1 ⊢
 obtain ⟨ac0, ac1, ac2, ac3⟩ := I0
 have Va0 := Lib.hid (BgV.mk ac0 ac1 ac2 ac3)
 obtain ⟨bc0, bc1, bc2, bc3⟩ := I1
 have Vb0 := Lib.hid (BgV.mk bc0 bc1 bc2 bc3)
 obtain ⟨rc0, rc1, rc2, rc3⟩ := I2
 have Vr0 := Lib.hid (BgV.mk rc0 rc1 rc2 rc3)
 first
 | go_region_held3 (fun w' => w'.cell? ⟨b0, 0, none⟩ = some (.bool s) ∧ w'.cell? ⟨b0, 1, none⟩ = some ((.slice a n cap)) ∧ w'.cell? ⟨b1, 0, none⟩ = some (.bool s') ∧ w'.cell? ⟨b1, 1, none⟩ = some ((.slice a' n' cap'))) (first | (go_keep; done) | (go_simp; done))
  (first
   | (go_at_call 62; have xx := B1; refine (HA _ (hx.below (have := Beh.mk B1; zbh)) au cu Mu1.on).out.mono ?_; rintro e w2 ⟨av, cv, rfl, Mv2, hb2, hf2⟩; have Va2 : BgV w2 b0 s (.slice a n cap) := (Va1.out.on.below hb2); (try clear ac0 ac1 ac2); obtain ⟨ac0, ac1, ac2, ac3⟩ := Va2; have Va2 := Lib.hid (BgV.mk ac0 ac1 ac2 ac3); have Vb2 : BgV w2 b1 s' (.slice a' n' cap') := (Vb1.out.on.below hb2); (try clear bc0 bc1 bc2); obtain ⟨bc0, bc1, bc2, bc3⟩ := Vb2; have Vb2 := Lib.hid (BgV.mk bc0 bc1 bc2 bc3); have Vr2 : BgV w2 b2 false (.slice none 0 0) := (Vr1.out.on.below hb2); (try clear rc0 rc1 rc2); obtain ⟨rc0, rc1, rc2, rc3⟩ := Vr2; have Vr2 := Lib.hid (BgV.mk rc0 rc1 rc2 rc3); have B2 := zA0 (w := w) (have := Beh.mk B1; zbh) hb2; have hfv : 0 < nl v.natAbs → b2 < ab av := (fun h => by have := hf2 h; have hs := B1.size; have hq := Vr1.out.lt; (try simp at this); omega); clear hb2 hf2)
   | (go_at_call 57; refine (HN _ (hy.below (have := Beh.mk B0; zbh))).out.mono ?_; rintro e w1 ⟨au, cu, rfl, Mu1, hb1, hf1⟩; have Va1 : BgV w1 b0 s (.slice a n cap) := (Va0.out.on.below hb1); (try clear ac0 ac1 ac2); obtain ⟨ac0, ac1, ac2, ac3⟩ := Va1; have Va1 := Lib.hid (BgV.mk ac0 ac1 ac2 ac3); have Vb1 : BgV w1 b1 s' (.slice a' n' cap') := (Vb0.out.on.below hb1); (try clear bc0 bc1 bc2); obtain ⟨bc0, bc1, bc2, bc3⟩ := Vb1; have Vb1 := Lib.hid (BgV.mk bc0 bc1 bc2 bc3); have Vr1 : BgV w1 b2 false (.slice none 0 0) := (Vr0.out.on.below hb1); (try clear rc0 rc1 rc2); obtain ⟨rc0, rc1, rc2, rc3⟩ := Vr1; have Vr1 := Lib.hid (BgV.mk rc0 rc1 rc2 rc3); have B1 := zA0 (w := w) (have := Beh.mk B0; zbh) hb1; clear hb1 hf1)
   | fail)
 | fail "region"
 go_wp2_with fail
 refine bodyPost_ret (v := .agg #[.bool (decide (v < 0)), .slice av (nl v.natAbs) cv]) (by simp only [results, Tryz.results113]; go_simp) rfl ?_
 exact ⟨av, cv, rfl, (by repeat (with_reducible first | refine Mag.set ?_ (fun h => by have := hfv h; omega) _ _ | refine Mag.drew ?_ | refine Mag.alloc ?_ _ | refine Mag.drewN ?_ _ | exact Mv2)), (by have hszw := (B2).size; repeat (with_reducible first | refine Below.setCell ?_ (by first | omega | (simp <;> omega)) _ | refine Below.alloc ?_ (by first | omega | (simp <;> omega)) _ | refine Below.drew ?_ | refine below_drewN ?_ _ | exact B2)), fun h => by have := hfv h; omega⟩
theorem zG4 (w : World) (k : Nat) (hk : k ≤ 9223372036854775807) :
 Calls Tryz.prog 99 #[.int .i64 k] w (zAj w (sgn false k)) := by
 have HM := Lib.hid (zF4 k (by omega))
 have hlt : decide ((k : Int) < 0) = false := by simp
 have HR := fun W b (h : Mag W b 2 2 k) => Lib.hid (zAK W false b 2 2 k h (by decide))
 generalize sgn false k = z at HR ⊢
 go_enter Tryz.func99, Tryz.ntmps99
 go_wp2_with fail
 have hm := HM.out (w.alloc (.cells #[.bool false, .slice none 0 0] 44))
 rw [World.size_alloc] at hm
 refine (HR _ _ hm).out.mono ?_
 rintro e w1 ⟨a1, c1, rfl, hm1, hb, hf1⟩
 obtain ⟨hc1, hz1⟩ := zA8 (hb.mono (show w.heap.size + 2 ≤ _ by simp))
 have hfr1 : 0 < nl z.natAbs → w.heap.size + 2 ≤ ab a1 := fun h => by have := hf1 h; simpa using this
 have hbw := zA0 (w := w) zbh hb
 go_wp2_with fail
 refine bodyPost_ret (v := .agg #[.bool (decide (z < 0)), .slice a1 (nl z.natAbs) c1]) (by simp only [results, Tryz.results99]; go_simp) rfl ?_
 exact zBV hm1 (fun h => by have := hfr1 h; omega) hbw (by omega)
theorem zG3 (w : World) (k : Nat) (hk0 : 1 ≤ k) (hk : k ≤ 9223372036854775808) :
 Calls Tryz.prog 99 #[.int .i64 (-(k : Int))] w (zAj w (sgn true k)) := by
 have HM := Lib.hid (zF4 k (by omega))
 have hlt : decide (-(k : Int) < 0) = true := by simp; omega
 have e0 : IntKind.u64.wrap (-(k : Int)) = 18446744073709551616 - k := by rw [IntKind.wrap_u64]; omega
 have e1 : IntKind.i64.wrap (-(k : Int) + 1) = -((k : Int) - 1) := by rw [IntKind.wrap_i64]; omega
 have e2 : wrap64 (-(k : Int) + 1) = -((k : Int) - 1) := by unfold wrap64; omega
 have e3 : IntKind.i64.wrap (-(-((k : Int) - 1))) = (k : Int) - 1 := by rw [IntKind.wrap_i64]; omega
 have e4 : IntKind.u64.wrap ((k : Int) - 1) = (k : Int) - 1 := by rw [IntKind.wrap_u64]; omega
 have e5 : IntKind.u64.wrap ((k : Int) - 1 + 1) = k := by rw [IntKind.wrap_u64]; omega
 have HR := fun W b (h : Mag W b 2 2 k) => Lib.hid (zAK W true b 2 2 k h (by decide))
 generalize sgn true k = z at HR ⊢
 go_enter Tryz.func99, Tryz.ntmps99
 go_wp2_with fail
 have hm := HM.out (w.alloc (.cells #[.bool false, .slice none 0 0] 44))
 rw [World.size_alloc] at hm
 refine (HR _ _ hm).out.mono ?_
 rintro e w1 ⟨a1, c1, rfl, hm1, hb, hf1⟩
 obtain ⟨hc1, hz1⟩ := zA8 (hb.mono (show w.heap.size + 2 ≤ _ by simp))
 have hfr1 : 0 < nl z.natAbs → w.heap.size + 2 ≤ ab a1 := fun h => by have := hf1 h; simpa using this
 have hbw := zA0 (w := w) zbh hb
 go_wp2_with fail
 refine bodyPost_ret (v := .agg #[.bool (decide (z < 0)), .slice a1 (nl z.natAbs) c1]) (by simp only [results, Tryz.results99]; go_simp) rfl ?_
 exact zBV hm1 (fun h => by have := hfr1 h; omega) hbw (by omega)
theorem zCy (w : World) (n : Int) (h0 : -9223372036854775808 ≤ n) (h1 : n ≤ 9223372036854775807) :
 Calls Tryz.prog 99 #[.int .i64 n] w (zAj w n) := by
 rcases Int.lt_or_le n 0 with h | h
 · obtain ⟨k, hk⟩ : ∃ k : Nat, n = -(k : Int) := ⟨n.natAbs, by omega⟩
   subst hk
   exact zG3 w k (by omega) (by omega)
 · obtain ⟨k, rfl⟩ := Int.eq_ofNat_of_zero_le h
   exact zG4 w k (by omega)
end Go.Proofs.YtablcbgeeeboeaaGreatDoor
set_option maxRecDepth 100000
set_option maxHeartbeats 2000000
namespace Go.Proofs.YtablcbgeeeboeaaGreatDoor
open Go.RowKit Sp
theorem zJv (w : World) (a a' : Option Addr) (n m cap cap' x y : Nat) (hx : Mag w a n cap x) (hy : Mag w a' m cap' y) (hn : n ≤ 549755813888) (hm : m ≤ 549755813888) :
 Calls Tryz.prog 106 #[.slice a n cap, .slice a' m cap'] w (zE0 w (x * y) (n + m)) := by
 have hmk := zBd 42 96 zCm zC8 ((n : Int) + m) (by omega) (by omega)
 go_enter Tryz.func106, Tryz.ntmps106
 go_wp2
 clear hmk
 have hrow0 := Row.made w (n + m) 96 (by omega)
 go_loopw [6] (fun i wr => ∃ k : Nat, k ≤ n ∧ i = .int .i64 k ∧ Row wr w.heap.size (n + m) 96 (x % B ^ k * y) ∧ Below w.heap.size w wr) (fun i _ => n - (intOf i).toNat)
 case atStart => exact ⟨0, by omega, rfl, by rw [zAf, Nat.zero_mul]; exact hrow0, (Below.refl _ _).alloc (Nat.le_refl _) _⟩
 case round =>
  clear hrow0
  obtain ⟨k, hk, rfl, hrow, hb⟩ := hrel
  by_cases hlt : k < n
  · have hx' := hx.below hb
    have c1 := hx'.cell k hlt
    have i1 := hx'.idx 42 und siz k hlt
    have hd1 := zA6 x k
    obtain ⟨wo, rfl⟩ : ∃ wo : World, wo = wr := ⟨_, rfl⟩
    go_wp2
    clear c1 i1
    go_loopw [7, 8] (fun c j wi => ∃ q Z cc : Nat, q ≤ m ∧ j = .int .i64 q ∧ c = .int .u64 cc ∧ cc < 4294967296 ∧ Row wi w.heap.size (n + m) 96 Z ∧ Z < B ^ (k + m) ∧
     Z + cc * B ^ (k + q) = x % B ^ k * y + dig x k * (y % B ^ q) * B ^ k ∧ Below w.heap.size w wi) (fun _ j _ => m - (intOf j).toNat)
    case atStart =>
     refine ⟨0, x % B ^ k * y, 0, by omega, rfl, rfl, by omega, hrow, ?_, ?_, hb⟩
     · rw [zAs]; exact Nat.mul_lt_mul'' (zAG x k) hy.lt
     · rw [zAf]; simp
    case round =>
     obtain ⟨q, Z, cc, hq, rfl, rfl, hcc, hrowi, hZ, hinv, hbi⟩ := hrel
     have HI := Lib.hid hinv
     clear hinv hx'
     by_cases hqm : q < m
     · have hx'' := hx.below hbi
       have c1 := hx''.cell k hlt
       have i1 := hx''.idx 42 und siz k hlt
       have hy' := hy.below hbi
       have c2 := hy'.cell q hqm
       have i2 := hy'.idx 42 und siz q hqm
       have hd2 := zA6 y q
       have hd3 := zA6 Z (k + q)
       have c3 := hrowi.cell (k + q) (by omega)
       have f3 := hrowi.free (k + q)
       obtain ⟨m1, m2⟩ := zDe hd1 hd2 hd3 hcc
       rw [← Int.ofNat_le, Int.natCast_mul] at m2
       have m1' : (cc : Int) + ((dig x k : Nat) : Int) * (dig y q : Nat) + (dig Z (k + q) : Nat) < 18446744073709551616 := by rw [← Int.natCast_mul]; omega
       have m0 : (0 : Int) ≤ ((dig x k : Nat) : Int) * (dig y q : Nat) := by rw [← Int.natCast_mul]; omega
       clear m1
       obtain ⟨T, hT⟩ : ∃ T : Nat, T = dig x k * dig y q + dig Z (k + q) + cc := ⟨_, rfl⟩
       have hTI : ((T : Nat) : Int) = (cc : Nat) + ((dig x k : Nat) : Int) * (dig y q : Nat) + (dig Z (k + q) : Nat) := by rw [hT]; simp; omega
       have hTB : T / B < 4294967296 := by rw [Nat.div_lt_iff_lt_mul zCB, zAW]; omega
       have HTI := Lib.hid hTI
       have HT := Lib.hid hT
       clear hTI hT
       have HTB := Lib.hid hTB
       clear hTB
       go_wp2
       all_goals go_quiet (fail)
       all_goals go_wp2
       go_roundw
       case rel =>
        refine ⟨q + 1, zCD Z (k + q) (T % B), T / B, by omega, by go_num, ?_, HTB.out, ?_, zCu (Nat.mod_lt _ zCB) (by omega) hZ, zGi HT.out HI.out, (show Below w.heap.size w (wr.drewN _) from ⟨hbi.os, hbi.tape, hbi.output, hbi.size, hbi.block⟩).setCell (Nat.le_refl _) _⟩
        · rw [← HTI.out, zAW]; rfl
        · rw [← HTI.out]; exact (hrowi.drewN _).store (k + q) (T % B) (by omega) (Nat.mod_lt _ zCB)
       case measure => simp [intOf]; omega
     · obtain rfl : q = m := by omega
       have c3 := hrowi.cell (k + q) (by omega)
       have f3 := hrowi.free (k + q)
       go_wp2
       go_roundw
       case rel => exact ⟨k + 1, by omega, by go_num, by rw [← zK4 hy.lt HI.out hZ]; exact hrowi.store (k + q) cc (by omega) hcc, hbi.setCell (Nat.le_refl _) _⟩
       case measure => simp [intOf]; omega
  · obtain rfl : k = n := by omega
    rw [zA9 hx.lt] at hrow
    go_wp2
    go_ret
    exact ⟨_, _, _, rfl, hrow.mag, Nat.le_refl _, hb, fun _ => Nat.le_refl _⟩
end Go.Proofs.YtablcbgeeeboeaaGreatDoor
set_option maxRecDepth 100000
set_option maxHeartbeats 2000000
namespace Go.Proofs.YtablcbgeeeboeaaGreatDoor
open Go.RowKit Sp
theorem DyV.put {W : World} {b : Nat} {v s : Bool} {sl : Value} {f : Int} (h : DyV W b v s sl f) (v' s' : Bool) (sl' : Value) (f' : Int) :
 DyV ((((W.setCell ⟨b, 0, none⟩ (.bool v')).setCell ⟨b, 1, none⟩ (.bool s')).setCell ⟨b, 2, none⟩ sl').setCell ⟨b, 3, none⟩ (.int .i64 f')) b v' s' sl' f' := by
 obtain ⟨c0, c1, c2, c3, c4, c5⟩ := h
 exact ⟨by go_simp, by go_simp, by go_simp, by go_simp, fun i => by go_simp, by simpa using c5⟩
theorem BgV.put {W : World} {b : Nat} {s : Bool} {sl : Value} (h : BgV W b s sl) (s' : Bool) (sl' : Value) :
 BgV ((W.setCell ⟨b, 0, none⟩ (.bool s')).setCell ⟨b, 1, none⟩ sl') b s' sl' := by
 obtain ⟨c0, c1, c2, c3⟩ := h
 exact ⟨by go_simp, by go_simp, fun i => by go_simp, by simpa using c3⟩
theorem zK0 {s s' : Bool} {x y n n' : Nat} (hx : x < B ^ n) (hy : y < B ^ n') : nl (sgn s x - sgn s' y).natAbs ≤ max n n' + 1 := by
 have h0 : (sgn s x - sgn s' y).natAbs ≤ x + y := by unfold sgn; cases s <;> cases s' <;> simp <;> omega
 have h1 : B ^ n ≤ B ^ max n n' := Nat.pow_le_pow_right (by rw [zAW]; omega) (Nat.le_max_left _ _)
 have h2 : B ^ n' ≤ B ^ max n n' := Nat.pow_le_pow_right (by rw [zAW]; omega) (Nat.le_max_right _ _)
 refine zAB (Nat.lt_of_le_of_lt h0 ?_)
 rw [Nat.pow_succ]
 generalize B ^ max n n' = Q at h1 h2 ⊢
 generalize B ^ n = P at hx h1
 generalize B ^ n' = P' at hy h2
 have hB : 2 ≤ B := by rw [zAW]; omega
 have := Nat.mul_le_mul_left Q hB
 omega
theorem zOf (x y : Int) : sg (x - y) = zAr x y := by
 unfold sg zAr; split <;> (try split) <;> (try split) <;> (try split) <;> omega
theorem zHy (w : World) (s s' : Bool) (a a' : Option Addr) (n n' cap cap' x y : Nat) (hx : Mag w a n cap x) (hy : Mag w a' n' cap' y) (hl : n ≤ 549755813888) (hl' : n' ≤ 549755813888) :
 Calls Tryz.prog 164 #[.agg #[.bool s, .slice a n cap], .agg #[.bool s', .slice a' n' cap']] w fun e w' => e = .returned (.int .i64 (zAr (sgn s x) (sgn s' y))) ∧ Below w.heap.size w w' := by
 have hlu := zK0 (s := s) (s' := s') hx.lt hy.lt
 have HS := fun W h h' => Lib.hid (zLs W s s' a a' n n' cap cap' x y h h' hl hl')
 rw [← zOf]
 generalize sgn s x - sgn s' y = u at HS hlu ⊢
 have HG := fun W b c h => Lib.hid (zC9 W (decide (u < 0)) b (nl u.natAbs) c u.natAbs h (by omega))
 rw [zAg] at HG
 generalize sg u = g at HG ⊢
 clear hlu
 go_enter Tryz.func164, Tryz.ntmps164
 go_wp2_with fail
 have Ix := ((BgV.made' w 44 s (.slice a n cap) (n := w.heap.size) (by rfl)).alloc (.cells #[.bool s', (.slice a' n' cap')] 44))
 have Iy := (BgV.made' (w.alloc (.cells #[.bool s, (.slice a n cap)] 44)) 44 s' (.slice a' n' cap') (n := w.heap.size + 1) (by rw [World.size_alloc]))
 have B0 : Below w.heap.size w ((w.alloc (.cells #[.bool s, (.slice a n cap)] 44)).alloc (.cells #[.bool s', (.slice a' n' cap')] 44)) := zbh
 have nxy : ¬ w.heap.size = w.heap.size + 1 := by omega
 have nyx : ¬ w.heap.size + 1 = w.heap.size := by omega
 generalize ((w.alloc (.cells #[.bool s, (.slice a n cap)] 44)).alloc (.cells #[.bool s', (.slice a' n' cap')] 44)) = w0 at Ix Iy B0 ⊢
 generalize hb1 : w.heap.size + 1 = b1 at Iy nxy nyx ⊢
 generalize hb0 : w.heap.size = b0 at Ix nxy nyx hb1 ⊢
 obtain ⟨xc0, xc1, xc2, xc3⟩ := Ix
 have Vx0 := Lib.hid (BgV.mk xc0 xc1 xc2 xc3)
 obtain ⟨yc0, yc1, yc2, yc3⟩ := Iy
 have Vy0 := Lib.hid (BgV.mk yc0 yc1 yc2 yc3)
 refine (HS _ (hx.below (have := Beh.mk B0; zbh)) (hy.below (have := Beh.mk B0; zbh))).out.mono ?_
 rintro e w1 ⟨au, cu, rfl, Mu1, hb1, hf1⟩
 have Vx1 : BgV w1 b0 s (.slice a n cap) := (Vx0.out.on.below hb1)
 (try clear xc0 xc1 xc2)
 obtain ⟨xc0, xc1, xc2, xc3⟩ := Vx1
 have Vx1 := Lib.hid (BgV.mk xc0 xc1 xc2 xc3)
 have Vy1 : BgV w1 b1 s' (.slice a' n' cap') := (Vy0.out.on.below hb1)
 (try clear yc0 yc1 yc2)
 obtain ⟨yc0, yc1, yc2, yc3⟩ := Vy1
 have Vy1 := Lib.hid (BgV.mk yc0 yc1 yc2 yc3)
 have B1 := zA0 (w := w) (have := Beh.mk B0; zbh) hb1
 have hF1 : 0 < (nl u.natAbs) → w0.heap.size ≤ ab au := (fun h => by have hq := hf1 h; (try simp at hq); omega)
 have frux : 0 < (nl u.natAbs) → ab au ≠ b0 := (fun h => by have := hF1 h; have := Vx0.out.lt; omega)
 have fruy : 0 < (nl u.natAbs) → ab au ≠ b1 := (fun h => by have := hF1 h; have := Vy0.out.lt; omega)
 have fou : 0 < (nl u.natAbs) → w.heap.size ≤ ab au := (fun h => by have := hF1 h; have := B0.size; omega)
 clear hF1
 clear hb1 hf1
 go_wp2_with fail
 refine (HG _ au cu Mu1.on).out.mono ?_
 rintro e w2 ⟨rfl, hb2⟩
 have Vx2 : BgV w2 b0 s (.slice a n cap) := (Vx1.out.on.below hb2)
 (try clear xc0 xc1 xc2)
 obtain ⟨xc0, xc1, xc2, xc3⟩ := Vx2
 have Vx2 := Lib.hid (BgV.mk xc0 xc1 xc2 xc3)
 have Vy2 : BgV w2 b1 s' (.slice a' n' cap') := (Vy1.out.on.below hb2)
 (try clear yc0 yc1 yc2)
 obtain ⟨yc0, yc1, yc2, yc3⟩ := Vy2
 have Vy2 := Lib.hid (BgV.mk yc0 yc1 yc2 yc3)
 have Mu2 : Mag w2 au (nl u.natAbs) cu u.natAbs := Mag.below Mu1.on hb2
 have B2 := zA0 (w := w) (have := Beh.mk B1; zbh) hb2
 clear hb2
 go_wp2_with fail
 go_ret
 exact ⟨rfl, (have := Beh.mk B2; zbh)⟩
theorem zHv (w : World) (s s' : Bool) (a a' : Option Addr) (n n' cap cap' x y : Nat) (hx : Mag w a n cap x) (hy : Mag w a' n' cap' y) (hl : n ≤ 549755813888) (hl' : n' ≤ 549755813888) :
 Calls Tryz.prog 59 #[.agg #[.bool s, .slice a n cap], .agg #[.bool s', .slice a' n' cap']] w (zAj w (sgn s x * sgn s' y)) := by
 have nx := zAB hx.lt
 have ny := zAB hy.lt
 have HT := fun W h => Lib.hid (zAL W a n cap x h (by omega))
 have HT' := fun W h => Lib.hid (zAL W a' n' cap' y h (by omega))
 have HMM := fun W b c b' c' h h' => Lib.hid (zJv W b b' (nl x) (nl y) c c' x y h h' (by omega) (by omega))
 have HK := fun W b m c h (hm : m ≤ nl x + nl y) => Lib.hid (zAK W (s != s') b m c (x * y) h (by omega))
 rw [zJk] at HK
 generalize sgn s x * sgn s' y = v at HK ⊢
 obtain ⟨t, ht⟩ : ∃ t, t = (s != s') := ⟨_, rfl⟩
 have ht1 : (s != s') = t := ht.symm
 have ht2 : (!(s == s')) = t := ht.symm
 rw [← ht] at HK
 generalize x * y = p at HMM HK
 clear ht nx ny hl hl'
 go_enter Tryz.func59, Tryz.ntmps59
 go_wp2_with fail
 have Ix := (((BgV.made' w 44 s (.slice a n cap) (n := w.heap.size) (by rfl)).alloc (.cells #[.bool s', (.slice a' n' cap')] 44)).alloc (.cells #[.bool false, (.slice none 0 0)] 44))
 have Iy := ((BgV.made' (w.alloc (.cells #[.bool s, (.slice a n cap)] 44)) 44 s' (.slice a' n' cap') (n := w.heap.size + 1) (by rw [World.size_alloc])).alloc (.cells #[.bool false, (.slice none 0 0)] 44))
 have Ir := (BgV.made' ((w.alloc (.cells #[.bool s, (.slice a n cap)] 44)).alloc (.cells #[.bool s', (.slice a' n' cap')] 44)) 44 false (.slice none 0 0) (n := w.heap.size + 1 + 1) (by rw [World.size_alloc, World.size_alloc]))
 have B0 : Below w.heap.size w (((w.alloc (.cells #[.bool s, (.slice a n cap)] 44)).alloc (.cells #[.bool s', (.slice a' n' cap')] 44)).alloc (.cells #[.bool false, (.slice none 0 0)] 44)) := zbh
 have nxy : ¬ w.heap.size = w.heap.size + 1 := by omega
 have nxr : ¬ w.heap.size = w.heap.size + 1 + 1 := by omega
 have nyx : ¬ w.heap.size + 1 = w.heap.size := by omega
 have nyr : ¬ w.heap.size + 1 = w.heap.size + 1 + 1 := by omega
 have nrx : ¬ w.heap.size + 1 + 1 = w.heap.size := by omega
 have nry : ¬ w.heap.size + 1 + 1 = w.heap.size + 1 := by omega
 generalize (((w.alloc (.cells #[.bool s, (.slice a n cap)] 44)).alloc (.cells #[.bool s', (.slice a' n' cap')] 44)).alloc (.cells #[.bool false, (.slice none 0 0)] 44)) = w0 at Ix Iy Ir B0 ⊢
 generalize hb2 : w.heap.size + 1 + 1 = b2 at Ir nxy nxr nyx nyr nrx nry ⊢
 generalize hb1 : w.heap.size + 1 = b1 at Iy nxy nxr nyx nyr nrx nry hb2 ⊢
 generalize hb0 : w.heap.size = b0 at Ix nxy nxr nyx nyr nrx nry hb1 ⊢
 obtain ⟨xc0, xc1, xc2, xc3⟩ := Ix
 have Vx0 := Lib.hid (BgV.mk xc0 xc1 xc2 xc3)
 obtain ⟨yc0, yc1, yc2, yc3⟩ := Iy
 have Vy0 := Lib.hid (BgV.mk yc0 yc1 yc2 yc3)
 obtain ⟨rc0, rc1, rc2, rc3⟩ := Ir
 have Vr0 := Lib.hid (BgV.mk rc0 rc1 rc2 rc3)
 first
 | go_region_held3 (fun w' => w'.cell? ⟨b0, 0, none⟩ = some (.bool s) ∧ w'.cell? ⟨b0, 1, none⟩ = some ((.slice a n cap)) ∧ w'.cell? ⟨b1, 0, none⟩ = some (.bool s') ∧ w'.cell? ⟨b1, 1, none⟩ = some ((.slice a' n' cap'))) (first | (go_keep; done) | (go_simp; done))
  (first
   | (go_at_call 105; have xx := B3; refine (HK _ a3 n3 c3 M33.on hn3).out.mono ?_; rintro e w4 ⟨av, cv, rfl, Mv4, hb4, hf4⟩; have Vx4 : BgV w4 b0 s (.slice a n cap) := (Vx3.out.on.below hb4); (try clear xc0 xc1 xc2); obtain ⟨xc0, xc1, xc2, xc3⟩ := Vx4; have Vx4 := Lib.hid (BgV.mk xc0 xc1 xc2 xc3); have Vy4 : BgV w4 b1 s' (.slice a' n' cap') := (Vy3.out.on.below hb4); (try clear yc0 yc1 yc2); obtain ⟨yc0, yc1, yc2, yc3⟩ := Vy4; have Vy4 := Lib.hid (BgV.mk yc0 yc1 yc2 yc3); have Vr4 : BgV w4 b2 false (.slice none 0 0) := (Vr3.out.on.below hb4); (try clear rc0 rc1 rc2); obtain ⟨rc0, rc1, rc2, rc3⟩ := Vr4; have Vr4 := Lib.hid (BgV.mk rc0 rc1 rc2 rc3); have M14 : Mag w4 a1 (nl x) c1 x := Mag.below M13.on hb4; have M24 : Mag w4 a2 (nl y) c2 y := Mag.below M23.on hb4; have M34 : Mag w4 a3 n3 c3 p := Mag.below M33.on hb4; have B4 := zA0 (w := w) (have := Beh.mk B3; zbh) hb4; have hF4 : 0 < (nl v.natAbs) → w3.heap.size ≤ ab av := (fun h => by have hq := hf4 h; (try simp at hq); omega); have frvx : 0 < (nl v.natAbs) → ab av ≠ b0 := (fun h => by have := hF4 h; have := Vx3.out.lt; omega); have frvy : 0 < (nl v.natAbs) → ab av ≠ b1 := (fun h => by have := hF4 h; have := Vy3.out.lt; omega); have frvr : 0 < (nl v.natAbs) → ab av ≠ b2 := (fun h => by have := hF4 h; have := Vr3.out.lt; omega); have fov : 0 < (nl v.natAbs) → w.heap.size ≤ ab av := (fun h => by have := hF4 h; have := B3.size; omega); clear hF4; clear hb4 hf4)
   | (go_at_call 106; have xx := B2; refine (HMM _ a1 c1 a2 c2 M12.on M22.on).out.mono ?_; rintro e w3 ⟨a3, n3, c3, rfl, M33, hn3, hb3, hf3⟩; have Vx3 : BgV w3 b0 s (.slice a n cap) := (Vx2.out.on.below hb3); (try clear xc0 xc1 xc2); obtain ⟨xc0, xc1, xc2, xc3⟩ := Vx3; have Vx3 := Lib.hid (BgV.mk xc0 xc1 xc2 xc3); have Vy3 : BgV w3 b1 s' (.slice a' n' cap') := (Vy2.out.on.below hb3); (try clear yc0 yc1 yc2); obtain ⟨yc0, yc1, yc2, yc3⟩ := Vy3; have Vy3 := Lib.hid (BgV.mk yc0 yc1 yc2 yc3); have Vr3 : BgV w3 b2 false (.slice none 0 0) := (Vr2.out.on.below hb3); (try clear rc0 rc1 rc2); obtain ⟨rc0, rc1, rc2, rc3⟩ := Vr3; have Vr3 := Lib.hid (BgV.mk rc0 rc1 rc2 rc3); have M13 : Mag w3 a1 (nl x) c1 x := Mag.below M12.on hb3; have M23 : Mag w3 a2 (nl y) c2 y := Mag.below M22.on hb3; have B3 := zA0 (w := w) (have := Beh.mk B2; zbh) hb3; have hF3 : 0 < n3 → w2.heap.size ≤ ab a3 := (fun h => by have hq := hf3 h; (try simp at hq); omega); have fr3x : 0 < n3 → ab a3 ≠ b0 := (fun h => by have := hF3 h; have := Vx2.out.lt; omega); have fr3y : 0 < n3 → ab a3 ≠ b1 := (fun h => by have := hF3 h; have := Vy2.out.lt; omega); have fr3r : 0 < n3 → ab a3 ≠ b2 := (fun h => by have := hF3 h; have := Vr2.out.lt; omega); have fo3 : 0 < n3 → w.heap.size ≤ ab a3 := (fun h => by have := hF3 h; have := B2.size; omega); clear hF3; clear hb3 hf3)
   | (go_at_call 107; have xx := B1; refine (HT' _ (hy.below (have := Beh.mk B1; zbh))).out.mono ?_; rintro e w2 ⟨a2, c2, rfl, M22, hb2, hf2⟩; have Vx2 : BgV w2 b0 s (.slice a n cap) := (Vx1.out.on.below hb2); (try clear xc0 xc1 xc2); obtain ⟨xc0, xc1, xc2, xc3⟩ := Vx2; have Vx2 := Lib.hid (BgV.mk xc0 xc1 xc2 xc3); have Vy2 : BgV w2 b1 s' (.slice a' n' cap') := (Vy1.out.on.below hb2); (try clear yc0 yc1 yc2); obtain ⟨yc0, yc1, yc2, yc3⟩ := Vy2; have Vy2 := Lib.hid (BgV.mk yc0 yc1 yc2 yc3); have Vr2 : BgV w2 b2 false (.slice none 0 0) := (Vr1.out.on.below hb2); (try clear rc0 rc1 rc2); obtain ⟨rc0, rc1, rc2, rc3⟩ := Vr2; have Vr2 := Lib.hid (BgV.mk rc0 rc1 rc2 rc3); have M12 : Mag w2 a1 (nl x) c1 x := Mag.below M11.on hb2; have B2 := zA0 (w := w) (have := Beh.mk B1; zbh) hb2; have hF2 : 0 < (nl y) → w1.heap.size ≤ ab a2 := (fun h => by have hq := hf2 h; (try simp at hq); omega); have fr2x : 0 < (nl y) → ab a2 ≠ b0 := (fun h => by have := hF2 h; have := Vx1.out.lt; omega); have fr2y : 0 < (nl y) → ab a2 ≠ b1 := (fun h => by have := hF2 h; have := Vy1.out.lt; omega); have fr2r : 0 < (nl y) → ab a2 ≠ b2 := (fun h => by have := hF2 h; have := Vr1.out.lt; omega); have fo2 : 0 < (nl y) → w.heap.size ≤ ab a2 := (fun h => by have := hF2 h; have := B1.size; omega); clear hF2; clear hb2 hf2)
   | (go_at_call 107; refine (HT _ (hx.below (have := Beh.mk B0; zbh))).out.mono ?_; rintro e w1 ⟨a1, c1, rfl, M11, hb1, hf1⟩; have Vx1 : BgV w1 b0 s (.slice a n cap) := (Vx0.out.on.below hb1); (try clear xc0 xc1 xc2); obtain ⟨xc0, xc1, xc2, xc3⟩ := Vx1; have Vx1 := Lib.hid (BgV.mk xc0 xc1 xc2 xc3); have Vy1 : BgV w1 b1 s' (.slice a' n' cap') := (Vy0.out.on.below hb1); (try clear yc0 yc1 yc2); obtain ⟨yc0, yc1, yc2, yc3⟩ := Vy1; have Vy1 := Lib.hid (BgV.mk yc0 yc1 yc2 yc3); have Vr1 : BgV w1 b2 false (.slice none 0 0) := (Vr0.out.on.below hb1); (try clear rc0 rc1 rc2); obtain ⟨rc0, rc1, rc2, rc3⟩ := Vr1; have Vr1 := Lib.hid (BgV.mk rc0 rc1 rc2 rc3); have B1 := zA0 (w := w) (have := Beh.mk B0; zbh) hb1; have hF1 : 0 < (nl x) → w0.heap.size ≤ ab a1 := (fun h => by have hq := hf1 h; (try simp at hq); omega); have fr1x : 0 < (nl x) → ab a1 ≠ b0 := (fun h => by have := hF1 h; have := Vx0.out.lt; omega); have fr1y : 0 < (nl x) → ab a1 ≠ b1 := (fun h => by have := hF1 h; have := Vy0.out.lt; omega); have fr1r : 0 < (nl x) → ab a1 ≠ b2 := (fun h => by have := hF1 h; have := Vr0.out.lt; omega); have fo1 : 0 < (nl x) → w.heap.size ≤ ab a1 := (fun h => by have := hF1 h; have := B0.size; omega); clear hF1; clear hb1 hf1)
   | fail)
 | fail "region"
 go_wp2_with fail
 refine bodyPost_ret (v := .agg #[.bool (decide (v < 0)), .slice av (nl v.natAbs) cv]) (by simp only [results, Tryz.results59]; go_simp) rfl ?_
 exact ⟨av, cv, rfl, (by repeat (with_reducible first | refine Mag.set ?_ frvx _ _ | refine Mag.set ?_ frvy _ _ | refine Mag.set ?_ frvr _ _ | refine Mag.drew ?_ | refine Mag.drewN ?_ _ | refine Mag.alloc ?_ _ | exact Mv4)), (by have hszw := (B4).size; repeat (with_reducible first | refine Below.setCell ?_ (by first | omega | (simp <;> omega)) _ | refine Below.alloc ?_ (by first | omega | (simp <;> omega)) _ | refine Below.drew ?_ | refine below_drewN ?_ _ | exact B4)), fov⟩
theorem zG2 (w : World) (s : Bool) (a : Option Addr) (n cap x k : Nat) (hx : Mag w a n cap x) (hlim : n ≤ 549755813888) (hk : k ≤ 1048576) :
 Calls Tryz.prog 180 #[.agg #[.bool s, .slice a n cap], .int .i64 k] w fun e w' => e = .returned (.bool (decide (x % 2 ^ k ≠ 0))) ∧ Below w.heap.size w w' := by
 have nx := zAB hx.lt
 have HT := fun W h => Lib.hid (zAL W a n cap x h (by omega))
 have HR := fun W b c h => Lib.hid (zF9 W b (nl x) c x k h (by omega) hk _ rfl)
 generalize decide (x % 2 ^ k ≠ 0) = lb at HR ⊢
 generalize x / 2 ^ k = q at HR
 clear nx hk hlim
 go_enter Tryz.func180, Tryz.ntmps180
 go_wp2_with fail
 have Ix := (BgV.made' w 44 s (.slice a n cap) (n := w.heap.size) (by rfl))
 have B0 : Below w.heap.size w (w.alloc (.cells #[.bool s, (.slice a n cap)] 44)) := zbh
 generalize (w.alloc (.cells #[.bool s, (.slice a n cap)] 44)) = w0 at Ix B0 ⊢
 generalize hb0 : w.heap.size = b0 at Ix ⊢
 obtain ⟨xc0, xc1, xc2, xc3⟩ := Ix
 have Vx0 := Lib.hid (BgV.mk xc0 xc1 xc2 xc3)
 refine (HT _ (hx.below (have := Beh.mk B0; zbh))).out.mono ?_
 rintro e w1 ⟨a1, c1, rfl, M11, hb1, hf1⟩
 have Vx1 : BgV w1 b0 s (.slice a n cap) := (Vx0.out.on.below hb1)
 (try clear xc0 xc1 xc2)
 obtain ⟨xc0, xc1, xc2, xc3⟩ := Vx1
 have Vx1 := Lib.hid (BgV.mk xc0 xc1 xc2 xc3)
 have B1 := zA0 (w := w) (have := Beh.mk B0; zbh) hb1
 have hF1 : 0 < (nl x) → w0.heap.size ≤ ab a1 := (fun h => by have hq := hf1 h; (try simp at hq); omega)
 have fr1x : 0 < (nl x) → ab a1 ≠ b0 := (fun h => by have := hF1 h; have := Vx0.out.lt; omega)
 have fo1 : 0 < (nl x) → w.heap.size ≤ ab a1 := (fun h => by have := hF1 h; have := B0.size; omega)
 clear hF1
 clear hb1 hf1
 go_wp2_with fail
 refine (HR _ a1 c1 M11.on).out.mono ?_
 rintro e w2 ⟨a2, n2, c2, rfl, M22, hn2, hb2, hf2⟩
 have Vx2 : BgV w2 b0 s (.slice a n cap) := (Vx1.out.on.below hb2)
 (try clear xc0 xc1 xc2)
 obtain ⟨xc0, xc1, xc2, xc3⟩ := Vx2
 have Vx2 := Lib.hid (BgV.mk xc0 xc1 xc2 xc3)
 have M12 : Mag w2 a1 (nl x) c1 x := Mag.below M11.on hb2
 have B2 := zA0 (w := w) (have := Beh.mk B1; zbh) hb2
 have hF2 : 0 < n2 → w1.heap.size ≤ ab a2 := (fun h => by have hq := hf2 h; (try simp at hq); omega)
 have fr2x : 0 < n2 → ab a2 ≠ b0 := (fun h => by have := hF2 h; have := Vx1.out.lt; omega)
 have fo2 : 0 < n2 → w.heap.size ≤ ab a2 := (fun h => by have := hF2 h; have := B1.size; omega)
 clear hF2
 clear hb2 hf2
 go_wp2_with fail
 go_ret
 exact ⟨rfl, (have := Beh.mk B2; zbh)⟩
end Go.Proofs.YtablcbgeeeboeaaGreatDoor
