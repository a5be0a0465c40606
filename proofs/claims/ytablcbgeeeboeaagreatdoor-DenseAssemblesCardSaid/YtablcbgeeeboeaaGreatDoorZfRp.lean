/-
  Walks: the reference's integers: Neg, Sub, FromInt.
-/
import Derived.Test.YtablcbgeeeboeaaGreatDoorZfBf
import Derived.Test.YtablcbgeeeboeaaGreatDoorZfRe
set_option maxRecDepth 100000
set_option maxHeartbeats 2000000
namespace Go.Proofs.YtablcbgeeeboeaaGreatDoor
open Go.RowKit Sp
theorem rneg_any (w : World) (s : Bool) (a : Option Addr) (n cap x : Nat) (hx : Mag w a n cap x) (hlim : n ≤ 1099511627776) :
 Calls Tryz.prog 57 #[.agg #[.bool s, .slice a n cap]] w (RetBig w (-(sgn s x))) := by
 have HR := fun W h => Lib.hid (rmake1_any W (!s) a n cap x h hlim)
 rw [sgn_not] at HR
 generalize -(sgn s x) = z at HR ⊢
 cases s <;> (
  go_enter Tryz.func57, Tryz.ntmps57
  go_wp2_with fail
  refine (HR _ (hx.below zbh)).out.mono ?_
  rintro e w1 ⟨a1, c1, rfl, hm1, hb, hf1⟩
  obtain ⟨hc1, hz1⟩ := bcell (hb.mono (show w.heap.size + 2 ≤ _ by simp))
  have hfr1 : 0 < nl z.natAbs → w.heap.size + 2 ≤ ab a1 := fun h => by have := hf1 h; simpa using this
  have hbw := below_box (w := w) zbh hb
  go_wp2_with fail
  refine bodyPost_ret (v := .agg #[.bool (decide (z < 0)), .slice a1 (nl z.natAbs) c1]) (by simp only [results, Tryz.results57]; go_simp) rfl ?_
  exact ret_big hm1 (fun h => by have := hfr1 h; omega) hbw (by omega))
theorem rsub_any (w : World) (s s' : Bool) (a a' : Option Addr) (n n' cap cap' x y : Nat) (hx : Mag w a n cap x) (hy : Mag w a' n' cap' y) (hl : n ≤ 549755813888) (hl' : n' ≤ 549755813888) :
 Calls Tryz.prog 113 #[.agg #[.bool s, .slice a n cap], .agg #[.bool s', .slice a' n' cap']] w (RetBig w (sgn s x - sgn s' y)) := by
 have hy2 : nl (-(sgn s' y)).natAbs ≤ 549755813888 := by rw [Int.natAbs_neg, sgn_natAbs]; exact Nat.le_trans (nl_le hy.lt) hl'
 have HN := fun W (h : Mag W a' n' cap' y) => Lib.hid (rneg_any W s' a' n' cap' y h (by omega))
 obtain ⟨u, hu⟩ : ∃ u, u = -(sgn s' y) := ⟨_, rfl⟩
 rw [← hu] at HN hy2
 have HA := fun W (h : Mag W a n cap x) b q (h' : Mag W b (nl u.natAbs) q u.natAbs) => Lib.hid (radd_any W s (decide (u < 0)) a b n (nl u.natAbs) cap q x u.natAbs h h' hl hy2)
 rw [sgn_self] at HA
 have hv : sgn s x - sgn s' y = sgn s x + u := by rw [hu]; omega
 rw [hv]
 generalize sgn s x + u = v at HA ⊢
 clear hv hu hy2
 go_enter Tryz.func113, Tryz.ntmps113
 go_wp2_with fail
 have I0 := ((BgV.made w 44 s (.slice a n cap)).alloc (.cells #[.bool s', (.slice a' n' cap')] 44)).alloc (.cells #[.bool false, (.slice none 0 0)] 44)
 have I1 := (BgV.made' (w.alloc (.cells #[.bool s, (.slice a n cap)] 44)) 44 s' (.slice a' n' cap') (n := w.heap.size + 1) (by rw [World.size_alloc])).alloc (.cells #[.bool false, (.slice none 0 0)] 44)
 have I2 := BgV.made' ((w.alloc (.cells #[.bool s, (.slice a n cap)] 44)).alloc (.cells #[.bool s', (.slice a' n' cap')] 44)) 44 false (.slice none 0 0) (n := w.heap.size + 1 + 1) (by rw [World.size_alloc, World.size_alloc])
 have B0 : Below w.heap.size w (((w.alloc (.cells #[.bool s, (.slice a n cap)] 44)).alloc (.cells #[.bool s', (.slice a' n' cap')] 44)).alloc (.cells #[.bool false, (.slice none 0 0)] 44)) := zbh
 have n01 : ¬ w.heap.size = w.heap.size + 1 := by omega
 have n02 : ¬ w.heap.size = w.heap.size + 1 + 1 := by omega
 have n12 : ¬ w.heap.size + 1 = w.heap.size + 1 + 1 := by omega
 have n10 : ¬ w.heap.size + 1 = w.heap.size := by omega
 have n20 : ¬ w.heap.size + 1 + 1 = w.heap.size := by omega
 have n21 : ¬ w.heap.size + 1 + 1 = w.heap.size + 1 := by omega
 generalize (((w.alloc (.cells #[.bool s, (.slice a n cap)] 44)).alloc (.cells #[.bool s', (.slice a' n' cap')] 44)).alloc (.cells #[.bool false, (.slice none 0 0)] 44)) = w0 at I0 I1 I2 B0 ⊢
 generalize hb2 : w.heap.size + 1 + 1 = b2 at I2 n01 n02 n12 n10 n20 n21 ⊢
 generalize hb1 : w.heap.size + 1 = b1 at I1 n01 n02 n12 n10 n20 n21 hb2 ⊢
 generalize hb0 : w.heap.size = b0 at I0 n01 n02 n12 n10 n20 n21 hb1 ⊢
 obtain ⟨ac0, ac1, ac2, ac3⟩ := I0
 have Va0 := Lib.hid (BgV.mk ac0 ac1 ac2 ac3)
 obtain ⟨bc0, bc1, bc2, bc3⟩ := I1
 have Vb0 := Lib.hid (BgV.mk bc0 bc1 bc2 bc3)
 obtain ⟨rc0, rc1, rc2, rc3⟩ := I2
 have Vr0 := Lib.hid (BgV.mk rc0 rc1 rc2 rc3)
 first
 | go_region_held3 (fun w' => w'.cell? ⟨b0, 0, none⟩ = some (.bool s) ∧ w'.cell? ⟨b0, 1, none⟩ = some ((.slice a n cap)) ∧ w'.cell? ⟨b1, 0, none⟩ = some (.bool s') ∧ w'.cell? ⟨b1, 1, none⟩ = some ((.slice a' n' cap'))) (first | (go_keep; done) | (go_simp; done))
  (first
   | (go_at_call 62; have xx := B1; refine (HA _ (hx.below (have := Beh.mk B1; zbh)) au cu Mu1.on).out.mono ?_; rintro e w2 ⟨av, cv, rfl, Mv2, hb2, hf2⟩; have Va2 : BgV w2 b0 s (.slice a n cap) := (Va1.out.on.below hb2); (try clear ac0 ac1 ac2); obtain ⟨ac0, ac1, ac2, ac3⟩ := Va2; have Va2 := Lib.hid (BgV.mk ac0 ac1 ac2 ac3); have Vb2 : BgV w2 b1 s' (.slice a' n' cap') := (Vb1.out.on.below hb2); (try clear bc0 bc1 bc2); obtain ⟨bc0, bc1, bc2, bc3⟩ := Vb2; have Vb2 := Lib.hid (BgV.mk bc0 bc1 bc2 bc3); have Vr2 : BgV w2 b2 false (.slice none 0 0) := (Vr1.out.on.below hb2); (try clear rc0 rc1 rc2); obtain ⟨rc0, rc1, rc2, rc3⟩ := Vr2; have Vr2 := Lib.hid (BgV.mk rc0 rc1 rc2 rc3); have B2 := below_box (w := w) (have := Beh.mk B1; zbh) hb2; have hfv : 0 < nl v.natAbs → b2 < ab av := (fun h => by have := hf2 h; have hs := B1.size; have hq := Vr1.out.lt; (try simp at this); omega); clear hb2 hf2)
   | (go_at_call 57; refine (HN _ (hy.below (have := Beh.mk B0; zbh))).out.mono ?_; rintro e w1 ⟨au, cu, rfl, Mu1, hb1, hf1⟩; have Va1 : BgV w1 b0 s (.slice a n cap) := (Va0.out.on.below hb1); (try clear ac0 ac1 ac2); obtain ⟨ac0, ac1, ac2, ac3⟩ := Va1; have Va1 := Lib.hid (BgV.mk ac0 ac1 ac2 ac3); have Vb1 : BgV w1 b1 s' (.slice a' n' cap') := (Vb0.out.on.below hb1); (try clear bc0 bc1 bc2); obtain ⟨bc0, bc1, bc2, bc3⟩ := Vb1; have Vb1 := Lib.hid (BgV.mk bc0 bc1 bc2 bc3); have Vr1 : BgV w1 b2 false (.slice none 0 0) := (Vr0.out.on.below hb1); (try clear rc0 rc1 rc2); obtain ⟨rc0, rc1, rc2, rc3⟩ := Vr1; have Vr1 := Lib.hid (BgV.mk rc0 rc1 rc2 rc3); have B1 := below_box (w := w) (have := Beh.mk B0; zbh) hb1; clear hb1 hf1)
   | fail)
 | fail "region"
 go_wp2_with fail
 refine bodyPost_ret (v := .agg #[.bool (decide (v < 0)), .slice av (nl v.natAbs) cv]) (by simp only [results, Tryz.results113]; go_simp) rfl ?_
 exact ⟨av, cv, rfl, (by repeat (with_reducible first | refine Mag.set ?_ (fun h => by have := hfv h; omega) _ _ | refine Mag.drew ?_ | refine Mag.alloc ?_ _ | refine Mag.drewN ?_ _ | exact Mv2)), (by have hszw := (B2).size; repeat (with_reducible first | refine Below.setCell ?_ (by first | omega | (simp <;> omega)) _ | refine Below.alloc ?_ (by first | omega | (simp <;> omega)) _ | refine Below.drew ?_ | refine below_drewN ?_ _ | exact B2)), fun h => by have := hfv h; omega⟩
theorem rfromInt_nat (w : World) (k : Nat) (hk : k ≤ 9223372036854775807) :
 Calls Tryz.prog 99 #[.int .i64 k] w (RetBig w (sgn false k)) := by
 have HM := Lib.hid (two_int k (by omega))
 have hlt : decide ((k : Int) < 0) = false := by simp
 have HR := fun W b (h : Mag W b 2 2 k) => Lib.hid (rmake1_any W false b 2 2 k h (by decide))
 generalize sgn false k = z at HR ⊢
 go_enter Tryz.func99, Tryz.ntmps99
 go_wp2_with fail
 have hm := HM.out (w.alloc (.cells #[.bool false, .slice none 0 0] 44))
 rw [World.size_alloc] at hm
 refine (HR _ _ hm).out.mono ?_
 rintro e w1 ⟨a1, c1, rfl, hm1, hb, hf1⟩
 obtain ⟨hc1, hz1⟩ := bcell (hb.mono (show w.heap.size + 2 ≤ _ by simp))
 have hfr1 : 0 < nl z.natAbs → w.heap.size + 2 ≤ ab a1 := fun h => by have := hf1 h; simpa using this
 have hbw := below_box (w := w) zbh hb
 go_wp2_with fail
 refine bodyPost_ret (v := .agg #[.bool (decide (z < 0)), .slice a1 (nl z.natAbs) c1]) (by simp only [results, Tryz.results99]; go_simp) rfl ?_
 exact ret_big hm1 (fun h => by have := hfr1 h; omega) hbw (by omega)
theorem rfromInt_neg (w : World) (k : Nat) (hk0 : 1 ≤ k) (hk : k ≤ 9223372036854775808) :
 Calls Tryz.prog 99 #[.int .i64 (-(k : Int))] w (RetBig w (sgn true k)) := by
 have HM := Lib.hid (two_int k (by omega))
 have hlt : decide (-(k : Int) < 0) = true := by simp; omega
 have e0 : IntKind.u64.wrap (-(k : Int)) = 18446744073709551616 - k := by rw [IntKind.wrap_u64]; omega
 have e1 : IntKind.i64.wrap (-(k : Int) + 1) = -((k : Int) - 1) := by rw [IntKind.wrap_i64]; omega
 have e2 : wrap64 (-(k : Int) + 1) = -((k : Int) - 1) := by unfold wrap64; omega
 have e3 : IntKind.i64.wrap (-(-((k : Int) - 1))) = (k : Int) - 1 := by rw [IntKind.wrap_i64]; omega
 have e4 : IntKind.u64.wrap ((k : Int) - 1) = (k : Int) - 1 := by rw [IntKind.wrap_u64]; omega
 have e5 : IntKind.u64.wrap ((k : Int) - 1 + 1) = k := by rw [IntKind.wrap_u64]; omega
 have HR := fun W b (h : Mag W b 2 2 k) => Lib.hid (rmake1_any W true b 2 2 k h (by decide))
 generalize sgn true k = z at HR ⊢
 go_enter Tryz.func99, Tryz.ntmps99
 go_wp2_with fail
 have hm := HM.out (w.alloc (.cells #[.bool false, .slice none 0 0] 44))
 rw [World.size_alloc] at hm
 refine (HR _ _ hm).out.mono ?_
 rintro e w1 ⟨a1, c1, rfl, hm1, hb, hf1⟩
 obtain ⟨hc1, hz1⟩ := bcell (hb.mono (show w.heap.size + 2 ≤ _ by simp))
 have hfr1 : 0 < nl z.natAbs → w.heap.size + 2 ≤ ab a1 := fun h => by have := hf1 h; simpa using this
 have hbw := below_box (w := w) zbh hb
 go_wp2_with fail
 refine bodyPost_ret (v := .agg #[.bool (decide (z < 0)), .slice a1 (nl z.natAbs) c1]) (by simp only [results, Tryz.results99]; go_simp) rfl ?_
 exact ret_big hm1 (fun h => by have := hfr1 h; omega) hbw (by omega)
theorem rfromInt_any (w : World) (n : Int) (h0 : -9223372036854775808 ≤ n) (h1 : n ≤ 9223372036854775807) :
 Calls Tryz.prog 99 #[.int .i64 n] w (RetBig w n) := by
 rcases Int.lt_or_le n 0 with h | h
 · obtain ⟨k, hk⟩ : ∃ k : Nat, n = -(k : Int) := ⟨n.natAbs, by omega⟩
   subst hk
   exact rfromInt_neg w k (by omega) (by omega)
 · obtain ⟨k, rfl⟩ := Int.eq_ofNat_of_zero_le h
   exact rfromInt_nat w k (by omega)
end Go.Proofs.YtablcbgeeeboeaaGreatDoor
set_option maxRecDepth 100000
set_option maxHeartbeats 2000000
namespace Go.Proofs.YtablcbgeeeboeaaGreatDoor
open Go.RowKit Sp
theorem rmulm_any (w : World) (a a' : Option Addr) (n m cap cap' x y : Nat) (hx : Mag w a n cap x) (hy : Mag w a' m cap' y) (hn : n ≤ 549755813888) (hm : m ≤ 549755813888) :
 Calls Tryz.prog 106 #[.slice a n cap, .slice a' m cap'] w (RetLimbs w (x * y) (n + m)) := by
 have hmk := make_len 42 96 infU undU ((n : Int) + m) (by omega) (by omega)
 go_enter Tryz.func106, Tryz.ntmps106
 go_wp2
 clear hmk
 have hrow0 := Row.made w (n + m) 96 (by omega)
 go_loopw [6] (fun i wr => ∃ k : Nat, k ≤ n ∧ i = .int .i64 k ∧ Row wr w.heap.size (n + m) 96 (x % B ^ k * y) ∧ Below w.heap.size w wr) (fun i _ => n - (intOf i).toNat)
 case atStart => exact ⟨0, by omega, rfl, by rw [mod_zero_pow, Nat.zero_mul]; exact hrow0, (Below.refl _ _).alloc (Nat.le_refl _) _⟩
 case round =>
  clear hrow0
  obtain ⟨k, hk, rfl, hrow, hb⟩ := hrel
  by_cases hlt : k < n
  · have hx' := hx.below hb
    have c1 := hx'.cell k hlt
    have i1 := hx'.idx 42 und siz k hlt
    have hd1 := dig_lt x k
    obtain ⟨wo, rfl⟩ : ∃ wo : World, wo = wr := ⟨_, rfl⟩
    go_wp2
    clear c1 i1
    go_loopw [7, 8] (fun c j wi => ∃ q Z cc : Nat, q ≤ m ∧ j = .int .i64 q ∧ c = .int .u64 cc ∧ cc < 4294967296 ∧ Row wi w.heap.size (n + m) 96 Z ∧ Z < B ^ (k + m) ∧
     Z + cc * B ^ (k + q) = x % B ^ k * y + dig x k * (y % B ^ q) * B ^ k ∧ Below w.heap.size w wi) (fun _ j _ => m - (intOf j).toNat)
    case atStart =>
     refine ⟨0, x % B ^ k * y, 0, by omega, rfl, rfl, by omega, hrow, ?_, ?_, hb⟩
     · rw [Bpow_add]; exact Nat.mul_lt_mul'' (mod_lt' x k) hy.lt
     · rw [mod_zero_pow]; simp
    case round =>
     obtain ⟨q, Z, cc, hq, rfl, rfl, hcc, hrowi, hZ, hinv, hbi⟩ := hrel
     have HI := Lib.hid hinv
     clear hinv hx'
     by_cases hqm : q < m
     · have hx'' := hx.below hbi
       have c1 := hx''.cell k hlt
       have i1 := hx''.idx 42 und siz k hlt
       have hy' := hy.below hbi
       have c2 := hy'.cell q hqm
       have i2 := hy'.idx 42 und siz q hqm
       have hd2 := dig_lt y q
       have hd3 := dig_lt Z (k + q)
       have c3 := hrowi.cell (k + q) (by omega)
       have f3 := hrowi.free (k + q)
       obtain ⟨m1, m2⟩ := mul_carry hd1 hd2 hd3 hcc
       rw [← Int.ofNat_le, Int.natCast_mul] at m2
       have m1' : (cc : Int) + ((dig x k : Nat) : Int) * (dig y q : Nat) + (dig Z (k + q) : Nat) < 18446744073709551616 := by rw [← Int.natCast_mul]; omega
       have m0 : (0 : Int) ≤ ((dig x k : Nat) : Int) * (dig y q : Nat) := by rw [← Int.natCast_mul]; omega
       clear m1
       obtain ⟨T, hT⟩ : ∃ T : Nat, T = dig x k * dig y q + dig Z (k + q) + cc := ⟨_, rfl⟩
       have hTI : ((T : Nat) : Int) = (cc : Nat) + ((dig x k : Nat) : Int) * (dig y q : Nat) + (dig Z (k + q) : Nat) := by rw [hT]; simp; omega
       have hTB : T / B < 4294967296 := by rw [Nat.div_lt_iff_lt_mul B_pos, B_eq]; omega
       have HTI := Lib.hid hTI
       have HT := Lib.hid hT
       clear hTI hT
       have HTB := Lib.hid hTB
       clear hTB
       go_wp2
       all_goals go_quiet (fail)
       all_goals go_wp2
       go_roundw
       case rel =>
        refine ⟨q + 1, setd Z (k + q) (T % B), T / B, by omega, by go_num, ?_, HTB.out, ?_, setd_lt (Nat.mod_lt _ B_pos) (by omega) hZ, mul_round HT.out HI.out, (show Below w.heap.size w (wr.drewN _) from ⟨hbi.os, hbi.tape, hbi.output, hbi.size, hbi.block⟩).setCell (Nat.le_refl _) _⟩
        · rw [← HTI.out, B_eq]; rfl
        · rw [← HTI.out]; exact (hrowi.drewN _).store (k + q) (T % B) (by omega) (Nat.mod_lt _ B_pos)
       case measure => simp [intOf]; omega
     · obtain rfl : q = m := by omega
       have c3 := hrowi.cell (k + q) (by omega)
       have f3 := hrowi.free (k + q)
       go_wp2
       go_roundw
       case rel => exact ⟨k + 1, by omega, by go_num, by rw [← mul_row hy.lt HI.out hZ]; exact hrowi.store (k + q) cc (by omega) hcc, hbi.setCell (Nat.le_refl _) _⟩
       case measure => simp [intOf]; omega
  · obtain rfl : k = n := by omega
    rw [mod_of_lt hx.lt] at hrow
    go_wp2
    go_ret
    exact ⟨_, _, _, rfl, hrow.mag, Nat.le_refl _, hb, fun _ => Nat.le_refl _⟩
end Go.Proofs.YtablcbgeeeboeaaGreatDoor
