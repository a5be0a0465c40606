/-
  Walks: the reference's package sparseref01: addMag, subMag, cmpMag, Add.
  Walks: the reference's package sparseref01: Add.
-/
import Derived.Test.YtgicceiimciafaaGreatDoorZwBf
set_option maxRecDepth 100000
set_option maxHeartbeats 2000000
namespace Go.Proofs.YtgicceiimciafaaGreatDoor
open Go.RowKit Sp
theorem raddm_any (w : World) (a a' : Option Addr) (n m cap cap' x y N : Nat) (hx : Mag w a n cap x) (hy : Mag w a' m cap' y) (hN : N = max n m) (hlim : N ≤ 1099511627776) :
 Calls Tryz.prog 180 #[.slice a n cap, .slice a' m cap'] w (RetLimbs w (x + y) (N + 1)) := by
 have hmx : max (n : Int) (m : Int) = (N : Int) := by omega
 have hxN : x < B ^ N := Nat.lt_of_lt_of_le hx.lt (Bpow_mono (by omega))
 have hyN : y < B ^ N := Nat.lt_of_lt_of_le hy.lt (Bpow_mono (by omega))
 have lx1 := hx.lim
 have lx2 := hx.fits
 have ly1 := hy.lim
 have ly2 := hy.fits
 have HX := Lib.hid hx
 have HY := Lib.hid hy
 have HXN := Lib.hid hxN
 have HYN := Lib.hid hyN
 have HNN := Lib.hid hN
 clear hx hy hxN hyN hN
 go_enter Tryz.func180, Tryz.ntmps180
 go_wp2
 have hown0 := World.ownsRow_nil w w.heap.size 54 1
 go_loopw [5, 6, 7] (fun v c i wr => ∃ k : Nat, k ≤ N ∧ i = .int .i64 k ∧ c = .int .u64 (car x y k) ∧ wr.ownsRow w.heap.size 54 1 v k (digs (x + y) k) ∧ Below w.heap.size w wr) (fun _ _ i _ => N - (intOf i).toNat)
 case atStart => exact ⟨0, by omega, rfl, by rw [car_zero]; rfl, hown0, Below.refl _ _⟩
 case round =>
  clear hown0
  obtain ⟨k, hk, rfl, rfl, hown, hb⟩ := hrel
  have hx' := HX.out.below hb
  have hy' := HY.out.below hb
  have hz := hb.size
  have hc1 := car_le x y k
  by_cases hlt : k < N
  · have hlt' : decide ((k : Int) < (N : Int)) = true := by simpa using hlt
    by_cases hxk : k < n
    · by_cases hyk : k < m
      · have c1 := hx'.cell k hxk
        have i1 := hx'.idx 30 und siz k hxk
        have hd1 := dig_lt x k
        have c2 := hy'.cell k hyk
        have i2 := hy'.idx 30 und siz k hyk
        have hd2 := dig_lt y k
        have HD : Hid ((((car x y k : Nat) : Int) + dig x k + dig y k) % 4294967296 = ((dig (x + y) k : Nat) : Int)) := by show _ = _; rw [dig_add, B_eq]; omega
        have HC : Hid (car x y (k + 1) = (car x y k + dig x k + dig y k) / B) := by show _ = _; rw [car_succ]; congr 1; omega
        go_wp2_with (at_builtin; refine app_u32 30 54 infU undU rfl _ _ rfl w.heap.size _ k (x + y) rfl _ _ rfl (hown.alloc _) (World.cell?_alloc_new _ _ _ _) HD.out (by omega) (by rw [World.size_alloc]; omega) ?_; intro v1 w1 hown1 hb1)
        go_roundw
        case rel => exact ⟨k + 1, by omega, by go_num, by rw [HC.out, B_eq]; go_num, hown1, (hb.alloc hz _).trans hb1⟩
        case measure => simp [intOf]; omega
      · have c1 := hx'.cell k hxk
        have i1 := hx'.idx 30 und siz k hxk
        have hd1 := dig_lt x k
        have hy2 : dig y k = 0 := dig_of_lt HY.out.lt (by omega)
        have HD : Hid ((((car x y k : Nat) : Int) + dig x k) % 4294967296 = ((dig (x + y) k : Nat) : Int)) := by show _ = _; rw [dig_add, hy2, B_eq]; omega
        have HC : Hid (car x y (k + 1) = (car x y k + dig x k) / B) := by show _ = _; rw [car_succ, hy2]; congr 1; omega
        clear hy2
        go_wp2_with (at_builtin; refine app_u32 30 54 infU undU rfl _ _ rfl w.heap.size _ k (x + y) rfl _ _ rfl (hown.alloc _) (World.cell?_alloc_new _ _ _ _) HD.out (by omega) (by rw [World.size_alloc]; omega) ?_; intro v1 w1 hown1 hb1)
        go_roundw
        case rel => exact ⟨k + 1, by omega, by go_num, by rw [HC.out, B_eq]; go_num, hown1, (hb.alloc hz _).trans hb1⟩
        case measure => simp [intOf]; omega
    · have hyk : k < m := by have := HNN.out; omega
      have hx2 : dig x k = 0 := dig_of_lt HX.out.lt (by omega)
      have c2 := hy'.cell k hyk
      have i2 := hy'.idx 30 und siz k hyk
      have hd2 := dig_lt y k
      have HD : Hid ((((car x y k : Nat) : Int) + dig y k) % 4294967296 = ((dig (x + y) k : Nat) : Int)) := by show _ = _; rw [dig_add, hx2, B_eq]; omega
      have HC : Hid (car x y (k + 1) = (car x y k + dig y k) / B) := by show _ = _; rw [car_succ, hx2]; congr 1; omega
      clear hx2
      go_wp2_with (at_builtin; refine app_u32 30 54 infU undU rfl _ _ rfl w.heap.size _ k (x + y) rfl _ _ rfl (hown.alloc _) (World.cell?_alloc_new _ _ _ _) HD.out (by omega) (by rw [World.size_alloc]; omega) ?_; intro v1 w1 hown1 hb1)
      go_roundw
      case rel => exact ⟨k + 1, by omega, by go_num, by rw [HC.out, B_eq]; go_num, hown1, (hb.alloc hz _).trans hb1⟩
      case measure => simp [intOf]; omega
  · obtain rfl : k = N := by omega
    have HD : Hid (((car x y k : Nat) : Int) = ((dig (x + y) k : Nat) : Int)) := by
     show _ = _; rw [car_top HXN.out HYN.out]
    have hlt' : decide ((k : Int) < (k : Int)) = false := by simp
    go_wp2_with (at_builtin; refine app_u32 30 54 infU undU rfl _ _ rfl w.heap.size _ k (x + y) rfl _ _ rfl (hown.alloc _) (World.cell?_alloc_new _ _ _ _) HD.out (by omega) (by rw [World.size_alloc]; omega) ?_; intro v1 w1 hown1 hb1)
    obtain ⟨a1, cp1, hv, hm1, hfr⟩ := mag_of_owns hown1 (Sp.add_lt HXN.out HYN.out (Nat.le_refl _))
    subst hv
    go_ret
    exact ⟨a1, _, cp1, rfl, hm1, Nat.le_refl _, (hb.alloc hz _).trans hb1, hfr⟩
theorem rsub_word (x y d k : Nat) (h : y + d = x) :
 IntKind.u64.wrap (IntKind.u64.wrap ((dig x k : Int) - (car y d k : Nat)) - (dig y k : Nat)) / 9223372036854775808 = ((car y d (k + 1) : Nat) : Int) := by
 subst h
 obtain ⟨h1, h2⟩ := sub_dig y d k
 have h3 := car_le y d k
 have h5 := dig_lt y k
 have h6 := dig_lt (y + d) k
 simp only [IntKind.wrap_u64]
 rw [h2]
 split <;> omega
theorem rsub_word0 (x y d k : Nat) (h : y + d = x) (h0 : dig y k = 0) :
 IntKind.u64.wrap ((dig x k : Int) - (car y d k : Nat)) / 9223372036854775808 = ((car y d (k + 1) : Nat) : Int) := by
 subst h
 obtain ⟨h1, h2⟩ := sub_dig y d k
 have h3 := car_le y d k
 have h6 := dig_lt (y + d) k
 rw [h0] at h2
 simp only [IntKind.wrap_u64]
 rw [h2]
 split <;> omega
theorem rsubm_any (w : World) (a a' : Option Addr) (n m cap cap' x y d : Nat) (hx : Mag w a n cap x) (hy : Mag w a' m cap' y) (hd : y + d = x) (hlim : n ≤ 1099511627776) :
 Calls Tryz.prog 182 #[.slice a n cap, .slice a' m cap'] w (RetLimbs w d n) := by
 have HX := Lib.hid hx
 have HY := Lib.hid hy
 have HDD := Lib.hid hd
 have ly1 := hy.lim
 have ly2 := hy.fits
 clear hx hy hd
 go_enter Tryz.func182, Tryz.ntmps182
 go_wp2
 have hown0 := World.ownsRow_nil w w.heap.size 54 1
 go_loopw [5, 6, 7] (fun v c i wr => ∃ k : Nat, k ≤ n ∧ i = .int .i64 k ∧ c = .int .u64 (car y d k) ∧ wr.ownsRow w.heap.size 54 1 v k (digs d k) ∧ Below w.heap.size w wr) (fun _ _ i _ => n - (intOf i).toNat)
 case atStart => exact ⟨0, by omega, rfl, by rw [car_zero]; rfl, hown0, Below.refl _ _⟩
 case round =>
  clear hown0
  obtain ⟨k, hk, rfl, rfl, hown, hb⟩ := hrel
  have hx' := HX.out.below hb
  have hy' := HY.out.below hb
  have hz := hb.size
  have hc1 := car_le y d k
  by_cases hlt : k < n
  · have c1 := hx'.cell k hlt
    have i1 := hx'.idx 30 und siz k hlt
    have hd1 := dig_lt x k
    by_cases hkm : k < m
    · have c2 := hy'.cell k hkm
      have i2 := hy'.idx 30 und siz k hkm
      have hd2 := dig_lt y k
      have HD := Lib.hid (sub_word x y d k HDD.out).1
      have HC := Lib.hid (rsub_word x y d k HDD.out)
      go_wp2_with (at_builtin; refine app_u32 30 54 infU undU rfl _ _ rfl w.heap.size _ k (d) rfl _ _ rfl (hown.alloc _) (World.cell?_alloc_new _ _ _ _) HD.out (by omega) (by rw [World.size_alloc]; omega) ?_; intro v1 w1 hown1 hb1)
      go_roundw
      case rel => exact ⟨k + 1, by omega, by go_num, by rw [HC.out], hown1, (hb.alloc hz _).trans hb1⟩
      case measure => simp [intOf]; omega
    · have hy2 : dig y k = 0 := dig_of_lt HY.out.lt (by omega)
      have HD := Lib.hid (sub_word0 x y d k HDD.out hy2).1
      have HC := Lib.hid (rsub_word0 x y d k HDD.out hy2)
      clear hy2
      go_wp2_with (at_builtin; refine app_u32 30 54 infU undU rfl _ _ rfl w.heap.size _ k (d) rfl _ _ rfl (hown.alloc _) (World.cell?_alloc_new _ _ _ _) HD.out (by omega) (by rw [World.size_alloc]; omega) ?_; intro v1 w1 hown1 hb1)
      go_roundw
      case rel => exact ⟨k + 1, by omega, by go_num, by rw [HC.out], hown1, (hb.alloc hz _).trans hb1⟩
      case measure => simp [intOf]; omega
  · obtain rfl : k = n := by omega
    have hdl : d < B ^ k := Nat.lt_of_le_of_lt (by have := HDD.out; omega) HX.out.lt
    obtain ⟨a1, cp1, hv, hm1, hfr⟩ := mag_of_owns hown hdl
    subst hv
    go_wp2
    go_ret
    exact ⟨a1, k, cp1, rfl, hm1, Nat.le_refl _, hb, hfr⟩
theorem rcmpm_any (w : World) (a a' : Option Addr) (n m cap cap' x y : Nat) (hx : Mag w a n cap x) (hy : Mag w a' m cap' y) (hn : n = nl x) (hm : m = nl y) :
 Calls Tryz.prog 181 #[.slice a n cap, .slice a' m cap'] w fun e w' => e = .returned (.int .i64 (cmpI x y)) ∧ ∃ q, w' = w.drewN q := by
 have l1 := hx.lim
 have l2 := hy.lim
 have l3 := hx.fits
 have l4 := hy.fits
 by_cases hnm : n = m
 · subst hnm
   clear hn hm
   go_enter Tryz.func181, Tryz.ntmps181
   go_wp2
   go_loopw [5] (fun t wr => ∃ k : Nat, k ≤ n ∧ x / B ^ k = y / B ^ k ∧ t = .int .i64 ((k : Int) - 1) ∧ ∃ q, wr = w.drewN q) (fun t _ => (intOf t + 1).toNat)
   case atStart => exact ⟨n, Nat.le_refl _, by rw [Nat.div_eq_of_lt hx.lt, Nat.div_eq_of_lt hy.lt], rfl, 0, rfl⟩
   case round =>
    obtain ⟨k, hk, hq, rfl, q, rfl⟩ := hrel
    have HQ := Lib.hid hq
    clear hq
    by_cases h0 : 0 < k
    · obtain ⟨j, rfl⟩ : ∃ j, k = j + 1 := ⟨k - 1, by omega⟩
      have c1 := hx.cell j (by omega)
      have c2 := hy.cell j (by omega)
      have i1 := hx.idx 30 und siz j (by omega)
      have i2 := hy.idx 30 und siz j (by omega)
      go_wp2
      go_quiet (fail)
      go_wp2
      · have hd := bne_true (by assumption : (((dig x j : Nat) : Int) != ((dig y j : Nat) : Int)) = true)
        have hcd := cmp_dig HQ.out hd
        have HCD := Lib.hid hcd
        clear hcd
        go_quiet (fail)
        go_wp2
        · go_ret
          refine ⟨?_, _, by rw [World.drewN_drewN, World.drewN_drewN]⟩
          rw [← HCD.out, cmpI_lt (by first | assumption | omega)]
          rfl
        · go_ret
          refine ⟨?_, _, by rw [World.drewN_drewN, World.drewN_drewN]⟩
          rw [← HCD.out, cmpI_gt (by omega)]
          rfl
      · have hd := bne_false (by assumption : (((dig x j : Nat) : Int) != ((dig y j : Nat) : Int)) = false)
        go_roundw
        case rel => exact ⟨j, by omega, div_dig HQ.out hd, rfl, _, rfl⟩
        case measure => simp [intOf]
    · obtain rfl : k = 0 := by omega
      go_wp2
      go_ret
      refine ⟨?_, _, rfl⟩
      have : x = y := by have := HQ.out; simpa using this
      rw [this, cmpI_eq rfl]
      rfl
 · have hnm' : ((n : Int) != (m : Int)) = true := by rw [bne_iff_ne]; omega
   have hc := cmp_nl (x := x) (y := y) (by omega)
   rw [← hn, ← hm] at hc
   have HC := Lib.hid hc
   clear hn hm hc
   by_cases hlt : n < m
   · have hl : decide ((n : Int) < (m : Int)) = true := by simpa using hlt
     go_enter Tryz.func181, Tryz.ntmps181
     go_wp2
     go_ret
     refine ⟨?_, 0, rfl⟩
     rw [← HC.out, cmpI_lt (by omega)]
     rfl
   · have hl : decide ((n : Int) < (m : Int)) = false := by simp; omega
     go_enter Tryz.func181, Tryz.ntmps181
     go_wp2
     go_ret
     refine ⟨?_, 0, rfl⟩
     rw [← HC.out, cmpI_gt (by omega)]
     rfl
theorem radd_eq (w : World) (s s' : Bool) (a a' : Option Addr) (n n' cap cap' x y : Nat) (hx : Mag w a n cap x) (hy : Mag w a' n' cap' y) (hl : n ≤ 549755813888) (hl' : n' ≤ 549755813888) (v : Int) (hs : (s == s') = true) (hv : v = sgn s (x + y)) :
 Calls Tryz.prog 148 #[.agg #[.bool s, .slice a n cap], .agg #[.bool s', .slice a' n' cap']] w (RetBig w v) := by
 have nx := nl_le hx.lt
 have ny := nl_le hy.lt
 have HT := fun W h => Lib.hid (rtrim_any W a n cap x h (by omega))
 have HT' := fun W h => Lib.hid (rtrim_any W a' n' cap' y h (by omega))
 obtain ⟨N, hN⟩ : ∃ N, N = max (nl x) (nl y) := ⟨_, rfl⟩
 obtain ⟨z, hz⟩ : ∃ z, z = x + y := ⟨_, rfl⟩
 have HD := fun W b b' q q' h h' => Lib.hid (raddm_any W b b' (nl x) (nl y) q q' x y N h h' hN (by omega))
 have HM := fun W b m q h (hm : m ≤ N + 1) => Lib.hid (rmake1_any W s b m q z h (by omega))
 rw [← hz] at HD
 rw [hz, ← hv, ← hz] at HM
 clear hz hv hN
 have e1 : ¬ w.heap.size + 1 = w.heap.size := by omega
 have e2 : ¬ w.heap.size + 1 + 1 = w.heap.size := by omega
 have e3 : ¬ w.heap.size + 1 + 1 = w.heap.size + 1 := by omega
 have n1 : ¬ w.heap.size = w.heap.size + 1 := by omega
 have n2 : ¬ w.heap.size = w.heap.size + 1 + 1 := by omega
 have n3 : ¬ w.heap.size + 1 = w.heap.size + 1 + 1 := by omega
 go_enter Tryz.func148, Tryz.ntmps148
 go_wp2_with fail
 have Ix := ((BgV.made w 32 s (.slice a n cap)).alloc (.cells #[.bool s', .slice a' n' cap'] 32)).alloc (.cells #[.bool false, .slice none 0 0] 32)
 have Iy := (BgV.made' (w.alloc (.cells #[.bool s, .slice a n cap] 32)) 32 s' (.slice a' n' cap') (n := w.heap.size + 1) (by rw [World.size_alloc])).alloc (.cells #[.bool false, .slice none 0 0] 32)
 have Ir := BgV.made' ((w.alloc (.cells #[.bool s, .slice a n cap] 32)).alloc (.cells #[.bool s', .slice a' n' cap'] 32)) 32 false (.slice none 0 0) (n := w.heap.size + 1 + 1) (by rw [World.size_alloc, World.size_alloc])
 have B0 : Below w.heap.size w (((w.alloc (.cells #[.bool s, .slice a n cap] 32)).alloc (.cells #[.bool s', .slice a' n' cap'] 32)).alloc (.cells #[.bool false, .slice none 0 0] 32)) := zbh
 have hb2w : w.heap.size ≤ w.heap.size + 1 + 1 := by omega
 generalize (((w.alloc (.cells #[.bool s, .slice a n cap] 32)).alloc (.cells #[.bool s', .slice a' n' cap'] 32)).alloc (.cells #[.bool false, .slice none 0 0] 32)) = w0 at Ix Iy Ir B0 ⊢
 generalize w.heap.size + 1 + 1 = b2 at Ir hb2w e2 e3 n2 n3 ⊢
 generalize w.heap.size + 1 = b1 at Iy e1 e3 n1 n3 ⊢
 generalize hb0 : w.heap.size = b0 at Ix e1 e2 n1 n2 ⊢
 obtain ⟨xc0, xc1, xc2, xc3⟩ := Ix
 have Vx0 := Lib.hid (BgV.mk xc0 xc1 xc2 xc3)
 obtain ⟨yc0, yc1, yc2, yc3⟩ := Iy
 have Vy0 := Lib.hid (BgV.mk yc0 yc1 yc2 yc3)
 obtain ⟨rc0, rc1, rc2, rc3⟩ := Ir
 have Vr0 := Lib.hid (BgV.mk rc0 rc1 rc2 rc3)
 first
 | go_region_held3 (fun w' => w'.cell? ⟨b0, 0, none⟩ = some (.bool s) ∧ w'.cell? ⟨b0, 1, none⟩ = some ((.slice a n cap)) ∧ w'.cell? ⟨b1, 0, none⟩ = some (.bool s') ∧ w'.cell? ⟨b1, 1, none⟩ = some ((.slice a' n' cap'))) (first | (go_keep; done) | (go_simp; done))
  (first
   | (go_at_call 179; have xx := B1; refine (HT' _ (hy.below (have := Beh.mk B1; zbh))).out.mono ?_; rintro e w2 ⟨a2, c2, rfl, M22, hb2, hf2⟩; have Vx2 : BgV w2 b0 s (.slice a n cap) := (Vx1.out.on.below hb2); obtain ⟨xc0, xc1, xc2, xc3⟩ := Vx2; have Vx2 := Lib.hid (BgV.mk xc0 xc1 xc2 xc3); have Vy2 : BgV w2 b1 s' (.slice a' n' cap') := (Vy1.out.on.below hb2); obtain ⟨yc0, yc1, yc2, yc3⟩ := Vy2; have Vy2 := Lib.hid (BgV.mk yc0 yc1 yc2 yc3); have Vr2 : BgV w2 b2 false (.slice none 0 0) := (Vr1.out.on.below hb2); obtain ⟨rc0, rc1, rc2, rc3⟩ := Vr2; have Vr2 := Lib.hid (BgV.mk rc0 rc1 rc2 rc3); have M12 : Mag w2 a1 (nl x) c1 x := Mag.below M11.on hb2; have B2 := below_box (w := w) (have := Beh.mk B1; zbh) hb2; clear hb2 hf2)
   | (go_at_call 179; refine (HT _ (hx.below (have := Beh.mk B0; zbh))).out.mono ?_; rintro e w1 ⟨a1, c1, rfl, M11, hb1, hf1⟩; have Vx1 : BgV w1 b0 s (.slice a n cap) := (Vx0.out.on.below hb1); obtain ⟨xc0, xc1, xc2, xc3⟩ := Vx1; have Vx1 := Lib.hid (BgV.mk xc0 xc1 xc2 xc3); have Vy1 : BgV w1 b1 s' (.slice a' n' cap') := (Vy0.out.on.below hb1); obtain ⟨yc0, yc1, yc2, yc3⟩ := Vy1; have Vy1 := Lib.hid (BgV.mk yc0 yc1 yc2 yc3); have Vr1 : BgV w1 b2 false (.slice none 0 0) := (Vr0.out.on.below hb1); obtain ⟨rc0, rc1, rc2, rc3⟩ := Vr1; have Vr1 := Lib.hid (BgV.mk rc0 rc1 rc2 rc3); have B1 := below_box (w := w) (have := Beh.mk B0; zbh) hb1; clear hb1 hf1)
   | fail)
 | fail "region"
 go_wp2_with fail
 first
 | go_region_held3 (fun w' => w'.cell? ⟨b0, 0, none⟩ = some (.bool s) ∧ w'.cell? ⟨b0, 1, none⟩ = some ((.slice a n cap))) (first | (go_keep; done) | (go_simp; done))
  (first
   | (go_at_call 162; have xx := B3; refine (HM _ a3 n3 c3 M33.on hn3).out.mono ?_; rintro e w4 ⟨a4, c4, rfl, M44, hb4, hf4⟩; have Vx4 : BgV w4 b0 s (.slice a n cap) := (Vx3.out.on.below hb4); obtain ⟨xc0, xc1, xc2, xc3⟩ := Vx4; have Vx4 := Lib.hid (BgV.mk xc0 xc1 xc2 xc3); have Vy4 : BgV w4 b1 s' (.slice a' n' cap') := (Vy3.out.on.below hb4); obtain ⟨yc0, yc1, yc2, yc3⟩ := Vy4; have Vy4 := Lib.hid (BgV.mk yc0 yc1 yc2 yc3); have Vr4 : BgV w4 b2 false (.slice none 0 0) := (Vr3.out.on.below hb4); obtain ⟨rc0, rc1, rc2, rc3⟩ := Vr4; have Vr4 := Lib.hid (BgV.mk rc0 rc1 rc2 rc3); have M14 : Mag w4 a1 (nl x) c1 x := Mag.below M13.on hb4; have M24 : Mag w4 a2 (nl y) c2 y := Mag.below M23.on hb4; have M34 : Mag w4 a3 n3 c3 z := Mag.below M33.on hb4; have B4 := below_box (w := w) (have := Beh.mk B3; zbh) hb4; have fr4 : 0 < nl v.natAbs → b2 < ab a4 := (fun h => by have := hf4 h; (try simp at this); have := Vr3.out.lt; omega); clear hb4 hf4)
   | (go_at_call 180; have xx := B2; refine (HD _ a1 a2 c1 c2 M12.on M22.on).out.mono ?_; rintro e w3 ⟨a3, n3, c3, rfl, M33, hn3, hb3, hf3⟩; have Vx3 : BgV w3 b0 s (.slice a n cap) := (Vx2.out.on.below hb3); obtain ⟨xc0, xc1, xc2, xc3⟩ := Vx3; have Vx3 := Lib.hid (BgV.mk xc0 xc1 xc2 xc3); have Vy3 : BgV w3 b1 s' (.slice a' n' cap') := (Vy2.out.on.below hb3); obtain ⟨yc0, yc1, yc2, yc3⟩ := Vy3; have Vy3 := Lib.hid (BgV.mk yc0 yc1 yc2 yc3); have Vr3 : BgV w3 b2 false (.slice none 0 0) := (Vr2.out.on.below hb3); obtain ⟨rc0, rc1, rc2, rc3⟩ := Vr3; have Vr3 := Lib.hid (BgV.mk rc0 rc1 rc2 rc3); have M13 : Mag w3 a1 (nl x) c1 x := Mag.below M12.on hb3; have M23 : Mag w3 a2 (nl y) c2 y := Mag.below M22.on hb3; have B3 := below_box (w := w) (have := Beh.mk B2; zbh) hb3; clear hb3 hf3)
   | fail)
 | fail "region"
 all_goals go_wp2_with fail
 all_goals (
  refine bodyPost_ret (v := .agg #[.bool (decide (v < 0)), .slice a4 (nl v.natAbs) c4]) (by simp only [results, Tryz.results148]; go_simp) rfl ?_
  exact ⟨a4, c4, rfl, (by repeat (with_reducible first | refine Mag.set ?_ (fun h => by have := fr4 h; omega) _ _ | exact M44)), (by have hszw := (B4).size; repeat (with_reducible first | refine Below.setCell ?_ (by first | omega | (simp <;> omega)) _ | refine Below.alloc ?_ (by first | omega | (simp <;> omega)) _ | refine Below.drew ?_ | refine below_drewN ?_ _ | exact B4)), fun h => by have := fr4 h; omega⟩)
theorem radd_ge (w : World) (s s' : Bool) (a a' : Option Addr) (n n' cap cap' x y : Nat) (hx : Mag w a n cap x) (hy : Mag w a' n' cap' y) (hl : n ≤ 549755813888) (hl' : n' ≤ 549755813888) (v : Int) (hs : (s == s') = false) (hxy : y ≤ x) (hv : v = sgn s (x - y)) :
 Calls Tryz.prog 148 #[.agg #[.bool s, .slice a n cap], .agg #[.bool s', .slice a' n' cap']] w (RetBig w v) := by
 have nx := nl_le hx.lt
 have ny := nl_le hy.lt
 have HT := fun W h => Lib.hid (rtrim_any W a n cap x h (by omega))
 have HT' := fun W h => Lib.hid (rtrim_any W a' n' cap' y h (by omega))
 obtain ⟨z, hz⟩ : ∃ z, z = x - y := ⟨_, rfl⟩
 have HC := fun W b b' q q' h h' => Lib.hid (rcmpm_any W b b' (nl x) (nl y) q q' x y h h' rfl rfl)
 have hg : decide ((0 : Int) ≤ cmpI x y) = true := by have := cmpI_nonneg (m := (x : Int)) (n := y) (by omega); simpa using this
 have HD := fun W b b' q q' h h' => Lib.hid (rsubm_any W b b' (nl x) (nl y) q q' x y z h h' (by omega) (by omega))
 have HM := fun W b m q h (hm : m ≤ nl x) => Lib.hid (rmake1_any W s b m q z h (by omega))
 rw [hz, ← hv, ← hz] at HM
 generalize cmpI (x : Int) (y : Int) = g at HC hg
 clear hz hv
 have e1 : ¬ w.heap.size + 1 = w.heap.size := by omega
 have e2 : ¬ w.heap.size + 1 + 1 = w.heap.size := by omega
 have e3 : ¬ w.heap.size + 1 + 1 = w.heap.size + 1 := by omega
 have n1 : ¬ w.heap.size = w.heap.size + 1 := by omega
 have n2 : ¬ w.heap.size = w.heap.size + 1 + 1 := by omega
 have n3 : ¬ w.heap.size + 1 = w.heap.size + 1 + 1 := by omega
 go_enter Tryz.func148, Tryz.ntmps148
 go_wp2_with fail
 have Ix := ((BgV.made w 32 s (.slice a n cap)).alloc (.cells #[.bool s', .slice a' n' cap'] 32)).alloc (.cells #[.bool false, .slice none 0 0] 32)
 have Iy := (BgV.made' (w.alloc (.cells #[.bool s, .slice a n cap] 32)) 32 s' (.slice a' n' cap') (n := w.heap.size + 1) (by rw [World.size_alloc])).alloc (.cells #[.bool false, .slice none 0 0] 32)
 have Ir := BgV.made' ((w.alloc (.cells #[.bool s, .slice a n cap] 32)).alloc (.cells #[.bool s', .slice a' n' cap'] 32)) 32 false (.slice none 0 0) (n := w.heap.size + 1 + 1) (by rw [World.size_alloc, World.size_alloc])
 have B0 : Below w.heap.size w (((w.alloc (.cells #[.bool s, .slice a n cap] 32)).alloc (.cells #[.bool s', .slice a' n' cap'] 32)).alloc (.cells #[.bool false, .slice none 0 0] 32)) := zbh
 have hb2w : w.heap.size ≤ w.heap.size + 1 + 1 := by omega
 generalize (((w.alloc (.cells #[.bool s, .slice a n cap] 32)).alloc (.cells #[.bool s', .slice a' n' cap'] 32)).alloc (.cells #[.bool false, .slice none 0 0] 32)) = w0 at Ix Iy Ir B0 ⊢
 generalize w.heap.size + 1 + 1 = b2 at Ir hb2w e2 e3 n2 n3 ⊢
 generalize w.heap.size + 1 = b1 at Iy e1 e3 n1 n3 ⊢
 generalize hb0 : w.heap.size = b0 at Ix e1 e2 n1 n2 ⊢
 obtain ⟨xc0, xc1, xc2, xc3⟩ := Ix
 have Vx0 := Lib.hid (BgV.mk xc0 xc1 xc2 xc3)
 obtain ⟨yc0, yc1, yc2, yc3⟩ := Iy
 have Vy0 := Lib.hid (BgV.mk yc0 yc1 yc2 yc3)
 obtain ⟨rc0, rc1, rc2, rc3⟩ := Ir
 have Vr0 := Lib.hid (BgV.mk rc0 rc1 rc2 rc3)
 first
 | go_region_held3 (fun w' => w'.cell? ⟨b0, 0, none⟩ = some (.bool s) ∧ w'.cell? ⟨b0, 1, none⟩ = some ((.slice a n cap)) ∧ w'.cell? ⟨b1, 0, none⟩ = some (.bool s') ∧ w'.cell? ⟨b1, 1, none⟩ = some ((.slice a' n' cap'))) (first | (go_keep; done) | (go_simp; done))
  (first
   | (go_at_call 179; have xx := B1; refine (HT' _ (hy.below (have := Beh.mk B1; zbh))).out.mono ?_; rintro e w2 ⟨a2, c2, rfl, M22, hb2, hf2⟩; have Vx2 : BgV w2 b0 s (.slice a n cap) := (Vx1.out.on.below hb2); obtain ⟨xc0, xc1, xc2, xc3⟩ := Vx2; have Vx2 := Lib.hid (BgV.mk xc0 xc1 xc2 xc3); have Vy2 : BgV w2 b1 s' (.slice a' n' cap') := (Vy1.out.on.below hb2); obtain ⟨yc0, yc1, yc2, yc3⟩ := Vy2; have Vy2 := Lib.hid (BgV.mk yc0 yc1 yc2 yc3); have Vr2 : BgV w2 b2 false (.slice none 0 0) := (Vr1.out.on.below hb2); obtain ⟨rc0, rc1, rc2, rc3⟩ := Vr2; have Vr2 := Lib.hid (BgV.mk rc0 rc1 rc2 rc3); have M12 : Mag w2 a1 (nl x) c1 x := Mag.below M11.on hb2; have B2 := below_box (w := w) (have := Beh.mk B1; zbh) hb2; clear hb2 hf2)
   | (go_at_call 179; refine (HT _ (hx.below (have := Beh.mk B0; zbh))).out.mono ?_; rintro e w1 ⟨a1, c1, rfl, M11, hb1, hf1⟩; have Vx1 : BgV w1 b0 s (.slice a n cap) := (Vx0.out.on.below hb1); obtain ⟨xc0, xc1, xc2, xc3⟩ := Vx1; have Vx1 := Lib.hid (BgV.mk xc0 xc1 xc2 xc3); have Vy1 : BgV w1 b1 s' (.slice a' n' cap') := (Vy0.out.on.below hb1); obtain ⟨yc0, yc1, yc2, yc3⟩ := Vy1; have Vy1 := Lib.hid (BgV.mk yc0 yc1 yc2 yc3); have Vr1 : BgV w1 b2 false (.slice none 0 0) := (Vr0.out.on.below hb1); obtain ⟨rc0, rc1, rc2, rc3⟩ := Vr1; have Vr1 := Lib.hid (BgV.mk rc0 rc1 rc2 rc3); have B1 := below_box (w := w) (have := Beh.mk B0; zbh) hb1; clear hb1 hf1)
   | fail)
 | fail "region"
 go_wp2_with fail
 refine (HC _ a1 a2 c1 c2 M12.on M22.on).out.mono ?_
 rintro e w3 ⟨rfl, qq, hqq⟩
 have hb3 : Below w2.heap.size w2 w3 := by rw [hqq]; exact below_drewN (Below.refl _ _) _
 clear hqq
 have Vx3 : BgV w3 b0 s (.slice a n cap) := (Vx2.out.on.below hb3)
 obtain ⟨xc0, xc1, xc2, xc3⟩ := Vx3
 have Vx3 := Lib.hid (BgV.mk xc0 xc1 xc2 xc3)
 have Vy3 : BgV w3 b1 s' (.slice a' n' cap') := (Vy2.out.on.below hb3)
 obtain ⟨yc0, yc1, yc2, yc3⟩ := Vy3
 have Vy3 := Lib.hid (BgV.mk yc0 yc1 yc2 yc3)
 have Vr3 : BgV w3 b2 false (.slice none 0 0) := (Vr2.out.on.below hb3)
 obtain ⟨rc0, rc1, rc2, rc3⟩ := Vr3
 have Vr3 := Lib.hid (BgV.mk rc0 rc1 rc2 rc3)
 have M13 : Mag w3 a1 (nl x) c1 x := Mag.below M12.on hb3
 have M23 : Mag w3 a2 (nl y) c2 y := Mag.below M22.on hb3
 have B3 := below_box (w := w) (have := Beh.mk B2; zbh) hb3
 go_wp2_with fail
 first
 | go_region_held3 (fun w' => w'.cell? ⟨b0, 0, none⟩ = some (.bool s) ∧ w'.cell? ⟨b0, 1, none⟩ = some ((.slice a n cap))) (first | (go_keep; done) | (go_simp; done))
  (first
   | (go_at_call 162; have xx := B4; refine (HM _ a3 n3 c3 M34.on hn3).out.mono ?_; rintro e w5 ⟨a4, c4, rfl, M45, hb5, hf5⟩; have Vx5 : BgV w5 b0 s (.slice a n cap) := (Vx4.out.on.below hb5); obtain ⟨xc0, xc1, xc2, xc3⟩ := Vx5; have Vx5 := Lib.hid (BgV.mk xc0 xc1 xc2 xc3); have Vy5 : BgV w5 b1 s' (.slice a' n' cap') := (Vy4.out.on.below hb5); obtain ⟨yc0, yc1, yc2, yc3⟩ := Vy5; have Vy5 := Lib.hid (BgV.mk yc0 yc1 yc2 yc3); have Vr5 : BgV w5 b2 false (.slice none 0 0) := (Vr4.out.on.below hb5); obtain ⟨rc0, rc1, rc2, rc3⟩ := Vr5; have Vr5 := Lib.hid (BgV.mk rc0 rc1 rc2 rc3); have M15 : Mag w5 a1 (nl x) c1 x := Mag.below M14.on hb5; have M25 : Mag w5 a2 (nl y) c2 y := Mag.below M24.on hb5; have M35 : Mag w5 a3 n3 c3 z := Mag.below M34.on hb5; have B5 := below_box (w := w) (have := Beh.mk B4; zbh) hb5; have fr4 : 0 < nl v.natAbs → b2 < ab a4 := (fun h => by have := hf5 h; (try simp at this); have := Vr4.out.lt; omega); clear hb5 hf5)
   | (go_at_call 182; have xx := B3; refine (HD _ a1 a2 c1 c2 M13.on M23.on).out.mono ?_; rintro e w4 ⟨a3, n3, c3, rfl, M34, hn3, hb4, hf4⟩; have Vx4 : BgV w4 b0 s (.slice a n cap) := (Vx3.out.on.below hb4); obtain ⟨xc0, xc1, xc2, xc3⟩ := Vx4; have Vx4 := Lib.hid (BgV.mk xc0 xc1 xc2 xc3); have Vy4 : BgV w4 b1 s' (.slice a' n' cap') := (Vy3.out.on.below hb4); obtain ⟨yc0, yc1, yc2, yc3⟩ := Vy4; have Vy4 := Lib.hid (BgV.mk yc0 yc1 yc2 yc3); have Vr4 : BgV w4 b2 false (.slice none 0 0) := (Vr3.out.on.below hb4); obtain ⟨rc0, rc1, rc2, rc3⟩ := Vr4; have Vr4 := Lib.hid (BgV.mk rc0 rc1 rc2 rc3); have M14 : Mag w4 a1 (nl x) c1 x := Mag.below M13.on hb4; have M24 : Mag w4 a2 (nl y) c2 y := Mag.below M23.on hb4; have B4 := below_box (w := w) (have := Beh.mk B3; zbh) hb4; clear hb4 hf4)
   | fail)
 | fail "region"
 all_goals go_wp2_with fail
 all_goals (
  refine bodyPost_ret (v := .agg #[.bool (decide (v < 0)), .slice a4 (nl v.natAbs) c4]) (by simp only [results, Tryz.results148]; go_simp) rfl ?_
  exact ⟨a4, c4, rfl, (by repeat (with_reducible first | refine Mag.set ?_ (fun h => by have := fr4 h; omega) _ _ | exact M45)), (by have hszw := (B5).size; repeat (with_reducible first | refine Below.setCell ?_ (by first | omega | (simp <;> omega)) _ | refine Below.alloc ?_ (by first | omega | (simp <;> omega)) _ | refine Below.drew ?_ | refine below_drewN ?_ _ | exact B5)), fun h => by have := fr4 h; omega⟩)
theorem radd_lt (w : World) (s s' : Bool) (a a' : Option Addr) (n n' cap cap' x y : Nat) (hx : Mag w a n cap x) (hy : Mag w a' n' cap' y) (hl : n ≤ 549755813888) (hl' : n' ≤ 549755813888) (v : Int) (hs : (s == s') = false) (hxy : x < y) (hv : v = sgn s' (y - x)) :
 Calls Tryz.prog 148 #[.agg #[.bool s, .slice a n cap], .agg #[.bool s', .slice a' n' cap']] w (RetBig w v) := by
 have nx := nl_le hx.lt
 have ny := nl_le hy.lt
 have HT := fun W h => Lib.hid (rtrim_any W a n cap x h (by omega))
 have HT' := fun W h => Lib.hid (rtrim_any W a' n' cap' y h (by omega))
 obtain ⟨z, hz⟩ : ∃ z, z = y - x := ⟨_, rfl⟩
 have HC := fun W b b' q q' h h' => Lib.hid (rcmpm_any W b b' (nl x) (nl y) q q' x y h h' rfl rfl)
 have hg : decide ((0 : Int) ≤ cmpI x y) = false := by rw [cmpI_lt (by omega)]; rfl
 have HD := fun W b b' q q' h h' => Lib.hid (rsubm_any W b b' (nl y) (nl x) q q' y x z h h' (by omega) (by omega))
 have HM := fun W b m q h (hm : m ≤ nl y) => Lib.hid (rmake1_any W s' b m q z h (by omega))
 rw [hz, ← hv, ← hz] at HM
 generalize cmpI (x : Int) (y : Int) = g at HC hg
 clear hz hv
 have e1 : ¬ w.heap.size + 1 = w.heap.size := by omega
 have e2 : ¬ w.heap.size + 1 + 1 = w.heap.size := by omega
 have e3 : ¬ w.heap.size + 1 + 1 = w.heap.size + 1 := by omega
 have n1 : ¬ w.heap.size = w.heap.size + 1 := by omega
 have n2 : ¬ w.heap.size = w.heap.size + 1 + 1 := by omega
 have n3 : ¬ w.heap.size + 1 = w.heap.size + 1 + 1 := by omega
 go_enter Tryz.func148, Tryz.ntmps148
 go_wp2_with fail
 have Ix := ((BgV.made w 32 s (.slice a n cap)).alloc (.cells #[.bool s', .slice a' n' cap'] 32)).alloc (.cells #[.bool false, .slice none 0 0] 32)
 have Iy := (BgV.made' (w.alloc (.cells #[.bool s, .slice a n cap] 32)) 32 s' (.slice a' n' cap') (n := w.heap.size + 1) (by rw [World.size_alloc])).alloc (.cells #[.bool false, .slice none 0 0] 32)
 have Ir := BgV.made' ((w.alloc (.cells #[.bool s, .slice a n cap] 32)).alloc (.cells #[.bool s', .slice a' n' cap'] 32)) 32 false (.slice none 0 0) (n := w.heap.size + 1 + 1) (by rw [World.size_alloc, World.size_alloc])
 have B0 : Below w.heap.size w (((w.alloc (.cells #[.bool s, .slice a n cap] 32)).alloc (.cells #[.bool s', .slice a' n' cap'] 32)).alloc (.cells #[.bool false, .slice none 0 0] 32)) := zbh
 have hb2w : w.heap.size ≤ w.heap.size + 1 + 1 := by omega
 generalize (((w.alloc (.cells #[.bool s, .slice a n cap] 32)).alloc (.cells #[.bool s', .slice a' n' cap'] 32)).alloc (.cells #[.bool false, .slice none 0 0] 32)) = w0 at Ix Iy Ir B0 ⊢
 generalize w.heap.size + 1 + 1 = b2 at Ir hb2w e2 e3 n2 n3 ⊢
 generalize w.heap.size + 1 = b1 at Iy e1 e3 n1 n3 ⊢
 generalize hb0 : w.heap.size = b0 at Ix e1 e2 n1 n2 ⊢
 obtain ⟨xc0, xc1, xc2, xc3⟩ := Ix
 have Vx0 := Lib.hid (BgV.mk xc0 xc1 xc2 xc3)
 obtain ⟨yc0, yc1, yc2, yc3⟩ := Iy
 have Vy0 := Lib.hid (BgV.mk yc0 yc1 yc2 yc3)
 obtain ⟨rc0, rc1, rc2, rc3⟩ := Ir
 have Vr0 := Lib.hid (BgV.mk rc0 rc1 rc2 rc3)
 first
 | go_region_held3 (fun w' => w'.cell? ⟨b0, 0, none⟩ = some (.bool s) ∧ w'.cell? ⟨b0, 1, none⟩ = some ((.slice a n cap)) ∧ w'.cell? ⟨b1, 0, none⟩ = some (.bool s') ∧ w'.cell? ⟨b1, 1, none⟩ = some ((.slice a' n' cap'))) (first | (go_keep; done) | (go_simp; done))
  (first
   | (go_at_call 179; have xx := B1; refine (HT' _ (hy.below (have := Beh.mk B1; zbh))).out.mono ?_; rintro e w2 ⟨a2, c2, rfl, M22, hb2, hf2⟩; have Vx2 : BgV w2 b0 s (.slice a n cap) := (Vx1.out.on.below hb2); obtain ⟨xc0, xc1, xc2, xc3⟩ := Vx2; have Vx2 := Lib.hid (BgV.mk xc0 xc1 xc2 xc3); have Vy2 : BgV w2 b1 s' (.slice a' n' cap') := (Vy1.out.on.below hb2); obtain ⟨yc0, yc1, yc2, yc3⟩ := Vy2; have Vy2 := Lib.hid (BgV.mk yc0 yc1 yc2 yc3); have Vr2 : BgV w2 b2 false (.slice none 0 0) := (Vr1.out.on.below hb2); obtain ⟨rc0, rc1, rc2, rc3⟩ := Vr2; have Vr2 := Lib.hid (BgV.mk rc0 rc1 rc2 rc3); have M12 : Mag w2 a1 (nl x) c1 x := Mag.below M11.on hb2; have B2 := below_box (w := w) (have := Beh.mk B1; zbh) hb2; clear hb2 hf2)
   | (go_at_call 179; refine (HT _ (hx.below (have := Beh.mk B0; zbh))).out.mono ?_; rintro e w1 ⟨a1, c1, rfl, M11, hb1, hf1⟩; have Vx1 : BgV w1 b0 s (.slice a n cap) := (Vx0.out.on.below hb1); obtain ⟨xc0, xc1, xc2, xc3⟩ := Vx1; have Vx1 := Lib.hid (BgV.mk xc0 xc1 xc2 xc3); have Vy1 : BgV w1 b1 s' (.slice a' n' cap') := (Vy0.out.on.below hb1); obtain ⟨yc0, yc1, yc2, yc3⟩ := Vy1; have Vy1 := Lib.hid (BgV.mk yc0 yc1 yc2 yc3); have Vr1 : BgV w1 b2 false (.slice none 0 0) := (Vr0.out.on.below hb1); obtain ⟨rc0, rc1, rc2, rc3⟩ := Vr1; have Vr1 := Lib.hid (BgV.mk rc0 rc1 rc2 rc3); have B1 := below_box (w := w) (have := Beh.mk B0; zbh) hb1; clear hb1 hf1)
   | fail)
 | fail "region"
 go_wp2_with fail
 refine (HC _ a1 a2 c1 c2 M12.on M22.on).out.mono ?_
 rintro e w3 ⟨rfl, qq, hqq⟩
 have hb3 : Below w2.heap.size w2 w3 := by rw [hqq]; exact below_drewN (Below.refl _ _) _
 clear hqq
 have Vx3 : BgV w3 b0 s (.slice a n cap) := (Vx2.out.on.below hb3)
 obtain ⟨xc0, xc1, xc2, xc3⟩ := Vx3
 have Vx3 := Lib.hid (BgV.mk xc0 xc1 xc2 xc3)
 have Vy3 : BgV w3 b1 s' (.slice a' n' cap') := (Vy2.out.on.below hb3)
 obtain ⟨yc0, yc1, yc2, yc3⟩ := Vy3
 have Vy3 := Lib.hid (BgV.mk yc0 yc1 yc2 yc3)
 have Vr3 : BgV w3 b2 false (.slice none 0 0) := (Vr2.out.on.below hb3)
 obtain ⟨rc0, rc1, rc2, rc3⟩ := Vr3
 have Vr3 := Lib.hid (BgV.mk rc0 rc1 rc2 rc3)
 have M13 : Mag w3 a1 (nl x) c1 x := Mag.below M12.on hb3
 have M23 : Mag w3 a2 (nl y) c2 y := Mag.below M22.on hb3
 have B3 := below_box (w := w) (have := Beh.mk B2; zbh) hb3
 go_wp2_with fail
 first
 | go_region_held3 (fun w' => w'.cell? ⟨b1, 0, none⟩ = some (.bool s') ∧ w'.cell? ⟨b1, 1, none⟩ = some ((.slice a' n' cap'))) (first | (go_keep; done) | (go_simp; done))
  (first
   | (go_at_call 162; have xx := B4; refine (HM _ a3 n3 c3 M34.on hn3).out.mono ?_; rintro e w5 ⟨a4, c4, rfl, M45, hb5, hf5⟩; have Vx5 : BgV w5 b0 s (.slice a n cap) := (Vx4.out.on.below hb5); obtain ⟨xc0, xc1, xc2, xc3⟩ := Vx5; have Vx5 := Lib.hid (BgV.mk xc0 xc1 xc2 xc3); have Vy5 : BgV w5 b1 s' (.slice a' n' cap') := (Vy4.out.on.below hb5); obtain ⟨yc0, yc1, yc2, yc3⟩ := Vy5; have Vy5 := Lib.hid (BgV.mk yc0 yc1 yc2 yc3); have Vr5 : BgV w5 b2 false (.slice none 0 0) := (Vr4.out.on.below hb5); obtain ⟨rc0, rc1, rc2, rc3⟩ := Vr5; have Vr5 := Lib.hid (BgV.mk rc0 rc1 rc2 rc3); have M15 : Mag w5 a1 (nl x) c1 x := Mag.below M14.on hb5; have M25 : Mag w5 a2 (nl y) c2 y := Mag.below M24.on hb5; have M35 : Mag w5 a3 n3 c3 z := Mag.below M34.on hb5; have B5 := below_box (w := w) (have := Beh.mk B4; zbh) hb5; have fr4 : 0 < nl v.natAbs → b2 < ab a4 := (fun h => by have := hf5 h; (try simp at this); have := Vr4.out.lt; omega); clear hb5 hf5)
   | (go_at_call 182; have xx := B3; refine (HD _ a2 a1 c2 c1 M23.on M13.on).out.mono ?_; rintro e w4 ⟨a3, n3, c3, rfl, M34, hn3, hb4, hf4⟩; have Vx4 : BgV w4 b0 s (.slice a n cap) := (Vx3.out.on.below hb4); obtain ⟨xc0, xc1, xc2, xc3⟩ := Vx4; have Vx4 := Lib.hid (BgV.mk xc0 xc1 xc2 xc3); have Vy4 : BgV w4 b1 s' (.slice a' n' cap') := (Vy3.out.on.below hb4); obtain ⟨yc0, yc1, yc2, yc3⟩ := Vy4; have Vy4 := Lib.hid (BgV.mk yc0 yc1 yc2 yc3); have Vr4 : BgV w4 b2 false (.slice none 0 0) := (Vr3.out.on.below hb4); obtain ⟨rc0, rc1, rc2, rc3⟩ := Vr4; have Vr4 := Lib.hid (BgV.mk rc0 rc1 rc2 rc3); have M14 : Mag w4 a1 (nl x) c1 x := Mag.below M13.on hb4; have M24 : Mag w4 a2 (nl y) c2 y := Mag.below M23.on hb4; have B4 := below_box (w := w) (have := Beh.mk B3; zbh) hb4; clear hb4 hf4)
   | fail)
 | fail "region"
 all_goals go_wp2_with fail
 all_goals (
  refine bodyPost_ret (v := .agg #[.bool (decide (v < 0)), .slice a4 (nl v.natAbs) c4]) (by simp only [results, Tryz.results148]; go_simp) rfl ?_
  exact ⟨a4, c4, rfl, (by repeat (with_reducible first | refine Mag.set ?_ (fun h => by have := fr4 h; omega) _ _ | exact M45)), (by have hszw := (B5).size; repeat (with_reducible first | refine Below.setCell ?_ (by first | omega | (simp <;> omega)) _ | refine Below.alloc ?_ (by first | omega | (simp <;> omega)) _ | refine Below.drew ?_ | refine below_drewN ?_ _ | exact B5)), fun h => by have := fr4 h; omega⟩)
theorem radd_any (w : World) (s s' : Bool) (a a' : Option Addr) (n n' cap cap' x y : Nat) (hx : Mag w a n cap x) (hy : Mag w a' n' cap' y) (hl : n ≤ 549755813888) (hl' : n' ≤ 549755813888) :
 Calls Tryz.prog 148 #[.agg #[.bool s, .slice a n cap], .agg #[.bool s', .slice a' n' cap']] w (RetBig w (sgn s x + sgn s' y)) := by
 cases hs : (s == s') with
 | true =>
  obtain rfl : s = s' := by simpa using hs
  exact radd_eq w s s a a' n n' cap cap' x y hx hy hl hl' _ hs (by cases s <;> simp [sgn] <;> omega)
 | false =>
  by_cases hxy : y ≤ x
  · exact radd_ge w s s' a a' n n' cap cap' x y hx hy hl hl' _ hs hxy (by cases s <;> cases s' <;> simp at hs <;> simp [sgn] <;> omega)
  · exact radd_lt w s s' a a' n n' cap cap' x y hx hy hl hl' _ hs (by omega) (by cases s <;> cases s' <;> simp at hs <;> simp [sgn] <;> omega)
end Go.Proofs.YtgicceiimciafaaGreatDoor
