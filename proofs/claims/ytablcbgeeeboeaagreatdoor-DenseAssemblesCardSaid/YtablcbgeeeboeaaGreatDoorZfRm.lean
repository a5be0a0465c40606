/-
  Walks: the reference's package sparseref02: Bad, Make, Norm, Valid, Sign.
-/
import Derived.Test.YtablcbgeeeboeaaGreatDoorZfBf
import Derived.Test.YtablcbgeeeboeaaGreatDoorZfBe
set_option maxRecDepth 100000
set_option maxHeartbeats 2000000
namespace Go.Proofs.YtablcbgeeeboeaaGreatDoor
open Go.RowKit Sp
theorem rbad_any (w : World) :
 Calls Tryz.prog 58 #[] w fun e w' => e = .returned (.agg #[.bool true, .bool false, .slice none 0 0, .int .i64 0]) ∧ Below w.heap.size w w' := by
 go_enter Tryz.func58, Tryz.ntmps58
 go_wp2_with fail
 refine bodyPost_ret (v := .agg #[.bool true, .bool false, .slice none 0 0, .int .i64 0]) (by simp only [results, Tryz.results58]; go_simp) rfl ?_
 exact ⟨rfl, zbh⟩
theorem rmake_zero (w : World) (_hT : Tab w) (s : Bool) (a : Option Addr) (n cap x : Nat) (E : Int) (z : Int) (hz : z = sgn s x) (hx : Mag w a n cap x) (hlim : n ≤ 549755813888) (hz0 : z = 0) :
 Calls Tryz.prog 56 #[.agg #[.bool s, .slice a n cap], .int .i64 E] w (RetDy w (some (0, 0))) := by
 have hnz : nl z.natAbs ≤ n := by rw [hz, sgn_natAbs]; exact nl_le hx.lt
 have HN := fun W h => Lib.hid (rnorm_any W s a n cap x h (by omega))
 rw [← hz] at HN
 have HB := fun W => Lib.hid (rbad_any W)
 have hn1 : (((nl z.natAbs : Nat) : Int) == 0) = true := by rw [hz0]; rfl
 clear hz hnz hz0
 go_enter Tryz.func56, Tryz.ntmps56
 go_wp2_with fail
 have I0 := (BgV.made w 44 s (.slice a n cap)).alloc (.cells #[.bool false, .bool false, .slice none 0 0, .int .i64 0] 46)
 have I1 := DyV.made' (w.alloc (.cells #[.bool s, .slice a n cap] 44)) 46 false false (.slice none 0 0) 0 (n := w.heap.size + 1) (by rw [World.size_alloc])
 refine (HN _ (hx.below zbh)).out.mono ?_
 rintro e w1 ⟨a1, c1, rfl, hm1, hb, hf1⟩
 have hbw1 := below_box (w := w) zbh hb
 have J0 := I0.below hb
 have J1 := I1.below hb
 have hg1 : w.heap.size + 2 ≤ w1.heap.size := by have := hb.size; simpa using this
 have hfr1 : 0 < nl z.natAbs → w.heap.size + 2 ≤ ab a1 := fun h => by have := hf1 h; simpa using this
 clear I0 I1 hb hf1
 obtain ⟨b0, hb0⟩ : ∃ b0, b0 = w.heap.size := ⟨_, rfl⟩
 have hW0 : b0 ≤ w.heap.size ∧ w.heap.size ≤ b0 := by omega
 obtain ⟨p0, p1, p2, p3⟩ := J0
 obtain ⟨r0, r1, r2, r3, r4, r5⟩ := J1
 go_wp2_with fail
 refine bodyPost_ret (v := .agg #[.bool false, .bool false, .slice none 0 0, .int .i64 0]) (by simp only [results, Tryz.results56]; go_simp) rfl ?_
 exact ⟨none, 0, rfl, Mag.nil _, (have := Beh.mk hbw1; zbh), nl0⟩
theorem rmake_far (w : World) (_hT : Tab w) (s : Bool) (a : Option Addr) (n cap x : Nat) (E : Int) (z : Int) (hz : z = sgn s x) (hx : Mag w a n cap x) (hlim : n ≤ 549755813888) (hz0 : z ≠ 0) (hE : 65536 < E) :
 Calls Tryz.prog 56 #[.agg #[.bool s, .slice a n cap], .int .i64 E] w (RetDy w none) := by
 have hnz : nl z.natAbs ≤ n := by rw [hz, sgn_natAbs]; exact nl_le hx.lt
 have HN := fun W h => Lib.hid (rnorm_any W s a n cap x h (by omega))
 rw [← hz] at HN
 have HB := fun W => Lib.hid (rbad_any W)
 have hn1 : (((nl z.natAbs : Nat) : Int) == 0) = false := by rw [beq_eq_false_iff_ne]; have := nl_pos (x := z.natAbs) (by omega); omega
 have hE1 : decide ((65536 : Int) < E) = true := by simpa using hE
 clear hz hnz hz0
 go_enter Tryz.func56, Tryz.ntmps56
 go_wp2_with fail
 have I0 := (BgV.made w 44 s (.slice a n cap)).alloc (.cells #[.bool false, .bool false, .slice none 0 0, .int .i64 0] 46)
 have I1 := DyV.made' (w.alloc (.cells #[.bool s, .slice a n cap] 44)) 46 false false (.slice none 0 0) 0 (n := w.heap.size + 1) (by rw [World.size_alloc])
 refine (HN _ (hx.below zbh)).out.mono ?_
 rintro e w1 ⟨a1, c1, rfl, hm1, hb, hf1⟩
 have hbw1 := below_box (w := w) zbh hb
 have J0 := I0.below hb
 have J1 := I1.below hb
 have hg1 : w.heap.size + 2 ≤ w1.heap.size := by have := hb.size; simpa using this
 have hfr1 : 0 < nl z.natAbs → w.heap.size + 2 ≤ ab a1 := fun h => by have := hf1 h; simpa using this
 clear I0 I1 hb hf1
 obtain ⟨b0, hb0⟩ : ∃ b0, b0 = w.heap.size := ⟨_, rfl⟩
 have hW0 : b0 ≤ w.heap.size ∧ w.heap.size ≤ b0 := by omega
 obtain ⟨p0, p1, p2, p3⟩ := J0
 obtain ⟨r0, r1, r2, r3, r4, r5⟩ := J1
 go_wp2_with fail
 have K1 := (DyV.mk r0 r1 r2 r3 r4 r5).alloc (.cells #[.bool (decide (z < 0)), .slice a1 (nl z.natAbs) c1] 44)
 refine (HB _).out.mono ?_
 rintro e w9 ⟨rfl, hb⟩
 have B9 := below_box (w := w) (have := Beh.mk hbw1; zbh) hb
 have M1 := DyV.below (W := _) K1 hb
 clear hb
 obtain ⟨r0, r1, r2, r3, r4, r5⟩ := M1
 go_wp2_with fail
 refine bodyPost_ret (v := .agg #[.bool true, .bool false, .slice none 0 0, .int .i64 0]) (by simp only [results, Tryz.results56]; go_simp) rfl ?_
 exact ⟨none, 0, rfl, Mag.nil _, (have := Beh.mk B9; zbh), nl0⟩
theorem rmake_lo (w : World) (hT : Tab w) (s : Bool) (a : Option Addr) (n cap x : Nat) (E : Int) (z : Int) (hz : z = sgn s x) (hx : Mag w a n cap x) (hlim : n ≤ 549755813888) (hz0 : z ≠ 0) (u v e : Int) (T bl : Nat) (hu : u = (z.natAbs : Int)) (hTT : T = tz z.natAbs) (hT2 : T ≤ 1048576) (hv : v = ((z.natAbs / 2 ^ T : Nat) : Int)) (_hbl : bl = blen v.natAbs) (_hbl2 : bl ≤ 1048576) (hE0 : -9223372036854775808 ≤ E) (hE : E ≤ 65536) (he : e = E + T) (he1 : e < -65536) :
 Calls Tryz.prog 56 #[.agg #[.bool s, .slice a n cap], .int .i64 E] w (RetDy w none) := by
 have hnz : nl z.natAbs ≤ n := by rw [hz, sgn_natAbs]; exact nl_le hx.lt
 have HN := fun W h => Lib.hid (rnorm_any W s a n cap x h (by omega))
 rw [← hz] at HN
 have HB := fun W => Lib.hid (rbad_any W)
 have hn1 : (((nl z.natAbs : Nat) : Int) == 0) = false := by rw [beq_eq_false_iff_ne]; have := nl_pos (x := z.natAbs) (by omega); omega
 have hE1 : decide ((65536 : Int) < E) = false := by simp; omega
 have HT := fun W b c ht h => Lib.hid (rtrailing_any W ht (decide (z < 0)) b (nl z.natAbs) c z.natAbs h (by omega))
 have HA := fun W b c h => Lib.hid (rabs_any W (decide (z < 0)) b (nl z.natAbs) c z.natAbs h (by omega))
 have eu : sgn false z.natAbs = u := by rw [hu]; rfl
 rw [eu] at HA
 have huz : u.natAbs = z.natAbs := by omega
 have hu0 : decide (u < 0) = false := by simp; omega
 have HD := fun W b c h => Lib.hid (rdown_any W b (nl u.natAbs) c u.natAbs T h (by rw [huz]; omega) hT2)
 rw [← hTT] at HT
 rw [huz, ← hv] at HD
 rw [← huz] at HD
 have hvl : nl v.natAbs ≤ 549755813888 := by
  have : v.natAbs ≤ z.natAbs := by rw [hv, Int.natAbs_natCast]; exact Nat.div_le_self z.natAbs (2 ^ T)
  exact Nat.le_trans (nl_mono this) (by omega)
 have hw1 : IntKind.i64.wrap (E + (T : Int)) = e := by rw [IntKind.wrap_i64]; omega
 have hlo : decide (e < -65536) = true := by simpa using he1
 have hzT : (T : Int) ≤ 1048576 := by omega
 clear hz hnz hz0 hu hTT hv eu huz he hvl
 go_enter Tryz.func56, Tryz.ntmps56
 go_wp2_with fail
 have I0 := (BgV.made w 44 s (.slice a n cap)).alloc (.cells #[.bool false, .bool false, .slice none 0 0, .int .i64 0] 46)
 have I1 := DyV.made' (w.alloc (.cells #[.bool s, .slice a n cap] 44)) 46 false false (.slice none 0 0) 0 (n := w.heap.size + 1) (by rw [World.size_alloc])
 refine (HN _ (hx.below zbh)).out.mono ?_
 rintro e w1 ⟨a1, c1, rfl, hm1, hb, hf1⟩
 have hbw1 := below_box (w := w) zbh hb
 have J0 := I0.below hb
 have J1 := I1.below hb
 have hg1 : w.heap.size + 2 ≤ w1.heap.size := by have := hb.size; simpa using this
 have hfr1 : 0 < nl z.natAbs → w.heap.size + 2 ≤ ab a1 := fun h => by have := hf1 h; simpa using this
 clear I0 I1 hb hf1
 obtain ⟨b0, hb0⟩ : ∃ b0, b0 = w.heap.size := ⟨_, rfl⟩
 have hW0 : b0 ≤ w.heap.size ∧ w.heap.size ≤ b0 := by omega
 obtain ⟨p0, p1, p2, p3⟩ := J0
 obtain ⟨r0, r1, r2, r3, r4, r5⟩ := J1
 go_wp2_with fail
 have K0 := (BgV.mk p0 p1 p2 p3).alloc (.cells #[.bool (decide (z < 0)), .slice a1 (nl z.natAbs) c1] 44)
 have K1 := (DyV.mk r0 r1 r2 r3 r4 r5).alloc (.cells #[.bool (decide (z < 0)), .slice a1 (nl z.natAbs) c1] 44)
 have K5 := BgV.made w1 44 (decide (z < 0)) (.slice a1 (nl z.natAbs) c1)
 have m1 := hm1.alloc (.cells #[.bool (decide (z < 0)), .slice a1 (nl z.natAbs) c1] 44)
 have B1 : Below w.heap.size w (w1.alloc (.cells #[.bool (decide (z < 0)), .slice a1 (nl z.natAbs) c1] 44)) := hbw1.alloc hbw1.size _
 have x05 : w.heap.size ≠ w1.heap.size := by omega
 have x15 : w.heap.size + 1 ≠ w1.heap.size := by omega
 have x5 : w.heap.size + 2 ≤ w1.heap.size := hg1
 have f1 : 0 < nl z.natAbs → ab a1 ≠ w1.heap.size := fun h => by have := hm1.old h; omega
 generalize (w1.alloc (.cells #[.bool (decide (z < 0)), .slice a1 (nl z.natAbs) c1] 44)) = W1 at K0 K1 K5 m1 B1 ⊢
 generalize w1.heap.size = b5 at K5 x05 x15 x5 f1 ⊢
 clear p0 p1 p2 p3 r0 r1 r2 r3 r4 r5 hm1 hbw1 hg1 hfr1
 refine (HT W1 a1 c1 (hT.below B1) m1).out.mono ?_
 rintro e w2 ⟨rfl, hb⟩
 have B2 := below_box B1 hb
 have L0 := K0.below hb
 have L1 := K1.below hb
 have L5 := K5.below hb
 have m2 := m1.below hb
 clear K0 K1 K5 m1 B1 hb
 obtain ⟨p0, p1, p2, p3⟩ := L0
 obtain ⟨r0, r1, r2, r3, r4, r5⟩ := L1
 obtain ⟨q0, q1, q2, q3⟩ := L5
 go_wp2_with fail
 refine (HA w2 a1 c1 m2).out.mono ?_
 rintro e w3 ⟨a3, c3, rfl, hm3, hb, hf3⟩
 have B3 := below_box B2 hb
 have L0 := (BgV.mk p0 p1 p2 p3).below hb
 have L1 := (DyV.mk r0 r1 r2 r3 r4 r5).below hb
 have L5 := (BgV.mk q0 q1 q2 q3).below hb
 have f3 : 0 < nl u.natAbs → ab a3 ≠ b5 := fun h => by have := hf3 h; omega
 clear p0 p1 p2 p3 r0 r1 r2 r3 r4 r5 q0 q1 q2 q3 m2 B2 hb hf3
 obtain ⟨p0, p1, p2, p3⟩ := L0
 obtain ⟨r0, r1, r2, r3, r4, r5⟩ := L1
 obtain ⟨q0, q1, q2, q3⟩ := L5
 go_wp2_with fail
 have B4 : Below w.heap.size w ((w3.setCell ⟨b5, 0, none⟩ (.bool false)).setCell ⟨b5, 1, none⟩ (.slice a3 (nl u.natAbs) c3)) := (B3.setCell (by show _ ≤ b5; omega) _).setCell (by show _ ≤ b5; omega) _
 have L0 := ((BgV.mk p0 p1 p2 p3).set x05 0 (.bool false)).set x05 1 (.slice a3 (nl u.natAbs) c3)
 have L1 := ((DyV.mk r0 r1 r2 r3 r4 r5).set x15 0 (.bool false)).set x15 1 (.slice a3 (nl u.natAbs) c3)
 have L5 : BgV ((w3.setCell ⟨b5, 0, none⟩ (.bool false)).setCell ⟨b5, 1, none⟩ (.slice a3 (nl u.natAbs) c3)) b5 false (.slice a3 (nl u.natAbs) c3) := ⟨by go_simp, by go_simp, fun i => by go_simp, by simpa using q3⟩
 have m4 := (hm3.set f3 0 (.bool false)).set f3 1 (.slice a3 (nl u.natAbs) c3)
 generalize ((w3.setCell ⟨b5, 0, none⟩ (.bool false)).setCell ⟨b5, 1, none⟩ (.slice a3 (nl u.natAbs) c3)) = W4 at B4 L0 L1 L5 m4 ⊢
 clear p0 p1 p2 p3 r0 r1 r2 r3 r4 r5 q0 q1 q2 q3 hm3 B3 f3
 refine (HD W4 a3 c3 m4).out.mono ?_
 rintro e w5 ⟨a5, c5, rfl, hm5, hb, hf5⟩
 have B5 := below_box B4 hb
 have M0 := L0.below hb
 have M1 := L1.below hb
 have M5 := L5.below hb
 have f5 : 0 < nl v.natAbs → ab a5 ≠ b5 := fun h => by have := hf5 h; have := L5.lt; omega
 have f51 : 0 < nl v.natAbs → ab a5 ≠ w.heap.size + 1 := fun h => by have := hf5 h; have := L1.lt; omega
 have f52 : 0 < nl v.natAbs → w.heap.size ≤ ab a5 := fun h => by have := hf5 h; have := L1.lt; omega
 clear L0 L1 L5 m4 B4 hb hf5
 obtain ⟨p0, p1, p2, p3⟩ := M0
 obtain ⟨r0, r1, r2, r3, r4, r5⟩ := M1
 obtain ⟨q0, q1, q2, q3⟩ := M5
 go_wp2_with fail
 have L1 : DyV _ (w.heap.size + 1) _ _ _ _ := ((DyV.mk r0 r1 r2 r3 r4 r5).set x15 0 (.bool (decide (v < 0)))).set x15 1 (.slice a5 (nl v.natAbs) c5)
 refine (HB _).out.mono ?_
 rintro e w9 ⟨rfl, hb⟩
 have B9 := below_box (w := w) (by have hszw := (B5).size; repeat (with_reducible first | refine Below.setCell ?_ (by first | omega | (simp <;> omega)) _ | refine Below.alloc ?_ (by first | omega | (simp <;> omega)) _ | refine Below.drew ?_ | refine below_drewN ?_ _ | exact B5)) hb
 have M1 := DyV.below (W := _) L1 hb
 clear hb
 obtain ⟨r0, r1, r2, r3, r4, r5⟩ := M1
 go_wp2_with fail
 refine bodyPost_ret (v := .agg #[.bool true, .bool false, .slice none 0 0, .int .i64 0]) (by simp only [results, Tryz.results56]; go_simp) rfl ?_
 exact ⟨none, 0, rfl, Mag.nil _, (have := Beh.mk B9; zbh), nl0⟩
theorem rmake_hi (w : World) (hT : Tab w) (s : Bool) (a : Option Addr) (n cap x : Nat) (E : Int) (z : Int) (hz : z = sgn s x) (hx : Mag w a n cap x) (hlim : n ≤ 549755813888) (hz0 : z ≠ 0) (u v e : Int) (T bl : Nat) (hu : u = (z.natAbs : Int)) (hTT : T = tz z.natAbs) (hT2 : T ≤ 1048576) (hv : v = ((z.natAbs / 2 ^ T : Nat) : Int)) (hbl : bl = blen v.natAbs) (hbl2 : bl ≤ 1048576) (hE0 : -9223372036854775808 ≤ E) (hE : E ≤ 65536) (he : e = E + T) (he1 : -65536 ≤ e) (he2 : 65536 < e + bl) :
 Calls Tryz.prog 56 #[.agg #[.bool s, .slice a n cap], .int .i64 E] w (RetDy w none) := by
 have hnz : nl z.natAbs ≤ n := by rw [hz, sgn_natAbs]; exact nl_le hx.lt
 have HN := fun W h => Lib.hid (rnorm_any W s a n cap x h (by omega))
 rw [← hz] at HN
 have HB := fun W => Lib.hid (rbad_any W)
 have hn1 : (((nl z.natAbs : Nat) : Int) == 0) = false := by rw [beq_eq_false_iff_ne]; have := nl_pos (x := z.natAbs) (by omega); omega
 have hE1 : decide ((65536 : Int) < E) = false := by simp; omega
 have HT := fun W b c ht h => Lib.hid (rtrailing_any W ht (decide (z < 0)) b (nl z.natAbs) c z.natAbs h (by omega))
 have HA := fun W b c h => Lib.hid (rabs_any W (decide (z < 0)) b (nl z.natAbs) c z.natAbs h (by omega))
 have eu : sgn false z.natAbs = u := by rw [hu]; rfl
 rw [eu] at HA
 have huz : u.natAbs = z.natAbs := by omega
 have hu0 : decide (u < 0) = false := by simp; omega
 have HD := fun W b c h => Lib.hid (rdown_any W b (nl u.natAbs) c u.natAbs T h (by rw [huz]; omega) hT2)
 rw [← hTT] at HT
 rw [huz, ← hv] at HD
 rw [← huz] at HD
 have hvl : nl v.natAbs ≤ 549755813888 := by
  have : v.natAbs ≤ z.natAbs := by rw [hv, Int.natAbs_natCast]; exact Nat.div_le_self z.natAbs (2 ^ T)
  exact Nat.le_trans (nl_mono this) (by omega)
 have HL := fun W b c h => Lib.hid (rbitlen_any W (decide (v < 0)) b (nl v.natAbs) c v.natAbs h (by omega))
 have hw1 : IntKind.i64.wrap (E + (T : Int)) = e := by rw [IntKind.wrap_i64]; omega
 rw [← hbl] at HL
 have hlo : decide (e < -65536) = false := by simp; omega
 have hw2 : IntKind.i64.wrap (e + (bl : Int)) = e + bl := by rw [IntKind.wrap_i64]; omega
 have hhi : decide (65536 < e + (bl : Int)) = true := by simpa using he2
 have hzT : (T : Int) ≤ 1048576 := by omega
 clear hz hnz hz0 hu hTT hv hbl eu huz he hvl
 go_enter Tryz.func56, Tryz.ntmps56
 go_wp2_with fail
 have I0 := (BgV.made w 44 s (.slice a n cap)).alloc (.cells #[.bool false, .bool false, .slice none 0 0, .int .i64 0] 46)
 have I1 := DyV.made' (w.alloc (.cells #[.bool s, .slice a n cap] 44)) 46 false false (.slice none 0 0) 0 (n := w.heap.size + 1) (by rw [World.size_alloc])
 refine (HN _ (hx.below zbh)).out.mono ?_
 rintro e w1 ⟨a1, c1, rfl, hm1, hb, hf1⟩
 have hbw1 := below_box (w := w) zbh hb
 have J0 := I0.below hb
 have J1 := I1.below hb
 have hg1 : w.heap.size + 2 ≤ w1.heap.size := by have := hb.size; simpa using this
 have hfr1 : 0 < nl z.natAbs → w.heap.size + 2 ≤ ab a1 := fun h => by have := hf1 h; simpa using this
 clear I0 I1 hb hf1
 obtain ⟨b0, hb0⟩ : ∃ b0, b0 = w.heap.size := ⟨_, rfl⟩
 have hW0 : b0 ≤ w.heap.size ∧ w.heap.size ≤ b0 := by omega
 obtain ⟨p0, p1, p2, p3⟩ := J0
 obtain ⟨r0, r1, r2, r3, r4, r5⟩ := J1
 go_wp2_with fail
 have K0 := (BgV.mk p0 p1 p2 p3).alloc (.cells #[.bool (decide (z < 0)), .slice a1 (nl z.natAbs) c1] 44)
 have K1 := (DyV.mk r0 r1 r2 r3 r4 r5).alloc (.cells #[.bool (decide (z < 0)), .slice a1 (nl z.natAbs) c1] 44)
 have K5 := BgV.made w1 44 (decide (z < 0)) (.slice a1 (nl z.natAbs) c1)
 have m1 := hm1.alloc (.cells #[.bool (decide (z < 0)), .slice a1 (nl z.natAbs) c1] 44)
 have B1 : Below w.heap.size w (w1.alloc (.cells #[.bool (decide (z < 0)), .slice a1 (nl z.natAbs) c1] 44)) := hbw1.alloc hbw1.size _
 have x05 : w.heap.size ≠ w1.heap.size := by omega
 have x15 : w.heap.size + 1 ≠ w1.heap.size := by omega
 have x5 : w.heap.size + 2 ≤ w1.heap.size := hg1
 have f1 : 0 < nl z.natAbs → ab a1 ≠ w1.heap.size := fun h => by have := hm1.old h; omega
 generalize (w1.alloc (.cells #[.bool (decide (z < 0)), .slice a1 (nl z.natAbs) c1] 44)) = W1 at K0 K1 K5 m1 B1 ⊢
 generalize w1.heap.size = b5 at K5 x05 x15 x5 f1 ⊢
 clear p0 p1 p2 p3 r0 r1 r2 r3 r4 r5 hm1 hbw1 hg1 hfr1
 refine (HT W1 a1 c1 (hT.below B1) m1).out.mono ?_
 rintro e w2 ⟨rfl, hb⟩
 have B2 := below_box B1 hb
 have L0 := K0.below hb
 have L1 := K1.below hb
 have L5 := K5.below hb
 have m2 := m1.below hb
 clear K0 K1 K5 m1 B1 hb
 obtain ⟨p0, p1, p2, p3⟩ := L0
 obtain ⟨r0, r1, r2, r3, r4, r5⟩ := L1
 obtain ⟨q0, q1, q2, q3⟩ := L5
 go_wp2_with fail
 refine (HA w2 a1 c1 m2).out.mono ?_
 rintro e w3 ⟨a3, c3, rfl, hm3, hb, hf3⟩
 have B3 := below_box B2 hb
 have L0 := (BgV.mk p0 p1 p2 p3).below hb
 have L1 := (DyV.mk r0 r1 r2 r3 r4 r5).below hb
 have L5 := (BgV.mk q0 q1 q2 q3).below hb
 have f3 : 0 < nl u.natAbs → ab a3 ≠ b5 := fun h => by have := hf3 h; omega
 clear p0 p1 p2 p3 r0 r1 r2 r3 r4 r5 q0 q1 q2 q3 m2 B2 hb hf3
 obtain ⟨p0, p1, p2, p3⟩ := L0
 obtain ⟨r0, r1, r2, r3, r4, r5⟩ := L1
 obtain ⟨q0, q1, q2, q3⟩ := L5
 go_wp2_with fail
 have B4 : Below w.heap.size w ((w3.setCell ⟨b5, 0, none⟩ (.bool false)).setCell ⟨b5, 1, none⟩ (.slice a3 (nl u.natAbs) c3)) := (B3.setCell (by show _ ≤ b5; omega) _).setCell (by show _ ≤ b5; omega) _
 have L0 := ((BgV.mk p0 p1 p2 p3).set x05 0 (.bool false)).set x05 1 (.slice a3 (nl u.natAbs) c3)
 have L1 := ((DyV.mk r0 r1 r2 r3 r4 r5).set x15 0 (.bool false)).set x15 1 (.slice a3 (nl u.natAbs) c3)
 have L5 : BgV ((w3.setCell ⟨b5, 0, none⟩ (.bool false)).setCell ⟨b5, 1, none⟩ (.slice a3 (nl u.natAbs) c3)) b5 false (.slice a3 (nl u.natAbs) c3) := ⟨by go_simp, by go_simp, fun i => by go_simp, by simpa using q3⟩
 have m4 := (hm3.set f3 0 (.bool false)).set f3 1 (.slice a3 (nl u.natAbs) c3)
 generalize ((w3.setCell ⟨b5, 0, none⟩ (.bool false)).setCell ⟨b5, 1, none⟩ (.slice a3 (nl u.natAbs) c3)) = W4 at B4 L0 L1 L5 m4 ⊢
 clear p0 p1 p2 p3 r0 r1 r2 r3 r4 r5 q0 q1 q2 q3 hm3 B3 f3
 refine (HD W4 a3 c3 m4).out.mono ?_
 rintro e w5 ⟨a5, c5, rfl, hm5, hb, hf5⟩
 have B5 := below_box B4 hb
 have M0 := L0.below hb
 have M1 := L1.below hb
 have M5 := L5.below hb
 have f5 : 0 < nl v.natAbs → ab a5 ≠ b5 := fun h => by have := hf5 h; have := L5.lt; omega
 have f51 : 0 < nl v.natAbs → ab a5 ≠ w.heap.size + 1 := fun h => by have := hf5 h; have := L1.lt; omega
 have f52 : 0 < nl v.natAbs → w.heap.size ≤ ab a5 := fun h => by have := hf5 h; have := L1.lt; omega
 clear L0 L1 L5 m4 B4 hb hf5
 obtain ⟨p0, p1, p2, p3⟩ := M0
 obtain ⟨r0, r1, r2, r3, r4, r5⟩ := M1
 obtain ⟨q0, q1, q2, q3⟩ := M5
 go_wp2_with fail
 have B6 : Below w.heap.size w ((w5.setCell ⟨b5, 0, none⟩ (.bool (decide (v < 0)))).setCell ⟨b5, 1, none⟩ (.slice a5 (nl v.natAbs) c5)) := (B5.setCell (by show _ ≤ b5; omega) _).setCell (by show _ ≤ b5; omega) _
 have L0 := ((BgV.mk p0 p1 p2 p3).set x05 0 (.bool (decide (v < 0)))).set x05 1 (.slice a5 (nl v.natAbs) c5)
 have L1 := ((DyV.mk r0 r1 r2 r3 r4 r5).set x15 0 (.bool (decide (v < 0)))).set x15 1 (.slice a5 (nl v.natAbs) c5)
 have L5 : BgV ((w5.setCell ⟨b5, 0, none⟩ (.bool (decide (v < 0)))).setCell ⟨b5, 1, none⟩ (.slice a5 (nl v.natAbs) c5)) b5 (decide (v < 0)) (.slice a5 (nl v.natAbs) c5) := ⟨by go_simp, by go_simp, fun i => by go_simp, by simpa using q3⟩
 have m6 := (hm5.set f5 0 (.bool (decide (v < 0)))).set f5 1 (.slice a5 (nl v.natAbs) c5)
 generalize ((w5.setCell ⟨b5, 0, none⟩ (.bool (decide (v < 0)))).setCell ⟨b5, 1, none⟩ (.slice a5 (nl v.natAbs) c5)) = W6 at B6 L0 L1 L5 m6 ⊢
 clear p0 p1 p2 p3 r0 r1 r2 r3 r4 r5 q0 q1 q2 q3 hm5 B5
 refine (HL W6 a5 c5 m6).out.mono ?_
 rintro e w7 ⟨rfl, hb⟩
 have B7 := below_box B6 hb
 have M0 := L0.below hb
 have M1 := L1.below hb
 have M5 := L5.below hb
 have m7 := m6.below hb
 clear L0 L1 L5 m6 B6 hb
 obtain ⟨p0, p1, p2, p3⟩ := M0
 obtain ⟨r0, r1, r2, r3, r4, r5⟩ := M1
 obtain ⟨q0, q1, q2, q3⟩ := M5
 go_wp2_with fail
 have L1 : DyV _ (w.heap.size + 1) _ _ _ _ := DyV.mk r0 r1 r2 r3 r4 r5
 refine (HB _).out.mono ?_
 rintro e w9 ⟨rfl, hb⟩
 have B9 := below_box (w := w) (have := Beh.mk B7; zbh) hb
 have M1 := DyV.below (W := _) L1 hb
 clear hb
 obtain ⟨r0, r1, r2, r3, r4, r5⟩ := M1
 go_wp2_with fail
 refine bodyPost_ret (v := .agg #[.bool true, .bool false, .slice none 0 0, .int .i64 0]) (by simp only [results, Tryz.results56]; go_simp) rfl ?_
 exact ⟨none, 0, rfl, Mag.nil _, (have := Beh.mk B9; zbh), nl0⟩
theorem rmake_ok (w : World) (hT : Tab w) (s : Bool) (a : Option Addr) (n cap x : Nat) (E : Int) (z : Int) (hz : z = sgn s x) (hx : Mag w a n cap x) (hlim : n ≤ 549755813888) (hz0 : z ≠ 0) (u v e : Int) (T bl : Nat) (hu : u = (z.natAbs : Int)) (hTT : T = tz z.natAbs) (hT2 : T ≤ 1048576) (hv : v = ((z.natAbs / 2 ^ T : Nat) : Int)) (hbl : bl = blen v.natAbs) (hbl2 : bl ≤ 1048576) (hE0 : -9223372036854775808 ≤ E) (hE : E ≤ 65536) (he : e = E + T) (he1 : -65536 ≤ e) (he2 : e + bl ≤ 65536) (d : Int) (hd1 : s = decide (d < 0)) (hd2 : v.natAbs = d.natAbs) :
 Calls Tryz.prog 56 #[.agg #[.bool s, .slice a n cap], .int .i64 E] w (RetDy w (some (d, e))) := by
 have hnz : nl z.natAbs ≤ n := by rw [hz, sgn_natAbs]; exact nl_le hx.lt
 have HN := fun W h => Lib.hid (rnorm_any W s a n cap x h (by omega))
 rw [← hz] at HN
 have HB := fun W => Lib.hid (rbad_any W)
 have hn1 : (((nl z.natAbs : Nat) : Int) == 0) = false := by rw [beq_eq_false_iff_ne]; have := nl_pos (x := z.natAbs) (by omega); omega
 have hE1 : decide ((65536 : Int) < E) = false := by simp; omega
 have HT := fun W b c ht h => Lib.hid (rtrailing_any W ht (decide (z < 0)) b (nl z.natAbs) c z.natAbs h (by omega))
 have HA := fun W b c h => Lib.hid (rabs_any W (decide (z < 0)) b (nl z.natAbs) c z.natAbs h (by omega))
 have eu : sgn false z.natAbs = u := by rw [hu]; rfl
 rw [eu] at HA
 have huz : u.natAbs = z.natAbs := by omega
 have hu0 : decide (u < 0) = false := by simp; omega
 have HD := fun W b c h => Lib.hid (rdown_any W b (nl u.natAbs) c u.natAbs T h (by rw [huz]; omega) hT2)
 rw [← hTT] at HT
 rw [huz, ← hv] at HD
 rw [← huz] at HD
 have hvl : nl v.natAbs ≤ 549755813888 := by
  have : v.natAbs ≤ z.natAbs := by rw [hv, Int.natAbs_natCast]; exact Nat.div_le_self z.natAbs (2 ^ T)
  exact Nat.le_trans (nl_mono this) (by omega)
 have HL := fun W b c h => Lib.hid (rbitlen_any W (decide (v < 0)) b (nl v.natAbs) c v.natAbs h (by omega))
 have hw1 : IntKind.i64.wrap (E + (T : Int)) = e := by rw [IntKind.wrap_i64]; omega
 rw [← hbl] at HL
 have hlo : decide (e < -65536) = false := by simp; omega
 have hw2 : IntKind.i64.wrap (e + (bl : Int)) = e + bl := by rw [IntKind.wrap_i64]; omega
 have hhi : decide (65536 < e + (bl : Int)) = false := by simp; omega
 have HD1 := Lib.hid hd1
 have HD2 := Lib.hid hd2
 clear hd1 hd2
 have hzT : (T : Int) ≤ 1048576 := by omega
 clear hz hnz hz0 hu hTT hv hbl eu huz he hvl
 go_enter Tryz.func56, Tryz.ntmps56
 go_wp2_with fail
 have I0 := (BgV.made w 44 s (.slice a n cap)).alloc (.cells #[.bool false, .bool false, .slice none 0 0, .int .i64 0] 46)
 have I1 := DyV.made' (w.alloc (.cells #[.bool s, .slice a n cap] 44)) 46 false false (.slice none 0 0) 0 (n := w.heap.size + 1) (by rw [World.size_alloc])
 refine (HN _ (hx.below zbh)).out.mono ?_
 rintro e w1 ⟨a1, c1, rfl, hm1, hb, hf1⟩
 have hbw1 := below_box (w := w) zbh hb
 have J0 := I0.below hb
 have J1 := I1.below hb
 have hg1 : w.heap.size + 2 ≤ w1.heap.size := by have := hb.size; simpa using this
 have hfr1 : 0 < nl z.natAbs → w.heap.size + 2 ≤ ab a1 := fun h => by have := hf1 h; simpa using this
 clear I0 I1 hb hf1
 obtain ⟨b0, hb0⟩ : ∃ b0, b0 = w.heap.size := ⟨_, rfl⟩
 have hW0 : b0 ≤ w.heap.size ∧ w.heap.size ≤ b0 := by omega
 obtain ⟨p0, p1, p2, p3⟩ := J0
 obtain ⟨r0, r1, r2, r3, r4, r5⟩ := J1
 go_wp2_with fail
 have K0 := (BgV.mk p0 p1 p2 p3).alloc (.cells #[.bool (decide (z < 0)), .slice a1 (nl z.natAbs) c1] 44)
 have K1 := (DyV.mk r0 r1 r2 r3 r4 r5).alloc (.cells #[.bool (decide (z < 0)), .slice a1 (nl z.natAbs) c1] 44)
 have K5 := BgV.made w1 44 (decide (z < 0)) (.slice a1 (nl z.natAbs) c1)
 have m1 := hm1.alloc (.cells #[.bool (decide (z < 0)), .slice a1 (nl z.natAbs) c1] 44)
 have B1 : Below w.heap.size w (w1.alloc (.cells #[.bool (decide (z < 0)), .slice a1 (nl z.natAbs) c1] 44)) := hbw1.alloc hbw1.size _
 have x05 : w.heap.size ≠ w1.heap.size := by omega
 have x15 : w.heap.size + 1 ≠ w1.heap.size := by omega
 have x5 : w.heap.size + 2 ≤ w1.heap.size := hg1
 have f1 : 0 < nl z.natAbs → ab a1 ≠ w1.heap.size := fun h => by have := hm1.old h; omega
 generalize (w1.alloc (.cells #[.bool (decide (z < 0)), .slice a1 (nl z.natAbs) c1] 44)) = W1 at K0 K1 K5 m1 B1 ⊢
 generalize w1.heap.size = b5 at K5 x05 x15 x5 f1 ⊢
 clear p0 p1 p2 p3 r0 r1 r2 r3 r4 r5 hm1 hbw1 hg1 hfr1
 refine (HT W1 a1 c1 (hT.below B1) m1).out.mono ?_
 rintro e w2 ⟨rfl, hb⟩
 have B2 := below_box B1 hb
 have L0 := K0.below hb
 have L1 := K1.below hb
 have L5 := K5.below hb
 have m2 := m1.below hb
 clear K0 K1 K5 m1 B1 hb
 obtain ⟨p0, p1, p2, p3⟩ := L0
 obtain ⟨r0, r1, r2, r3, r4, r5⟩ := L1
 obtain ⟨q0, q1, q2, q3⟩ := L5
 go_wp2_with fail
 refine (HA w2 a1 c1 m2).out.mono ?_
 rintro e w3 ⟨a3, c3, rfl, hm3, hb, hf3⟩
 have B3 := below_box B2 hb
 have L0 := (BgV.mk p0 p1 p2 p3).below hb
 have L1 := (DyV.mk r0 r1 r2 r3 r4 r5).below hb
 have L5 := (BgV.mk q0 q1 q2 q3).below hb
 have f3 : 0 < nl u.natAbs → ab a3 ≠ b5 := fun h => by have := hf3 h; omega
 clear p0 p1 p2 p3 r0 r1 r2 r3 r4 r5 q0 q1 q2 q3 m2 B2 hb hf3
 obtain ⟨p0, p1, p2, p3⟩ := L0
 obtain ⟨r0, r1, r2, r3, r4, r5⟩ := L1
 obtain ⟨q0, q1, q2, q3⟩ := L5
 go_wp2_with fail
 have B4 : Below w.heap.size w ((w3.setCell ⟨b5, 0, none⟩ (.bool false)).setCell ⟨b5, 1, none⟩ (.slice a3 (nl u.natAbs) c3)) := (B3.setCell (by show _ ≤ b5; omega) _).setCell (by show _ ≤ b5; omega) _
 have L0 := ((BgV.mk p0 p1 p2 p3).set x05 0 (.bool false)).set x05 1 (.slice a3 (nl u.natAbs) c3)
 have L1 := ((DyV.mk r0 r1 r2 r3 r4 r5).set x15 0 (.bool false)).set x15 1 (.slice a3 (nl u.natAbs) c3)
 have L5 : BgV ((w3.setCell ⟨b5, 0, none⟩ (.bool false)).setCell ⟨b5, 1, none⟩ (.slice a3 (nl u.natAbs) c3)) b5 false (.slice a3 (nl u.natAbs) c3) := ⟨by go_simp, by go_simp, fun i => by go_simp, by simpa using q3⟩
 have m4 := (hm3.set f3 0 (.bool false)).set f3 1 (.slice a3 (nl u.natAbs) c3)
 generalize ((w3.setCell ⟨b5, 0, none⟩ (.bool false)).setCell ⟨b5, 1, none⟩ (.slice a3 (nl u.natAbs) c3)) = W4 at B4 L0 L1 L5 m4 ⊢
 clear p0 p1 p2 p3 r0 r1 r2 r3 r4 r5 q0 q1 q2 q3 hm3 B3 f3
 refine (HD W4 a3 c3 m4).out.mono ?_
 rintro e w5 ⟨a5, c5, rfl, hm5, hb, hf5⟩
 have B5 := below_box B4 hb
 have M0 := L0.below hb
 have M1 := L1.below hb
 have M5 := L5.below hb
 have f5 : 0 < nl v.natAbs → ab a5 ≠ b5 := fun h => by have := hf5 h; have := L5.lt; omega
 have f51 : 0 < nl v.natAbs → ab a5 ≠ w.heap.size + 1 := fun h => by have := hf5 h; have := L1.lt; omega
 have f52 : 0 < nl v.natAbs → w.heap.size ≤ ab a5 := fun h => by have := hf5 h; have := L1.lt; omega
 clear L0 L1 L5 m4 B4 hb hf5
 obtain ⟨p0, p1, p2, p3⟩ := M0
 obtain ⟨r0, r1, r2, r3, r4, r5⟩ := M1
 obtain ⟨q0, q1, q2, q3⟩ := M5
 go_wp2_with fail
 have B6 : Below w.heap.size w ((w5.setCell ⟨b5, 0, none⟩ (.bool (decide (v < 0)))).setCell ⟨b5, 1, none⟩ (.slice a5 (nl v.natAbs) c5)) := (B5.setCell (by show _ ≤ b5; omega) _).setCell (by show _ ≤ b5; omega) _
 have L0 := ((BgV.mk p0 p1 p2 p3).set x05 0 (.bool (decide (v < 0)))).set x05 1 (.slice a5 (nl v.natAbs) c5)
 have L1 := ((DyV.mk r0 r1 r2 r3 r4 r5).set x15 0 (.bool (decide (v < 0)))).set x15 1 (.slice a5 (nl v.natAbs) c5)
 have L5 : BgV ((w5.setCell ⟨b5, 0, none⟩ (.bool (decide (v < 0)))).setCell ⟨b5, 1, none⟩ (.slice a5 (nl v.natAbs) c5)) b5 (decide (v < 0)) (.slice a5 (nl v.natAbs) c5) := ⟨by go_simp, by go_simp, fun i => by go_simp, by simpa using q3⟩
 have m6 := (hm5.set f5 0 (.bool (decide (v < 0)))).set f5 1 (.slice a5 (nl v.natAbs) c5)
 generalize ((w5.setCell ⟨b5, 0, none⟩ (.bool (decide (v < 0)))).setCell ⟨b5, 1, none⟩ (.slice a5 (nl v.natAbs) c5)) = W6 at B6 L0 L1 L5 m6 ⊢
 clear p0 p1 p2 p3 r0 r1 r2 r3 r4 r5 q0 q1 q2 q3 hm5 B5
 refine (HL W6 a5 c5 m6).out.mono ?_
 rintro e w7 ⟨rfl, hb⟩
 have B7 := below_box B6 hb
 have M0 := L0.below hb
 have M1 := L1.below hb
 have M5 := L5.below hb
 have m7 := m6.below hb
 clear L0 L1 L5 m6 B6 hb
 obtain ⟨p0, p1, p2, p3⟩ := M0
 obtain ⟨r0, r1, r2, r3, r4, r5⟩ := M1
 obtain ⟨q0, q1, q2, q3⟩ := M5
 go_wp2_with fail
 refine bodyPost_ret (v := .agg #[.bool false, .bool s, .slice a5 (nl v.natAbs) c5, .int .i64 e]) (by simp only [results, Tryz.results56]; go_simp) rfl ?_
 show RetDy w (some (d, e)) _ _
 unfold RetDy
 show ∃ a cap, _ = Ending.returned (.agg #[.bool false, .bool (decide (d < 0)), .slice a (nl d.natAbs) cap, .int .i64 e]) ∧ Mag _ a (nl d.natAbs) cap d.natAbs ∧ _ ∧ (0 < nl d.natAbs → _)
 rw [← HD1.out, ← HD2.out]
 refine ⟨a5, c5, rfl, ?_, (by have hszw := (B7).size; repeat (with_reducible first | refine Below.setCell ?_ (by first | omega | (simp <;> omega)) _ | refine Below.alloc ?_ (by first | omega | (simp <;> omega)) _ | refine Below.drew ?_ | refine below_drewN ?_ _ | exact B7)), f52⟩
 repeat (with_reducible first | refine Mag.set ?_ f5 _ _ | refine Mag.set ?_ f51 _ _ | refine Mag.alloc ?_ _ | exact m7)
theorem blen_div_tz {x : Nat} (h : 0 < x) : blen (x / 2 ^ tz x) + tz x = blen x := by
 obtain ⟨q, hq⟩ := tz_dvd h
 have hp : 0 < 2 ^ tz x := Nat.pow_pos (by decide)
 have e : x / 2 ^ tz x = q := by
  conv => lhs; lhs; rw [hq]
  rw [Nat.mul_div_cancel_left _ hp]
 have hq0 : 0 < q := by
  rcases Nat.eq_zero_or_pos q with h0 | h0
  · rw [h0, Nat.mul_zero] at hq; omega
  · exact h0
 rw [e]
 have := blen_mul_pow hq0 (tz x)
 rw [Nat.mul_comm, ← hq] at this
 exact this.symm
theorem rmake_any (w : World) (s : Bool) (a : Option Addr) (n cap x : Nat) (E : Int) (hx : Mag w a n cap x) (hlim : n ≤ 549755813888) (hT : Tab w) (hB : blen x ≤ 1048576) (he0 : -9223372036854775808 ≤ E) :
 Calls Tryz.prog 56 #[.agg #[.bool s, .slice a n cap], .int .i64 E] w (RetDy w (nrm (sgn s x) E)) := by
 have hza := sgn_natAbs s x
 by_cases hz0 : sgn s x = 0
 · rw [hz0, nrm_zero]
   exact rmake_zero w hT s a n cap x E _ rfl hx hlim hz0
 · have hp : 0 < x := Nat.pos_of_ne_zero fun h => hz0 (by subst h; cases s <;> rfl)
   have hbt := blen_div_tz hp
   have hbp := blen_pos hp
   have htl := tz_lim hB
   by_cases hE : E ≤ 65536
   · have hv2 : ((((sgn s x).natAbs / 2 ^ tz (sgn s x).natAbs : Nat) : Int)).natAbs = x / 2 ^ tz x := by rw [hza]; exact Int.natAbs_natCast _
     by_cases he1 : E + (tz x : Int) < -65536
     · have := rmake_lo w hT s a n cap x E _ rfl hx hlim hz0 _ _ _ _ _ rfl rfl (by rw [hza]; exact htl) rfl rfl (by rw [hv2]; omega) he0 hE rfl (by rw [hza]; exact he1)
       rwa [nrm_none.2 ⟨hz0, .inr (by rw [hza]; omega)⟩]
     · by_cases he2 : 65536 < E + (blen x : Int)
       · have := rmake_hi w hT s a n cap x E _ rfl hx hlim hz0 _ _ _ _ _ rfl rfl (by rw [hza]; exact htl) rfl rfl (by rw [hv2]; omega) he0 hE rfl (by rw [hza]; omega) (by rw [hv2, hza]; omega)
         rwa [nrm_none.2 ⟨hz0, .inl (by rw [hza]; omega)⟩]
       · obtain ⟨y, hy, hodd, hdiv⟩ := int_split hz0
         have hya : y.natAbs = x / 2 ^ tz x := by
          have h1 : x = y.natAbs * 2 ^ tz x := by
           conv => lhs; rw [← hza, hy, natAbs_mul_pow]
           rw [hza]
          conv => rhs; lhs; rw [h1]
          rw [Nat.mul_div_cancel _ (Nat.pow_pos (by decide))]
         have hys : s = decide (y < 0) := by
          have h1 := (mul_pow_neg y (tz (sgn s x).natAbs)).1
          rw [← hy] at h1
          rw [decide_eq_decide.2 h1.symm, sgn_lt]
          rw [decide_eq_true hp, Bool.and_true]
         have := rmake_ok w hT s a n cap x E _ rfl hx hlim hz0 _ _ _ _ _ rfl rfl (by rw [hza]; exact htl) rfl rfl (by rw [hv2]; omega) he0 hE rfl (by rw [hza]; omega) (by rw [hv2, hza]; omega) y hys (by rw [hv2, hya])
         have hn : nrm (sgn s x) E = some (y, E + (tz (sgn s x).natAbs : Int)) := by
          unfold nrm
          rw [if_neg hz0, if_neg (by rw [hza]; omega), hdiv]
         rwa [hn]
   · have := rmake_far w hT s a n cap x E _ rfl hx hlim hz0 (by omega)
     rwa [nrm_none.2 ⟨hz0, .inl (by rw [hza]; omega)⟩]
theorem rdnorm_t (w : World) (s : Bool) (a : Option Addr) (n cap : Nat) (e : Int) :
 Calls Tryz.prog 55 #[.agg #[.bool true, .bool s, .slice a n cap, .int .i64 e]] w (RetDy w none) := by
 have HB := fun W => Lib.hid (rbad_any W)
 go_enter Tryz.func55, Tryz.ntmps55
 go_wp2_with fail
 have I1 := DyV.made' (w.alloc (.cells #[.bool true, .bool s, .slice a n cap, .int .i64 e] 46)) 46 false false (.slice none 0 0) 0 (n := w.heap.size + 1) (by rw [World.size_alloc])
 refine (HB _).out.mono ?_
 rintro e w1 ⟨rfl, hb⟩
 have hbw := below_box (w := w) zbh hb
 have J1 := I1.below hb
 clear I1 hb
 obtain ⟨r0, r1, r2, r3, r4, r5⟩ := J1
 go_wp2_with fail
 refine bodyPost_ret (v := .agg #[.bool true, .bool false, .slice none 0 0, .int .i64 0]) (by simp only [results, Tryz.results55]; go_simp) rfl ?_
 exact ⟨none, 0, rfl, Mag.nil _, (have := Beh.mk hbw; zbh), nl0⟩
theorem rdnorm_f (w : World) (hT : Tab w) (s : Bool) (a : Option Addr) (n cap x : Nat) (e : Int) (hx : Mag w a n cap x) (hlim : n ≤ 549755813888) (hB : blen x ≤ 1048576) (he0 : -9223372036854775808 ≤ e) :
 Calls Tryz.prog 55 #[.agg #[.bool false, .bool s, .slice a n cap, .int .i64 e]] w (RetDy w (nrm (sgn s x) e)) := by
 have HM := fun W h ht => Lib.hid (rmake_any W s a n cap x e h hlim ht hB he0)
 generalize nrm (sgn s x) e = d at HM ⊢
 go_enter Tryz.func55, Tryz.ntmps55
 go_wp2_with fail
 have I1 := DyV.made' (w.alloc (.cells #[.bool false, .bool s, .slice a n cap, .int .i64 e] 46)) 46 false false (.slice none 0 0) 0 (n := w.heap.size + 1) (by rw [World.size_alloc])
 refine (HM _ (hx.below zbh) (hT.below zbh)).out.mono ?_
 rintro e w1 ⟨a1, c1, rfl, hm1, hb, hf1⟩
 have hbw := below_box (w := w) zbh hb
 have J1 := I1.below hb
 have hfr1 : 0 < nl (dman d).natAbs → w.heap.size + 2 ≤ ab a1 := fun h => by have := hf1 h; simpa using this
 clear I1 hb hf1
 obtain ⟨r0, r1, r2, r3, r4, r5⟩ := J1
 go_wp2_with fail
 refine bodyPost_ret (v := .agg #[.bool (dbad d), .bool (decide (dman d < 0)), .slice a1 (nl (dman d).natAbs) c1, .int .i64 (dexp d)]) (by simp only [results, Tryz.results55]; go_simp) rfl ?_
 exact ⟨a1, c1, rfl, (by repeat (with_reducible first | refine Mag.set ?_ (fun h => by have := hfr1 h; omega) _ _ | refine Mag.drew ?_ | refine Mag.alloc ?_ _ | refine Mag.drewN ?_ _ | refine Mag.below ?_ (Below.drew (Below.refl _ _)) | refine Mag.below ?_ ((Below.refl _ _).alloc (Nat.le_refl _) _) | exact hm1)), (by have hszw := (hbw).size; repeat (with_reducible first | refine Below.setCell ?_ (by first | omega | (simp <;> omega)) _ | refine Below.alloc ?_ (by first | omega | (simp <;> omega)) _ | refine Below.drew ?_ | refine below_drewN ?_ _ | exact hbw)), fun h => by have := hfr1 h; omega⟩
theorem rdnorm_any (w : World) (hT : Tab w) (bd s : Bool) (a : Option Addr) (n cap x : Nat) (e : Int) (hx : Mag w a n cap x) (hlim : n ≤ 549755813888) (hB : blen x ≤ 1048576) (he0 : -9223372036854775808 ≤ e) :
 Calls Tryz.prog 55 #[.agg #[.bool bd, .bool s, .slice a n cap, .int .i64 e]] w (RetDy w (nrmB bd (sgn s x) e)) := by
 cases bd
 · exact rdnorm_f w hT s a n cap x e hx hlim hB he0
 · exact rdnorm_t w s a n cap e
def DyIs (w : World) (bd s : Bool) (a : Option Addr) (n cap : Nat) (e : Int) (d : Option (Int × Int)) : Prop := DyIn w bd s a n cap e d ∧ n ≤ 549755813888
theorem DyIs.below {w w' : World} {bd s : Bool} {a : Option Addr} {n cap : Nat} {e : Int} {d : Option (Int × Int)} (h : DyIs w bd s a n cap e d) (hb : Below w.heap.size w w') : DyIs w' bd s a n cap e d := ⟨h.1.below hb, h.2⟩
theorem rdnorm_in (w : World) {bd s : Bool} {a : Option Addr} {n cap : Nat} {e : Int} {d : Option (Int × Int)} (h : DyIs w bd s a n cap e d) (hT : Tab w) :
 Calls Tryz.prog 55 #[.agg #[.bool bd, .bool s, .slice a n cap, .int .i64 e]] w (RetDy w d) := by
 obtain ⟨⟨x, h1, h2, h3, h4, h5, h6⟩, hl⟩ := h
 have := rdnorm_any w hT bd s a n cap x e h1 hl h3 h4
 rwa [h6] at this
end Go.Proofs.YtablcbgeeeboeaaGreatDoor
