/-
  Walks: the reference's integers: Neg, Sub, FromInt.
-/
import Derived.Test.YtablcbgeeeboeaaGreatDoorZaBf
import Derived.Test.YtablcbgeeeboeaaGreatDoorZaRe
set_option maxRecDepth 100000
set_option maxHeartbeats 2000000
namespace Go.Proofs.YtablcbgeeeboeaaGreatDoor
open Go.RowKit Sp
theorem rfromInt_nat (w : World) (k : Nat) (hk : k ≤ 9223372036854775807) :
 Calls Tryz.prog 99 #[.int .i64 k] w (RetBig w (sgn false k)) := by
 have HM := Lib.hid (two_int k (by omega))
 have hlt : decide ((k : Int) < 0) = false := by simp
 have HR := fun W b (h : Mag W b 2 2 k) => Lib.hid (rmake1_any W false b 2 2 k h (by decide))
 generalize sgn false k = z at HR ⊢
 go_enter Tryz.func99, Tryz.ntmps99
 go_wp2_with fail
 have hm := HM.out (w.alloc (.cells #[.bool false, .slice none 0 0] 44))
 rw [World.size_alloc] at hm
 refine (HR _ _ hm).out.mono ?_
 rintro e w1 ⟨a1, c1, rfl, hm1, hb, hf1⟩
 obtain ⟨hc1, hz1⟩ := bcell (hb.mono (show w.heap.size + 2 ≤ _ by simp))
 have hfr1 : 0 < nl z.natAbs → w.heap.size + 2 ≤ ab a1 := fun h => by have := hf1 h; simpa using this
 have hbw := below_box (w := w) zbh hb
 go_wp2_with fail
 refine bodyPost_ret (v := .agg #[.bool (decide (z < 0)), .slice a1 (nl z.natAbs) c1]) (by simp only [results, Tryz.results99]; go_simp) rfl ?_
 exact ret_big hm1 (fun h => by have := hfr1 h; omega) hbw (by omega)
theorem rfromInt_neg (w : World) (k : Nat) (hk0 : 1 ≤ k) (hk : k ≤ 9223372036854775808) :
 Calls Tryz.prog 99 #[.int .i64 (-(k : Int))] w (RetBig w (sgn true k)) := by
 have HM := Lib.hid (two_int k (by omega))
 have hlt : decide (-(k : Int) < 0) = true := by simp; omega
 have e0 : IntKind.u64.wrap (-(k : Int)) = 18446744073709551616 - k := by rw [IntKind.wrap_u64]; omega
 have e1 : IntKind.i64.wrap (-(k : Int) + 1) = -((k : Int) - 1) := by rw [IntKind.wrap_i64]; omega
 have e2 : wrap64 (-(k : Int) + 1) = -((k : Int) - 1) := by unfold wrap64; omega
 have e3 : IntKind.i64.wrap (-(-((k : Int) - 1))) = (k : Int) - 1 := by rw [IntKind.wrap_i64]; omega
 have e4 : IntKind.u64.wrap ((k : Int) - 1) = (k : Int) - 1 := by rw [IntKind.wrap_u64]; omega
 have e5 : IntKind.u64.wrap ((k : Int) - 1 + 1) = k := by rw [IntKind.wrap_u64]; omega
 have HR := fun W b (h : Mag W b 2 2 k) => Lib.hid (rmake1_any W true b 2 2 k h (by decide))
 generalize sgn true k = z at HR ⊢
 go_enter Tryz.func99, Tryz.ntmps99
 go_wp2_with fail
 have hm := HM.out (w.alloc (.cells #[.bool false, .slice none 0 0] 44))
 rw [World.size_alloc] at hm
 refine (HR _ _ hm).out.mono ?_
 rintro e w1 ⟨a1, c1, rfl, hm1, hb, hf1⟩
 obtain ⟨hc1, hz1⟩ := bcell (hb.mono (show w.heap.size + 2 ≤ _ by simp))
 have hfr1 : 0 < nl z.natAbs → w.heap.size + 2 ≤ ab a1 := fun h => by have := hf1 h; simpa using this
 have hbw := below_box (w := w) zbh hb
 go_wp2_with fail
 refine bodyPost_ret (v := .agg #[.bool (decide (z < 0)), .slice a1 (nl z.natAbs) c1]) (by simp only [results, Tryz.results99]; go_simp) rfl ?_
 exact ret_big hm1 (fun h => by have := hfr1 h; omega) hbw (by omega)
theorem rfromInt_any (w : World) (n : Int) (h0 : -9223372036854775808 ≤ n) (h1 : n ≤ 9223372036854775807) :
 Calls Tryz.prog 99 #[.int .i64 n] w (RetBig w n) := by
 rcases Int.lt_or_le n 0 with h | h
 · obtain ⟨k, hk⟩ : ∃ k : Nat, n = -(k : Int) := ⟨n.natAbs, by omega⟩
   subst hk
   exact rfromInt_neg w k (by omega) (by omega)
 · obtain ⟨k, rfl⟩ := Int.eq_ofNat_of_zero_le h
   exact rfromInt_nat w k (by omega)
end Go.Proofs.YtablcbgeeeboeaaGreatDoor
set_option maxRecDepth 100000
set_option maxHeartbeats 2000000
namespace Go.Proofs.YtablcbgeeeboeaaGreatDoor
open Go.RowKit Sp
theorem DyV.put {W : World} {b : Nat} {v s : Bool} {sl : Value} {f : Int} (h : DyV W b v s sl f) (v' s' : Bool) (sl' : Value) (f' : Int) :
 DyV ((((W.setCell ⟨b, 0, none⟩ (.bool v')).setCell ⟨b, 1, none⟩ (.bool s')).setCell ⟨b, 2, none⟩ sl').setCell ⟨b, 3, none⟩ (.int .i64 f')) b v' s' sl' f' := by
 obtain ⟨c0, c1, c2, c3, c4, c5⟩ := h
 exact ⟨by go_simp, by go_simp, by go_simp, by go_simp, fun i => by go_simp, by simpa using c5⟩
theorem BgV.put {W : World} {b : Nat} {s : Bool} {sl : Value} (h : BgV W b s sl) (s' : Bool) (sl' : Value) :
 BgV ((W.setCell ⟨b, 0, none⟩ (.bool s')).setCell ⟨b, 1, none⟩ sl') b s' sl' := by
 obtain ⟨c0, c1, c2, c3⟩ := h
 exact ⟨by go_simp, by go_simp, fun i => by go_simp, by simpa using c3⟩
theorem rlost_any (w : World) (s : Bool) (a : Option Addr) (n cap x k : Nat) (hx : Mag w a n cap x) (hlim : n ≤ 549755813888) (hk : k ≤ 1048576) :
 Calls Tryz.prog 180 #[.agg #[.bool s, .slice a n cap], .int .i64 k] w fun e w' => e = .returned (.bool (decide (x % 2 ^ k ≠ 0))) ∧ Below w.heap.size w w' := by
 have nx := nl_le hx.lt
 have HT := fun W h => Lib.hid (rtrim_any W a n cap x h (by omega))
 have HR := fun W b c h => Lib.hid (rshr_any W b (nl x) c x k h (by omega) hk _ rfl)
 generalize decide (x % 2 ^ k ≠ 0) = lb at HR ⊢
 generalize x / 2 ^ k = q at HR
 clear nx hk hlim
 go_enter Tryz.func180, Tryz.ntmps180
 go_wp2_with fail
 have Ix := (BgV.made' w 44 s (.slice a n cap) (n := w.heap.size) (by rfl))
 have B0 : Below w.heap.size w (w.alloc (.cells #[.bool s, (.slice a n cap)] 44)) := zbh
 generalize (w.alloc (.cells #[.bool s, (.slice a n cap)] 44)) = w0 at Ix B0 ⊢
 generalize hb0 : w.heap.size = b0 at Ix ⊢
 obtain ⟨xc0, xc1, xc2, xc3⟩ := Ix
 have Vx0 := Lib.hid (BgV.mk xc0 xc1 xc2 xc3)
 refine (HT _ (hx.below (have := Beh.mk B0; zbh))).out.mono ?_
 rintro e w1 ⟨a1, c1, rfl, M11, hb1, hf1⟩
 have Vx1 : BgV w1 b0 s (.slice a n cap) := (Vx0.out.on.below hb1)
 (try clear xc0 xc1 xc2)
 obtain ⟨xc0, xc1, xc2, xc3⟩ := Vx1
 have Vx1 := Lib.hid (BgV.mk xc0 xc1 xc2 xc3)
 have B1 := below_box (w := w) (have := Beh.mk B0; zbh) hb1
 have hF1 : 0 < (nl x) → w0.heap.size ≤ ab a1 := (fun h => by have hq := hf1 h; (try simp at hq); omega)
 have fr1x : 0 < (nl x) → ab a1 ≠ b0 := (fun h => by have := hF1 h; have := Vx0.out.lt; omega)
 have fo1 : 0 < (nl x) → w.heap.size ≤ ab a1 := (fun h => by have := hF1 h; have := B0.size; omega)
 clear hF1
 clear hb1 hf1
 go_wp2_with fail
 refine (HR _ a1 c1 M11.on).out.mono ?_
 rintro e w2 ⟨a2, n2, c2, rfl, M22, hn2, hb2, hf2⟩
 have Vx2 : BgV w2 b0 s (.slice a n cap) := (Vx1.out.on.below hb2)
 (try clear xc0 xc1 xc2)
 obtain ⟨xc0, xc1, xc2, xc3⟩ := Vx2
 have Vx2 := Lib.hid (BgV.mk xc0 xc1 xc2 xc3)
 have M12 : Mag w2 a1 (nl x) c1 x := Mag.below M11.on hb2
 have B2 := below_box (w := w) (have := Beh.mk B1; zbh) hb2
 have hF2 : 0 < n2 → w1.heap.size ≤ ab a2 := (fun h => by have hq := hf2 h; (try simp at hq); omega)
 have fr2x : 0 < n2 → ab a2 ≠ b0 := (fun h => by have := hF2 h; have := Vx1.out.lt; omega)
 have fo2 : 0 < n2 → w.heap.size ≤ ab a2 := (fun h => by have := hF2 h; have := B1.size; omega)
 clear hF2
 clear hb2 hf2
 go_wp2_with fail
 go_ret
 exact ⟨rfl, (have := Beh.mk B2; zbh)⟩
end Go.Proofs.YtablcbgeeeboeaaGreatDoor
