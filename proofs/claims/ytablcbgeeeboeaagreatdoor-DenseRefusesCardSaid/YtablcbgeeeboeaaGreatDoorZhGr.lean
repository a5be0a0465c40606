/-
  Walks: package float: rounded.
-/
import Derived.Test.YtablcbgeeeboeaaGreatDoorZhRd
import Derived.Test.YtablcbgeeeboeaaGreatDoorZhGi
import Derived.Test.YtablcbgeeeboeaaGreatDoorZhBh
set_option maxRecDepth 100000
set_option maxHeartbeats 2000000
namespace Go.Proofs.YtablcbgeeeboeaaGreatDoor
open Go.RowKit Sp
structure RvV (W : World) (b : Nat) (s : Bool) (sl : Value) (E : Int) (m : Bool) : Prop where
 c0 : W.cell? ⟨b, 0, none⟩ = some (.bool s)
 c1 : W.cell? ⟨b, 1, none⟩ = some (.bool false)
 c2 : W.cell? ⟨b, 2, none⟩ = some sl
 c3 : W.cell? ⟨b, 3, none⟩ = some (.int .i64 E)
 c4 : W.cell? ⟨b, 4, none⟩ = some (.bool m)
 z : ∀ i, W.frozen? ⟨b, i, none⟩ = false
 lt : b < W.heap.size
theorem RvV.below {W W' : World} {b : Nat} {s m : Bool} {sl : Value} {E : Int} (h : RvV W b s sl E m) (hb : Below W.heap.size W W') : RvV W' b s sl E m := by
 obtain ⟨h1, h2⟩ := zA8 hb
 exact ⟨(h1 _ _ h.lt).trans h.c0, (h1 _ _ h.lt).trans h.c1, (h1 _ _ h.lt).trans h.c2, (h1 _ _ h.lt).trans h.c3, (h1 _ _ h.lt).trans h.c4, fun i => (h2 _ _ h.lt).trans (h.z i), Nat.lt_of_lt_of_le h.lt hb.size⟩
theorem RvV.alloc {W : World} {b : Nat} {s m : Bool} {sl : Value} {E : Int} (h : RvV W b s sl E m) (o : Obj) : RvV (W.alloc o) b s sl E m := h.below ((Below.refl _ _).alloc (Nat.le_refl _) _)
theorem RvV.made (W : World) (t : TypeId) (s m : Bool) (sl : Value) (E : Int) : RvV (W.alloc (.cells #[.bool s, .bool false, sl, .int .i64 E, .bool m] t)) W.heap.size s sl E m := by
 refine ⟨?_, ?_, ?_, ?_, ?_, fun i => ?_, by simp⟩ <;> go_simp
theorem zKv {s more : Bool} {x : Nat} {E mode q : Int} {n : Nat} (hx0 : 0 < x) (hq : q = max (rlg x E - 52) (-1074)) (hn : n = zE3 s x E more q mode) :
 n ≤ 9007199254740992 ∧ -1074 ≤ q ∧ (n < 4503599627370496 → q = -1074 ∧ zCf s x E more mode = zCH s n) ∧
 (4503599627370496 ≤ n → n < 9007199254740992 → zCf s x E more mode = if 2047 ≤ q + 1075 then zCP s mode else zCH s ((q + 1075).toNat * 4503599627370496 + (n - 4503599627370496))) ∧
 (n = 9007199254740992 → zCf s x E more mode = if 2047 ≤ q + 1076 then zCP s mode else zCH s ((q + 1076).toNat * 4503599627370496)) := by
 have hp := zG9 hx0 E q hq
 have hn2 : n ≤ rdn x E q + 1 ∧ rdn x E q ≤ n := by rw [hn]; unfold zE3; split <;> omega
 have hf : zCf s x E more mode = zOM s ((q + 1074).toNat * 4503599627370496 + n) mode := by unfold zCf zND; rw [← hq, hn]
 rw [hf]
 clear hf hn
 generalize rdn x E q = r at *
 obtain ⟨k, hk⟩ : ∃ k : Nat, q = (k : Int) - 1074 := ⟨(q + 1074).toNat, by omega⟩
 clear hq
 subst hk
 have e1 : ((k : Int) - 1074 + 1074).toNat = k := by omega
 have e2 : ((k : Int) - 1074 + 1075).toNat = k + 1 := by omega
 have e3 : ((k : Int) - 1074 + 1076).toNat = k + 2 := by omega
 rw [e1] at hp ⊢
 rw [e2, e3]
 unfold zOM zKC
 refine ⟨by omega, by omega, fun h => ⟨by omega, ?_⟩, fun h h' => ?_, fun h => ?_⟩
 · have : k = 0 := by omega
   subst this
   rw [if_neg (by omega), Nat.zero_mul, Nat.zero_add]
 · by_cases hc : 2047 ≤ (k : Int) - 1074 + 1075
   · rw [if_pos hc, if_pos (by omega)]
   · rw [if_neg hc, if_neg (by omega)]
     exact congrArg (zCH s) (by omega)
 · by_cases hc : 2047 ≤ (k : Int) - 1074 + 1076
   · rw [if_pos hc, if_pos (by omega)]
   · rw [if_neg hc, if_neg (by omega)]
     exact congrArg (zCH s) (by omega)
theorem zIn (w : World) (s more : Bool) (a : Option Addr) (c : Nat) (x : Nat) (E mode q k v : Int) (n : Nat) (hx : Mag w a (nl x) c x) (hx0 : 0 < x) (hxl : zA4 x ≤ 524288) (hk : k = rlg x E) (hqq : q = max (k - 52) (-1074)) (hq0 : E - 524288 ≤ q) (hq1 : q ≤ E + 524288) (hE0 : -9223372036854 ≤ E) (hE1 : E ≤ 9223372036854) (hTab : Tab w)
 (hv : v = sgn s n) (hn : n = zE3 s x E more q mode) (_hq3 : -1074 ≤ q) (hn53 : n ≤ 9007199254740992) (hnl : n < 4503599627370496) :
 Calls Tryz.prog 129 #[.agg #[.bool s, .bool false, .slice a (nl x) c, .int .i64 E, .bool more], .int .i64 mode] w fun o w' => o = .returned (.int .u64 (zCH s n : Nat)) ∧ Below w.heap.size w w' := by
 have hkk : IntKind.i64.wrap (IntKind.i64.wrap (E + (zA4 x : Int)) - 1) = k := by rw [hk]; unfold rlg; rw [IntKind.wrap_i64, IntKind.wrap_i64]; omega
 have HL := fun W h => Lib.hid (zCx W s more a c (x : Int) E k h (zAz (x := x) (by omega)) hkk)
 simp only [show decide ((x : Int) < 0) = false by simp, Int.natAbs_natCast] at HL
 have HM := fun W h ht => Lib.hid (zBC W s more a c x E q mode v h hx0 hxl hq0 hq1 hE0 hE1 ht (by rw [hv, hn]))
 have HA := fun W b c h => Lib.hid (zGC W b c v (n : Int) (by rw [hv, zAb]) h (zAz (by rw [hv, zAb]; exact Nat.le_trans (zAq (x := n) (n := 54) (by omega)) (by omega))))
 have HI := fun W b c (h : Mag W b (nl (n : Int).natAbs) c (n : Int).natAbs) => Lib.hid (show Calls Tryz.prog 158 #[.agg #[.bool false, .slice b (nl (n : Int).natAbs) c]] W fun e w' => e = .returned (.tuple #[.int .i64 n, .bool true]) ∧ Below W.heap.size W w' from zEj W b c n h hn53)
 have hN0 : decide ((n : Int) < 0) = false := by simp
 have hqw : max (wrap64 (k - 52)) (-1074) = q := by rw [hqq, hk]; unfold rlg wrap64; omega
 have hw1 : IntKind.u64.wrap (n : Int) = n := by rw [IntKind.wrap_u64]; omega
 have b1 : ((n : Int) == 9007199254740992) = false := by rw [beq_eq_false_iff_ne]; omega
 have b2 : decide ((n : Int) < 4503599627370496) = true := by rw [decide_eq_true_eq]; omega
 have HS := fun W => Lib.hid (zBW W n s (by omega))
 clear hkk hk hqq hq0 hq1 hE0 hE1 hv hn hx0 hxl hn53 _hq3
 clear hnl
 generalize ((zCH s n : Nat) : Int) = V at *
 generalize (n : Int) = N at *
 go_enter Tryz.func129, Tryz.ntmps129
 go_wp2_with fail
 have I0 := RvV.made w 135 s more (.slice a (nl x) c) E
 have B0 : Below w.heap.size w (w.alloc (.cells #[.bool s, .bool false, .slice a (nl x) c, .int .i64 E, .bool more] 135)) := zbh
 generalize (w.alloc (.cells #[.bool s, .bool false, .slice a (nl x) c, .int .i64 E, .bool more] 135)) = w0 at I0 B0 ⊢
 generalize hz0 : w.heap.size = b0 at I0 ⊢
 refine (HL _ (hx.below B0)).out.mono ?_
 rintro e w1 ⟨rfl, hb1⟩
 have B1 := zA0 (w := w) B0 hb1
 have R1 := I0.below hb1
 have R1' := Lib.hid R1
 clear hb1 I0
 obtain ⟨r0, r1, r2, r3, r4, r5, r6⟩ := R1
 go_wp2_with fail
 refine (HM _ (hx.below B1) (hTab.below B1)).out.mono ?_
 rintro e w2 ⟨a2, c2, rfl, M2, hb2, _⟩
 have B2 := zA0 (w := w) B1 hb2
 have R2 := R1'.out.below hb2
 clear hb2 r0 r1 r2 r3 r4 r5 r6 R1'
 go_wp2_with fail
 refine (HA _ a2 c2 M2).out.mono ?_
 rintro e w3 ⟨a3, c3, rfl, M3, hb3, _⟩
 have B3 := zA0 (w := w) B2 hb3
 have R3 := R2.below hb3
 clear hb3 R2
 go_wp2_with fail
 refine (HI _ a3 c3 M3).out.mono ?_
 rintro e w4 ⟨rfl, hb4⟩
 have B4 := zA0 (w := w) B3 hb4
 have R4 := R3.below hb4
 clear hb4 R3
 obtain ⟨r0, r1, r2, r3, r4, r5, r6⟩ := R4
 go_wp2_with fail
 refine (HS _).out.mono ?_
 rintro e w5 ⟨rfl, rfl⟩
 go_wp2_with fail
 go_ret
 exact ⟨rfl, B4⟩
theorem zFa (w : World) (s more : Bool) (a : Option Addr) (c : Nat) (x : Nat) (E mode q k v : Int) (n : Nat) (hx : Mag w a (nl x) c x) (hx0 : 0 < x) (hxl : zA4 x ≤ 524288) (hk : k = rlg x E) (hqq : q = max (k - 52) (-1074)) (hq0 : E - 524288 ≤ q) (hq1 : q ≤ E + 524288) (hE0 : -9223372036854 ≤ E) (hE1 : E ≤ 9223372036854) (hTab : Tab w)
 (hv : v = sgn s n) (hn : n = zE3 s x E more q mode) (_hq3 : -1074 ≤ q) (hn53 : n ≤ 9007199254740992) (hnl : 4503599627370496 ≤ n) (hnh : n < 9007199254740992) (ho : 2047 ≤ q + 1075) :
 Calls Tryz.prog 129 #[.agg #[.bool s, .bool false, .slice a (nl x) c, .int .i64 E, .bool more], .int .i64 mode] w fun o w' => o = .returned (.int .u64 (zCP s mode : Nat)) ∧ Below w.heap.size w w' := by
 have hkk : IntKind.i64.wrap (IntKind.i64.wrap (E + (zA4 x : Int)) - 1) = k := by rw [hk]; unfold rlg; rw [IntKind.wrap_i64, IntKind.wrap_i64]; omega
 have HL := fun W h => Lib.hid (zCx W s more a c (x : Int) E k h (zAz (x := x) (by omega)) hkk)
 simp only [show decide ((x : Int) < 0) = false by simp, Int.natAbs_natCast] at HL
 have HM := fun W h ht => Lib.hid (zBC W s more a c x E q mode v h hx0 hxl hq0 hq1 hE0 hE1 ht (by rw [hv, hn]))
 have HA := fun W b c h => Lib.hid (zGC W b c v (n : Int) (by rw [hv, zAb]) h (zAz (by rw [hv, zAb]; exact Nat.le_trans (zAq (x := n) (n := 54) (by omega)) (by omega))))
 have HI := fun W b c (h : Mag W b (nl (n : Int).natAbs) c (n : Int).natAbs) => Lib.hid (show Calls Tryz.prog 158 #[.agg #[.bool false, .slice b (nl (n : Int).natAbs) c]] W fun e w' => e = .returned (.tuple #[.int .i64 n, .bool true]) ∧ Below W.heap.size W w' from zEj W b c n h hn53)
 have hN0 : decide ((n : Int) < 0) = false := by simp
 have hqw : max (wrap64 (k - 52)) (-1074) = q := by rw [hqq, hk]; unfold rlg wrap64; omega
 have hw1 : IntKind.u64.wrap (n : Int) = n := by rw [IntKind.wrap_u64]; omega
 have b1 : ((n : Int) == 9007199254740992) = false := by rw [beq_eq_false_iff_ne]; omega
 have b2 : decide ((n : Int) < 4503599627370496) = false := by rw [decide_eq_false_iff_not]; omega
 have q1 : IntKind.i64.wrap (q + 1075) = q + 1075 := by rw [IntKind.wrap_i64]; omega
 have q2 : wrap64 (q + 1075) = q + 1075 := by unfold wrap64; omega
 have b3 : decide (2047 ≤ q + 1075) = true := by rw [decide_eq_true_eq]; omega
 have HO := fun W => Lib.hid (zGq W mode s)
 clear hkk hk hqq hq0 hq1 hE0 hE1 hv hn hx0 hxl hn53 _hq3
 clear hnl hnh ho
 generalize ((zCP s mode : Nat) : Int) = V at *
 generalize (n : Int) = N at *
 go_enter Tryz.func129, Tryz.ntmps129
 go_wp2_with fail
 have I0 := RvV.made w 135 s more (.slice a (nl x) c) E
 have B0 : Below w.heap.size w (w.alloc (.cells #[.bool s, .bool false, .slice a (nl x) c, .int .i64 E, .bool more] 135)) := zbh
 generalize (w.alloc (.cells #[.bool s, .bool false, .slice a (nl x) c, .int .i64 E, .bool more] 135)) = w0 at I0 B0 ⊢
 generalize hz0 : w.heap.size = b0 at I0 ⊢
 refine (HL _ (hx.below B0)).out.mono ?_
 rintro e w1 ⟨rfl, hb1⟩
 have B1 := zA0 (w := w) B0 hb1
 have R1 := I0.below hb1
 have R1' := Lib.hid R1
 clear hb1 I0
 obtain ⟨r0, r1, r2, r3, r4, r5, r6⟩ := R1
 go_wp2_with fail
 refine (HM _ (hx.below B1) (hTab.below B1)).out.mono ?_
 rintro e w2 ⟨a2, c2, rfl, M2, hb2, _⟩
 have B2 := zA0 (w := w) B1 hb2
 have R2 := R1'.out.below hb2
 clear hb2 r0 r1 r2 r3 r4 r5 r6 R1'
 go_wp2_with fail
 refine (HA _ a2 c2 M2).out.mono ?_
 rintro e w3 ⟨a3, c3, rfl, M3, hb3, _⟩
 have B3 := zA0 (w := w) B2 hb3
 have R3 := R2.below hb3
 clear hb3 R2
 go_wp2_with fail
 refine (HI _ a3 c3 M3).out.mono ?_
 rintro e w4 ⟨rfl, hb4⟩
 have B4 := zA0 (w := w) B3 hb4
 have R4 := R3.below hb4
 clear hb4 R3
 obtain ⟨r0, r1, r2, r3, r4, r5, r6⟩ := R4
 go_wp2_with fail
 refine (HO _).out.mono ?_
 rintro e w5 ⟨rfl, rfl⟩
 go_wp2_with fail
 go_ret
 exact ⟨rfl, B4⟩
theorem zG1 (w : World) (s more : Bool) (a : Option Addr) (c : Nat) (x : Nat) (E mode q k v : Int) (n : Nat) (hx : Mag w a (nl x) c x) (hx0 : 0 < x) (hxl : zA4 x ≤ 524288) (hk : k = rlg x E) (hqq : q = max (k - 52) (-1074)) (hq0 : E - 524288 ≤ q) (hq1 : q ≤ E + 524288) (hE0 : -9223372036854 ≤ E) (hE1 : E ≤ 9223372036854) (hTab : Tab w)
 (hv : v = sgn s n) (hn : n = zE3 s x E more q mode) (_hq3 : -1074 ≤ q) (hn53 : n ≤ 9007199254740992) (hnl : n = 9007199254740992) (ho : 2047 ≤ q + 1076) :
 Calls Tryz.prog 129 #[.agg #[.bool s, .bool false, .slice a (nl x) c, .int .i64 E, .bool more], .int .i64 mode] w fun o w' => o = .returned (.int .u64 (zCP s mode : Nat)) ∧ Below w.heap.size w w' := by
 have hkk : IntKind.i64.wrap (IntKind.i64.wrap (E + (zA4 x : Int)) - 1) = k := by rw [hk]; unfold rlg; rw [IntKind.wrap_i64, IntKind.wrap_i64]; omega
 have HL := fun W h => Lib.hid (zCx W s more a c (x : Int) E k h (zAz (x := x) (by omega)) hkk)
 simp only [show decide ((x : Int) < 0) = false by simp, Int.natAbs_natCast] at HL
 have HM := fun W h ht => Lib.hid (zBC W s more a c x E q mode v h hx0 hxl hq0 hq1 hE0 hE1 ht (by rw [hv, hn]))
 have HA := fun W b c h => Lib.hid (zGC W b c v (n : Int) (by rw [hv, zAb]) h (zAz (by rw [hv, zAb]; exact Nat.le_trans (zAq (x := n) (n := 54) (by omega)) (by omega))))
 have HI := fun W b c (h : Mag W b (nl (n : Int).natAbs) c (n : Int).natAbs) => Lib.hid (show Calls Tryz.prog 158 #[.agg #[.bool false, .slice b (nl (n : Int).natAbs) c]] W fun e w' => e = .returned (.tuple #[.int .i64 n, .bool true]) ∧ Below W.heap.size W w' from zEj W b c n h hn53)
 have hN0 : decide ((n : Int) < 0) = false := by simp
 have hqw : max (wrap64 (k - 52)) (-1074) = q := by rw [hqq, hk]; unfold rlg wrap64; omega
 have hw1 : IntKind.u64.wrap (n : Int) = n := by rw [IntKind.wrap_u64]; omega
 have b1 : ((n : Int) == 9007199254740992) = true := by rw [beq_iff_eq]; omega
 have q1 : IntKind.i64.wrap (q + 1) = q + 1 := by rw [IntKind.wrap_i64]; omega
 have q2 : wrap64 (q + 1) = q + 1 := by unfold wrap64; omega
 have q3 : IntKind.i64.wrap (q + 1 + 1075) = q + 1076 := by rw [IntKind.wrap_i64]; omega
 have q4 : wrap64 (q + 1 + 1075) = q + 1076 := by unfold wrap64; omega
 have b3 : decide (2047 ≤ q + 1076) = true := by rw [decide_eq_true_eq]; omega
 have HO := fun W => Lib.hid (zGq W mode s)
 clear hkk hk hqq hq0 hq1 hE0 hE1 hv hn hx0 hxl hn53 _hq3
 clear hnl ho
 generalize ((zCP s mode : Nat) : Int) = V at *
 generalize (n : Int) = N at *
 go_enter Tryz.func129, Tryz.ntmps129
 go_wp2_with fail
 have I0 := RvV.made w 135 s more (.slice a (nl x) c) E
 have B0 : Below w.heap.size w (w.alloc (.cells #[.bool s, .bool false, .slice a (nl x) c, .int .i64 E, .bool more] 135)) := zbh
 generalize (w.alloc (.cells #[.bool s, .bool false, .slice a (nl x) c, .int .i64 E, .bool more] 135)) = w0 at I0 B0 ⊢
 generalize hz0 : w.heap.size = b0 at I0 ⊢
 refine (HL _ (hx.below B0)).out.mono ?_
 rintro e w1 ⟨rfl, hb1⟩
 have B1 := zA0 (w := w) B0 hb1
 have R1 := I0.below hb1
 have R1' := Lib.hid R1
 clear hb1 I0
 obtain ⟨r0, r1, r2, r3, r4, r5, r6⟩ := R1
 go_wp2_with fail
 refine (HM _ (hx.below B1) (hTab.below B1)).out.mono ?_
 rintro e w2 ⟨a2, c2, rfl, M2, hb2, _⟩
 have B2 := zA0 (w := w) B1 hb2
 have R2 := R1'.out.below hb2
 clear hb2 r0 r1 r2 r3 r4 r5 r6 R1'
 go_wp2_with fail
 refine (HA _ a2 c2 M2).out.mono ?_
 rintro e w3 ⟨a3, c3, rfl, M3, hb3, _⟩
 have B3 := zA0 (w := w) B2 hb3
 have R3 := R2.below hb3
 clear hb3 R2
 go_wp2_with fail
 refine (HI _ a3 c3 M3).out.mono ?_
 rintro e w4 ⟨rfl, hb4⟩
 have B4 := zA0 (w := w) B3 hb4
 have R4 := R3.below hb4
 clear hb4 R3
 obtain ⟨r0, r1, r2, r3, r4, r5, r6⟩ := R4
 go_wp2_with fail
 refine (HO _).out.mono ?_
 rintro e w5 ⟨rfl, rfl⟩
 go_wp2_with fail
 go_ret
 exact ⟨rfl, B4⟩
theorem zGK (w : World) (s more : Bool) (a : Option Addr) (c : Nat) (x : Nat) (E mode q k v : Int) (n : Nat) (hx : Mag w a (nl x) c x) (hx0 : 0 < x) (hxl : zA4 x ≤ 524288) (hk : k = rlg x E) (hqq : q = max (k - 52) (-1074)) (hq0 : E - 524288 ≤ q) (hq1 : q ≤ E + 524288) (hE0 : -9223372036854 ≤ E) (hE1 : E ≤ 9223372036854) (hTab : Tab w)
 (hv : v = sgn s n) (hn : n = zE3 s x E more q mode) (_hq3 : -1074 ≤ q) (hn53 : n ≤ 9007199254740992) (hnl : 4503599627370496 ≤ n) (hnh : n < 9007199254740992) (ho : ¬ 2047 ≤ q + 1075) :
 Calls Tryz.prog 129 #[.agg #[.bool s, .bool false, .slice a (nl x) c, .int .i64 E, .bool more], .int .i64 mode] w fun o w' => o = .returned (.int .u64 (zCH s ((q + 1075).toNat * 4503599627370496 + (n - 4503599627370496)) : Nat)) ∧ Below w.heap.size w w' := by
 have hkk : IntKind.i64.wrap (IntKind.i64.wrap (E + (zA4 x : Int)) - 1) = k := by rw [hk]; unfold rlg; rw [IntKind.wrap_i64, IntKind.wrap_i64]; omega
 have HL := fun W h => Lib.hid (zCx W s more a c (x : Int) E k h (zAz (x := x) (by omega)) hkk)
 simp only [show decide ((x : Int) < 0) = false by simp, Int.natAbs_natCast] at HL
 have HM := fun W h ht => Lib.hid (zBC W s more a c x E q mode v h hx0 hxl hq0 hq1 hE0 hE1 ht (by rw [hv, hn]))
 have HA := fun W b c h => Lib.hid (zGC W b c v (n : Int) (by rw [hv, zAb]) h (zAz (by rw [hv, zAb]; exact Nat.le_trans (zAq (x := n) (n := 54) (by omega)) (by omega))))
 have HI := fun W b c (h : Mag W b (nl (n : Int).natAbs) c (n : Int).natAbs) => Lib.hid (show Calls Tryz.prog 158 #[.agg #[.bool false, .slice b (nl (n : Int).natAbs) c]] W fun e w' => e = .returned (.tuple #[.int .i64 n, .bool true]) ∧ Below W.heap.size W w' from zEj W b c n h hn53)
 have hN0 : decide ((n : Int) < 0) = false := by simp
 have hqw : max (wrap64 (k - 52)) (-1074) = q := by rw [hqq, hk]; unfold rlg wrap64; omega
 have hw1 : IntKind.u64.wrap (n : Int) = n := by rw [IntKind.wrap_u64]; omega
 obtain ⟨K, hK⟩ : ∃ K : Nat, K = (q + 1075).toNat := ⟨_, rfl⟩
 obtain ⟨m, hm⟩ : ∃ m : Nat, m = n - 4503599627370496 := ⟨_, rfl⟩
 rw [← hK, ← hm]
 have HS := fun W => Lib.hid (zBW W (K * 4503599627370496 + m) s (by omega))
 have hbc := zDm (E := K) (m := m) (by omega) (by omega)
 have b1 : ((n : Int) == 9007199254740992) = false := by rw [beq_eq_false_iff_ne]; omega
 have b2 : decide ((n : Int) < 4503599627370496) = false := by rw [decide_eq_false_iff_not]; omega
 have q1 : IntKind.i64.wrap (q + 1075) = K := by rw [IntKind.wrap_i64]; omega
 have q2 : wrap64 (q + 1075) = K := by unfold wrap64; omega
 have b3 : decide (2047 ≤ (K : Int)) = false := by rw [decide_eq_false_iff_not]; omega
 have u1 : IntKind.u64.wrap (K : Int) = K := by rw [IntKind.wrap_u64]; omega
 have u2 : IntKind.u64.wrap ((K : Int) * 4503599627370496) = (K : Int) * 4503599627370496 := by rw [IntKind.wrap_u64]; omega
 have u3 : IntKind.u64.wrap ((n : Int) - 4503599627370496) = m := by rw [IntKind.wrap_u64]; omega
 have u4 : IntKind.u64.wrap (m : Int) = m := by rw [IntKind.wrap_u64]; omega
 clear hkk hk hqq hq0 hq1 hE0 hE1 hv hn hx0 hxl hn53 _hq3
 clear hnl ho hK hm hnh
 generalize ((zCH s (K * 4503599627370496 + m) : Nat) : Int) = V at *
 generalize ((K * 4503599627370496 + m : Nat) : Int) = C at *
 generalize (K : Int) = KK at *
 generalize (m : Int) = mm at *
 generalize (n : Int) = N at *
 go_enter Tryz.func129, Tryz.ntmps129
 go_wp2_with fail
 have I0 := RvV.made w 135 s more (.slice a (nl x) c) E
 have B0 : Below w.heap.size w (w.alloc (.cells #[.bool s, .bool false, .slice a (nl x) c, .int .i64 E, .bool more] 135)) := zbh
 generalize (w.alloc (.cells #[.bool s, .bool false, .slice a (nl x) c, .int .i64 E, .bool more] 135)) = w0 at I0 B0 ⊢
 generalize hz0 : w.heap.size = b0 at I0 ⊢
 refine (HL _ (hx.below B0)).out.mono ?_
 rintro e w1 ⟨rfl, hb1⟩
 have B1 := zA0 (w := w) B0 hb1
 have R1 := I0.below hb1
 have R1' := Lib.hid R1
 clear hb1 I0
 obtain ⟨r0, r1, r2, r3, r4, r5, r6⟩ := R1
 go_wp2_with fail
 refine (HM _ (hx.below B1) (hTab.below B1)).out.mono ?_
 rintro e w2 ⟨a2, c2, rfl, M2, hb2, _⟩
 have B2 := zA0 (w := w) B1 hb2
 have R2 := R1'.out.below hb2
 clear hb2 r0 r1 r2 r3 r4 r5 r6 R1'
 go_wp2_with fail
 refine (HA _ a2 c2 M2).out.mono ?_
 rintro e w3 ⟨a3, c3, rfl, M3, hb3, _⟩
 have B3 := zA0 (w := w) B2 hb3
 have R3 := R2.below hb3
 clear hb3 R2
 go_wp2_with fail
 refine (HI _ a3 c3 M3).out.mono ?_
 rintro e w4 ⟨rfl, hb4⟩
 have B4 := zA0 (w := w) B3 hb4
 have R4 := R3.below hb4
 clear hb4 R3
 obtain ⟨r0, r1, r2, r3, r4, r5, r6⟩ := R4
 go_wp2_with fail
 refine (HS _).out.mono ?_
 rintro e w5 ⟨rfl, rfl⟩
 go_wp2_with fail
 go_ret
 exact ⟨rfl, B4⟩
theorem zIo (w : World) (s more : Bool) (a : Option Addr) (c : Nat) (x : Nat) (E mode q k v : Int) (n : Nat) (hx : Mag w a (nl x) c x) (hx0 : 0 < x) (hxl : zA4 x ≤ 524288) (hk : k = rlg x E) (hqq : q = max (k - 52) (-1074)) (hq0 : E - 524288 ≤ q) (hq1 : q ≤ E + 524288) (hE0 : -9223372036854 ≤ E) (hE1 : E ≤ 9223372036854) (hTab : Tab w)
 (hv : v = sgn s n) (hn : n = zE3 s x E more q mode) (_hq3 : -1074 ≤ q) (hn53 : n ≤ 9007199254740992) (hnl : n = 9007199254740992) (ho : ¬ 2047 ≤ q + 1076) :
 Calls Tryz.prog 129 #[.agg #[.bool s, .bool false, .slice a (nl x) c, .int .i64 E, .bool more], .int .i64 mode] w fun o w' => o = .returned (.int .u64 (zCH s ((q + 1076).toNat * 4503599627370496) : Nat)) ∧ Below w.heap.size w w' := by
 have hkk : IntKind.i64.wrap (IntKind.i64.wrap (E + (zA4 x : Int)) - 1) = k := by rw [hk]; unfold rlg; rw [IntKind.wrap_i64, IntKind.wrap_i64]; omega
 have HL := fun W h => Lib.hid (zCx W s more a c (x : Int) E k h (zAz (x := x) (by omega)) hkk)
 simp only [show decide ((x : Int) < 0) = false by simp, Int.natAbs_natCast] at HL
 have HM := fun W h ht => Lib.hid (zBC W s more a c x E q mode v h hx0 hxl hq0 hq1 hE0 hE1 ht (by rw [hv, hn]))
 have HA := fun W b c h => Lib.hid (zGC W b c v (n : Int) (by rw [hv, zAb]) h (zAz (by rw [hv, zAb]; exact Nat.le_trans (zAq (x := n) (n := 54) (by omega)) (by omega))))
 have HI := fun W b c (h : Mag W b (nl (n : Int).natAbs) c (n : Int).natAbs) => Lib.hid (show Calls Tryz.prog 158 #[.agg #[.bool false, .slice b (nl (n : Int).natAbs) c]] W fun e w' => e = .returned (.tuple #[.int .i64 n, .bool true]) ∧ Below W.heap.size W w' from zEj W b c n h hn53)
 have hN0 : decide ((n : Int) < 0) = false := by simp
 have hqw : max (wrap64 (k - 52)) (-1074) = q := by rw [hqq, hk]; unfold rlg wrap64; omega
 have hw1 : IntKind.u64.wrap (n : Int) = n := by rw [IntKind.wrap_u64]; omega
 obtain ⟨K, hK⟩ : ∃ K : Nat, K = (q + 1076).toNat := ⟨_, rfl⟩
 rw [← hK]
 have HS := fun W => Lib.hid (zBW W (K * 4503599627370496) s (by omega))
 have hbc : Go.bits .or .u64 ((K : Int) * 4503599627370496) 0 = ((K * 4503599627370496 : Nat) : Int) := by
  have := zDm (E := K) (m := 0) (by omega) (by decide)
  rw [Nat.add_zero] at this; exact this
 have b1 : ((n : Int) == 9007199254740992) = true := by rw [beq_iff_eq]; omega
 have q1 : IntKind.i64.wrap (q + 1) = q + 1 := by rw [IntKind.wrap_i64]; omega
 have q2 : wrap64 (q + 1) = q + 1 := by unfold wrap64; omega
 have q3 : IntKind.i64.wrap (q + 1 + 1075) = K := by rw [IntKind.wrap_i64]; omega
 have q4 : wrap64 (q + 1 + 1075) = K := by unfold wrap64; omega
 have b3 : decide (2047 ≤ (K : Int)) = false := by rw [decide_eq_false_iff_not]; omega
 have u1 : IntKind.u64.wrap (K : Int) = K := by rw [IntKind.wrap_u64]; omega
 have u2 : IntKind.u64.wrap ((K : Int) * 4503599627370496) = (K : Int) * 4503599627370496 := by rw [IntKind.wrap_u64]; omega
 clear hkk hk hqq hq0 hq1 hE0 hE1 hv hn hx0 hxl hn53 _hq3
 clear hnl ho hK
 generalize ((zCH s (K * 4503599627370496) : Nat) : Int) = V at *
 generalize ((K * 4503599627370496 : Nat) : Int) = C at *
 generalize (K : Int) = KK at *
 generalize (n : Int) = N at *
 go_enter Tryz.func129, Tryz.ntmps129
 go_wp2_with fail
 have I0 := RvV.made w 135 s more (.slice a (nl x) c) E
 have B0 : Below w.heap.size w (w.alloc (.cells #[.bool s, .bool false, .slice a (nl x) c, .int .i64 E, .bool more] 135)) := zbh
 generalize (w.alloc (.cells #[.bool s, .bool false, .slice a (nl x) c, .int .i64 E, .bool more] 135)) = w0 at I0 B0 ⊢
 generalize hz0 : w.heap.size = b0 at I0 ⊢
 refine (HL _ (hx.below B0)).out.mono ?_
 rintro e w1 ⟨rfl, hb1⟩
 have B1 := zA0 (w := w) B0 hb1
 have R1 := I0.below hb1
 have R1' := Lib.hid R1
 clear hb1 I0
 obtain ⟨r0, r1, r2, r3, r4, r5, r6⟩ := R1
 go_wp2_with fail
 refine (HM _ (hx.below B1) (hTab.below B1)).out.mono ?_
 rintro e w2 ⟨a2, c2, rfl, M2, hb2, _⟩
 have B2 := zA0 (w := w) B1 hb2
 have R2 := R1'.out.below hb2
 clear hb2 r0 r1 r2 r3 r4 r5 r6 R1'
 go_wp2_with fail
 refine (HA _ a2 c2 M2).out.mono ?_
 rintro e w3 ⟨a3, c3, rfl, M3, hb3, _⟩
 have B3 := zA0 (w := w) B2 hb3
 have R3 := R2.below hb3
 clear hb3 R2
 go_wp2_with fail
 refine (HI _ a3 c3 M3).out.mono ?_
 rintro e w4 ⟨rfl, hb4⟩
 have B4 := zA0 (w := w) B3 hb4
 have R4 := R3.below hb4
 clear hb4 R3
 obtain ⟨r0, r1, r2, r3, r4, r5, r6⟩ := R4
 go_wp2_with fail
 refine (HS _).out.mono ?_
 rintro e w5 ⟨rfl, rfl⟩
 go_wp2_with fail
 go_ret
 exact ⟨rfl, B4⟩
theorem zCW (w : World) (s more : Bool) (a : Option Addr) (c : Nat) (x : Nat) (E mode : Int) (hx : Mag w a (nl x) c x) (hx0 : 0 < x) (hxl : zA4 x ≤ 500000) (hE0 : -500000 ≤ E) (hE1 : E ≤ 500000) (hTab : Tab w) :
 Calls Tryz.prog 129 #[.agg #[.bool s, .bool false, .slice a (nl x) c, .int .i64 E, .bool more], .int .i64 mode] w fun o w' => o = .returned (.int .u64 (zCf s x E more mode : Nat)) ∧ Below w.heap.size w w' := by
 obtain ⟨q, hq⟩ : ∃ q, q = max (rlg x E - 52) (-1074) := ⟨_, rfl⟩
 obtain ⟨n, hn⟩ : ∃ n, n = zE3 s x E more q mode := ⟨_, rfl⟩
 obtain ⟨h1, h2, h3, h4, h5⟩ := zKv hx0 hq hn
 have hb := zCp hx0
 have hq0 : E - 524288 ≤ q := by rw [hq]; unfold rlg; omega
 have hq1 : q ≤ E + 524288 := by rw [hq]; unfold rlg; omega
 rcases Nat.lt_or_ge n 4503599627370496 with hl | hl
 · rw [(h3 hl).2]
   exact zIn w s more a c x E mode q _ _ n hx hx0 (by omega) rfl hq hq0 hq1 (by omega) (by omega) hTab rfl hn h2 h1 hl
 · rcases Nat.lt_or_ge n 9007199254740992 with hh | hh
   · rw [h4 hl hh]
     by_cases ho : 2047 ≤ q + 1075
     · rw [if_pos ho]
       exact zFa w s more a c x E mode q _ _ n hx hx0 (by omega) rfl hq hq0 hq1 (by omega) (by omega) hTab rfl hn h2 h1 hl hh ho
     · rw [if_neg ho]
       exact zGK w s more a c x E mode q _ _ n hx hx0 (by omega) rfl hq hq0 hq1 (by omega) (by omega) hTab rfl hn h2 h1 hl hh ho
   · have he : n = 9007199254740992 := by omega
     rw [h5 he]
     by_cases ho : 2047 ≤ q + 1076
     · rw [if_pos ho]
       exact zG1 w s more a c x E mode q _ _ n hx hx0 (by omega) rfl hq hq0 hq1 (by omega) (by omega) hTab rfl hn h2 h1 he ho
     · rw [if_neg ho]
       exact zIo w s more a c x E mode q _ _ n hx hx0 (by omega) rfl hq hq0 hq1 (by omega) (by omega) hTab rfl hn h2 h1 he ho
end Go.Proofs.YtablcbgeeeboeaaGreatDoor
