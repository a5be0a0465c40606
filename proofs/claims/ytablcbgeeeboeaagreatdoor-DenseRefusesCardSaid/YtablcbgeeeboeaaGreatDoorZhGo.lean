/-
  Walks: package float: Of.
-/
import Derived.Test.YtablcbgeeeboeaaGreatDoorZhRd
import Derived.Test.YtablcbgeeeboeaaGreatDoorZhBg
set_option maxRecDepth 100000
set_option maxHeartbeats 2000000
namespace Go.Proofs.YtablcbgeeeboeaaGreatDoor
open Go.RowKit Sp
theorem zNB (w : World) (f : Nat) (h : fE f = 2047) : Calls Tryz.prog 77 #[.int .u64 f] w (zAy w none) := by
 have HP := fun W => Lib.hid (zBu W f)
 have a1 : (((fE f : Nat) : Int) == 2047) = true := by rw [h]; rfl
 generalize ((fE f : Nat) : Int) = E at *
 generalize ((fR f : Nat) : Int) = R at *
 clear h
 go_enter Tryz.func77, Tryz.ntmps77
 go_wp2_with fail
 refine (HP _).out.mono ?_
 rintro e w1 ⟨rfl, rfl⟩
 go_wp2_with fail
 refine bodyPost_ret (v := .agg #[.bool true, .bool false, .slice none 0 0, .int .i64 0]) (by simp only [results, Tryz.results77]; go_simp) rfl ?_
 exact ⟨none, 0, rfl, Mag.nil _, zbh, nl0⟩
theorem zOH (w : World) (f : Nat) (hf : f < 18446744073709551616) (h0 : fE f = 0) (hs : fS f = false) (m : Nat) (hm : m = fR f) (e : Int) (he : e = -1074) (d : Option (Int × Int)) (hd : d = nrm (sgn false m) e) (hT : Tab w) : Calls Tryz.prog 77 #[.int .u64 f] w (zAy w d) := by
 have HP := fun W => Lib.hid (zBu W f)
 have HS := fun W => Lib.hid (zDg W f hf)
 rw [hs] at HS
 have hR := zEn f
 have hE := zEo f
 have hmb : m < 9007199254740992 := by omega
 have hbl : zA4 m ≤ 53 := zAq hmb
 have HI := fun W => Lib.hid (zBX W (m : Int) (by omega) (by omega))
 have hw : IntKind.i64.wrap (m : Int) = m := by rw [IntKind.wrap_i64]; omega
 have a1 : (((fE f : Nat) : Int) == 2047) = false := by rw [beq_eq_false_iff_ne]; omega
 have a2 : (((fE f : Nat) : Int) == 0) = true := by rw [h0]; rfl
 have a5 : ((fR f : Nat) : Int) = m := by rw [hm]
 have hz : sgn false m = (m : Int) := rfl
 rw [hz] at hd
 have hb2 : zA4 ((m : Int) : Int).natAbs ≤ 53 := by rw [Int.natAbs_natCast]; exact hbl
 have HM := fun W b c h ht => Lib.hid (zEf W b c (m : Int) e d hd h ht (by omega) (by omega) (by omega))
 generalize ((fE f : Nat) : Int) = E at *
 generalize ((fR f : Nat) : Int) = R at *
 generalize (m : Int) = mm at *
 skip
 subst he
 subst a5
 clear hbl hb2 hd hz hm hR hE hmb
 go_enter Tryz.func77, Tryz.ntmps77
 go_wp2_with fail
 have I0 := DyV.made w 46 false false (.slice none 0 0) 0
 have B0 : Below w.heap.size w (w.alloc (.cells #[.bool false, .bool false, .slice none 0 0, .int .i64 0] 46)) := zbh
 generalize (w.alloc (.cells #[.bool false, .bool false, .slice none 0 0, .int .i64 0] 46)) = w0 at I0 B0 ⊢
 generalize hz0 : w.heap.size = b0 at I0 ⊢
 refine (HP _).out.mono ?_
 rintro e1 w1 ⟨rfl, rfl⟩
 go_wp2_with fail
 refine (HI _).out.mono ?_
 rintro e1 w1 ⟨a1, c1, rfl, M1, hb1, _⟩
 have B1 := zA0 (w := w) B0 hb1
 have R1 := I0.below hb1
 clear hb1
 go_wp2_with fail
 refine (HS _).out.mono ?_
 rintro e1 w2 ⟨rfl, rfl⟩
 go_wp2_with fail
 have R2 := R1.alloc (.cells #[.bool (decide (R < 0)), .slice a1 (nl R.natAbs) c1] 44)
 have hlt := R1.lt
 have hs1 := B1.size
 refine (HM _ a1 c1 (M1.alloc _) (hT.below (have := Beh.mk B1; zbh))).out.mono ?_
 rintro e1 w3 ⟨a3, c3, rfl, M3, hb3, hf3⟩
 have B3 := zA0 (w := w) (have := Beh.mk B1; zbh) hb3
 have R4 := R2.below hb3
 simp at hf3
 have hf3' : 0 < nl (zA1 d).natAbs → b0 < ab a3 := fun h => by have := hf3 h; omega
 obtain ⟨r0, r1, r2, r3, r4, r5⟩ := R4
 go_wp2_with fail
 refine bodyPost_ret (v := .agg #[.bool (zA3 d), .bool (decide (zA1 d < 0)), .slice a3 (nl (zA1 d).natAbs) c3, .int .i64 (zA2 d)]) (by simp only [results, Tryz.results77]; go_simp) rfl ?_
 exact ⟨a3, c3, rfl, (by repeat (with_reducible first | refine Mag.set ?_ (fun h => by have := hf3' h; omega) _ _ | refine Mag.drew ?_ | refine Mag.alloc ?_ _ | refine Mag.drewN ?_ _ | exact M3)), (by have hszw := (B3).size; repeat (with_reducible first | refine Below.setCell ?_ (by first | omega | (simp <;> omega)) _ | refine Below.alloc ?_ (by first | omega | (simp <;> omega)) _ | refine Below.drew ?_ | refine below_drewN ?_ _ | exact B3)), fun h => by have := hf3' h; omega⟩
theorem zOI (w : World) (f : Nat) (hf : f < 18446744073709551616) (h0 : fE f = 0) (hs : fS f = true) (m : Nat) (hm : m = fR f) (e : Int) (he : e = -1074) (d : Option (Int × Int)) (hd : d = nrm (sgn true m) e) (hT : Tab w) : Calls Tryz.prog 77 #[.int .u64 f] w (zAy w d) := by
 have HP := fun W => Lib.hid (zBu W f)
 have HS := fun W => Lib.hid (zDg W f hf)
 rw [hs] at HS
 have hR := zEn f
 have hE := zEo f
 have hmb : m < 9007199254740992 := by omega
 have hbl : zA4 m ≤ 53 := zAq hmb
 have HI := fun W => Lib.hid (zBX W (m : Int) (by omega) (by omega))
 have hw : IntKind.i64.wrap (m : Int) = m := by rw [IntKind.wrap_i64]; omega
 have a1 : (((fE f : Nat) : Int) == 2047) = false := by rw [beq_eq_false_iff_ne]; omega
 have a2 : (((fE f : Nat) : Int) == 0) = true := by rw [h0]; rfl
 have a5 : ((fR f : Nat) : Int) = m := by rw [hm]
 have HG := fun W b c h => Lib.hid (zK3 W b c (m : Int) (-(m : Int)) rfl h (zAz (x := (m : Int).natAbs) (by rw [Int.natAbs_natCast]; omega)))
 have hz : sgn true m = (-(m : Int)) := rfl
 rw [hz] at hd
 have hb2 : zA4 ((-(m : Int)) : Int).natAbs ≤ 53 := by rw [Int.natAbs_neg, Int.natAbs_natCast]; exact hbl
 have HM := fun W b c h ht => Lib.hid (zEf W b c (-(m : Int)) e d hd h ht (by omega) (by omega) (by omega))
 generalize ((fE f : Nat) : Int) = E at *
 generalize ((fR f : Nat) : Int) = R at *
 generalize (m : Int) = mm at *
 generalize hy : -mm = y at *
 subst he
 subst a5
 clear hy hbl hb2 hd hz hm hR hE hmb
 go_enter Tryz.func77, Tryz.ntmps77
 go_wp2_with fail
 have I0 := DyV.made w 46 false false (.slice none 0 0) 0
 have B0 : Below w.heap.size w (w.alloc (.cells #[.bool false, .bool false, .slice none 0 0, .int .i64 0] 46)) := zbh
 generalize (w.alloc (.cells #[.bool false, .bool false, .slice none 0 0, .int .i64 0] 46)) = w0 at I0 B0 ⊢
 generalize hz0 : w.heap.size = b0 at I0 ⊢
 refine (HP _).out.mono ?_
 rintro e1 w1 ⟨rfl, rfl⟩
 go_wp2_with fail
 refine (HI _).out.mono ?_
 rintro e1 w1 ⟨a1, c1, rfl, M1, hb1, _⟩
 have B1 := zA0 (w := w) B0 hb1
 have R1 := I0.below hb1
 clear hb1
 go_wp2_with fail
 refine (HS _).out.mono ?_
 rintro e1 w2 ⟨rfl, rfl⟩
 go_wp2_with fail
 have R2 := R1.alloc (.cells #[.bool (decide (R < 0)), .slice a1 (nl R.natAbs) c1] 44)
 have hlt := R1.lt
 have Vm := BgV.made w1 44 (decide (R < 0)) (.slice a1 (nl R.natAbs) c1)
 refine (HG _ a1 c1 (M1.alloc _)).out.mono ?_
 rintro e1 w2 ⟨a2, c2, rfl, M2, hb2, hf2⟩
 have hs1 := B1.size
 have hs2 := hb2.size
 simp at hs2
 have hf2' : 0 < nl y.natAbs → w1.heap.size < ab a2 := fun h => by have := hf2 h; simp at this; omega
 have B2 := zA0 (w := w) (have := Beh.mk B1; zbh) hb2
 have R3 := R2.below hb2
 obtain ⟨p0, p1, p2, p3⟩ := Vm.below hb2
 clear hb2 hf2
 go_wp2_with fail
 refine (HM _ a2 c2 (by repeat (with_reducible first | refine Mag.set ?_ (fun h => by have := hf2' h; omega) _ _ | refine Mag.drew ?_ | refine Mag.alloc ?_ _ | refine Mag.drewN ?_ _ | exact M2)) (hT.below (by have hszw := (B2).size; repeat (with_reducible first | refine Below.setCell ?_ (by first | omega | (simp <;> omega)) _ | refine Below.alloc ?_ (by first | omega | (simp <;> omega)) _ | refine Below.drew ?_ | refine below_drewN ?_ _ | exact B2)))).out.mono ?_
 rintro e1 w3 ⟨a3, c3, rfl, M3, hb3, hf3⟩
 have B3 := zA0 (w := w) (by have hszw := (B2).size; repeat (with_reducible first | refine Below.setCell ?_ (by first | omega | (simp <;> omega)) _ | refine Below.alloc ?_ (by first | omega | (simp <;> omega)) _ | refine Below.drew ?_ | refine below_drewN ?_ _ | exact B2)) hb3
 have R4 : DyV w3 b0 false false (.slice none 0 0) 0 := DyV.below (by repeat (first | exact R3 | refine DyV.set ?_ (by omega) _ _)) hb3
 simp at hf3
 have hf3' : 0 < nl (zA1 d).natAbs → b0 < ab a3 := fun h => by have := hf3 h; omega
 obtain ⟨r0, r1, r2, r3, r4, r5⟩ := R4
 go_wp2_with fail
 refine bodyPost_ret (v := .agg #[.bool (zA3 d), .bool (decide (zA1 d < 0)), .slice a3 (nl (zA1 d).natAbs) c3, .int .i64 (zA2 d)]) (by simp only [results, Tryz.results77]; go_simp) rfl ?_
 exact ⟨a3, c3, rfl, (by repeat (with_reducible first | refine Mag.set ?_ (fun h => by have := hf3' h; omega) _ _ | refine Mag.drew ?_ | refine Mag.alloc ?_ _ | refine Mag.drewN ?_ _ | exact M3)), (by have hszw := (B3).size; repeat (with_reducible first | refine Below.setCell ?_ (by first | omega | (simp <;> omega)) _ | refine Below.alloc ?_ (by first | omega | (simp <;> omega)) _ | refine Below.drew ?_ | refine below_drewN ?_ _ | exact B3)), fun h => by have := hf3' h; omega⟩
theorem zOK (w : World) (f : Nat) (hf : f < 18446744073709551616) (h0 : fE f ≠ 0) (h1 : fE f ≠ 2047) (hs : fS f = false) (m : Nat) (hm : m = fR f + 4503599627370496) (e : Int) (he : e = (fE f : Int) - 1075) (d : Option (Int × Int)) (hd : d = nrm (sgn false m) e) (hT : Tab w) : Calls Tryz.prog 77 #[.int .u64 f] w (zAy w d) := by
 have HP := fun W => Lib.hid (zBu W f)
 have HS := fun W => Lib.hid (zDg W f hf)
 rw [hs] at HS
 have hR := zEn f
 have hE := zEo f
 have hmb : m < 9007199254740992 := by omega
 have hbl : zA4 m ≤ 53 := zAq hmb
 have HI := fun W => Lib.hid (zBX W (m : Int) (by omega) (by omega))
 have hw : IntKind.i64.wrap (m : Int) = m := by rw [IntKind.wrap_i64]; omega
 have a1 : (((fE f : Nat) : Int) == 2047) = false := by rw [beq_eq_false_iff_ne]; omega
 have a2 : (((fE f : Nat) : Int) == 0) = false := by rw [beq_eq_false_iff_ne]; omega
 have a3 := zD6 hR
 rw [← hm] at a3
 have a4 : IntKind.i64.wrap (((fE f : Nat) : Int) - 1075) = e := by rw [he, IntKind.wrap_i64]; omega
 have hz : sgn false m = (m : Int) := rfl
 rw [hz] at hd
 have hb2 : zA4 ((m : Int) : Int).natAbs ≤ 53 := by rw [Int.natAbs_natCast]; exact hbl
 have HM := fun W b c h ht => Lib.hid (zEf W b c (m : Int) e d hd h ht (by omega) (by omega) (by omega))
 generalize ((fE f : Nat) : Int) = E at *
 generalize ((fR f : Nat) : Int) = R at *
 generalize (m : Int) = mm at *
 skip
 skip
 skip
 clear hbl hb2 hd hz hm hR hE hmb he h1
 go_enter Tryz.func77, Tryz.ntmps77
 go_wp2_with fail
 have I0 := DyV.made w 46 false false (.slice none 0 0) 0
 have B0 : Below w.heap.size w (w.alloc (.cells #[.bool false, .bool false, .slice none 0 0, .int .i64 0] 46)) := zbh
 generalize (w.alloc (.cells #[.bool false, .bool false, .slice none 0 0, .int .i64 0] 46)) = w0 at I0 B0 ⊢
 generalize hz0 : w.heap.size = b0 at I0 ⊢
 refine (HP _).out.mono ?_
 rintro e1 w1 ⟨rfl, rfl⟩
 go_wp2_with fail
 refine (HI _).out.mono ?_
 rintro e1 w1 ⟨a1, c1, rfl, M1, hb1, _⟩
 have B1 := zA0 (w := w) B0 hb1
 have R1 := I0.below hb1
 clear hb1
 go_wp2_with fail
 refine (HS _).out.mono ?_
 rintro e1 w2 ⟨rfl, rfl⟩
 go_wp2_with fail
 have R2 := R1.alloc (.cells #[.bool (decide (mm < 0)), .slice a1 (nl mm.natAbs) c1] 44)
 have hlt := R1.lt
 have hs1 := B1.size
 refine (HM _ a1 c1 (M1.alloc _) (hT.below (have := Beh.mk B1; zbh))).out.mono ?_
 rintro e1 w3 ⟨a3, c3, rfl, M3, hb3, hf3⟩
 have B3 := zA0 (w := w) (have := Beh.mk B1; zbh) hb3
 have R4 := R2.below hb3
 simp at hf3
 have hf3' : 0 < nl (zA1 d).natAbs → b0 < ab a3 := fun h => by have := hf3 h; omega
 obtain ⟨r0, r1, r2, r3, r4, r5⟩ := R4
 go_wp2_with fail
 refine bodyPost_ret (v := .agg #[.bool (zA3 d), .bool (decide (zA1 d < 0)), .slice a3 (nl (zA1 d).natAbs) c3, .int .i64 (zA2 d)]) (by simp only [results, Tryz.results77]; go_simp) rfl ?_
 exact ⟨a3, c3, rfl, (by repeat (with_reducible first | refine Mag.set ?_ (fun h => by have := hf3' h; omega) _ _ | refine Mag.drew ?_ | refine Mag.alloc ?_ _ | refine Mag.drewN ?_ _ | exact M3)), (by have hszw := (B3).size; repeat (with_reducible first | refine Below.setCell ?_ (by first | omega | (simp <;> omega)) _ | refine Below.alloc ?_ (by first | omega | (simp <;> omega)) _ | refine Below.drew ?_ | refine below_drewN ?_ _ | exact B3)), fun h => by have := hf3' h; omega⟩
theorem zOL (w : World) (f : Nat) (hf : f < 18446744073709551616) (h0 : fE f ≠ 0) (h1 : fE f ≠ 2047) (hs : fS f = true) (m : Nat) (hm : m = fR f + 4503599627370496) (e : Int) (he : e = (fE f : Int) - 1075) (d : Option (Int × Int)) (hd : d = nrm (sgn true m) e) (hT : Tab w) : Calls Tryz.prog 77 #[.int .u64 f] w (zAy w d) := by
 have HP := fun W => Lib.hid (zBu W f)
 have HS := fun W => Lib.hid (zDg W f hf)
 rw [hs] at HS
 have hR := zEn f
 have hE := zEo f
 have hmb : m < 9007199254740992 := by omega
 have hbl : zA4 m ≤ 53 := zAq hmb
 have HI := fun W => Lib.hid (zBX W (m : Int) (by omega) (by omega))
 have hw : IntKind.i64.wrap (m : Int) = m := by rw [IntKind.wrap_i64]; omega
 have a1 : (((fE f : Nat) : Int) == 2047) = false := by rw [beq_eq_false_iff_ne]; omega
 have a2 : (((fE f : Nat) : Int) == 0) = false := by rw [beq_eq_false_iff_ne]; omega
 have a3 := zD6 hR
 rw [← hm] at a3
 have a4 : IntKind.i64.wrap (((fE f : Nat) : Int) - 1075) = e := by rw [he, IntKind.wrap_i64]; omega
 have HG := fun W b c h => Lib.hid (zK3 W b c (m : Int) (-(m : Int)) rfl h (zAz (x := (m : Int).natAbs) (by rw [Int.natAbs_natCast]; omega)))
 have hz : sgn true m = (-(m : Int)) := rfl
 rw [hz] at hd
 have hb2 : zA4 ((-(m : Int)) : Int).natAbs ≤ 53 := by rw [Int.natAbs_neg, Int.natAbs_natCast]; exact hbl
 have HM := fun W b c h ht => Lib.hid (zEf W b c (-(m : Int)) e d hd h ht (by omega) (by omega) (by omega))
 generalize ((fE f : Nat) : Int) = E at *
 generalize ((fR f : Nat) : Int) = R at *
 generalize (m : Int) = mm at *
 generalize hy : -mm = y at *
 skip
 skip
 clear hy hbl hb2 hd hz hm hR hE hmb he h1
 go_enter Tryz.func77, Tryz.ntmps77
 go_wp2_with fail
 have I0 := DyV.made w 46 false false (.slice none 0 0) 0
 have B0 : Below w.heap.size w (w.alloc (.cells #[.bool false, .bool false, .slice none 0 0, .int .i64 0] 46)) := zbh
 generalize (w.alloc (.cells #[.bool false, .bool false, .slice none 0 0, .int .i64 0] 46)) = w0 at I0 B0 ⊢
 generalize hz0 : w.heap.size = b0 at I0 ⊢
 refine (HP _).out.mono ?_
 rintro e1 w1 ⟨rfl, rfl⟩
 go_wp2_with fail
 refine (HI _).out.mono ?_
 rintro e1 w1 ⟨a1, c1, rfl, M1, hb1, _⟩
 have B1 := zA0 (w := w) B0 hb1
 have R1 := I0.below hb1
 clear hb1
 go_wp2_with fail
 refine (HS _).out.mono ?_
 rintro e1 w2 ⟨rfl, rfl⟩
 go_wp2_with fail
 have R2 := R1.alloc (.cells #[.bool (decide (mm < 0)), .slice a1 (nl mm.natAbs) c1] 44)
 have hlt := R1.lt
 have Vm := BgV.made w1 44 (decide (mm < 0)) (.slice a1 (nl mm.natAbs) c1)
 refine (HG _ a1 c1 (M1.alloc _)).out.mono ?_
 rintro e1 w2 ⟨a2, c2, rfl, M2, hb2, hf2⟩
 have hs1 := B1.size
 have hs2 := hb2.size
 simp at hs2
 have hf2' : 0 < nl y.natAbs → w1.heap.size < ab a2 := fun h => by have := hf2 h; simp at this; omega
 have B2 := zA0 (w := w) (have := Beh.mk B1; zbh) hb2
 have R3 := R2.below hb2
 obtain ⟨p0, p1, p2, p3⟩ := Vm.below hb2
 clear hb2 hf2
 go_wp2_with fail
 refine (HM _ a2 c2 (by repeat (with_reducible first | refine Mag.set ?_ (fun h => by have := hf2' h; omega) _ _ | refine Mag.drew ?_ | refine Mag.alloc ?_ _ | refine Mag.drewN ?_ _ | exact M2)) (hT.below (by have hszw := (B2).size; repeat (with_reducible first | refine Below.setCell ?_ (by first | omega | (simp <;> omega)) _ | refine Below.alloc ?_ (by first | omega | (simp <;> omega)) _ | refine Below.drew ?_ | refine below_drewN ?_ _ | exact B2)))).out.mono ?_
 rintro e1 w3 ⟨a3, c3, rfl, M3, hb3, hf3⟩
 have B3 := zA0 (w := w) (by have hszw := (B2).size; repeat (with_reducible first | refine Below.setCell ?_ (by first | omega | (simp <;> omega)) _ | refine Below.alloc ?_ (by first | omega | (simp <;> omega)) _ | refine Below.drew ?_ | refine below_drewN ?_ _ | exact B2)) hb3
 have R4 : DyV w3 b0 false false (.slice none 0 0) 0 := DyV.below (by repeat (first | exact R3 | refine DyV.set ?_ (by omega) _ _)) hb3
 simp at hf3
 have hf3' : 0 < nl (zA1 d).natAbs → b0 < ab a3 := fun h => by have := hf3 h; omega
 obtain ⟨r0, r1, r2, r3, r4, r5⟩ := R4
 go_wp2_with fail
 refine bodyPost_ret (v := .agg #[.bool (zA3 d), .bool (decide (zA1 d < 0)), .slice a3 (nl (zA1 d).natAbs) c3, .int .i64 (zA2 d)]) (by simp only [results, Tryz.results77]; go_simp) rfl ?_
 exact ⟨a3, c3, rfl, (by repeat (with_reducible first | refine Mag.set ?_ (fun h => by have := hf3' h; omega) _ _ | refine Mag.drew ?_ | refine Mag.alloc ?_ _ | refine Mag.drewN ?_ _ | exact M3)), (by have hszw := (B3).size; repeat (with_reducible first | refine Below.setCell ?_ (by first | omega | (simp <;> omega)) _ | refine Below.alloc ?_ (by first | omega | (simp <;> omega)) _ | refine Below.drew ?_ | refine below_drewN ?_ _ | exact B3)), fun h => by have := hf3' h; omega⟩
theorem zFw (w : World) (f : Nat) (hf : f < 18446744073709551616) (hT : Tab w) : Calls Tryz.prog 77 #[.int .u64 f] w (zAy w (fof f)) := by
 by_cases h1 : fE f = 2047
 · rw [zKw (by rw [zDh]; simpa using h1)]; exact zNB w f h1
 · have hd : fof f = nrm (sgn (fS f) (if fE f = 0 then fR f else fR f + 4503599627370496)) (if fE f = 0 then -1074 else (fE f : Int) - 1075) := by
    rw [zEm (by rw [zDh]; simpa using h1)]; exact zHP f
   by_cases h0 : fE f = 0
   · rw [if_pos h0, if_pos h0] at hd
     cases hs : fS f <;> rw [hs] at hd
     · exact zOH w f hf h0 hs _ rfl _ rfl _ hd hT
     · exact zOI w f hf h0 hs _ rfl _ rfl _ hd hT
   · rw [if_neg h0, if_neg h0] at hd
     cases hs : fS f <;> rw [hs] at hd
     · exact zOK w f hf h0 h1 hs _ rfl _ rfl _ hd hT
     · exact zOL w f hf h0 h1 hs _ rfl _ rfl _ hd hT
end Go.Proofs.YtablcbgeeeboeaaGreatDoor
