/-
  Walks: package float: Root.
-/
import Derived.Test.YtablcbgeeeboeaaGreatDoorZfGq
import Derived.Test.YtablcbgeeeboeaaGreatDoorZfSqt
set_option maxRecDepth 100000
set_option maxHeartbeats 2000000
namespace Go.Proofs.YtablcbgeeeboeaaGreatDoor
open Go.RowKit Sp
theorem wroot_bad (w : World) (bd s : Bool) (a : Option Addr) (n cap : Nat) (e mode : Int) (d : Option (Int × Int)) (hx : DyIn w bd s a n cap e d) (hT : Tab w) (hbd : dbad d = true) :
 Calls Tryz.prog 93 #[.agg #[.bool bd, .bool s, .slice a n cap, .int .i64 e], .int .i64 mode] w fun o w' => o = .returned (.int .u64 9221120237041090560) ∧ Below w.heap.size w w' := by
 have HN := fun W h ht => Lib.hid (@dNorm_d W bd s a n cap e d h ht)
 have hN := Lib.hid hx.isN
 go_enter Tryz.func93, Tryz.ntmps93
 go_wp2_with fail
 have I0 := DyV.made w 46 bd s (.slice a n cap) e
 have B0 : Below w.heap.size w (w.alloc (.cells #[.bool bd, .bool s, .slice a n cap, .int .i64 e] 46)) := zbh
 generalize (w.alloc (.cells #[.bool bd, .bool s, .slice a n cap, .int .i64 e] 46)) = w0 at I0 B0 ⊢
 generalize hz0 : w.heap.size = b0 at I0 ⊢
 refine (HN _ (hx.below B0) (hT.below B0)).out.mono ?_
 rintro e1 w1 ⟨a1, c1, rfl, M1, hb1, hf1⟩
 have B1 := below_box (w := w) B0 hb1
 have hlt := I0.lt
 have hfr : 0 < nl (dman d).natAbs → b0 < ab a1 := fun h => by have := hf1 h; omega
 obtain ⟨p0, p1, p2, p3, p4, p5⟩ := I0.below hb1
 clear hb1 hf1 I0
 go_wp2_with fail
 go_ret
 exact ⟨rfl, (by have hszw := (B1).size; repeat (with_reducible first | refine Below.setCell ?_ (by first | omega | (simp <;> omega)) _ | refine Below.alloc ?_ (by first | omega | (simp <;> omega)) _ | refine Below.drew ?_ | refine below_drewN ?_ _ | exact B1))⟩
theorem wroot_neg (w : World) (bd s : Bool) (a : Option Addr) (n cap : Nat) (e mode : Int) (d : Option (Int × Int)) (hx : DyIn w bd s a n cap e d) (hT : Tab w) (hbd : dbad d = false) (hz : dman d < 0) :
 Calls Tryz.prog 93 #[.agg #[.bool bd, .bool s, .slice a n cap, .int .i64 e], .int .i64 mode] w fun o w' => o = .returned (.int .u64 9221120237041090560) ∧ Below w.heap.size w w' := by
 have HN := fun W h ht => Lib.hid (@dNorm_d W bd s a n cap e d h ht)
 have hN := Lib.hid hx.isN
 have HG := fun W b c (h : Mag W b (nl (dman d).natAbs) c (dman d).natAbs) ht => Lib.hid (dsign_any W (dbad d) (decide (dman d < 0)) b _ c (dexp d) d (dyin_of hN.out h) ht)
 rw [hbd] at HG
 obtain ⟨g, hg⟩ : ∃ g, g = cmpI (dman d) 0 := ⟨_, rfl⟩
 rw [← hg] at HG
 have hge : decide (g < 0) = true := by rw [hg, cmpI_lt hz]; rfl
 clear hg
 have HZ := Lib.hid hz
 clear hz
 go_enter Tryz.func93, Tryz.ntmps93
 go_wp2_with fail
 have I0 := DyV.made w 46 bd s (.slice a n cap) e
 have B0 : Below w.heap.size w (w.alloc (.cells #[.bool bd, .bool s, .slice a n cap, .int .i64 e] 46)) := zbh
 generalize (w.alloc (.cells #[.bool bd, .bool s, .slice a n cap, .int .i64 e] 46)) = w0 at I0 B0 ⊢
 generalize hz0 : w.heap.size = b0 at I0 ⊢
 refine (HN _ (hx.below B0) (hT.below B0)).out.mono ?_
 rintro e1 w1 ⟨a1, c1, rfl, M1, hb1, hf1⟩
 have B1 := below_box (w := w) B0 hb1
 have hlt := I0.lt
 have hfr : 0 < nl (dman d).natAbs → b0 < ab a1 := fun h => by have := hf1 h; omega
 obtain ⟨p0, p1, p2, p3, p4, p5⟩ := I0.below hb1
 clear hb1 hf1 I0
 go_wp2_with fail
 have hzb : w.heap.size ≤ b0 := by omega
 have B2 : Below w.heap.size w ((((w1.setCell ⟨b0, 0, none⟩ (.bool false)).setCell ⟨b0, 1, none⟩ (.bool (decide (dman d < 0)))).setCell ⟨b0, 2, none⟩ (.slice a1 (nl (dman d).natAbs) c1)).setCell ⟨b0, 3, none⟩ (.int .i64 (dexp d))) := (((B1.setCell hzb _).setCell hzb _).setCell hzb _).setCell hzb _
 have K0 : DyV ((((w1.setCell ⟨b0, 0, none⟩ (.bool false)).setCell ⟨b0, 1, none⟩ (.bool (decide (dman d < 0)))).setCell ⟨b0, 2, none⟩ (.slice a1 (nl (dman d).natAbs) c1)).setCell ⟨b0, 3, none⟩ (.int .i64 (dexp d))) b0 false (decide (dman d < 0)) (.slice a1 (nl (dman d).natAbs) c1) (dexp d) := ⟨by go_simp, by go_simp, by go_simp, by go_simp, fun i => by go_simp, by simpa using p5⟩
 have ne1 : 0 < nl (dman d).natAbs → ab a1 ≠ b0 := fun h => by have := hfr h; omega
 have m2 := (((M1.set ne1 0 (.bool false)).set ne1 1 (.bool (decide (dman d < 0)))).set ne1 2 (.slice a1 (nl (dman d).natAbs) c1)).set ne1 3 (.int .i64 (dexp d))
 generalize ((((w1.setCell ⟨b0, 0, none⟩ (.bool false)).setCell ⟨b0, 1, none⟩ (.bool (decide (dman d < 0)))).setCell ⟨b0, 2, none⟩ (.slice a1 (nl (dman d).natAbs) c1)).setCell ⟨b0, 3, none⟩ (.int .i64 (dexp d))) = w2 at B2 K0 m2 ⊢
 clear p0 p1 p2 p3 p4 p5 M1 B1
 refine (HG _ a1 c1 m2 (hT.below B2)).out.mono ?_
 rintro e1 w3 ⟨rfl, hb⟩
 have B3 := below_box (w := w) B2 hb
 have m3 := m2.below hb
 have K0 := K0.below hb
 have J0 := Lib.hid K0
 clear hb m2
 obtain ⟨p0, p1, p2, p3, p4, p5⟩ := K0
 go_wp2_with fail
 go_ret
 exact ⟨rfl, B3⟩
theorem wroot_zero (w : World) (bd s : Bool) (a : Option Addr) (n cap : Nat) (e mode : Int) (d : Option (Int × Int)) (hx : DyIn w bd s a n cap e d) (hT : Tab w) (hbd : dbad d = false) (hz : dman d = 0) :
 Calls Tryz.prog 93 #[.agg #[.bool bd, .bool s, .slice a n cap, .int .i64 e], .int .i64 mode] w fun o w' => o = .returned (.int .u64 0) ∧ Below w.heap.size w w' := by
 have HN := fun W h ht => Lib.hid (@dNorm_d W bd s a n cap e d h ht)
 have hN := Lib.hid hx.isN
 have HG := fun W b c (h : Mag W b (nl (dman d).natAbs) c (dman d).natAbs) ht => Lib.hid (dsign_any W (dbad d) (decide (dman d < 0)) b _ c (dexp d) d (dyin_of hN.out h) ht)
 rw [hbd] at HG
 obtain ⟨g, hg⟩ : ∃ g, g = cmpI (dman d) 0 := ⟨_, rfl⟩
 rw [← hg] at HG
 have hge : decide (g < 0) = false := by rw [hg, cmpI_eq hz]; rfl
 have hge2 : (g == 0) = true := by rw [hg, cmpI_eq hz]; rfl
 clear hg
 have HZ := Lib.hid hz
 clear hz
 go_enter Tryz.func93, Tryz.ntmps93
 go_wp2_with fail
 have I0 := DyV.made w 46 bd s (.slice a n cap) e
 have B0 : Below w.heap.size w (w.alloc (.cells #[.bool bd, .bool s, .slice a n cap, .int .i64 e] 46)) := zbh
 generalize (w.alloc (.cells #[.bool bd, .bool s, .slice a n cap, .int .i64 e] 46)) = w0 at I0 B0 ⊢
 generalize hz0 : w.heap.size = b0 at I0 ⊢
 refine (HN _ (hx.below B0) (hT.below B0)).out.mono ?_
 rintro e1 w1 ⟨a1, c1, rfl, M1, hb1, hf1⟩
 have B1 := below_box (w := w) B0 hb1
 have hlt := I0.lt
 have hfr : 0 < nl (dman d).natAbs → b0 < ab a1 := fun h => by have := hf1 h; omega
 obtain ⟨p0, p1, p2, p3, p4, p5⟩ := I0.below hb1
 clear hb1 hf1 I0
 go_wp2_with fail
 have hzb : w.heap.size ≤ b0 := by omega
 have B2 : Below w.heap.size w ((((w1.setCell ⟨b0, 0, none⟩ (.bool false)).setCell ⟨b0, 1, none⟩ (.bool (decide (dman d < 0)))).setCell ⟨b0, 2, none⟩ (.slice a1 (nl (dman d).natAbs) c1)).setCell ⟨b0, 3, none⟩ (.int .i64 (dexp d))) := (((B1.setCell hzb _).setCell hzb _).setCell hzb _).setCell hzb _
 have K0 : DyV ((((w1.setCell ⟨b0, 0, none⟩ (.bool false)).setCell ⟨b0, 1, none⟩ (.bool (decide (dman d < 0)))).setCell ⟨b0, 2, none⟩ (.slice a1 (nl (dman d).natAbs) c1)).setCell ⟨b0, 3, none⟩ (.int .i64 (dexp d))) b0 false (decide (dman d < 0)) (.slice a1 (nl (dman d).natAbs) c1) (dexp d) := ⟨by go_simp, by go_simp, by go_simp, by go_simp, fun i => by go_simp, by simpa using p5⟩
 have ne1 : 0 < nl (dman d).natAbs → ab a1 ≠ b0 := fun h => by have := hfr h; omega
 have m2 := (((M1.set ne1 0 (.bool false)).set ne1 1 (.bool (decide (dman d < 0)))).set ne1 2 (.slice a1 (nl (dman d).natAbs) c1)).set ne1 3 (.int .i64 (dexp d))
 generalize ((((w1.setCell ⟨b0, 0, none⟩ (.bool false)).setCell ⟨b0, 1, none⟩ (.bool (decide (dman d < 0)))).setCell ⟨b0, 2, none⟩ (.slice a1 (nl (dman d).natAbs) c1)).setCell ⟨b0, 3, none⟩ (.int .i64 (dexp d))) = w2 at B2 K0 m2 ⊢
 clear p0 p1 p2 p3 p4 p5 M1 B1
 refine (HG _ a1 c1 m2 (hT.below B2)).out.mono ?_
 rintro e1 w3 ⟨rfl, hb⟩
 have B3 := below_box (w := w) B2 hb
 have m3 := m2.below hb
 have K0 := K0.below hb
 have J0 := Lib.hid K0
 clear hb m2
 obtain ⟨p0, p1, p2, p3, p4, p5⟩ := K0
 go_wp2_with fail
 have K0 := J0.out
 clear p0 p1 p2 p3 p4 p5 J0
 refine (HG _ a1 c1 m3 (hT.below B3)).out.mono ?_
 rintro e1 w4 ⟨rfl, hb⟩
 have B4 := below_box (w := w) B3 hb
 have m4 := m3.below hb
 have K0 := K0.below hb
 have J0 := Lib.hid K0
 clear hb m3
 obtain ⟨p0, p1, p2, p3, p4, p5⟩ := K0
 go_wp2_with fail
 go_ret
 exact ⟨rfl, B4⟩
theorem wroot_ok (w : World) (bd s : Bool) (a : Option Addr) (n cap : Nat) (e mode : Int) (d : Option (Int × Int)) (hx : DyIn w bd s a n cap e d) (hT : Tab w) (hbd : dbad d = false) (hz : 0 < dman d) :
 Calls Tryz.prog 93 #[.agg #[.bool bd, .bool s, .slice a n cap, .int .i64 e], .int .i64 mode] w fun o w' => o = .returned (.int .u64 ((froot d mode : Nat) : Int)) ∧ Below w.heap.size w w' := by
 have HN := fun W h ht => Lib.hid (@dNorm_d W bd s a n cap e d h ht)
 have hN := Lib.hid hx.isN
 have HG := fun W b c (h : Mag W b (nl (dman d).natAbs) c (dman d).natAbs) ht => Lib.hid (dsign_any W (dbad d) (decide (dman d < 0)) b _ c (dexp d) d (dyin_of hN.out h) ht)
 rw [hbd] at HG
 obtain ⟨g, hg⟩ : ∃ g, g = cmpI (dman d) 0 := ⟨_, rfl⟩
 rw [← hg] at HG
 have hge : decide (g < 0) = false := by rw [hg, cmpI_gt hz]; rfl
 have hge2 : (g == 0) = false := by rw [hg, cmpI_gt hz]; rfl
 obtain ⟨q0, q1, q2⟩ := isN_bounds hN.out
 have HO := fun W b c h => Lib.hid (droot_any W false b c (dman d) (dexp d) 56 h q0 hz (by omega) (by omega) q1 q2)
 have hr1 := rsh_le (dman d) (dexp d) 56 (by decide)
 have hr2 := rsh_ge (dman d) (dexp d) 56
 have hV : froot d mode = frnd false (isq ((dman d).natAbs * 2 ^ rsh (dman d) (dexp d) 56)) ((dexp d - rsh (dman d) (dexp d) 56) / 2) (decide (isq ((dman d).natAbs * 2 ^ rsh (dman d) (dexp d) 56) * isq ((dman d).natAbs * 2 ^ rsh (dman d) (dexp d) 56) ≠ (dman d).natAbs * 2 ^ rsh (dman d) (dexp d) 56)) mode := by
  rcases dcases d with h | ⟨m, f, h⟩
  · rw [h] at hbd; cases hbd
  · subst h
    have k1 : ¬ m < 0 := by have : 0 < m := hz; omega
    have k2 : ¬ m = 0 := by have : 0 < m := hz; omega
    unfold froot; simp only; rw [if_neg k1, if_neg k2]; rfl
 have hM : 0 < (dman d).natAbs * 2 ^ rsh (dman d) (dexp d) 56 := Nat.mul_pos (by omega) (Nat.pow_pos (by decide))
 have hMb : blen ((dman d).natAbs * 2 ^ rsh (dman d) (dexp d) 56) ≤ 200000 := by rw [blen_mul_pow (by omega)]; omega
 have hX0 : 0 < isq ((dman d).natAbs * 2 ^ rsh (dman d) (dexp d) 56) := by
  have := isq_lt ((dman d).natAbs * 2 ^ rsh (dman d) (dexp d) 56)
  rcases Nat.eq_zero_or_pos (isq ((dman d).natAbs * 2 ^ rsh (dman d) (dexp d) 56)) with h | h
  · rw [h] at this; omega
  · exact h
 have hXb : blen (isq ((dman d).natAbs * 2 ^ rsh (dman d) (dexp d) 56)) ≤ 500000 := by
  refine Nat.le_trans (blen_mono (y := (dman d).natAbs * 2 ^ rsh (dman d) (dexp d) 56) ?_) (by omega)
  have := isq_le ((dman d).natAbs * 2 ^ rsh (dman d) (dexp d) 56)
  exact Nat.le_trans (Nat.le_mul_of_pos_left _ hX0) this
 have hE0 : -500000 ≤ (dexp d - (rsh (dman d) (dexp d) 56 : Int)) / 2 := by omega
 have hE1 : (dexp d - (rsh (dman d) (dexp d) 56 : Int)) / 2 ≤ 500000 := by omega
 rw [hV]
 generalize (decide (isq ((dman d).natAbs * 2 ^ rsh (dman d) (dexp d) 56) * isq ((dman d).natAbs * 2 ^ rsh (dman d) (dexp d) 56) ≠ (dman d).natAbs * 2 ^ rsh (dman d) (dexp d) 56)) = mo at *
 generalize isq ((dman d).natAbs * 2 ^ rsh (dman d) (dexp d) 56) = X at *
 generalize (dexp d - (rsh (dman d) (dexp d) 56 : Int)) / 2 = EE at *
 have HR := fun W b c h ht => Lib.hid (rounded_any W false mo b c X EE mode h hX0 hXb hE0 hE1 ht)
 generalize ((frnd false X EE mo mode : Nat) : Int) = V at *
 clear hg q0 q1 q2 hz hr1 hr2 hV hM hMb hX0 hXb hE0 hE1
 go_enter Tryz.func93, Tryz.ntmps93
 go_wp2_with fail
 have I0 := DyV.made w 46 bd s (.slice a n cap) e
 have B0 : Below w.heap.size w (w.alloc (.cells #[.bool bd, .bool s, .slice a n cap, .int .i64 e] 46)) := zbh
 generalize (w.alloc (.cells #[.bool bd, .bool s, .slice a n cap, .int .i64 e] 46)) = w0 at I0 B0 ⊢
 generalize hz0 : w.heap.size = b0 at I0 ⊢
 refine (HN _ (hx.below B0) (hT.below B0)).out.mono ?_
 rintro e1 w1 ⟨a1, c1, rfl, M1, hb1, hf1⟩
 have B1 := below_box (w := w) B0 hb1
 have hlt := I0.lt
 have hfr : 0 < nl (dman d).natAbs → b0 < ab a1 := fun h => by have := hf1 h; omega
 obtain ⟨p0, p1, p2, p3, p4, p5⟩ := I0.below hb1
 clear hb1 hf1 I0
 go_wp2_with fail
 have hzb : w.heap.size ≤ b0 := by omega
 have B2 : Below w.heap.size w ((((w1.setCell ⟨b0, 0, none⟩ (.bool false)).setCell ⟨b0, 1, none⟩ (.bool (decide (dman d < 0)))).setCell ⟨b0, 2, none⟩ (.slice a1 (nl (dman d).natAbs) c1)).setCell ⟨b0, 3, none⟩ (.int .i64 (dexp d))) := (((B1.setCell hzb _).setCell hzb _).setCell hzb _).setCell hzb _
 have K0 : DyV ((((w1.setCell ⟨b0, 0, none⟩ (.bool false)).setCell ⟨b0, 1, none⟩ (.bool (decide (dman d < 0)))).setCell ⟨b0, 2, none⟩ (.slice a1 (nl (dman d).natAbs) c1)).setCell ⟨b0, 3, none⟩ (.int .i64 (dexp d))) b0 false (decide (dman d < 0)) (.slice a1 (nl (dman d).natAbs) c1) (dexp d) := ⟨by go_simp, by go_simp, by go_simp, by go_simp, fun i => by go_simp, by simpa using p5⟩
 have ne1 : 0 < nl (dman d).natAbs → ab a1 ≠ b0 := fun h => by have := hfr h; omega
 have m2 := (((M1.set ne1 0 (.bool false)).set ne1 1 (.bool (decide (dman d < 0)))).set ne1 2 (.slice a1 (nl (dman d).natAbs) c1)).set ne1 3 (.int .i64 (dexp d))
 generalize ((((w1.setCell ⟨b0, 0, none⟩ (.bool false)).setCell ⟨b0, 1, none⟩ (.bool (decide (dman d < 0)))).setCell ⟨b0, 2, none⟩ (.slice a1 (nl (dman d).natAbs) c1)).setCell ⟨b0, 3, none⟩ (.int .i64 (dexp d))) = w2 at B2 K0 m2 ⊢
 clear p0 p1 p2 p3 p4 p5 M1 B1
 refine (HG _ a1 c1 m2 (hT.below B2)).out.mono ?_
 rintro e1 w3 ⟨rfl, hb⟩
 have B3 := below_box (w := w) B2 hb
 have m3 := m2.below hb
 have K0 := K0.below hb
 have J0 := Lib.hid K0
 clear hb m2
 obtain ⟨p0, p1, p2, p3, p4, p5⟩ := K0
 go_wp2_with fail
 have K0 := J0.out
 clear p0 p1 p2 p3 p4 p5 J0
 refine (HG _ a1 c1 m3 (hT.below B3)).out.mono ?_
 rintro e1 w4 ⟨rfl, hb⟩
 have B4 := below_box (w := w) B3 hb
 have m4 := m3.below hb
 have K0 := K0.below hb
 have J0 := Lib.hid K0
 clear hb m3
 obtain ⟨p0, p1, p2, p3, p4, p5⟩ := K0
 go_wp2_with fail
 refine (HO _ a1 c1 m4).out.mono ?_
 rintro e1 w5 ⟨a4, c4, rfl, m5, hb, _⟩
 have B5 := below_box (w := w) B4 hb
 clear hb p0 p1 p2 p3 p4 p5 J0
 go_wp2_with fail
 refine (HR _ a4 c4 m5 (hT.below B5)).out.mono ?_
 rintro e1 w6 ⟨rfl, hb⟩
 have B6 := below_box (w := w) B5 hb
 go_wp2_with fail
 go_ret
 exact ⟨rfl, B6⟩
theorem wroot_any (w : World) (bd s : Bool) (a : Option Addr) (n cap : Nat) (e mode : Int) (d : Option (Int × Int)) (hx : DyIn w bd s a n cap e d) (hT : Tab w) :
 Calls Tryz.prog 93 #[.agg #[.bool bd, .bool s, .slice a n cap, .int .i64 e], .int .i64 mode] w fun o w' => o = .returned (.int .u64 (froot d mode : Nat)) ∧ Below w.heap.size w w' := by
 rcases dcases d with rfl | ⟨m, f, rfl⟩
 · exact wroot_bad w bd s a n cap e mode none hx hT rfl
 · rcases Int.lt_trichotomy m 0 with h0 | h0 | h0
   · have := wroot_neg w bd s a n cap e mode (some (m, f)) hx hT rfl h0
     rwa [show froot (some (m, f)) mode = fNaN by unfold froot; simp only; rw [if_pos h0]]
   · have := wroot_zero w bd s a n cap e mode (some (m, f)) hx hT rfl h0
     rwa [show froot (some (m, f)) mode = 0 by unfold froot; simp only; rw [if_neg (by omega), if_pos h0]]
   · exact wroot_ok w bd s a n cap e mode (some (m, f)) hx hT rfl h0
end Go.Proofs.YtablcbgeeeboeaaGreatDoor
