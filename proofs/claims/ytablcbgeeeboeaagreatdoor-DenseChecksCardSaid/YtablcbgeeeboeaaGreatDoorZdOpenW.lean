/-
  Walks: package float: Root.
-/
import Derived.Test.YtablcbgeeeboeaaGreatDoorZdGq
import Derived.Test.YtablcbgeeeboeaaGreatDoorZdSqt
import Derived.Test.YtablcbgeeeboeaaGreatDoorZdS3
import Derived.Test.YtablcbgeeeboeaaGreatDoorZdBh
import Derived.Test.YtablcbgeeeboeaaGreatDoorZdGo
import Derived.Deep.AppendLies
import Derived.Test.YtablcbgeeeboeaaGreatDoorZdBg
import Derived.Test.YtablcbgeeeboeaaGreatDoorZdCm
import Derived.Test.YtablcbgeeeboeaaGreatDoorZdOpen
set_option maxRecDepth 100000
set_option maxHeartbeats 2000000
namespace Go.Proofs.YtablcbgeeeboeaaGreatDoor
open Go.RowKit Sp
theorem wroot_bad (w : World) (bd s : Bool) (a : Option Addr) (n cap : Nat) (e mode : Int) (d : Option (Int × Int)) (hx : DyIn w bd s a n cap e d) (hT : Tab w) (hbd : dbad d = true) :
 Calls Tryz.prog 93 #[.agg #[.bool bd, .bool s, .slice a n cap, .int .i64 e], .int .i64 mode] w fun o w' => o = .returned (.int .u64 9221120237041090560) ∧ Below w.heap.size w w' := by
 have HN := fun W h ht => Lib.hid (@dNorm_d W bd s a n cap e d h ht)
 have hN := Lib.hid hx.isN
 go_enter Tryz.func93, Tryz.ntmps93
 go_wp2_with fail
 have I0 := DyV.made w 46 bd s (.slice a n cap) e
 have B0 : Below w.heap.size w (w.alloc (.cells #[.bool bd, .bool s, .slice a n cap, .int .i64 e] 46)) := zbh
 generalize (w.alloc (.cells #[.bool bd, .bool s, .slice a n cap, .int .i64 e] 46)) = w0 at I0 B0 ⊢
 generalize hz0 : w.heap.size = b0 at I0 ⊢
 refine (HN _ (hx.below B0) (hT.below B0)).out.mono ?_
 rintro e1 w1 ⟨a1, c1, rfl, M1, hb1, hf1⟩
 have B1 := below_box (w := w) B0 hb1
 have hlt := I0.lt
 have hfr : 0 < nl (dman d).natAbs → b0 < ab a1 := fun h => by have := hf1 h; omega
 obtain ⟨p0, p1, p2, p3, p4, p5⟩ := I0.below hb1
 clear hb1 hf1 I0
 go_wp2_with fail
 go_ret
 exact ⟨rfl, (by have hszw := (B1).size; repeat (with_reducible first | refine Below.setCell ?_ (by first | omega | (simp <;> omega)) _ | refine Below.alloc ?_ (by first | omega | (simp <;> omega)) _ | refine Below.drew ?_ | refine below_drewN ?_ _ | exact B1))⟩
theorem wroot_neg (w : World) (bd s : Bool) (a : Option Addr) (n cap : Nat) (e mode : Int) (d : Option (Int × Int)) (hx : DyIn w bd s a n cap e d) (hT : Tab w) (hbd : dbad d = false) (hz : dman d < 0) :
 Calls Tryz.prog 93 #[.agg #[.bool bd, .bool s, .slice a n cap, .int .i64 e], .int .i64 mode] w fun o w' => o = .returned (.int .u64 9221120237041090560) ∧ Below w.heap.size w w' := by
 have HN := fun W h ht => Lib.hid (@dNorm_d W bd s a n cap e d h ht)
 have hN := Lib.hid hx.isN
 have HG := fun W b c (h : Mag W b (nl (dman d).natAbs) c (dman d).natAbs) ht => Lib.hid (dsign_any W (dbad d) (decide (dman d < 0)) b _ c (dexp d) d (dyin_of hN.out h) ht)
 rw [hbd] at HG
 obtain ⟨g, hg⟩ : ∃ g, g = cmpI (dman d) 0 := ⟨_, rfl⟩
 rw [← hg] at HG
 have hge : decide (g < 0) = true := by rw [hg, cmpI_lt hz]; rfl
 clear hg
 have HZ := Lib.hid hz
 clear hz
 go_enter Tryz.func93, Tryz.ntmps93
 go_wp2_with fail
 have I0 := DyV.made w 46 bd s (.slice a n cap) e
 have B0 : Below w.heap.size w (w.alloc (.cells #[.bool bd, .bool s, .slice a n cap, .int .i64 e] 46)) := zbh
 generalize (w.alloc (.cells #[.bool bd, .bool s, .slice a n cap, .int .i64 e] 46)) = w0 at I0 B0 ⊢
 generalize hz0 : w.heap.size = b0 at I0 ⊢
 refine (HN _ (hx.below B0) (hT.below B0)).out.mono ?_
 rintro e1 w1 ⟨a1, c1, rfl, M1, hb1, hf1⟩
 have B1 := below_box (w := w) B0 hb1
 have hlt := I0.lt
 have hfr : 0 < nl (dman d).natAbs → b0 < ab a1 := fun h => by have := hf1 h; omega
 obtain ⟨p0, p1, p2, p3, p4, p5⟩ := I0.below hb1
 clear hb1 hf1 I0
 go_wp2_with fail
 have hzb : w.heap.size ≤ b0 := by omega
 have B2 : Below w.heap.size w ((((w1.setCell ⟨b0, 0, none⟩ (.bool false)).setCell ⟨b0, 1, none⟩ (.bool (decide (dman d < 0)))).setCell ⟨b0, 2, none⟩ (.slice a1 (nl (dman d).natAbs) c1)).setCell ⟨b0, 3, none⟩ (.int .i64 (dexp d))) := (((B1.setCell hzb _).setCell hzb _).setCell hzb _).setCell hzb _
 have K0 : DyV ((((w1.setCell ⟨b0, 0, none⟩ (.bool false)).setCell ⟨b0, 1, none⟩ (.bool (decide (dman d < 0)))).setCell ⟨b0, 2, none⟩ (.slice a1 (nl (dman d).natAbs) c1)).setCell ⟨b0, 3, none⟩ (.int .i64 (dexp d))) b0 false (decide (dman d < 0)) (.slice a1 (nl (dman d).natAbs) c1) (dexp d) := ⟨by go_simp, by go_simp, by go_simp, by go_simp, fun i => by go_simp, by simpa using p5⟩
 have ne1 : 0 < nl (dman d).natAbs → ab a1 ≠ b0 := fun h => by have := hfr h; omega
 have m2 := (((M1.set ne1 0 (.bool false)).set ne1 1 (.bool (decide (dman d < 0)))).set ne1 2 (.slice a1 (nl (dman d).natAbs) c1)).set ne1 3 (.int .i64 (dexp d))
 generalize ((((w1.setCell ⟨b0, 0, none⟩ (.bool false)).setCell ⟨b0, 1, none⟩ (.bool (decide (dman d < 0)))).setCell ⟨b0, 2, none⟩ (.slice a1 (nl (dman d).natAbs) c1)).setCell ⟨b0, 3, none⟩ (.int .i64 (dexp d))) = w2 at B2 K0 m2 ⊢
 clear p0 p1 p2 p3 p4 p5 M1 B1
 refine (HG _ a1 c1 m2 (hT.below B2)).out.mono ?_
 rintro e1 w3 ⟨rfl, hb⟩
 have B3 := below_box (w := w) B2 hb
 have m3 := m2.below hb
 have K0 := K0.below hb
 have J0 := Lib.hid K0
 clear hb m2
 obtain ⟨p0, p1, p2, p3, p4, p5⟩ := K0
 go_wp2_with fail
 go_ret
 exact ⟨rfl, B3⟩
theorem wroot_zero (w : World) (bd s : Bool) (a : Option Addr) (n cap : Nat) (e mode : Int) (d : Option (Int × Int)) (hx : DyIn w bd s a n cap e d) (hT : Tab w) (hbd : dbad d = false) (hz : dman d = 0) :
 Calls Tryz.prog 93 #[.agg #[.bool bd, .bool s, .slice a n cap, .int .i64 e], .int .i64 mode] w fun o w' => o = .returned (.int .u64 0) ∧ Below w.heap.size w w' := by
 have HN := fun W h ht => Lib.hid (@dNorm_d W bd s a n cap e d h ht)
 have hN := Lib.hid hx.isN
 have HG := fun W b c (h : Mag W b (nl (dman d).natAbs) c (dman d).natAbs) ht => Lib.hid (dsign_any W (dbad d) (decide (dman d < 0)) b _ c (dexp d) d (dyin_of hN.out h) ht)
 rw [hbd] at HG
 obtain ⟨g, hg⟩ : ∃ g, g = cmpI (dman d) 0 := ⟨_, rfl⟩
 rw [← hg] at HG
 have hge : decide (g < 0) = false := by rw [hg, cmpI_eq hz]; rfl
 have hge2 : (g == 0) = true := by rw [hg, cmpI_eq hz]; rfl
 clear hg
 have HZ := Lib.hid hz
 clear hz
 go_enter Tryz.func93, Tryz.ntmps93
 go_wp2_with fail
 have I0 := DyV.made w 46 bd s (.slice a n cap) e
 have B0 : Below w.heap.size w (w.alloc (.cells #[.bool bd, .bool s, .slice a n cap, .int .i64 e] 46)) := zbh
 generalize (w.alloc (.cells #[.bool bd, .bool s, .slice a n cap, .int .i64 e] 46)) = w0 at I0 B0 ⊢
 generalize hz0 : w.heap.size = b0 at I0 ⊢
 refine (HN _ (hx.below B0) (hT.below B0)).out.mono ?_
 rintro e1 w1 ⟨a1, c1, rfl, M1, hb1, hf1⟩
 have B1 := below_box (w := w) B0 hb1
 have hlt := I0.lt
 have hfr : 0 < nl (dman d).natAbs → b0 < ab a1 := fun h => by have := hf1 h; omega
 obtain ⟨p0, p1, p2, p3, p4, p5⟩ := I0.below hb1
 clear hb1 hf1 I0
 go_wp2_with fail
 have hzb : w.heap.size ≤ b0 := by omega
 have B2 : Below w.heap.size w ((((w1.setCell ⟨b0, 0, none⟩ (.bool false)).setCell ⟨b0, 1, none⟩ (.bool (decide (dman d < 0)))).setCell ⟨b0, 2, none⟩ (.slice a1 (nl (dman d).natAbs) c1)).setCell ⟨b0, 3, none⟩ (.int .i64 (dexp d))) := (((B1.setCell hzb _).setCell hzb _).setCell hzb _).setCell hzb _
 have K0 : DyV ((((w1.setCell ⟨b0, 0, none⟩ (.bool false)).setCell ⟨b0, 1, none⟩ (.bool (decide (dman d < 0)))).setCell ⟨b0, 2, none⟩ (.slice a1 (nl (dman d).natAbs) c1)).setCell ⟨b0, 3, none⟩ (.int .i64 (dexp d))) b0 false (decide (dman d < 0)) (.slice a1 (nl (dman d).natAbs) c1) (dexp d) := ⟨by go_simp, by go_simp, by go_simp, by go_simp, fun i => by go_simp, by simpa using p5⟩
 have ne1 : 0 < nl (dman d).natAbs → ab a1 ≠ b0 := fun h => by have := hfr h; omega
 have m2 := (((M1.set ne1 0 (.bool false)).set ne1 1 (.bool (decide (dman d < 0)))).set ne1 2 (.slice a1 (nl (dman d).natAbs) c1)).set ne1 3 (.int .i64 (dexp d))
 generalize ((((w1.setCell ⟨b0, 0, none⟩ (.bool false)).setCell ⟨b0, 1, none⟩ (.bool (decide (dman d < 0)))).setCell ⟨b0, 2, none⟩ (.slice a1 (nl (dman d).natAbs) c1)).setCell ⟨b0, 3, none⟩ (.int .i64 (dexp d))) = w2 at B2 K0 m2 ⊢
 clear p0 p1 p2 p3 p4 p5 M1 B1
 refine (HG _ a1 c1 m2 (hT.below B2)).out.mono ?_
 rintro e1 w3 ⟨rfl, hb⟩
 have B3 := below_box (w := w) B2 hb
 have m3 := m2.below hb
 have K0 := K0.below hb
 have J0 := Lib.hid K0
 clear hb m2
 obtain ⟨p0, p1, p2, p3, p4, p5⟩ := K0
 go_wp2_with fail
 have K0 := J0.out
 clear p0 p1 p2 p3 p4 p5 J0
 refine (HG _ a1 c1 m3 (hT.below B3)).out.mono ?_
 rintro e1 w4 ⟨rfl, hb⟩
 have B4 := below_box (w := w) B3 hb
 have m4 := m3.below hb
 have K0 := K0.below hb
 have J0 := Lib.hid K0
 clear hb m3
 obtain ⟨p0, p1, p2, p3, p4, p5⟩ := K0
 go_wp2_with fail
 go_ret
 exact ⟨rfl, B4⟩
theorem wroot_ok (w : World) (bd s : Bool) (a : Option Addr) (n cap : Nat) (e mode : Int) (d : Option (Int × Int)) (hx : DyIn w bd s a n cap e d) (hT : Tab w) (hbd : dbad d = false) (hz : 0 < dman d) :
 Calls Tryz.prog 93 #[.agg #[.bool bd, .bool s, .slice a n cap, .int .i64 e], .int .i64 mode] w fun o w' => o = .returned (.int .u64 ((froot d mode : Nat) : Int)) ∧ Below w.heap.size w w' := by
 have HN := fun W h ht => Lib.hid (@dNorm_d W bd s a n cap e d h ht)
 have hN := Lib.hid hx.isN
 have HG := fun W b c (h : Mag W b (nl (dman d).natAbs) c (dman d).natAbs) ht => Lib.hid (dsign_any W (dbad d) (decide (dman d < 0)) b _ c (dexp d) d (dyin_of hN.out h) ht)
 rw [hbd] at HG
 obtain ⟨g, hg⟩ : ∃ g, g = cmpI (dman d) 0 := ⟨_, rfl⟩
 rw [← hg] at HG
 have hge : decide (g < 0) = false := by rw [hg, cmpI_gt hz]; rfl
 have hge2 : (g == 0) = false := by rw [hg, cmpI_gt hz]; rfl
 obtain ⟨q0, q1, q2⟩ := isN_bounds hN.out
 have HO := fun W b c h => Lib.hid (droot_any W false b c (dman d) (dexp d) 56 h q0 hz (by omega) (by omega) q1 q2)
 have hr1 := rsh_le (dman d) (dexp d) 56 (by decide)
 have hr2 := rsh_ge (dman d) (dexp d) 56
 have hV : froot d mode = frnd false (isq ((dman d).natAbs * 2 ^ rsh (dman d) (dexp d) 56)) ((dexp d - rsh (dman d) (dexp d) 56) / 2) (decide (isq ((dman d).natAbs * 2 ^ rsh (dman d) (dexp d) 56) * isq ((dman d).natAbs * 2 ^ rsh (dman d) (dexp d) 56) ≠ (dman d).natAbs * 2 ^ rsh (dman d) (dexp d) 56)) mode := by
  rcases dcases d with h | ⟨m, f, h⟩
  · rw [h] at hbd; cases hbd
  · subst h
    have k1 : ¬ m < 0 := by have : 0 < m := hz; omega
    have k2 : ¬ m = 0 := by have : 0 < m := hz; omega
    unfold froot; simp only; rw [if_neg k1, if_neg k2]; rfl
 have hM : 0 < (dman d).natAbs * 2 ^ rsh (dman d) (dexp d) 56 := Nat.mul_pos (by omega) (Nat.pow_pos (by decide))
 have hMb : blen ((dman d).natAbs * 2 ^ rsh (dman d) (dexp d) 56) ≤ 200000 := by rw [blen_mul_pow (by omega)]; omega
 have hX0 : 0 < isq ((dman d).natAbs * 2 ^ rsh (dman d) (dexp d) 56) := by
  have := isq_lt ((dman d).natAbs * 2 ^ rsh (dman d) (dexp d) 56)
  rcases Nat.eq_zero_or_pos (isq ((dman d).natAbs * 2 ^ rsh (dman d) (dexp d) 56)) with h | h
  · rw [h] at this; omega
  · exact h
 have hXb : blen (isq ((dman d).natAbs * 2 ^ rsh (dman d) (dexp d) 56)) ≤ 500000 := by
  refine Nat.le_trans (blen_mono (y := (dman d).natAbs * 2 ^ rsh (dman d) (dexp d) 56) ?_) (by omega)
  have := isq_le ((dman d).natAbs * 2 ^ rsh (dman d) (dexp d) 56)
  exact Nat.le_trans (Nat.le_mul_of_pos_left _ hX0) this
 have hE0 : -500000 ≤ (dexp d - (rsh (dman d) (dexp d) 56 : Int)) / 2 := by omega
 have hE1 : (dexp d - (rsh (dman d) (dexp d) 56 : Int)) / 2 ≤ 500000 := by omega
 rw [hV]
 generalize (decide (isq ((dman d).natAbs * 2 ^ rsh (dman d) (dexp d) 56) * isq ((dman d).natAbs * 2 ^ rsh (dman d) (dexp d) 56) ≠ (dman d).natAbs * 2 ^ rsh (dman d) (dexp d) 56)) = mo at *
 generalize isq ((dman d).natAbs * 2 ^ rsh (dman d) (dexp d) 56) = X at *
 generalize (dexp d - (rsh (dman d) (dexp d) 56 : Int)) / 2 = EE at *
 have HR := fun W b c h ht => Lib.hid (rounded_any W false mo b c X EE mode h hX0 hXb hE0 hE1 ht)
 generalize ((frnd false X EE mo mode : Nat) : Int) = V at *
 clear hg q0 q1 q2 hz hr1 hr2 hV hM hMb hX0 hXb hE0 hE1
 go_enter Tryz.func93, Tryz.ntmps93
 go_wp2_with fail
 have I0 := DyV.made w 46 bd s (.slice a n cap) e
 have B0 : Below w.heap.size w (w.alloc (.cells #[.bool bd, .bool s, .slice a n cap, .int .i64 e] 46)) := zbh
 generalize (w.alloc (.cells #[.bool bd, .bool s, .slice a n cap, .int .i64 e] 46)) = w0 at I0 B0 ⊢
 generalize hz0 : w.heap.size = b0 at I0 ⊢
 refine (HN _ (hx.below B0) (hT.below B0)).out.mono ?_
 rintro e1 w1 ⟨a1, c1, rfl, M1, hb1, hf1⟩
 have B1 := below_box (w := w) B0 hb1
 have hlt := I0.lt
 have hfr : 0 < nl (dman d).natAbs → b0 < ab a1 := fun h => by have := hf1 h; omega
 obtain ⟨p0, p1, p2, p3, p4, p5⟩ := I0.below hb1
 clear hb1 hf1 I0
 go_wp2_with fail
 have hzb : w.heap.size ≤ b0 := by omega
 have B2 : Below w.heap.size w ((((w1.setCell ⟨b0, 0, none⟩ (.bool false)).setCell ⟨b0, 1, none⟩ (.bool (decide (dman d < 0)))).setCell ⟨b0, 2, none⟩ (.slice a1 (nl (dman d).natAbs) c1)).setCell ⟨b0, 3, none⟩ (.int .i64 (dexp d))) := (((B1.setCell hzb _).setCell hzb _).setCell hzb _).setCell hzb _
 have K0 : DyV ((((w1.setCell ⟨b0, 0, none⟩ (.bool false)).setCell ⟨b0, 1, none⟩ (.bool (decide (dman d < 0)))).setCell ⟨b0, 2, none⟩ (.slice a1 (nl (dman d).natAbs) c1)).setCell ⟨b0, 3, none⟩ (.int .i64 (dexp d))) b0 false (decide (dman d < 0)) (.slice a1 (nl (dman d).natAbs) c1) (dexp d) := ⟨by go_simp, by go_simp, by go_simp, by go_simp, fun i => by go_simp, by simpa using p5⟩
 have ne1 : 0 < nl (dman d).natAbs → ab a1 ≠ b0 := fun h => by have := hfr h; omega
 have m2 := (((M1.set ne1 0 (.bool false)).set ne1 1 (.bool (decide (dman d < 0)))).set ne1 2 (.slice a1 (nl (dman d).natAbs) c1)).set ne1 3 (.int .i64 (dexp d))
 generalize ((((w1.setCell ⟨b0, 0, none⟩ (.bool false)).setCell ⟨b0, 1, none⟩ (.bool (decide (dman d < 0)))).setCell ⟨b0, 2, none⟩ (.slice a1 (nl (dman d).natAbs) c1)).setCell ⟨b0, 3, none⟩ (.int .i64 (dexp d))) = w2 at B2 K0 m2 ⊢
 clear p0 p1 p2 p3 p4 p5 M1 B1
 refine (HG _ a1 c1 m2 (hT.below B2)).out.mono ?_
 rintro e1 w3 ⟨rfl, hb⟩
 have B3 := below_box (w := w) B2 hb
 have m3 := m2.below hb
 have K0 := K0.below hb
 have J0 := Lib.hid K0
 clear hb m2
 obtain ⟨p0, p1, p2, p3, p4, p5⟩ := K0
 go_wp2_with fail
 have K0 := J0.out
 clear p0 p1 p2 p3 p4 p5 J0
 refine (HG _ a1 c1 m3 (hT.below B3)).out.mono ?_
 rintro e1 w4 ⟨rfl, hb⟩
 have B4 := below_box (w := w) B3 hb
 have m4 := m3.below hb
 have K0 := K0.below hb
 have J0 := Lib.hid K0
 clear hb m3
 obtain ⟨p0, p1, p2, p3, p4, p5⟩ := K0
 go_wp2_with fail
 refine (HO _ a1 c1 m4).out.mono ?_
 rintro e1 w5 ⟨a4, c4, rfl, m5, hb, _⟩
 have B5 := below_box (w := w) B4 hb
 clear hb p0 p1 p2 p3 p4 p5 J0
 go_wp2_with fail
 refine (HR _ a4 c4 m5 (hT.below B5)).out.mono ?_
 rintro e1 w6 ⟨rfl, hb⟩
 have B6 := below_box (w := w) B5 hb
 go_wp2_with fail
 go_ret
 exact ⟨rfl, B6⟩
theorem wroot_any (w : World) (bd s : Bool) (a : Option Addr) (n cap : Nat) (e mode : Int) (d : Option (Int × Int)) (hx : DyIn w bd s a n cap e d) (hT : Tab w) :
 Calls Tryz.prog 93 #[.agg #[.bool bd, .bool s, .slice a n cap, .int .i64 e], .int .i64 mode] w fun o w' => o = .returned (.int .u64 (froot d mode : Nat)) ∧ Below w.heap.size w w' := by
 rcases dcases d with rfl | ⟨m, f, rfl⟩
 · exact wroot_bad w bd s a n cap e mode none hx hT rfl
 · rcases Int.lt_trichotomy m 0 with h0 | h0 | h0
   · have := wroot_neg w bd s a n cap e mode (some (m, f)) hx hT rfl h0
     rwa [show froot (some (m, f)) mode = fNaN by unfold froot; simp only; rw [if_pos h0]]
   · have := wroot_zero w bd s a n cap e mode (some (m, f)) hx hT rfl h0
     rwa [show froot (some (m, f)) mode = 0 by unfold froot; simp only; rw [if_neg (by omega), if_pos h0]]
   · exact wroot_ok w bd s a n cap e mode (some (m, f)) hx hT rfl h0
end Go.Proofs.YtablcbgeeeboeaaGreatDoor
set_option maxRecDepth 100000
set_option maxHeartbeats 2000000
namespace Go.Proofs.YtablcbgeeeboeaaGreatDoor
open Go.RowKit Sp
theorem undFl : Tryz.prog.underlying 28 = some (.slice (Tryz.prog.elem 28)) := by kernel_rfl
theorem sizFl (w : World) : (Go.sizeOf (Tryz.prog.elem 28)).run Tryz.prog w = .ok 1 w := by kernel_rfl
structure Fls (w : World) (a : Option Addr) (n cap : Nat) (L : Nat → Nat) : Prop where
 fits : n ≤ cap
 lim : cap ≤ 9223372036854775807
 addr : 0 < n → a = some ⟨ab a, ao a, none⟩
 cell : ∀ i, i < n → w.cell? ⟨ab a, ao a + i, none⟩ = some (.int .u64 (L i : Nat))
 b : ∀ i, i < n → L i < 18446744073709551616
 old : 0 < n → ab a < w.heap.size
theorem Fls.below {w w' : World} {a : Option Addr} {n cap : Nat} {L : Nat → Nat} (h : Fls w a n cap L) (hb : Below w.heap.size w w') : Fls w' a n cap L :=
 ⟨h.fits, h.lim, h.addr, fun i hi => by rw [hb.cell (p := ⟨ab a, ao a + i, none⟩) (h.old (by omega))]; exact h.cell i hi, h.b, fun hn => Nat.lt_of_lt_of_le (h.old hn) hb.size⟩
theorem Fls.idx {w : World} {a : Option Addr} {n cap : Nat} {L : Nat → Nat} (h : Fls w a n cap L) (i : Nat) (hi : i < n) (W : World) :
 (Instr.indexAt 28 (.slice a n cap) (.int .i64 i)).run Tryz.prog W = .ok (.pointer (some ⟨ab a, ao a + i, none⟩)) W := by
 have ha := h.addr (by omega)
 generalize ab a = b at *
 generalize ao a = o at *
 subst ha
 rw [run_indexAt_slice _ _ _ _ _ _ _ undFl, if_pos ⟨by omega, by omega⟩, sizFl]
 simp only [Result.andThen, Int.toNat_natCast, Nat.mul_one, Addr.add_lit]
def allfin (L : Nat → Nat) : Nat → Bool
 | 0 => true
 | k + 1 => allfin L k && ffin (L k)
theorem allfin_iff (L : Nat → Nat) (n : Nat) : allfin L n = true ↔ ∀ i, i < n → ffin (L i) = true := by
 induction n with
 | zero => simp [allfin]
 | succ n ih =>
  simp only [allfin, Bool.and_eq_true, ih]
  constructor
  · rintro ⟨h, h'⟩ i hi
    by_cases hin : i < n
    · exact h i hin
    · obtain rfl : i = n := by omega
      exact h'
  · intro h; exact ⟨fun i hi => h i (by omega), h n (by omega)⟩
theorem allfin_not {L : Nat → Nat} {n i : Nat} (hi : i < n) (h : ffin (L i) = false) : allfin L n = false := by
 cases hc : allfin L n with
 | false => rfl
 | true => rw [(allfin_iff L n).1 hc i hi] at h; cases h
theorem rfinite_any (w : World) (a : Option Addr) (n cap : Nat) (L : Nat → Nat) (hL : Fls w a n cap L) :
 Calls Tryz.prog 165 #[.slice a n cap] w fun e w' => e = .returned (.bool (allfin L n)) ∧ w = w' := by
 have l1 := hL.lim
 have l2 := hL.fits
 have HL := Lib.hid hL
 clear hL
 go_enter Tryz.func165, Tryz.ntmps165
 go_wp2
 go_loop [3] (fun i => ∃ k : Nat, k ≤ n ∧ i = .int .i64 k ∧ allfin L k = true) (fun i => n - (intOf i).toNat)
 case atStart => exact ⟨0, by omega, rfl, rfl⟩
 case round =>
  obtain ⟨k, hk, rfl, hz⟩ := hrel
  have HZ := Lib.hid hz
  clear hz
  by_cases hlt : k < n
  · have c1 := HL.out.cell k hlt
    have i1 := HL.out.idx k hlt
    have HT := fun W => Lib.hid (rfin_any W (L k))
    obtain ⟨v, hv⟩ : ∃ v, v = ffin (L k) := ⟨_, rfl⟩
    rw [← hv] at HT
    have HV := Lib.hid hv
    clear hv
    cases v with
    | false =>
     go_wp2_with fail
     (refine (HT _).out.mono ?_; rintro e w1 ⟨rfl, rfl⟩; go_wp2_with fail)
     go_ret
     exact ⟨by rw [allfin_not hlt HV.out.symm]; rfl, rfl⟩
    | true =>
     go_wp2_with fail
     (refine (HT _).out.mono ?_; rintro e w1 ⟨rfl, rfl⟩; go_wp2_with fail)
     go_round
     case rel => exact ⟨k + 1, by omega, by go_num, by show (allfin L k && ffin (L k)) = true; rw [HZ.out, ← HV.out]; rfl⟩
     case measure => simp [intOf]; omega
  · obtain rfl : k = n := by omega
    go_wp2
    go_ret
    exact ⟨by rw [HZ.out]; rfl, rfl⟩
def mcell (d : Nat → Option (Int × Int)) (A : Nat → Option Addr) (C : Nat → Nat) (i : Nat) : Value × Value × Value × Value :=
 (.bool (dbad (d i)), .bool (decide (dman (d i) < 0)), .slice (A i) (nl (dman (d i)).natAbs) (C i), .int .i64 (dexp (d i)))
structure Dms (w : World) (base : Nat) (v : Value) (k : Nat) (d : Nat → Option (Int × Int)) (A : Nat → Option Addr) (C : Nat → Nat) : Prop where
 own : w.ownsRow base 46 4 v k (dcells (mcell d A C) k)
 m : ∀ i, i < k → Mag w (A i) (nl (dman (d i)).natAbs) (C i) (dman (d i)).natAbs
 ap : ∀ i, i < k → 0 < nl (dman (d i)).natAbs → some (ab (A i)) ≠ v.ownBlock
theorem Dms.below {w w' : World} {base : Nat} {v : Value} {k : Nat} {d : Nat → Option (Int × Int)} {A : Nat → Option Addr} {C : Nat → Nat} (h : Dms w base v k d A C) (hb : Below w.heap.size w w') : Dms w' base v k d A C :=
 ⟨ownsRow_below h.own hb, fun i hi => (h.m i hi).below hb, h.ap⟩
theorem Dms.app {w w' : World} {base : Nat} {v v' : Value} {k : Nat} {d : Nat → Option (Int × Int)} {A : Nat → Option Addr} {C : Nat → Nat} {a1 : Option Addr} {c1 : Nat} (h : Dms w base v k d A C)
 (ho : w'.ownsRow base 46 4 v' (k + 1) (dcells (mcell d A C) k ++ [.bool (dbad (d k)), .bool (decide (dman (d k) < 0)), .slice a1 (nl (dman (d k)).natAbs) c1, .int .i64 (dexp (d k))]))
 (hg : w.grownBy w' v.ownBlock) (hv : v'.ownBlock = v.ownBlock ∨ v'.ownBlock = some w.heap.size) (hm : Mag w a1 (nl (dman (d k)).natAbs) c1 (dman (d k)).natAbs) (hne : 0 < nl (dman (d k)).natAbs → some (ab a1) ≠ v.ownBlock) :
 Dms w' base v' (k + 1) d (fun i => if i = k then a1 else A i) (fun i => if i = k then c1 else C i) := by
 have hap : ∀ (x : Option Addr) (n : Nat), (0 < n → ab x < w.heap.size) → (0 < n → some (ab x) ≠ v.ownBlock) → 0 < n → some (ab x) ≠ v'.ownBlock := fun x n h1 h2 h3 h4 => by
  rcases hv with hv | hv
  · rw [hv] at h4; exact h2 h3 h4
  · rw [hv] at h4; injection h4 with h4; have := h1 h3; omega
 refine ⟨?_, fun i hi => ?_, fun i hi => ?_⟩
 · have e1 : dcells (mcell d (fun i => if i = k then a1 else A i) (fun i => if i = k then c1 else C i)) k = dcells (mcell d A C) k := dcells_congr fun i hi => by
    unfold mcell; simp only [if_neg (show ¬ i = k by omega)]
   simp only [dcells]
   rw [e1]
   unfold mcell
   simp only [if_pos]
   exact ho
 · by_cases hk : i = k
   · subst hk; simp only [if_pos]; exact mag_grown hm hg hne
   · simp only [if_neg hk]; exact mag_grown (h.m i (by omega)) hg (h.ap i (by omega))
 · by_cases hk : i = k
   · subst hk; simp only [if_pos]; exact hap _ _ hm.old hne
   · simp only [if_neg hk]; exact hap _ _ (h.m i (by omega)).old (h.ap i (by omega))
theorem Dms.dys {w : World} {base : Nat} {v : Value} {k : Nat} {d : Nat → Option (Int × Int)} {A : Nat → Option Addr} {C : Nat → Nat} (h : Dms w base v k d A C) (hd : ∀ i, IsN (d i)) :
 ∃ a cap, v = .slice a k cap ∧ Dys w a k cap (fun i => ⟨dbad (d i), decide (dman (d i) < 0), A i, nl (dman (d i)).natAbs, C i, dexp (d i), (dman (d i)).natAbs⟩) := by
 have hbd : ∀ i, i < k → -9223372036854775808 ≤ dexp (d i) ∧ dexp (d i) ≤ 9223372036854775807 := fun i _ => by have := isN_bounds (hd i); omega
 rcases h.own.2 with ⟨hv, hk⟩ | ⟨g, cap, cur, hv, hbg, hgg, hkc, hcm, hcs, htake⟩
 · subst hk
   exact ⟨none, 0, hv, ⟨by omega, by omega, by omega, fun i hi => by omega, fun i hi => by omega, fun i hi => by omega, fun i hi => by omega, fun i hi => by omega, fun i hi => by omega, by omega⟩⟩
 · have ho := h.own
   rw [hv] at ho
   have hc : ∀ j, j < k * 4 → w.cell? ⟨g, j, none⟩ = (dcells (mcell d A C) k)[j]? := fun j hj => ho.cellAt j hj
   refine ⟨some ⟨g, 0, none⟩, cap, hv, hkc, by unfold maxLen at hcm; omega, fun _ => rfl, fun i hi => ?_, fun i hi => ?_, fun i hi => ?_, fun i hi => ?_, h.m, hbd, fun _ => (Array.getElem?_eq_some_iff.1 hgg).1⟩
   · rw [ab_some, ao_some, Nat.zero_add, hc _ (by omega)]; exact (dcells_get _ hi).1
   · rw [ab_some, ao_some, Nat.zero_add, hc _ (by omega)]; exact (dcells_get _ hi).2.1
   · rw [ab_some, ao_some, Nat.zero_add, hc _ (by omega)]; exact (dcells_get _ hi).2.2.1
   · rw [ab_some, ao_some, Nat.zero_add, hc _ (by omega)]; exact (dcells_get _ hi).2.2.2
theorem els_d {d : Nat → Option (Int × Int)} {A : Nat → Option Addr} {C : Nat → Nat} (hd : ∀ i, IsN (d i)) (n : Nat) :
 dsum (fun i => (El.mk (dbad (d i)) (decide (dman (d i) < 0)) (A i) (nl (dman (d i)).natAbs) (C i) (dexp (d i)) (dman (d i)).natAbs).d) n = dsum d n := by
 congr 1
 funext i
 show nrmB (dbad (d i)) (sgn (decide (dman (d i) < 0)) (dman (d i)).natAbs) (dexp (d i)) = d i
 rw [sgn_self]; exact isN_self (hd i)
theorem own_slice' {w : World} {base : Nat} {e : TypeId} {size : Nat} {v : Value} {n : Nat} {xs : List Value} (h : w.ownsRow base e size v n xs) : ∃ a c, v = .slice a n c := by
 rcases h.2 with ⟨rfl, rfl⟩ | ⟨g, cap, cur, rfl, _⟩
 · exact ⟨none, 0, rfl⟩
 · exact ⟨_, _, rfl⟩
theorem dms_sum {w : World} {base : Nat} {v : Value} {k : Nat} {d : Nat → Option (Int × Int)} {A : Nat → Option Addr} {C : Nat → Nat} (hT : Tab w) (h : Dms w base v k d A C) (hd : ∀ i, IsN (d i)) (hk : k ≤ 1048576) :
 ∃ a cap, v = .slice a k cap ∧ Calls Tryz.prog 79 #[.slice a k cap] w (RetDy w (dsum d k)) := by
 obtain ⟨a, cap, hv, hD⟩ := h.dys hd
 refine ⟨a, cap, hv, ?_⟩
 have s := dsum_any w hT a k cap _ hD hk (fun i hi => by
  have := isN_bounds (hd i)
  refine ⟨nl_lim (by omega), ?_⟩
  show blen (dman (d i)).natAbs ≤ 1048576
  omega)
 rwa [els_d hd] at s
theorem step_app_dyad {ops : Array Oper} {o : Oper} {a : Act} {K : Act → World → Prop} {Q : Exit → Act → World → Prop} {w : World} {E : Prop} (hgd : o.guard = none) (s x : Operand)
 (ho : o.op = .call { callee := .builtin .append, args := #[s, x], argTypes := #[23, 23] }) (base : Nat) (v : Value) (n : Nat) (xs : List Value) (hs : a.eval s = v) (g : Nat) (b0 s0 : Bool) (sl : Value) (f0 : Int) (hsl : sl.oneCell' = true)
 (hx : a.eval x = .slice (some ⟨g, 0, none⟩) 1 1) (hown : w.ownsRow base 46 4 v n xs) (k0 : w.cell? ⟨g, 0, none⟩ = some (.bool b0)) (k1 : w.cell? ⟨g, 1, none⟩ = some (.bool s0)) (k2 : w.cell? ⟨g, 2, none⟩ = some sl) (k3 : w.cell? ⟨g, 3, none⟩ = some (.int .i64 f0)) (hn : n ≤ 1048576)
 (hbase : base ≤ w.heap.size) (h : ∀ g' cap' w', w'.ownsRow base 46 4 (.slice (some ⟨g', 0, none⟩) (n + 1) cap') (n + 1) (xs ++ [.bool b0, .bool s0, sl, .int .i64 f0]) → w.grownBy w' v.ownBlock → ((Value.slice (some ⟨g', 0, none⟩) (n + 1) cap').ownBlock = v.ownBlock ∨ (Value.slice (some ⟨g', 0, none⟩) (n + 1) cap').ownBlock = some w.heap.size) → K (a.put o.dst (.slice (some ⟨g', 0, none⟩) (n + 1) cap')) w') :
 if Region.wanted o (yielded ops a.tmps) = true then Oper.wp Tryz.prog o a w K Q else E := by
 obtain ⟨i0, hi, hz0, hz1, hz2⟩ := info_parts infD
 refine step_append_lies w hgd s x _ ho base _ i0 _ 4 48 undD hi hz0 hz1 hz2 rfl (by decide) v n xs hs hown ⟨g, 0, none⟩ 1 1 [.bool b0, .bool s0, sl, .int .i64 f0] hx rfl ?_ ?_ (by decide) (by unfold maxLen; omega) (by omega) hbase _ rfl (fun g' cap' w' h1 h2 h3 _ => h g' cap' w' h1 h2 ?_)
 · intro j u hu
   rw [Addr.add_lit, Nat.zero_add]
   rcases j with _ | _ | _ | _ | j
   · simp at hu; subst hu; exact k0
   · simp at hu; subst hu; exact k1
   · simp at hu; subst hu; exact k2
   · simp at hu; subst hu; exact k3
   · simp at hu
 · intro u hu
   simp only [List.mem_cons, List.not_mem_nil, or_false] at hu
   rcases hu with rfl | rfl | rfl | rfl
   · rfl
   · rfl
   · exact hsl
   · rfl
 · have e : (Value.slice (some ⟨g', 0, none⟩) (n + 1) cap').ownBlock = some g' := rfl
   rw [e]
   rcases h3 with h3 | h3
   · exact Or.inl h3.symm
   · exact Or.inr (by rw [h3])
end Go.Proofs.YtablcbgeeeboeaaGreatDoor
set_option maxRecDepth 100000
namespace Go.Proofs.YtablcbgeeeboeaaGreatDoor
open Go.ChangeShapes Go.WideShapes Go.ChangeAt Go.RowKit Sp
theorem cellsW : Tryz.prog.cellsOf 39 = 1 := by kernel_rfl
theorem readWords : Tryz.prog.readableRec 22 = true := by kernel_rfl
theorem rowWords : 22 < Tryz.prog.types.size := of_decide_eq_true (by kernel_rfl)
theorem words_open {H : Type} {enc : TypeId × Value → H} {W : World} {base : Nat} {sp : Nat → Bool} {hd : Bool} {r : Reach} {b0 : Nat} {v : Value} {d : DataW H} {p : List MemPlace} (hsp : ∀ b, sp b = true)
 (hv : Value.okWide Tryz.prog W r b0 22 v) (h : DataW.Trod enc Tryz.prog W base sp hd 22 v d p) :
 ∃ (a : Option Addr) (n cap : Nat) (L : Nat → Nat), v = .slice a n cap ∧ Fls W a n cap L := by
 obtain ⟨a0, n0, c0, rfl⟩ := okWide_slice Tryz.underlying22 hv
 obtain ⟨fuel, hf⟩ := h
 rcases open_ints Tryz.underlying22 Tryz.underlying39 cellsW hf with ⟨hcs, _⟩ | ⟨a, len, cap, ns, hcs, _, hle, hmax, hl, _, hall, hns⟩
 · simp [Value.cells] at hcs
   obtain ⟨rfl, rfl, rfl⟩ := hcs
   exact ⟨none, 0, 0, fun _ => 0, rfl, ⟨by omega, by omega, by omega, fun i hi => by omega, fun i hi => by omega, by omega⟩⟩
 · simp [Value.cells] at hcs
   obtain ⟨rfl, rfl, rfl⟩ := hcs
   rw [hsp, if_pos rfl] at hl
   have hb : ∀ i, i < ns.length → 0 ≤ ns.getD i 0 ∧ ns.getD i 0 ≤ 18446744073709551615 := fun i hi => by
    have h1 : ns.getD i 0 = ns[i] := by rw [List.getD_eq_getElem?_getD, List.getElem?_eq_getElem hi]; rfl
    rw [h1]
    exact bounds_u64 (hns _ (List.getElem_mem hi))
   have hspot : 0 < n0 → a.spot = none := fun h0 => by
    obtain ⟨_, _, _, _, hs⟩ := World.shape?_of_cell? (hall 0 (by omega))
    exact hs
   obtain ⟨b, o, q⟩ := a
   refine ⟨_, _, _, fun i => (ns.getD i 0).toNat, rfl, ⟨hle, by unfold maxLen at hmax; omega, fun h0 => ?_, fun i hi => ?_, fun i hi => ?_, fun h0 => ?_⟩⟩
   · have hq : q = none := hspot h0
     subst hq; rfl
   · have hq : q = none := hspot (by omega)
     subst hq
     have h1 := hall i (by omega)
     have h2 := hb i (by omega)
     rw [show (((ns.getD i 0).toNat : Nat) : Int) = ns.getD i 0 by omega]
     rw [Addr.add_lit] at h1
     exact h1
   · have h2 := hb i (by omega)
     show (ns.getD i 0).toNat < 18446744073709551616
     omega
   · exact lt_of_cell2 (hall 0 (by omega))
theorem bool_open {H : Type} {enc : TypeId × Value → H} {W : World} {base : Nat} {sp : Nat → Bool} {hd : Bool} {r : Reach} {b0 : Nat} {v : Value} {d : DataW H} {p : List MemPlace}
 (hv : Value.okWide Tryz.prog W r b0 4 v) (h : DataW.Trod enc Tryz.prog W base sp hd 4 v d p) : ∃ b, v = .bool b ∧ d = .lit (.bool b) ∧ p = [] := by
 obtain ⟨b, rfl⟩ := okWide_bool Tryz.underlying4 hv
 obtain ⟨fuel, hf⟩ := h
 obtain ⟨b', h1, h2⟩ := DataW.trod_bool Tryz.underlying4 hf
 simp [Value.cells] at h1
 subst h1
 simp only [Prod.mk.injEq] at h2
 exact ⟨b, rfl, h2.1, h2.2⟩
end Go.Proofs.YtablcbgeeeboeaaGreatDoor
