/-
  Walks: package float: Root.
-/
import Derived.Test.YtablcbgeeeboeaaGreatDoorZhGq
import Derived.Test.YtablcbgeeeboeaaGreatDoorZhSqt
import Derived.Test.YtablcbgeeeboeaaGreatDoorZhS3
import Derived.Test.YtablcbgeeeboeaaGreatDoorZhSum
import Derived.Test.YtablcbgeeeboeaaGreatDoorZhBh
import Derived.Test.YtablcbgeeeboeaaGreatDoorZhGo
import Derived.Deep.AppendLies
import Derived.Test.YtablcbgeeeboeaaGreatDoorZhBg
import Derived.Test.YtablcbgeeeboeaaGreatDoorZhCm
import Derived.Test.YtablcbgeeeboeaaGreatDoorZhOpen
set_option maxRecDepth 100000
set_option maxHeartbeats 2000000
namespace Go.Proofs.YtablcbgeeeboeaaGreatDoor
open Go.RowKit Sp
theorem zIY (w : World) (bd s : Bool) (a : Option Addr) (n cap : Nat) (e mode : Int) (d : Option (Int × Int)) (hx : DyIn w bd s a n cap e d) (hT : Tab w) (hbd : zA3 d = true) :
 Calls Tryz.prog 93 #[.agg #[.bool bd, .bool s, .slice a n cap, .int .i64 e], .int .i64 mode] w fun o w' => o = .returned (.int .u64 9221120237041090560) ∧ Below w.heap.size w w' := by
 have HN := fun W h ht => Lib.hid (@zBY W bd s a n cap e d h ht)
 have hN := Lib.hid hx.isN
 go_enter Tryz.func93, Tryz.ntmps93
 go_wp2_with fail
 have I0 := DyV.made w 46 bd s (.slice a n cap) e
 have B0 : Below w.heap.size w (w.alloc (.cells #[.bool bd, .bool s, .slice a n cap, .int .i64 e] 46)) := zbh
 generalize (w.alloc (.cells #[.bool bd, .bool s, .slice a n cap, .int .i64 e] 46)) = w0 at I0 B0 ⊢
 generalize hz0 : w.heap.size = b0 at I0 ⊢
 refine (HN _ (hx.below B0) (hT.below B0)).out.mono ?_
 rintro e1 w1 ⟨a1, c1, rfl, M1, hb1, hf1⟩
 have B1 := zA0 (w := w) B0 hb1
 have hlt := I0.lt
 have hfr : 0 < nl (zA1 d).natAbs → b0 < ab a1 := fun h => by have := hf1 h; omega
 obtain ⟨p0, p1, p2, p3, p4, p5⟩ := I0.below hb1
 clear hb1 hf1 I0
 go_wp2_with fail
 go_ret
 exact ⟨rfl, (by have hszw := (B1).size; repeat (with_reducible first | refine Below.setCell ?_ (by first | omega | (simp <;> omega)) _ | refine Below.alloc ?_ (by first | omega | (simp <;> omega)) _ | refine Below.drew ?_ | refine below_drewN ?_ _ | exact B1))⟩
theorem zIX (w : World) (bd s : Bool) (a : Option Addr) (n cap : Nat) (e mode : Int) (d : Option (Int × Int)) (hx : DyIn w bd s a n cap e d) (hT : Tab w) (hbd : zA3 d = false) (hz : zA1 d < 0) :
 Calls Tryz.prog 93 #[.agg #[.bool bd, .bool s, .slice a n cap, .int .i64 e], .int .i64 mode] w fun o w' => o = .returned (.int .u64 9221120237041090560) ∧ Below w.heap.size w w' := by
 have HN := fun W h ht => Lib.hid (@zBY W bd s a n cap e d h ht)
 have hN := Lib.hid hx.isN
 have HG := fun W b c (h : Mag W b (nl (zA1 d).natAbs) c (zA1 d).natAbs) ht => Lib.hid (zBG W (zA3 d) (decide (zA1 d < 0)) b _ c (zA2 d) d (zAI hN.out h) ht)
 rw [hbd] at HG
 obtain ⟨g, hg⟩ : ∃ g, g = zAr (zA1 d) 0 := ⟨_, rfl⟩
 rw [← hg] at HG
 have hge : decide (g < 0) = true := by rw [hg, zAT hz]; rfl
 clear hg
 have HZ := Lib.hid hz
 clear hz
 go_enter Tryz.func93, Tryz.ntmps93
 go_wp2_with fail
 have I0 := DyV.made w 46 bd s (.slice a n cap) e
 have B0 : Below w.heap.size w (w.alloc (.cells #[.bool bd, .bool s, .slice a n cap, .int .i64 e] 46)) := zbh
 generalize (w.alloc (.cells #[.bool bd, .bool s, .slice a n cap, .int .i64 e] 46)) = w0 at I0 B0 ⊢
 generalize hz0 : w.heap.size = b0 at I0 ⊢
 refine (HN _ (hx.below B0) (hT.below B0)).out.mono ?_
 rintro e1 w1 ⟨a1, c1, rfl, M1, hb1, hf1⟩
 have B1 := zA0 (w := w) B0 hb1
 have hlt := I0.lt
 have hfr : 0 < nl (zA1 d).natAbs → b0 < ab a1 := fun h => by have := hf1 h; omega
 obtain ⟨p0, p1, p2, p3, p4, p5⟩ := I0.below hb1
 clear hb1 hf1 I0
 go_wp2_with fail
 have hzb : w.heap.size ≤ b0 := by omega
 have B2 : Below w.heap.size w ((((w1.setCell ⟨b0, 0, none⟩ (.bool false)).setCell ⟨b0, 1, none⟩ (.bool (decide (zA1 d < 0)))).setCell ⟨b0, 2, none⟩ (.slice a1 (nl (zA1 d).natAbs) c1)).setCell ⟨b0, 3, none⟩ (.int .i64 (zA2 d))) := (((B1.setCell hzb _).setCell hzb _).setCell hzb _).setCell hzb _
 have K0 : DyV ((((w1.setCell ⟨b0, 0, none⟩ (.bool false)).setCell ⟨b0, 1, none⟩ (.bool (decide (zA1 d < 0)))).setCell ⟨b0, 2, none⟩ (.slice a1 (nl (zA1 d).natAbs) c1)).setCell ⟨b0, 3, none⟩ (.int .i64 (zA2 d))) b0 false (decide (zA1 d < 0)) (.slice a1 (nl (zA1 d).natAbs) c1) (zA2 d) := ⟨by go_simp, by go_simp, by go_simp, by go_simp, fun i => by go_simp, by simpa using p5⟩
 have ne1 : 0 < nl (zA1 d).natAbs → ab a1 ≠ b0 := fun h => by have := hfr h; omega
 have m2 := (((M1.set ne1 0 (.bool false)).set ne1 1 (.bool (decide (zA1 d < 0)))).set ne1 2 (.slice a1 (nl (zA1 d).natAbs) c1)).set ne1 3 (.int .i64 (zA2 d))
 generalize ((((w1.setCell ⟨b0, 0, none⟩ (.bool false)).setCell ⟨b0, 1, none⟩ (.bool (decide (zA1 d < 0)))).setCell ⟨b0, 2, none⟩ (.slice a1 (nl (zA1 d).natAbs) c1)).setCell ⟨b0, 3, none⟩ (.int .i64 (zA2 d))) = w2 at B2 K0 m2 ⊢
 clear p0 p1 p2 p3 p4 p5 M1 B1
 refine (HG _ a1 c1 m2 (hT.below B2)).out.mono ?_
 rintro e1 w3 ⟨rfl, hb⟩
 have B3 := zA0 (w := w) B2 hb
 have m3 := m2.below hb
 have K0 := K0.below hb
 have J0 := Lib.hid K0
 clear hb m2
 obtain ⟨p0, p1, p2, p3, p4, p5⟩ := K0
 go_wp2_with fail
 go_ret
 exact ⟨rfl, B3⟩
theorem zI5 (w : World) (bd s : Bool) (a : Option Addr) (n cap : Nat) (e mode : Int) (d : Option (Int × Int)) (hx : DyIn w bd s a n cap e d) (hT : Tab w) (hbd : zA3 d = false) (hz : zA1 d = 0) :
 Calls Tryz.prog 93 #[.agg #[.bool bd, .bool s, .slice a n cap, .int .i64 e], .int .i64 mode] w fun o w' => o = .returned (.int .u64 0) ∧ Below w.heap.size w w' := by
 have HN := fun W h ht => Lib.hid (@zBY W bd s a n cap e d h ht)
 have hN := Lib.hid hx.isN
 have HG := fun W b c (h : Mag W b (nl (zA1 d).natAbs) c (zA1 d).natAbs) ht => Lib.hid (zBG W (zA3 d) (decide (zA1 d < 0)) b _ c (zA2 d) d (zAI hN.out h) ht)
 rw [hbd] at HG
 obtain ⟨g, hg⟩ : ∃ g, g = zAr (zA1 d) 0 := ⟨_, rfl⟩
 rw [← hg] at HG
 have hge : decide (g < 0) = false := by rw [hg, zBZ hz]; rfl
 have hge2 : (g == 0) = true := by rw [hg, zBZ hz]; rfl
 clear hg
 have HZ := Lib.hid hz
 clear hz
 go_enter Tryz.func93, Tryz.ntmps93
 go_wp2_with fail
 have I0 := DyV.made w 46 bd s (.slice a n cap) e
 have B0 : Below w.heap.size w (w.alloc (.cells #[.bool bd, .bool s, .slice a n cap, .int .i64 e] 46)) := zbh
 generalize (w.alloc (.cells #[.bool bd, .bool s, .slice a n cap, .int .i64 e] 46)) = w0 at I0 B0 ⊢
 generalize hz0 : w.heap.size = b0 at I0 ⊢
 refine (HN _ (hx.below B0) (hT.below B0)).out.mono ?_
 rintro e1 w1 ⟨a1, c1, rfl, M1, hb1, hf1⟩
 have B1 := zA0 (w := w) B0 hb1
 have hlt := I0.lt
 have hfr : 0 < nl (zA1 d).natAbs → b0 < ab a1 := fun h => by have := hf1 h; omega
 obtain ⟨p0, p1, p2, p3, p4, p5⟩ := I0.below hb1
 clear hb1 hf1 I0
 go_wp2_with fail
 have hzb : w.heap.size ≤ b0 := by omega
 have B2 : Below w.heap.size w ((((w1.setCell ⟨b0, 0, none⟩ (.bool false)).setCell ⟨b0, 1, none⟩ (.bool (decide (zA1 d < 0)))).setCell ⟨b0, 2, none⟩ (.slice a1 (nl (zA1 d).natAbs) c1)).setCell ⟨b0, 3, none⟩ (.int .i64 (zA2 d))) := (((B1.setCell hzb _).setCell hzb _).setCell hzb _).setCell hzb _
 have K0 : DyV ((((w1.setCell ⟨b0, 0, none⟩ (.bool false)).setCell ⟨b0, 1, none⟩ (.bool (decide (zA1 d < 0)))).setCell ⟨b0, 2, none⟩ (.slice a1 (nl (zA1 d).natAbs) c1)).setCell ⟨b0, 3, none⟩ (.int .i64 (zA2 d))) b0 false (decide (zA1 d < 0)) (.slice a1 (nl (zA1 d).natAbs) c1) (zA2 d) := ⟨by go_simp, by go_simp, by go_simp, by go_simp, fun i => by go_simp, by simpa using p5⟩
 have ne1 : 0 < nl (zA1 d).natAbs → ab a1 ≠ b0 := fun h => by have := hfr h; omega
 have m2 := (((M1.set ne1 0 (.bool false)).set ne1 1 (.bool (decide (zA1 d < 0)))).set ne1 2 (.slice a1 (nl (zA1 d).natAbs) c1)).set ne1 3 (.int .i64 (zA2 d))
 generalize ((((w1.setCell ⟨b0, 0, none⟩ (.bool false)).setCell ⟨b0, 1, none⟩ (.bool (decide (zA1 d < 0)))).setCell ⟨b0, 2, none⟩ (.slice a1 (nl (zA1 d).natAbs) c1)).setCell ⟨b0, 3, none⟩ (.int .i64 (zA2 d))) = w2 at B2 K0 m2 ⊢
 clear p0 p1 p2 p3 p4 p5 M1 B1
 refine (HG _ a1 c1 m2 (hT.below B2)).out.mono ?_
 rintro e1 w3 ⟨rfl, hb⟩
 have B3 := zA0 (w := w) B2 hb
 have m3 := m2.below hb
 have K0 := K0.below hb
 have J0 := Lib.hid K0
 clear hb m2
 obtain ⟨p0, p1, p2, p3, p4, p5⟩ := K0
 go_wp2_with fail
 have K0 := J0.out
 clear p0 p1 p2 p3 p4 p5 J0
 refine (HG _ a1 c1 m3 (hT.below B3)).out.mono ?_
 rintro e1 w4 ⟨rfl, hb⟩
 have B4 := zA0 (w := w) B3 hb
 have m4 := m3.below hb
 have K0 := K0.below hb
 have J0 := Lib.hid K0
 clear hb m3
 obtain ⟨p0, p1, p2, p3, p4, p5⟩ := K0
 go_wp2_with fail
 go_ret
 exact ⟨rfl, B4⟩
theorem zLg (w : World) (bd s : Bool) (a : Option Addr) (n cap : Nat) (e mode : Int) (d : Option (Int × Int)) (hx : DyIn w bd s a n cap e d) (hT : Tab w) (hbd : zA3 d = false) (hz : 0 < zA1 d) :
 Calls Tryz.prog 93 #[.agg #[.bool bd, .bool s, .slice a n cap, .int .i64 e], .int .i64 mode] w fun o w' => o = .returned (.int .u64 ((zBE d mode : Nat) : Int)) ∧ Below w.heap.size w w' := by
 have HN := fun W h ht => Lib.hid (@zBY W bd s a n cap e d h ht)
 have hN := Lib.hid hx.isN
 have HG := fun W b c (h : Mag W b (nl (zA1 d).natAbs) c (zA1 d).natAbs) ht => Lib.hid (zBG W (zA3 d) (decide (zA1 d < 0)) b _ c (zA2 d) d (zAI hN.out h) ht)
 rw [hbd] at HG
 obtain ⟨g, hg⟩ : ∃ g, g = zAr (zA1 d) 0 := ⟨_, rfl⟩
 rw [← hg] at HG
 have hge : decide (g < 0) = false := by rw [hg, zB1 hz]; rfl
 have hge2 : (g == 0) = false := by rw [hg, zB1 hz]; rfl
 obtain ⟨q0, q1, q2⟩ := zA7 hN.out
 have HO := fun W b c h => Lib.hid (zKF W false b c (zA1 d) (zA2 d) 56 h q0 hz (by omega) (by omega) q1 q2)
 have hr1 := zMG (zA1 d) (zA2 d) 56 (by decide)
 have hr2 := zMH (zA1 d) (zA2 d) 56
 have hV : zBE d mode = zCf false (isq ((zA1 d).natAbs * 2 ^ rsh (zA1 d) (zA2 d) 56)) ((zA2 d - rsh (zA1 d) (zA2 d) 56) / 2) (decide (isq ((zA1 d).natAbs * 2 ^ rsh (zA1 d) (zA2 d) 56) * isq ((zA1 d).natAbs * 2 ^ rsh (zA1 d) (zA2 d) 56) ≠ (zA1 d).natAbs * 2 ^ rsh (zA1 d) (zA2 d) 56)) mode := by
  rcases zKQ d with h | ⟨m, f, h⟩
  · rw [h] at hbd; cases hbd
  · subst h
    have k1 : ¬ m < 0 := by have : 0 < m := hz; omega
    have k2 : ¬ m = 0 := by have : 0 < m := hz; omega
    unfold zBE; simp only; rw [if_neg k1, if_neg k2]; rfl
 have hM : 0 < (zA1 d).natAbs * 2 ^ rsh (zA1 d) (zA2 d) 56 := Nat.mul_pos (by omega) (Nat.pow_pos (by decide))
 have hMb : zA4 ((zA1 d).natAbs * 2 ^ rsh (zA1 d) (zA2 d) 56) ≤ 200000 := by rw [zAi (by omega)]; omega
 have hX0 : 0 < isq ((zA1 d).natAbs * 2 ^ rsh (zA1 d) (zA2 d) 56) := by
  have := zDH ((zA1 d).natAbs * 2 ^ rsh (zA1 d) (zA2 d) 56)
  rcases Nat.eq_zero_or_pos (isq ((zA1 d).natAbs * 2 ^ rsh (zA1 d) (zA2 d) 56)) with h | h
  · rw [h] at this; omega
  · exact h
 have hXb : zA4 (isq ((zA1 d).natAbs * 2 ^ rsh (zA1 d) (zA2 d) 56)) ≤ 500000 := by
  refine Nat.le_trans (zBm (y := (zA1 d).natAbs * 2 ^ rsh (zA1 d) (zA2 d) 56) ?_) (by omega)
  have := zDI ((zA1 d).natAbs * 2 ^ rsh (zA1 d) (zA2 d) 56)
  exact Nat.le_trans (Nat.le_mul_of_pos_left _ hX0) this
 have hE0 : -500000 ≤ (zA2 d - (rsh (zA1 d) (zA2 d) 56 : Int)) / 2 := by omega
 have hE1 : (zA2 d - (rsh (zA1 d) (zA2 d) 56 : Int)) / 2 ≤ 500000 := by omega
 rw [hV]
 generalize (decide (isq ((zA1 d).natAbs * 2 ^ rsh (zA1 d) (zA2 d) 56) * isq ((zA1 d).natAbs * 2 ^ rsh (zA1 d) (zA2 d) 56) ≠ (zA1 d).natAbs * 2 ^ rsh (zA1 d) (zA2 d) 56)) = mo at *
 generalize isq ((zA1 d).natAbs * 2 ^ rsh (zA1 d) (zA2 d) 56) = X at *
 generalize (zA2 d - (rsh (zA1 d) (zA2 d) 56 : Int)) / 2 = EE at *
 have HR := fun W b c h ht => Lib.hid (zCW W false mo b c X EE mode h hX0 hXb hE0 hE1 ht)
 generalize ((zCf false X EE mo mode : Nat) : Int) = V at *
 clear hg q0 q1 q2 hz hr1 hr2 hV hM hMb hX0 hXb hE0 hE1
 go_enter Tryz.func93, Tryz.ntmps93
 go_wp2_with fail
 have I0 := DyV.made w 46 bd s (.slice a n cap) e
 have B0 : Below w.heap.size w (w.alloc (.cells #[.bool bd, .bool s, .slice a n cap, .int .i64 e] 46)) := zbh
 generalize (w.alloc (.cells #[.bool bd, .bool s, .slice a n cap, .int .i64 e] 46)) = w0 at I0 B0 ⊢
 generalize hz0 : w.heap.size = b0 at I0 ⊢
 refine (HN _ (hx.below B0) (hT.below B0)).out.mono ?_
 rintro e1 w1 ⟨a1, c1, rfl, M1, hb1, hf1⟩
 have B1 := zA0 (w := w) B0 hb1
 have hlt := I0.lt
 have hfr : 0 < nl (zA1 d).natAbs → b0 < ab a1 := fun h => by have := hf1 h; omega
 obtain ⟨p0, p1, p2, p3, p4, p5⟩ := I0.below hb1
 clear hb1 hf1 I0
 go_wp2_with fail
 have hzb : w.heap.size ≤ b0 := by omega
 have B2 : Below w.heap.size w ((((w1.setCell ⟨b0, 0, none⟩ (.bool false)).setCell ⟨b0, 1, none⟩ (.bool (decide (zA1 d < 0)))).setCell ⟨b0, 2, none⟩ (.slice a1 (nl (zA1 d).natAbs) c1)).setCell ⟨b0, 3, none⟩ (.int .i64 (zA2 d))) := (((B1.setCell hzb _).setCell hzb _).setCell hzb _).setCell hzb _
 have K0 : DyV ((((w1.setCell ⟨b0, 0, none⟩ (.bool false)).setCell ⟨b0, 1, none⟩ (.bool (decide (zA1 d < 0)))).setCell ⟨b0, 2, none⟩ (.slice a1 (nl (zA1 d).natAbs) c1)).setCell ⟨b0, 3, none⟩ (.int .i64 (zA2 d))) b0 false (decide (zA1 d < 0)) (.slice a1 (nl (zA1 d).natAbs) c1) (zA2 d) := ⟨by go_simp, by go_simp, by go_simp, by go_simp, fun i => by go_simp, by simpa using p5⟩
 have ne1 : 0 < nl (zA1 d).natAbs → ab a1 ≠ b0 := fun h => by have := hfr h; omega
 have m2 := (((M1.set ne1 0 (.bool false)).set ne1 1 (.bool (decide (zA1 d < 0)))).set ne1 2 (.slice a1 (nl (zA1 d).natAbs) c1)).set ne1 3 (.int .i64 (zA2 d))
 generalize ((((w1.setCell ⟨b0, 0, none⟩ (.bool false)).setCell ⟨b0, 1, none⟩ (.bool (decide (zA1 d < 0)))).setCell ⟨b0, 2, none⟩ (.slice a1 (nl (zA1 d).natAbs) c1)).setCell ⟨b0, 3, none⟩ (.int .i64 (zA2 d))) = w2 at B2 K0 m2 ⊢
 clear p0 p1 p2 p3 p4 p5 M1 B1
 refine (HG _ a1 c1 m2 (hT.below B2)).out.mono ?_
 rintro e1 w3 ⟨rfl, hb⟩
 have B3 := zA0 (w := w) B2 hb
 have m3 := m2.below hb
 have K0 := K0.below hb
 have J0 := Lib.hid K0
 clear hb m2
 obtain ⟨p0, p1, p2, p3, p4, p5⟩ := K0
 go_wp2_with fail
 have K0 := J0.out
 clear p0 p1 p2 p3 p4 p5 J0
 refine (HG _ a1 c1 m3 (hT.below B3)).out.mono ?_
 rintro e1 w4 ⟨rfl, hb⟩
 have B4 := zA0 (w := w) B3 hb
 have m4 := m3.below hb
 have K0 := K0.below hb
 have J0 := Lib.hid K0
 clear hb m3
 obtain ⟨p0, p1, p2, p3, p4, p5⟩ := K0
 go_wp2_with fail
 refine (HO _ a1 c1 m4).out.mono ?_
 rintro e1 w5 ⟨a4, c4, rfl, m5, hb, _⟩
 have B5 := zA0 (w := w) B4 hb
 clear hb p0 p1 p2 p3 p4 p5 J0
 go_wp2_with fail
 refine (HR _ a4 c4 m5 (hT.below B5)).out.mono ?_
 rintro e1 w6 ⟨rfl, hb⟩
 have B6 := zA0 (w := w) B5 hb
 go_wp2_with fail
 go_ret
 exact ⟨rfl, B6⟩
theorem zIZ (w : World) (bd s : Bool) (a : Option Addr) (n cap : Nat) (e mode : Int) (d : Option (Int × Int)) (hx : DyIn w bd s a n cap e d) (hT : Tab w) :
 Calls Tryz.prog 93 #[.agg #[.bool bd, .bool s, .slice a n cap, .int .i64 e], .int .i64 mode] w fun o w' => o = .returned (.int .u64 (zBE d mode : Nat)) ∧ Below w.heap.size w w' := by
 rcases zKQ d with rfl | ⟨m, f, rfl⟩
 · exact zIY w bd s a n cap e mode none hx hT rfl
 · rcases Int.lt_trichotomy m 0 with h0 | h0 | h0
   · have := zIX w bd s a n cap e mode (some (m, f)) hx hT rfl h0
     rwa [show zBE (some (m, f)) mode = zIU by unfold zBE; simp only; rw [if_pos h0]]
   · have := zI5 w bd s a n cap e mode (some (m, f)) hx hT rfl h0
     rwa [show zBE (some (m, f)) mode = 0 by unfold zBE; simp only; rw [if_neg (by omega), if_pos h0]]
   · exact zLg w bd s a n cap e mode (some (m, f)) hx hT rfl h0
end Go.Proofs.YtablcbgeeeboeaaGreatDoor
set_option maxRecDepth 100000
namespace Go.Proofs.YtablcbgeeeboeaaGreatDoor
open Go.RowKit Sp
theorem zPb : Tryz.prog.underlying 28 = some (.slice (Tryz.prog.elem 28)) := by kernel_rfl
theorem zPj (w : World) : (Go.sizeOf (Tryz.prog.elem 28)).run Tryz.prog w = .ok 1 w := by kernel_rfl
structure Fls (w : World) (a : Option Addr) (n cap : Nat) (L : Nat → Nat) : Prop where
 fits : n ≤ cap
 lim : cap ≤ 9223372036854775807
 addr : 0 < n → a = some ⟨ab a, ao a, none⟩
 cell : ∀ i, i < n → w.cell? ⟨ab a, ao a + i, none⟩ = some (.int .u64 (L i : Nat))
 b : ∀ i, i < n → L i < 18446744073709551616
 old : 0 < n → ab a < w.heap.size
theorem Fls.below {w w' : World} {a : Option Addr} {n cap : Nat} {L : Nat → Nat} (h : Fls w a n cap L) (hb : Below w.heap.size w w') : Fls w' a n cap L :=
 ⟨h.fits, h.lim, h.addr, fun i hi => by rw [hb.cell (p := ⟨ab a, ao a + i, none⟩) (h.old (by omega))]; exact h.cell i hi, h.b, fun hn => Nat.lt_of_lt_of_le (h.old hn) hb.size⟩
theorem Fls.idx {w : World} {a : Option Addr} {n cap : Nat} {L : Nat → Nat} (h : Fls w a n cap L) (i : Nat) (hi : i < n) (W : World) :
 (Instr.indexAt 28 (.slice a n cap) (.int .i64 i)).run Tryz.prog W = .ok (.pointer (some ⟨ab a, ao a + i, none⟩)) W := by
 have ha := h.addr (by omega)
 generalize ab a = b at *
 generalize ao a = o at *
 subst ha
 rw [run_indexAt_slice _ _ _ _ _ _ _ zPb, if_pos ⟨by omega, by omega⟩, zPj]
 simp only [Result.andThen, Int.toNat_natCast, Nat.mul_one, Addr.add_lit]
def zAp (L : Nat → Nat) : Nat → Bool
 | 0 => true
 | k + 1 => zAp L k && zB0 (L k)
theorem zAD (L : Nat → Nat) (n : Nat) : zAp L n = true ↔ ∀ i, i < n → zB0 (L i) = true := by
 induction n with
 | zero => simp [zAp]
 | succ n ih =>
  simp only [zAp, Bool.and_eq_true, ih]
  constructor
  · rintro ⟨h, h'⟩ i hi
    by_cases hin : i < n
    · exact h i hin
    · obtain rfl : i = n := by omega
      exact h'
  · intro h; exact ⟨fun i hi => h i (by omega), h n (by omega)⟩
theorem zF1 {L : Nat → Nat} {n i : Nat} (hi : i < n) (h : zB0 (L i) = false) : zAp L n = false := by
 cases hc : zAp L n with
 | false => rfl
 | true => rw [(zAD L n).1 hc i hi] at h; cases h
def zBe (d : Nat → Option (Int × Int)) (A : Nat → Option Addr) (C : Nat → Nat) (i : Nat) : Value × Value × Value × Value :=
 (.bool (zA3 (d i)), .bool (decide (zA1 (d i) < 0)), .slice (A i) (nl (zA1 (d i)).natAbs) (C i), .int .i64 (zA2 (d i)))
structure Dms (w : World) (base : Nat) (v : Value) (k : Nat) (d : Nat → Option (Int × Int)) (A : Nat → Option Addr) (C : Nat → Nat) : Prop where
 own : w.ownsRow base 46 4 v k (zAm (zBe d A C) k)
 m : ∀ i, i < k → Mag w (A i) (nl (zA1 (d i)).natAbs) (C i) (zA1 (d i)).natAbs
 ap : ∀ i, i < k → 0 < nl (zA1 (d i)).natAbs → some (ab (A i)) ≠ v.ownBlock
theorem Dms.below {w w' : World} {base : Nat} {v : Value} {k : Nat} {d : Nat → Option (Int × Int)} {A : Nat → Option Addr} {C : Nat → Nat} (h : Dms w base v k d A C) (hb : Below w.heap.size w w') : Dms w' base v k d A C :=
 ⟨zAx h.own hb, fun i hi => (h.m i hi).below hb, h.ap⟩
theorem Dms.app {w w' : World} {base : Nat} {v v' : Value} {k : Nat} {d : Nat → Option (Int × Int)} {A : Nat → Option Addr} {C : Nat → Nat} {a1 : Option Addr} {c1 : Nat} (h : Dms w base v k d A C)
 (ho : w'.ownsRow base 46 4 v' (k + 1) (zAm (zBe d A C) k ++ [.bool (zA3 (d k)), .bool (decide (zA1 (d k) < 0)), .slice a1 (nl (zA1 (d k)).natAbs) c1, .int .i64 (zA2 (d k))]))
 (hg : w.grownBy w' v.ownBlock) (hv : v'.ownBlock = v.ownBlock ∨ v'.ownBlock = some w.heap.size) (hm : Mag w a1 (nl (zA1 (d k)).natAbs) c1 (zA1 (d k)).natAbs) (hne : 0 < nl (zA1 (d k)).natAbs → some (ab a1) ≠ v.ownBlock) :
 Dms w' base v' (k + 1) d (fun i => if i = k then a1 else A i) (fun i => if i = k then c1 else C i) := by
 have hap : ∀ (x : Option Addr) (n : Nat), (0 < n → ab x < w.heap.size) → (0 < n → some (ab x) ≠ v.ownBlock) → 0 < n → some (ab x) ≠ v'.ownBlock := fun x n h1 h2 h3 h4 => by
  rcases hv with hv | hv
  · rw [hv] at h4; exact h2 h3 h4
  · rw [hv] at h4; injection h4 with h4; have := h1 h3; omega
 refine ⟨?_, fun i hi => ?_, fun i hi => ?_⟩
 · have e1 : zAm (zBe d (fun i => if i = k then a1 else A i) (fun i => if i = k then c1 else C i)) k = zAm (zBe d A C) k := zBH fun i hi => by
    unfold zBe; simp only [if_neg (show ¬ i = k by omega)]
   simp only [zAm]
   rw [e1]
   unfold zBe
   simp only [if_pos]
   exact ho
 · by_cases hk : i = k
   · subst hk; simp only [if_pos]; exact zBD hm hg hne
   · simp only [if_neg hk]; exact zBD (h.m i (by omega)) hg (h.ap i (by omega))
 · by_cases hk : i = k
   · subst hk; simp only [if_pos]; exact hap _ _ hm.old hne
   · simp only [if_neg hk]; exact hap _ _ (h.m i (by omega)).old (h.ap i (by omega))
theorem Dms.dys {w : World} {base : Nat} {v : Value} {k : Nat} {d : Nat → Option (Int × Int)} {A : Nat → Option Addr} {C : Nat → Nat} (h : Dms w base v k d A C) (hd : ∀ i, IsN (d i)) :
 ∃ a cap, v = .slice a k cap ∧ Dys w a k cap (fun i => ⟨zA3 (d i), decide (zA1 (d i) < 0), A i, nl (zA1 (d i)).natAbs, C i, zA2 (d i), (zA1 (d i)).natAbs⟩) := by
 have hbd : ∀ i, i < k → -9223372036854775808 ≤ zA2 (d i) ∧ zA2 (d i) ≤ 9223372036854775807 := fun i _ => by have := zA7 (hd i); omega
 rcases h.own.2 with ⟨hv, hk⟩ | ⟨g, cap, cur, hv, hbg, hgg, hkc, hcm, hcs, htake⟩
 · subst hk
   exact ⟨none, 0, hv, ⟨by omega, by omega, by omega, fun i hi => by omega, fun i hi => by omega, fun i hi => by omega, fun i hi => by omega, fun i hi => by omega, fun i hi => by omega, by omega⟩⟩
 · have ho := h.own
   rw [hv] at ho
   have hc : ∀ j, j < k * 4 → w.cell? ⟨g, j, none⟩ = (zAm (zBe d A C) k)[j]? := fun j hj => ho.cellAt j hj
   refine ⟨some ⟨g, 0, none⟩, cap, hv, hkc, by unfold maxLen at hcm; omega, fun _ => rfl, fun i hi => ?_, fun i hi => ?_, fun i hi => ?_, fun i hi => ?_, h.m, hbd, fun _ => (Array.getElem?_eq_some_iff.1 hgg).1⟩
   · rw [zAo, zAO, Nat.zero_add, hc _ (by omega)]; exact (zAC _ hi).1
   · rw [zAo, zAO, Nat.zero_add, hc _ (by omega)]; exact (zAC _ hi).2.1
   · rw [zAo, zAO, Nat.zero_add, hc _ (by omega)]; exact (zAC _ hi).2.2.1
   · rw [zAo, zAO, Nat.zero_add, hc _ (by omega)]; exact (zAC _ hi).2.2.2
theorem zOO {d : Nat → Option (Int × Int)} {A : Nat → Option Addr} {C : Nat → Nat} (hd : ∀ i, IsN (d i)) (n : Nat) :
 zBv (fun i => (El.mk (zA3 (d i)) (decide (zA1 (d i) < 0)) (A i) (nl (zA1 (d i)).natAbs) (C i) (zA2 (d i)) (zA1 (d i)).natAbs).d) n = zBv d n := by
 congr 1
 funext i
 show zFm (zA3 (d i)) (sgn (decide (zA1 (d i) < 0)) (zA1 (d i)).natAbs) (zA2 (d i)) = d i
 rw [zAg]; exact zCF (hd i)
theorem zBs {w : World} {base : Nat} {e : TypeId} {size : Nat} {v : Value} {n : Nat} {xs : List Value} (h : w.ownsRow base e size v n xs) : ∃ a c, v = .slice a n c := by
 rcases h.2 with ⟨rfl, rfl⟩ | ⟨g, cap, cur, rfl, _⟩
 · exact ⟨none, 0, rfl⟩
 · exact ⟨_, _, rfl⟩
theorem zKH {w : World} {base : Nat} {v : Value} {k : Nat} {d : Nat → Option (Int × Int)} {A : Nat → Option Addr} {C : Nat → Nat} (hT : Tab w) (h : Dms w base v k d A C) (hd : ∀ i, IsN (d i)) (hk : k ≤ 1048576) :
 ∃ a cap, v = .slice a k cap ∧ Calls Tryz.prog 79 #[.slice a k cap] w (zAy w (zBv d k)) := by
 obtain ⟨a, cap, hv, hD⟩ := h.dys hd
 refine ⟨a, cap, hv, ?_⟩
 have s := zM8 w hT a k cap _ hD hk (fun i hi => by
  have := zA7 (hd i)
  refine ⟨zAz (by omega), ?_⟩
  show zA4 (zA1 (d i)).natAbs ≤ 1048576
  omega)
 rwa [zOO hd] at s
theorem zBK {ops : Array Oper} {o : Oper} {a : Act} {K : Act → World → Prop} {Q : Exit → Act → World → Prop} {w : World} {E : Prop} (hgd : o.guard = none) (s x : Operand)
 (ho : o.op = .call { callee := .builtin .append, args := #[s, x], argTypes := #[23, 23] }) (base : Nat) (v : Value) (n : Nat) (xs : List Value) (hs : a.eval s = v) (g : Nat) (b0 s0 : Bool) (sl : Value) (f0 : Int) (hsl : sl.oneCell' = true)
 (hx : a.eval x = .slice (some ⟨g, 0, none⟩) 1 1) (hown : w.ownsRow base 46 4 v n xs) (k0 : w.cell? ⟨g, 0, none⟩ = some (.bool b0)) (k1 : w.cell? ⟨g, 1, none⟩ = some (.bool s0)) (k2 : w.cell? ⟨g, 2, none⟩ = some sl) (k3 : w.cell? ⟨g, 3, none⟩ = some (.int .i64 f0)) (hn : n ≤ 1048576)
 (hbase : base ≤ w.heap.size) (h : ∀ g' cap' w', w'.ownsRow base 46 4 (.slice (some ⟨g', 0, none⟩) (n + 1) cap') (n + 1) (xs ++ [.bool b0, .bool s0, sl, .int .i64 f0]) → w.grownBy w' v.ownBlock → ((Value.slice (some ⟨g', 0, none⟩) (n + 1) cap').ownBlock = v.ownBlock ∨ (Value.slice (some ⟨g', 0, none⟩) (n + 1) cap').ownBlock = some w.heap.size) → K (a.put o.dst (.slice (some ⟨g', 0, none⟩) (n + 1) cap')) w') :
 if Region.wanted o (yielded ops a.tmps) = true then Oper.wp Tryz.prog o a w K Q else E := by
 obtain ⟨i0, hi, hz0, hz1, hz2⟩ := info_parts zP4
 refine step_append_lies w hgd s x _ ho base _ i0 _ 4 48 zLk hi hz0 hz1 hz2 rfl (by decide) v n xs hs hown ⟨g, 0, none⟩ 1 1 [.bool b0, .bool s0, sl, .int .i64 f0] hx rfl ?_ ?_ (by decide) (by unfold maxLen; omega) (by omega) hbase _ rfl (fun g' cap' w' h1 h2 h3 _ => h g' cap' w' h1 h2 ?_)
 · intro j u hu
   rw [Addr.add_lit, Nat.zero_add]
   rcases j with _ | _ | _ | _ | j
   · simp at hu; subst hu; exact k0
   · simp at hu; subst hu; exact k1
   · simp at hu; subst hu; exact k2
   · simp at hu; subst hu; exact k3
   · simp at hu
 · intro u hu
   simp only [List.mem_cons, List.not_mem_nil, or_false] at hu
   rcases hu with rfl | rfl | rfl | rfl
   · rfl
   · rfl
   · exact hsl
   · rfl
 · have e : (Value.slice (some ⟨g', 0, none⟩) (n + 1) cap').ownBlock = some g' := rfl
   rw [e]
   rcases h3 with h3 | h3
   · exact Or.inl h3.symm
   · exact Or.inr (by rw [h3])
theorem zHL : IsN (some (0, 0)) := by rw [← zBc 0]; exact zB7 _ _
theorem zKj (d : Nat → Option (Int × Int)) (n : Nat) : IsN (zBv d n) := by
 unfold zBv; split
 · exact zBM
 · exact zB7 _ _
theorem zDx (d : Option (Int × Int)) (mode : Int) : zAF d mode < 18446744073709551616 := by
 unfold zAF; split
 · decide
 · split
   · decide
   · exact zKA _ _ _
end Go.Proofs.YtablcbgeeeboeaaGreatDoor
set_option maxRecDepth 100000
namespace Go.Proofs.YtablcbgeeeboeaaGreatDoor
open Go.ChangeShapes Go.WideShapes Go.ChangeAt Go.RowKit Sp
theorem zOT : Tryz.prog.cellsOf 39 = 1 := by kernel_rfl
theorem zJE : Tryz.prog.readableRec 22 = true := by kernel_rfl
theorem zLu : 22 < Tryz.prog.types.size := of_decide_eq_true (by kernel_rfl)
theorem zI6 {H : Type} {enc : TypeId × Value → H} {W : World} {base : Nat} {sp : Nat → Bool} {hd : Bool} {r : Reach} {b0 : Nat} {v : Value} {d : DataW H} {p : List MemPlace} (hsp : ∀ b, sp b = true)
 (hv : Value.okWide Tryz.prog W r b0 22 v) (h : DataW.Trod enc Tryz.prog W base sp hd 22 v d p) :
 ∃ (a : Option Addr) (n cap : Nat) (L : Nat → Nat), v = .slice a n cap ∧ Fls W a n cap L := by
 obtain ⟨a0, n0, c0, rfl⟩ := okWide_slice Tryz.underlying22 hv
 obtain ⟨fuel, hf⟩ := h
 rcases open_ints Tryz.underlying22 Tryz.underlying39 zOT hf with ⟨hcs, _⟩ | ⟨a, len, cap, ns, hcs, _, hle, hmax, hl, _, hall, hns⟩
 · simp [Value.cells] at hcs
   obtain ⟨rfl, rfl, rfl⟩ := hcs
   exact ⟨none, 0, 0, fun _ => 0, rfl, ⟨by omega, by omega, by omega, fun i hi => by omega, fun i hi => by omega, by omega⟩⟩
 · simp [Value.cells] at hcs
   obtain ⟨rfl, rfl, rfl⟩ := hcs
   rw [hsp, if_pos rfl] at hl
   have hb : ∀ i, i < ns.length → 0 ≤ ns.getD i 0 ∧ ns.getD i 0 ≤ 18446744073709551615 := fun i hi => by
    have h1 : ns.getD i 0 = ns[i] := by rw [List.getD_eq_getElem?_getD, List.getElem?_eq_getElem hi]; rfl
    rw [h1]
    exact bounds_u64 (hns _ (List.getElem_mem hi))
   have hspot : 0 < n0 → a.spot = none := fun h0 => by
    obtain ⟨_, _, _, _, hs⟩ := World.shape?_of_cell? (hall 0 (by omega))
    exact hs
   obtain ⟨b, o, q⟩ := a
   refine ⟨_, _, _, fun i => (ns.getD i 0).toNat, rfl, ⟨hle, by unfold maxLen at hmax; omega, fun h0 => ?_, fun i hi => ?_, fun i hi => ?_, fun h0 => ?_⟩⟩
   · have hq : q = none := hspot h0
     subst hq; rfl
   · have hq : q = none := hspot (by omega)
     subst hq
     have h1 := hall i (by omega)
     have h2 := hb i (by omega)
     rw [show (((ns.getD i 0).toNat : Nat) : Int) = ns.getD i 0 by omega]
     rw [Addr.add_lit] at h1
     exact h1
   · have h2 := hb i (by omega)
     show (ns.getD i 0).toNat < 18446744073709551616
     omega
   · exact zCX (hall 0 (by omega))
end Go.Proofs.YtablcbgeeeboeaaGreatDoor
set_option maxRecDepth 100000
set_option maxHeartbeats 2000000
namespace Go.Proofs.YtablcbgeeeboeaaGreatDoor
open Go.RowKit Sp
theorem zKc (w : World) (a a' : Option Addr) (n m cap cap' x y : Nat) (hx : Mag w a n cap x) (hy : Mag w a' m cap' y) (hn : n = nl x) (hm : m = nl y) :
 Calls Tryz.prog 145 #[.slice a n cap, .slice a' m cap'] w fun e w' => e = .returned (.bool (decide (x = y))) ∧ ∃ q, w' = w.drewN q := by
 have l1 := hx.lim
 have l2 := hy.lim
 have l3 := hx.fits
 have l4 := hy.fits
 by_cases hnm : n = m
 · subst hnm
   clear hn hm
   go_enter Tryz.func145, Tryz.ntmps145
   go_wp2
   go_loopw [5] (fun t wr => ∃ k : Nat, k ≤ n ∧ x % B ^ k = y % B ^ k ∧ t = .int .i64 k ∧ ∃ q, wr = w.drewN q) (fun t _ => n - (intOf t).toNat)
   case atStart => exact ⟨0, Nat.zero_le _, by rw [zAf, zAf], rfl, 0, rfl⟩
   case round =>
    obtain ⟨k, hk, hq, rfl, q, rfl⟩ := hrel
    have HQ := Lib.hid hq
    clear hq
    by_cases h0 : k < n
    · have c1 := hx.cell k h0
      have c2 := hy.cell k h0
      have i1 := hx.idx 42 und siz k h0
      have i2 := hy.idx 42 und siz k h0
      go_wp2
      go_quiet (fail)
      go_wp2
      · have hd := zFC (by assumption : (((dig x k : Nat) : Int) != ((dig y k : Nat) : Int)) = true)
        go_ret
        refine ⟨?_, _, by rw [World.drewN_drewN]⟩
        have : ¬ x = y := fun h => hd (by rw [h])
        simp [this]
      · have hd := zEr (by assumption : (((dig x k : Nat) : Int) != ((dig y k : Nat) : Int)) = false)
        go_roundw
        case rel => exact ⟨k + 1, by omega, by rw [zAh, zAh, HQ.out, hd], by go_num, _, rfl⟩
        case measure => simp [intOf]; omega
    · obtain rfl : k = n := by omega
      go_wp2
      go_ret
      refine ⟨?_, _, rfl⟩
      have : x = y := by rw [← zA9 hx.lt, ← zA9 hy.lt]; exact HQ.out
      simp [this]
 · have hnm' : ((n : Int) != (m : Int)) = true := by rw [bne_iff_ne]; omega
   have hxy : decide (x = y) = false := by
    have : ¬ x = y := fun h => hnm (by rw [hn, hm, h])
    simpa using this
   rw [hxy]
   clear hn hm
   go_enter Tryz.func145, Tryz.ntmps145
   go_wp2
   go_ret
   exact ⟨rfl, 0, rfl⟩
theorem zLT (w : World) (s s' : Bool) (a a' : Option Addr) (n m cap cap' x y : Nat) (hx : Mag w a n cap x) (hy : Mag w a' m cap' y) (hn : n = nl x) (hm : m = nl y) (v : Bool) (hv : v = ((s == s') && decide (x = y))) :
 Calls Tryz.prog 114 #[.agg #[.bool s, .slice a n cap], .agg #[.bool s', .slice a' m cap']] w fun e w' => e = .returned (.bool v) ∧ Below w.heap.size w w' := by
 have e1 : ¬ w.heap.size + 1 = w.heap.size := by omega
 have HL := fun W h h' => Lib.hid (zKc W a a' n m cap cap' x y h h' hn hm)
 clear hn hm
 cases hs : (s == s') with
 | false =>
  have hv' : v = false := by rw [hv, hs]; rfl
  subst hv'
  clear hv
  go_enter Tryz.func114, Tryz.ntmps114
  go_wp2_with fail
  go_ret
  exact ⟨rfl, zbh⟩
 | true =>
  have hv' : v = decide (x = y) := by rw [hv, hs]; rfl
  subst hv'
  clear hv
  generalize decide (x = y) = v at HL ⊢
  go_enter Tryz.func114, Tryz.ntmps114
  go_wp2_with fail
  refine (HL _ (hx.below zbh) (hy.below zbh)).out.mono ?_
  rintro e w1 ⟨rfl, q, rfl⟩
  go_wp2_with fail
  go_ret
  exact ⟨rfl, zbh⟩
def zP8 (b b' s s' : Bool) (x y : Nat) (f f' : Int) : Bool := (b == b') && ((f == f') && (s == s' && decide (x = y)))
theorem zKf (w : World) (b b' s s' : Bool) (a a' : Option Addr) (n m cap cap' x y : Nat) (f f' : Int) (hx : Mag w a n cap x) (hy : Mag w a' m cap' y) (hn : n = nl x) (hm : m = nl y) (v : Bool) (hv : v = zP8 b b' s s' x y f f') :
 Calls Tryz.prog 64 #[.agg #[.bool b, .bool s, .slice a n cap, .int .i64 f], .agg #[.bool b', .bool s', .slice a' m cap', .int .i64 f']] w fun e w' => e = .returned (.bool v) ∧ Below w.heap.size w w' := by
 have e1 : ¬ w.heap.size + 1 = w.heap.size := by omega
 have HL := fun W h h' => Lib.hid (zLT W s s' a a' n m cap cap' x y h h' hn hm _ rfl)
 clear hn hm
 unfold zP8 at hv
 cases hs : (b == b') with
 | false =>
  have hv' : v = false := by rw [hv, hs]; rfl
  subst hv'
  clear hv
  go_enter Tryz.func64, Tryz.ntmps64
  go_wp2_with fail
  go_ret
  exact ⟨rfl, zbh⟩
 | true =>
  cases hf : (f == f') with
  | false =>
   have hv' : v = false := by rw [hv, hs, hf]; rfl
   subst hv'
   clear hv
   go_enter Tryz.func64, Tryz.ntmps64
   go_wp2_with fail
   go_ret
   exact ⟨rfl, zbh⟩
  | true =>
   have hv' : v = (s == s' && decide (x = y)) := by rw [hv, hs, hf]; simp
   subst hv'
   clear hv
   generalize (s == s' && decide (x = y)) = v at HL ⊢
   go_enter Tryz.func64, Tryz.ntmps64
   go_wp2_with fail
   refine (HL _ (hx.below zbh) (hy.below zbh)).out.mono ?_
   rintro e w1 ⟨rfl, hb1⟩
   have hbw := zA0 (w := w) zbh hb1
   go_wp2_with fail
   go_ret
   exact ⟨rfl, (have := Beh.mk hbw; zbh)⟩
end Go.Proofs.YtablcbgeeeboeaaGreatDoor
