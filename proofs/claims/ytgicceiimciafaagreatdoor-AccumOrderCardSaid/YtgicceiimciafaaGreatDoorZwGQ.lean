/-
  Walks: package float: Round.
  Walks: package float: Quo.
  Walks: package float: Root.
-/
import Derived.Test.YtgicceiimciafaaGreatDoorZwGr
import Derived.Test.YtgicceiimciafaaGreatDoorZwGO
import Derived.Test.YtgicceiimciafaaGreatDoorZwBg
import Derived.Test.YtgicceiimciafaaGreatDoorZwRatQ
import Derived.Test.YtgicceiimciafaaGreatDoorZwCs
import Derived.Test.YtgicceiimciafaaGreatDoorZwSqt
set_option maxRecDepth 100000
set_option maxHeartbeats 2000000
namespace Go.Proofs.YtgicceiimciafaaGreatDoor
open Go.RowKit Sp
theorem dNorm_d (w : World) {bd s : Bool} {a : Option Addr} {n cap : Nat} {e : Int} {d : Option (Int × Int)} (h : DyIn w bd s a n cap e d) (hT : Tab w) :
 Calls Tryz.prog 143 #[.agg #[.bool bd, .bool s, .slice a n cap, .int .i64 e]] w (RetDy w d) := by
 obtain ⟨x, h1, h2, h3, h4, h5, rfl⟩ := h
 exact dNorm_any w bd s a n cap x e h1 h2 hT h3 (tz_lim h3) h4 h5
theorem wround_bad (w : World) (bd s : Bool) (a : Option Addr) (n cap : Nat) (e mode : Int) (d : Option (Int × Int)) (hx : DyIn w bd s a n cap e d) (hT : Tab w) (hbd : dbad d = true) :
 Calls Tryz.prog 105 #[.agg #[.bool bd, .bool s, .slice a n cap, .int .i64 e], .int .i64 mode] w fun o w' => o = .returned (.int .u64 9221120237041090560) ∧ Below w.heap.size w w' := by
 have HN := fun W h ht => Lib.hid (@dNorm_d W bd s a n cap e d h ht)
 have hN := Lib.hid hx.isN
 go_enter Tryz.func105, Tryz.ntmps105
 go_wp2_with fail
 have I0 := DyV.made w 34 bd s (.slice a n cap) e
 have B0 : Below w.heap.size w (w.alloc (.cells #[.bool bd, .bool s, .slice a n cap, .int .i64 e] 34)) := zbh
 generalize (w.alloc (.cells #[.bool bd, .bool s, .slice a n cap, .int .i64 e] 34)) = w0 at I0 B0 ⊢
 generalize hz0 : w.heap.size = b0 at I0 ⊢
 refine (HN _ (hx.below B0) (hT.below B0)).out.mono ?_
 rintro e1 w1 ⟨a1, c1, rfl, M1, hb1, hf1⟩
 have B1 := below_box (w := w) B0 hb1
 have hlt := I0.lt
 have hfr : 0 < nl (dman d).natAbs → b0 < ab a1 := fun h => by have := hf1 h; omega
 obtain ⟨p0, p1, p2, p3, p4, p5⟩ := I0.below hb1
 clear hb1 hf1 I0
 go_wp2_with fail
 go_ret
 exact ⟨rfl, (by have hszw := (B1).size; repeat (with_reducible first | refine Below.setCell ?_ (by first | omega | (simp <;> omega)) _ | refine Below.alloc ?_ (by first | omega | (simp <;> omega)) _ | refine Below.drew ?_ | refine below_drewN ?_ _ | exact B1))⟩
theorem wround_zero (w : World) (bd s : Bool) (a : Option Addr) (n cap : Nat) (e mode : Int) (d : Option (Int × Int)) (hx : DyIn w bd s a n cap e d) (hT : Tab w) (hbd : dbad d = false) (hz : dman d = 0) :
 Calls Tryz.prog 105 #[.agg #[.bool bd, .bool s, .slice a n cap, .int .i64 e], .int .i64 mode] w fun o w' => o = .returned (.int .u64 0) ∧ Below w.heap.size w w' := by
 have HN := fun W h ht => Lib.hid (@dNorm_d W bd s a n cap e d h ht)
 have hN := Lib.hid hx.isN
 have HG := fun W b c (h : Mag W b (nl (dman d).natAbs) c (dman d).natAbs) ht => Lib.hid (dsign_any W (dbad d) (decide (dman d < 0)) b _ c (dexp d) d (dyin_of hN.out h) ht)
 rw [hbd] at HG
 obtain ⟨g, hg⟩ : ∃ g, g = cmpI (dman d) 0 := ⟨_, rfl⟩
 rw [← hg] at HG
 have hge : (g == 0) = true := by rw [hg, hz]; rfl
 clear hg
 have HZ := Lib.hid hz
 clear hz
 go_enter Tryz.func105, Tryz.ntmps105
 go_wp2_with fail
 have I0 := DyV.made w 34 bd s (.slice a n cap) e
 have B0 : Below w.heap.size w (w.alloc (.cells #[.bool bd, .bool s, .slice a n cap, .int .i64 e] 34)) := zbh
 generalize (w.alloc (.cells #[.bool bd, .bool s, .slice a n cap, .int .i64 e] 34)) = w0 at I0 B0 ⊢
 generalize hz0 : w.heap.size = b0 at I0 ⊢
 refine (HN _ (hx.below B0) (hT.below B0)).out.mono ?_
 rintro e1 w1 ⟨a1, c1, rfl, M1, hb1, hf1⟩
 have B1 := below_box (w := w) B0 hb1
 have hlt := I0.lt
 have hfr : 0 < nl (dman d).natAbs → b0 < ab a1 := fun h => by have := hf1 h; omega
 obtain ⟨p0, p1, p2, p3, p4, p5⟩ := I0.below hb1
 clear hb1 hf1 I0
 go_wp2_with fail
 have hzb : w.heap.size ≤ b0 := by omega
 have B2 : Below w.heap.size w ((((w1.setCell ⟨b0, 0, none⟩ (.bool false)).setCell ⟨b0, 1, none⟩ (.bool (decide (dman d < 0)))).setCell ⟨b0, 2, none⟩ (.slice a1 (nl (dman d).natAbs) c1)).setCell ⟨b0, 3, none⟩ (.int .i64 (dexp d))) := (((B1.setCell hzb _).setCell hzb _).setCell hzb _).setCell hzb _
 have K0 : DyV ((((w1.setCell ⟨b0, 0, none⟩ (.bool false)).setCell ⟨b0, 1, none⟩ (.bool (decide (dman d < 0)))).setCell ⟨b0, 2, none⟩ (.slice a1 (nl (dman d).natAbs) c1)).setCell ⟨b0, 3, none⟩ (.int .i64 (dexp d))) b0 false (decide (dman d < 0)) (.slice a1 (nl (dman d).natAbs) c1) (dexp d) := ⟨by go_simp, by go_simp, by go_simp, by go_simp, fun i => by go_simp, by simpa using p5⟩
 have ne1 : 0 < nl (dman d).natAbs → ab a1 ≠ b0 := fun h => by have := hfr h; omega
 have m2 := (((M1.set ne1 0 (.bool false)).set ne1 1 (.bool (decide (dman d < 0)))).set ne1 2 (.slice a1 (nl (dman d).natAbs) c1)).set ne1 3 (.int .i64 (dexp d))
 generalize ((((w1.setCell ⟨b0, 0, none⟩ (.bool false)).setCell ⟨b0, 1, none⟩ (.bool (decide (dman d < 0)))).setCell ⟨b0, 2, none⟩ (.slice a1 (nl (dman d).natAbs) c1)).setCell ⟨b0, 3, none⟩ (.int .i64 (dexp d))) = w2 at B2 K0 m2 ⊢
 clear p0 p1 p2 p3 p4 p5 M1 B1
 refine (HG _ a1 c1 m2 (hT.below B2)).out.mono ?_
 rintro e1 w3 ⟨rfl, hb⟩
 have B3 := below_box (w := w) B2 hb
 have m3 := m2.below hb
 obtain ⟨p0, p1, p2, p3, p4, p5⟩ := K0.below hb
 clear K0 hb m2
 go_wp2_with fail
 go_ret
 exact ⟨rfl, B3⟩
theorem wround_ok (w : World) (bd s : Bool) (a : Option Addr) (n cap : Nat) (e mode : Int) (d : Option (Int × Int)) (hx : DyIn w bd s a n cap e d) (hT : Tab w) (hbd : dbad d = false) (hz : dman d ≠ 0) :
 Calls Tryz.prog 105 #[.agg #[.bool bd, .bool s, .slice a n cap, .int .i64 e], .int .i64 mode] w fun o w' => o = .returned (.int .u64 ((frnd (decide (dman d < 0)) (dman d).natAbs (dexp d) false mode : Nat) : Int)) ∧ Below w.heap.size w w' := by
 have HN := fun W h ht => Lib.hid (@dNorm_d W bd s a n cap e d h ht)
 have hN := Lib.hid hx.isN
 have HG := fun W b c (h : Mag W b (nl (dman d).natAbs) c (dman d).natAbs) ht => Lib.hid (dsign_any W (dbad d) (decide (dman d < 0)) b _ c (dexp d) d (dyin_of hN.out h) ht)
 rw [hbd] at HG
 obtain ⟨g, hg⟩ : ∃ g, g = cmpI (dman d) 0 := ⟨_, rfl⟩
 rw [← hg] at HG
 have hge : (g == 0) = false := by rw [hg]; unfold cmpI; split <;> (try split) <;> first | decide | (exfalso; omega)
 obtain ⟨q0, q1, q2⟩ := isN_bounds hN.out
 have HO := fun W b c h => Lib.hid (of_any W false b c (dman d) (dexp d) _ h (nl_lim (by omega)) rfl)
 obtain ⟨y, hy⟩ : ∃ y : Int, y = ((dman d).natAbs : Int) := ⟨_, rfl⟩
 have hya : y.natAbs = (dman d).natAbs := by omega
 have hy0 : decide (y < 0) = false := by simp; omega
 rw [← hy] at HO
 have HR := fun W b c h ht => Lib.hid (rounded_any W (decide (dman d < 0)) false b c y.natAbs (dexp d) mode h (by omega) (by rw [hya]; omega) (by omega) (by omega) ht)
 rw [← hya]
 generalize ((frnd (decide (dman d < 0)) y.natAbs (dexp d) false mode : Nat) : Int) = V at *
 clear hg q0 q1 q2 hy hya hz
 go_enter Tryz.func105, Tryz.ntmps105
 go_wp2_with fail
 have I0 := DyV.made w 34 bd s (.slice a n cap) e
 have B0 : Below w.heap.size w (w.alloc (.cells #[.bool bd, .bool s, .slice a n cap, .int .i64 e] 34)) := zbh
 generalize (w.alloc (.cells #[.bool bd, .bool s, .slice a n cap, .int .i64 e] 34)) = w0 at I0 B0 ⊢
 generalize hz0 : w.heap.size = b0 at I0 ⊢
 refine (HN _ (hx.below B0) (hT.below B0)).out.mono ?_
 rintro e1 w1 ⟨a1, c1, rfl, M1, hb1, hf1⟩
 have B1 := below_box (w := w) B0 hb1
 have hlt := I0.lt
 have hfr : 0 < nl (dman d).natAbs → b0 < ab a1 := fun h => by have := hf1 h; omega
 obtain ⟨p0, p1, p2, p3, p4, p5⟩ := I0.below hb1
 clear hb1 hf1 I0
 go_wp2_with fail
 have hzb : w.heap.size ≤ b0 := by omega
 have B2 : Below w.heap.size w ((((w1.setCell ⟨b0, 0, none⟩ (.bool false)).setCell ⟨b0, 1, none⟩ (.bool (decide (dman d < 0)))).setCell ⟨b0, 2, none⟩ (.slice a1 (nl (dman d).natAbs) c1)).setCell ⟨b0, 3, none⟩ (.int .i64 (dexp d))) := (((B1.setCell hzb _).setCell hzb _).setCell hzb _).setCell hzb _
 have K0 : DyV ((((w1.setCell ⟨b0, 0, none⟩ (.bool false)).setCell ⟨b0, 1, none⟩ (.bool (decide (dman d < 0)))).setCell ⟨b0, 2, none⟩ (.slice a1 (nl (dman d).natAbs) c1)).setCell ⟨b0, 3, none⟩ (.int .i64 (dexp d))) b0 false (decide (dman d < 0)) (.slice a1 (nl (dman d).natAbs) c1) (dexp d) := ⟨by go_simp, by go_simp, by go_simp, by go_simp, fun i => by go_simp, by simpa using p5⟩
 have ne1 : 0 < nl (dman d).natAbs → ab a1 ≠ b0 := fun h => by have := hfr h; omega
 have m2 := (((M1.set ne1 0 (.bool false)).set ne1 1 (.bool (decide (dman d < 0)))).set ne1 2 (.slice a1 (nl (dman d).natAbs) c1)).set ne1 3 (.int .i64 (dexp d))
 generalize ((((w1.setCell ⟨b0, 0, none⟩ (.bool false)).setCell ⟨b0, 1, none⟩ (.bool (decide (dman d < 0)))).setCell ⟨b0, 2, none⟩ (.slice a1 (nl (dman d).natAbs) c1)).setCell ⟨b0, 3, none⟩ (.int .i64 (dexp d))) = w2 at B2 K0 m2 ⊢
 clear p0 p1 p2 p3 p4 p5 M1 B1
 refine (HG _ a1 c1 m2 (hT.below B2)).out.mono ?_
 rintro e1 w3 ⟨rfl, hb⟩
 have B3 := below_box (w := w) B2 hb
 have m3 := m2.below hb
 obtain ⟨p0, p1, p2, p3, p4, p5⟩ := K0.below hb
 clear K0 hb m2
 go_wp2_with fail
 refine (HO _ a1 c1 m3).out.mono ?_
 rintro e1 w4 ⟨a4, c4, rfl, m4, hb, _⟩
 have B4 := below_box (w := w) B3 hb
 clear hb p0 p1 p2 p3 p4 p5
 go_wp2_with fail
 refine (HR _ a4 c4 m4 (hT.below B4)).out.mono ?_
 rintro e1 w5 ⟨rfl, hb⟩
 have B5 := below_box (w := w) B4 hb
 go_wp2_with fail
 go_ret
 exact ⟨rfl, B5⟩
theorem dcases (d : Option (Int × Int)) : d = none ∨ ∃ m e, d = some (m, e) := by
 cases d with
 | none => exact Or.inl rfl
 | some p => exact Or.inr ⟨p.1, p.2, rfl⟩
theorem fround_any (w : World) (bd s : Bool) (a : Option Addr) (n cap : Nat) (e mode : Int) (d : Option (Int × Int)) (hx : DyIn w bd s a n cap e d) (hT : Tab w) :
 Calls Tryz.prog 105 #[.agg #[.bool bd, .bool s, .slice a n cap, .int .i64 e], .int .i64 mode] w fun o w' => o = .returned (.int .u64 (fround d mode : Nat)) ∧ Below w.heap.size w w' := by
 rcases dcases d with rfl | ⟨m, f, rfl⟩
 · exact wround_bad w bd s a n cap e mode none hx hT rfl
 · by_cases h0 : m = 0
   · have := wround_zero w bd s a n cap e mode (some (m, f)) hx hT rfl h0
     rwa [show fround (some (m, f)) mode = 0 by unfold fround; simp only; rw [if_pos h0]]
   · have := wround_ok w bd s a n cap e mode (some (m, f)) hx hT rfl h0
     rwa [show fround (some (m, f)) mode = frnd (decide (m < 0)) m.natAbs f false mode by unfold fround; simp only; rw [if_neg h0]]
end Go.Proofs.YtgicceiimciafaaGreatDoor
namespace Go.Proofs.YtgicceiimciafaaGreatDoor
open Go.RowKit Sp
attribute [local irreducible] Calls
end Go.Proofs.YtgicceiimciafaaGreatDoor
namespace Go.Proofs.YtgicceiimciafaaGreatDoor
open Go.RowKit Sp
end Go.Proofs.YtgicceiimciafaaGreatDoor
