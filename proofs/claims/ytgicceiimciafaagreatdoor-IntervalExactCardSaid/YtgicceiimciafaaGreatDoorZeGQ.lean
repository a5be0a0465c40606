/-
  Walks: package float: Round.
  Walks: package float: Quo.
  Walks: package float: Root.
-/
import Derived.Test.YtgicceiimciafaaGreatDoorZeGr
import Derived.Test.YtgicceiimciafaaGreatDoorZeGO
import Derived.Test.YtgicceiimciafaaGreatDoorZeBg
import Derived.Test.YtgicceiimciafaaGreatDoorZeRatQ
import Derived.Test.YtgicceiimciafaaGreatDoorZeCs
import Derived.Test.YtgicceiimciafaaGreatDoorZeSqt
set_option maxRecDepth 100000
set_option maxHeartbeats 20000000
namespace Go.Proofs.YtgicceiimciafaaGreatDoor
open Go.RowKit Sp
theorem dNorm_d (w : World) {bd s : Bool} {a : Option Addr} {n cap : Nat} {e : Int} {d : Option (Int × Int)} (h : DyIn w bd s a n cap e d) (hT : Tab w) :
 Calls Tryz.prog 143 #[.agg #[.bool bd, .bool s, .slice a n cap, .int .i64 e]] w (RetDy w d) := by
 obtain ⟨x, h1, h2, h3, h4, h5, rfl⟩ := h
 exact dNorm_any w bd s a n cap x e h1 h2 hT h3 (tz_lim h3) h4 h5
theorem wround_bad (w : World) (bd s : Bool) (a : Option Addr) (n cap : Nat) (e mode : Int) (d : Option (Int × Int)) (hx : DyIn w bd s a n cap e d) (hT : Tab w) (hbd : dbad d = true) :
 Calls Tryz.prog 105 #[.agg #[.bool bd, .bool s, .slice a n cap, .int .i64 e], .int .i64 mode] w fun o w' => o = .returned (.int .u64 9221120237041090560) ∧ Below w.heap.size w w' := by
 have HN := fun W h ht => Lib.hid (@dNorm_d W bd s a n cap e d h ht)
 have hN := Lib.hid hx.isN
 go_enter Tryz.func105, Tryz.ntmps105
 go_wp2_with fail
 have I0 := DyV.made w 34 bd s (.slice a n cap) e
 have B0 : Below w.heap.size w (w.alloc (.cells #[.bool bd, .bool s, .slice a n cap, .int .i64 e] 34)) := zbh
 generalize (w.alloc (.cells #[.bool bd, .bool s, .slice a n cap, .int .i64 e] 34)) = w0 at I0 B0 ⊢
 generalize hz0 : w.heap.size = b0 at I0 ⊢
 refine (HN _ (hx.below B0) (hT.below B0)).out.mono ?_
 rintro e1 w1 ⟨a1, c1, rfl, M1, hb1, hf1⟩
 have B1 := below_box (w := w) B0 hb1
 have hlt := I0.lt
 have hfr : 0 < nl (dman d).natAbs → b0 < ab a1 := fun h => by have := hf1 h; omega
 obtain ⟨p0, p1, p2, p3, p4, p5⟩ := I0.below hb1
 clear hb1 hf1 I0
 go_wp2_with fail
 go_ret
 exact ⟨rfl, (by have hszw := (B1).size; repeat (with_reducible first | refine Below.setCell ?_ (by first | omega | (simp <;> omega)) _ | refine Below.alloc ?_ (by first | omega | (simp <;> omega)) _ | refine Below.drew ?_ | refine below_drewN ?_ _ | exact B1))⟩
theorem wround_zero (w : World) (bd s : Bool) (a : Option Addr) (n cap : Nat) (e mode : Int) (d : Option (Int × Int)) (hx : DyIn w bd s a n cap e d) (hT : Tab w) (hbd : dbad d = false) (hz : dman d = 0) :
 Calls Tryz.prog 105 #[.agg #[.bool bd, .bool s, .slice a n cap, .int .i64 e], .int .i64 mode] w fun o w' => o = .returned (.int .u64 0) ∧ Below w.heap.size w w' := by
 have HN := fun W h ht => Lib.hid (@dNorm_d W bd s a n cap e d h ht)
 have hN := Lib.hid hx.isN
 have HG := fun W b c (h : Mag W b (nl (dman d).natAbs) c (dman d).natAbs) ht => Lib.hid (dsign_any W (dbad d) (decide (dman d < 0)) b _ c (dexp d) d (dyin_of hN.out h) ht)
 rw [hbd] at HG
 obtain ⟨g, hg⟩ : ∃ g, g = cmpI (dman d) 0 := ⟨_, rfl⟩
 rw [← hg] at HG
 have hge : (g == 0) = true := by rw [hg, hz]; rfl
 clear hg
 have HZ := Lib.hid hz
 clear hz
 go_enter Tryz.func105, Tryz.ntmps105
 go_wp2_with fail
 have I0 := DyV.made w 34 bd s (.slice a n cap) e
 have B0 : Below w.heap.size w (w.alloc (.cells #[.bool bd, .bool s, .slice a n cap, .int .i64 e] 34)) := zbh
 generalize (w.alloc (.cells #[.bool bd, .bool s, .slice a n cap, .int .i64 e] 34)) = w0 at I0 B0 ⊢
 generalize hz0 : w.heap.size = b0 at I0 ⊢
 refine (HN _ (hx.below B0) (hT.below B0)).out.mono ?_
 rintro e1 w1 ⟨a1, c1, rfl, M1, hb1, hf1⟩
 have B1 := below_box (w := w) B0 hb1
 have hlt := I0.lt
 have hfr : 0 < nl (dman d).natAbs → b0 < ab a1 := fun h => by have := hf1 h; omega
 obtain ⟨p0, p1, p2, p3, p4, p5⟩ := I0.below hb1
 clear hb1 hf1 I0
 go_wp2_with fail
 have hzb : w.heap.size ≤ b0 := by omega
 have B2 : Below w.heap.size w ((((w1.setCell ⟨b0, 0, none⟩ (.bool false)).setCell ⟨b0, 1, none⟩ (.bool (decide (dman d < 0)))).setCell ⟨b0, 2, none⟩ (.slice a1 (nl (dman d).natAbs) c1)).setCell ⟨b0, 3, none⟩ (.int .i64 (dexp d))) := (((B1.setCell hzb _).setCell hzb _).setCell hzb _).setCell hzb _
 have K0 : DyV ((((w1.setCell ⟨b0, 0, none⟩ (.bool false)).setCell ⟨b0, 1, none⟩ (.bool (decide (dman d < 0)))).setCell ⟨b0, 2, none⟩ (.slice a1 (nl (dman d).natAbs) c1)).setCell ⟨b0, 3, none⟩ (.int .i64 (dexp d))) b0 false (decide (dman d < 0)) (.slice a1 (nl (dman d).natAbs) c1) (dexp d) := ⟨by go_simp, by go_simp, by go_simp, by go_simp, fun i => by go_simp, by simpa using p5⟩
 have ne1 : 0 < nl (dman d).natAbs → ab a1 ≠ b0 := fun h => by have := hfr h; omega
 have m2 := (((M1.set ne1 0 (.bool false)).set ne1 1 (.bool (decide (dman d < 0)))).set ne1 2 (.slice a1 (nl (dman d).natAbs) c1)).set ne1 3 (.int .i64 (dexp d))
 generalize ((((w1.setCell ⟨b0, 0, none⟩ (.bool false)).setCell ⟨b0, 1, none⟩ (.bool (decide (dman d < 0)))).setCell ⟨b0, 2, none⟩ (.slice a1 (nl (dman d).natAbs) c1)).setCell ⟨b0, 3, none⟩ (.int .i64 (dexp d))) = w2 at B2 K0 m2 ⊢
 clear p0 p1 p2 p3 p4 p5 M1 B1
 refine (HG _ a1 c1 m2 (hT.below B2)).out.mono ?_
 rintro e1 w3 ⟨rfl, hb⟩
 have B3 := below_box (w := w) B2 hb
 have m3 := m2.below hb
 obtain ⟨p0, p1, p2, p3, p4, p5⟩ := K0.below hb
 clear K0 hb m2
 go_wp2_with fail
 go_ret
 exact ⟨rfl, B3⟩
theorem wround_ok (w : World) (bd s : Bool) (a : Option Addr) (n cap : Nat) (e mode : Int) (d : Option (Int × Int)) (hx : DyIn w bd s a n cap e d) (hT : Tab w) (hbd : dbad d = false) (hz : dman d ≠ 0) :
 Calls Tryz.prog 105 #[.agg #[.bool bd, .bool s, .slice a n cap, .int .i64 e], .int .i64 mode] w fun o w' => o = .returned (.int .u64 ((frnd (decide (dman d < 0)) (dman d).natAbs (dexp d) false mode : Nat) : Int)) ∧ Below w.heap.size w w' := by
 have HN := fun W h ht => Lib.hid (@dNorm_d W bd s a n cap e d h ht)
 have hN := Lib.hid hx.isN
 have HG := fun W b c (h : Mag W b (nl (dman d).natAbs) c (dman d).natAbs) ht => Lib.hid (dsign_any W (dbad d) (decide (dman d < 0)) b _ c (dexp d) d (dyin_of hN.out h) ht)
 rw [hbd] at HG
 obtain ⟨g, hg⟩ : ∃ g, g = cmpI (dman d) 0 := ⟨_, rfl⟩
 rw [← hg] at HG
 have hge : (g == 0) = false := by rw [hg]; unfold cmpI; split <;> (try split) <;> first | decide | (exfalso; omega)
 obtain ⟨q0, q1, q2⟩ := isN_bounds hN.out
 have HO := fun W b c h => Lib.hid (of_any W false b c (dman d) (dexp d) _ h (nl_lim (by omega)) rfl)
 obtain ⟨y, hy⟩ : ∃ y : Int, y = ((dman d).natAbs : Int) := ⟨_, rfl⟩
 have hya : y.natAbs = (dman d).natAbs := by omega
 have hy0 : decide (y < 0) = false := by simp; omega
 rw [← hy] at HO
 have HR := fun W b c h ht => Lib.hid (rounded_any W (decide (dman d < 0)) false b c y.natAbs (dexp d) mode h (by omega) (by rw [hya]; omega) (by omega) (by omega) ht)
 rw [← hya]
 generalize ((frnd (decide (dman d < 0)) y.natAbs (dexp d) false mode : Nat) : Int) = V at *
 clear hg q0 q1 q2 hy hya hz
 go_enter Tryz.func105, Tryz.ntmps105
 go_wp2_with fail
 have I0 := DyV.made w 34 bd s (.slice a n cap) e
 have B0 : Below w.heap.size w (w.alloc (.cells #[.bool bd, .bool s, .slice a n cap, .int .i64 e] 34)) := zbh
 generalize (w.alloc (.cells #[.bool bd, .bool s, .slice a n cap, .int .i64 e] 34)) = w0 at I0 B0 ⊢
 generalize hz0 : w.heap.size = b0 at I0 ⊢
 refine (HN _ (hx.below B0) (hT.below B0)).out.mono ?_
 rintro e1 w1 ⟨a1, c1, rfl, M1, hb1, hf1⟩
 have B1 := below_box (w := w) B0 hb1
 have hlt := I0.lt
 have hfr : 0 < nl (dman d).natAbs → b0 < ab a1 := fun h => by have := hf1 h; omega
 obtain ⟨p0, p1, p2, p3, p4, p5⟩ := I0.below hb1
 clear hb1 hf1 I0
 go_wp2_with fail
 have hzb : w.heap.size ≤ b0 := by omega
 have B2 : Below w.heap.size w ((((w1.setCell ⟨b0, 0, none⟩ (.bool false)).setCell ⟨b0, 1, none⟩ (.bool (decide (dman d < 0)))).setCell ⟨b0, 2, none⟩ (.slice a1 (nl (dman d).natAbs) c1)).setCell ⟨b0, 3, none⟩ (.int .i64 (dexp d))) := (((B1.setCell hzb _).setCell hzb _).setCell hzb _).setCell hzb _
 have K0 : DyV ((((w1.setCell ⟨b0, 0, none⟩ (.bool false)).setCell ⟨b0, 1, none⟩ (.bool (decide (dman d < 0)))).setCell ⟨b0, 2, none⟩ (.slice a1 (nl (dman d).natAbs) c1)).setCell ⟨b0, 3, none⟩ (.int .i64 (dexp d))) b0 false (decide (dman d < 0)) (.slice a1 (nl (dman d).natAbs) c1) (dexp d) := ⟨by go_simp, by go_simp, by go_simp, by go_simp, fun i => by go_simp, by simpa using p5⟩
 have ne1 : 0 < nl (dman d).natAbs → ab a1 ≠ b0 := fun h => by have := hfr h; omega
 have m2 := (((M1.set ne1 0 (.bool false)).set ne1 1 (.bool (decide (dman d < 0)))).set ne1 2 (.slice a1 (nl (dman d).natAbs) c1)).set ne1 3 (.int .i64 (dexp d))
 generalize ((((w1.setCell ⟨b0, 0, none⟩ (.bool false)).setCell ⟨b0, 1, none⟩ (.bool (decide (dman d < 0)))).setCell ⟨b0, 2, none⟩ (.slice a1 (nl (dman d).natAbs) c1)).setCell ⟨b0, 3, none⟩ (.int .i64 (dexp d))) = w2 at B2 K0 m2 ⊢
 clear p0 p1 p2 p3 p4 p5 M1 B1
 refine (HG _ a1 c1 m2 (hT.below B2)).out.mono ?_
 rintro e1 w3 ⟨rfl, hb⟩
 have B3 := below_box (w := w) B2 hb
 have m3 := m2.below hb
 obtain ⟨p0, p1, p2, p3, p4, p5⟩ := K0.below hb
 clear K0 hb m2
 go_wp2_with fail
 refine (HO _ a1 c1 m3).out.mono ?_
 rintro e1 w4 ⟨a4, c4, rfl, m4, hb, _⟩
 have B4 := below_box (w := w) B3 hb
 clear hb p0 p1 p2 p3 p4 p5
 go_wp2_with fail
 refine (HR _ a4 c4 m4 (hT.below B4)).out.mono ?_
 rintro e1 w5 ⟨rfl, hb⟩
 have B5 := below_box (w := w) B4 hb
 go_wp2_with fail
 go_ret
 exact ⟨rfl, B5⟩
theorem dcases (d : Option (Int × Int)) : d = none ∨ ∃ m e, d = some (m, e) := by
 cases d with
 | none => exact Or.inl rfl
 | some p => exact Or.inr ⟨p.1, p.2, rfl⟩
theorem fround_any (w : World) (bd s : Bool) (a : Option Addr) (n cap : Nat) (e mode : Int) (d : Option (Int × Int)) (hx : DyIn w bd s a n cap e d) (hT : Tab w) :
 Calls Tryz.prog 105 #[.agg #[.bool bd, .bool s, .slice a n cap, .int .i64 e], .int .i64 mode] w fun o w' => o = .returned (.int .u64 (fround d mode : Nat)) ∧ Below w.heap.size w w' := by
 rcases dcases d with rfl | ⟨m, f, rfl⟩
 · exact wround_bad w bd s a n cap e mode none hx hT rfl
 · by_cases h0 : m = 0
   · have := wround_zero w bd s a n cap e mode (some (m, f)) hx hT rfl h0
     rwa [show fround (some (m, f)) mode = 0 by unfold fround; simp only; rw [if_pos h0]]
   · have := wround_ok w bd s a n cap e mode (some (m, f)) hx hT rfl h0
     rwa [show fround (some (m, f)) mode = frnd (decide (m < 0)) m.natAbs f false mode by unfold fround; simp only; rw [if_neg h0]]
end Go.Proofs.YtgicceiimciafaaGreatDoor
namespace Go.Proofs.YtgicceiimciafaaGreatDoor
open Go.RowKit Sp
attribute [local irreducible] Calls
theorem none_gt {d : Option (Int × Int)} (h : dbad d = true) : d = none := by cases d with | none => rfl | some p => cases h
theorem some_gt {d : Option (Int × Int)} (h : dbad d = false) : d = some (dman d, dexp d) := by cases d with | none => cases h | some p => rfl
theorem frF {P : Program} {f : FuncId} {args : Array Value} {W : World} {d : Option (Int × Int)} (h : Calls P f args W (RetDy W d)) :
 Calls P f args W fun e w' => ∃ a c, e = .returned (.agg #[.bool (dbad d), .bool (decide (dman d < 0)), .slice a (nl (dman d).natAbs) c, .int .i64 (dexp d)]) ∧ BI w' a (nl (dman d).natAbs) c (dman d).natAbs ∧ From W w' ∧ (0 < nl (dman d).natAbs → W.heap.size ≤ ab a) :=
 h.mono fun _ _ ⟨a, c, he, hm, hb, hf⟩ => ⟨a, c, he, ⟨hm⟩, ⟨hb⟩, hf⟩
theorem wquo_any (w : World) (bd s bd' s' : Bool) (a a' : Option Addr) (n n' cap cap' : Nat) (e e' mode : Int) (d d' : Option (Int × Int)) (hx : DyIn w bd s a n cap e d) (hy : DyIn w bd' s' a' n' cap' e' d') (hT : Tab w) :
 Calls Tryz.prog 115 #[.agg #[.bool bd, .bool s, .slice a n cap, .int .i64 e], .agg #[.bool bd', .bool s', .slice a' n' cap', .int .i64 e'], .int .i64 mode] w fun o w' => o = .returned (.int .u64 (fquo d d' mode : Nat)) ∧ Below w.heap.size w w' := by
 have HT : Tb w := ⟨hT⟩
 have HX : DI w bd s a n cap e d := ⟨hx⟩
 have HY : DI w bd' s' a' n' cap' e' d' := ⟨hy⟩
 have N1 := hx.isN
 have N2 := hy.isN
 have HN := fun W [i : DI W bd s a n cap e d] [Tb W] => Lib.hid (frF (dNorm_d W i.out tb))
 have HN2 := fun W [i : DI W bd' s' a' n' cap' e' d'] [Tb W] => Lib.hid (frF (dNorm_d W i.out tb))
 have hB := isN_bounds N1
 have hB' := isN_bounds N2
 obtain ⟨u, hu⟩ : ∃ u : Int, u = ((fquo d d' mode : Nat) : Int) := ⟨_, rfl⟩
 rw [← hu]
 have hU := Lib.hid hu
 clear hx hy hu
 go_enter Tryz.func115, Tryz.ntmps115
 go_upto_region 1 with fail
 go_cut [] (fun wx => ∃ a1 c1 a2 c2, DB wx w.heap.size (dbad d) (decide (dman d < 0)) (.slice a1 (nl (dman d).natAbs) c1) (dexp d) ∧ DB wx (w.heap.size + 1) (dbad d') (decide (dman d' < 0)) (.slice a2 (nl (dman d').natAbs) c2) (dexp d') ∧ BI wx a1 (nl (dman d).natAbs) c1 (dman d).natAbs ∧ BI wx a2 (nl (dman d').natAbs) c2 (dman d').natAbs ∧ Beh w wx)
 case first =>
  first
  | go_region_with (first
   | (go_at_call 143; refine (HN _).out.mono ?_; rintro o w1 ⟨a1, c1, rfl, j1, b1, f1⟩; haveI g1 := FA.mk f1)
   | (go_at_call 143; refine (HN2 _).out.mono ?_; rintro o w2 ⟨a2, c2, rfl, j2, b2, f2⟩; haveI g2 := FA.mk f2)
   | fail)
  | fail "region"
  all_goals (
   go_wp2_with fail
   go_meet
   exact ⟨a1, c1, a2, c2, inferInstance, inferInstance, inferInstance, inferInstance, inferInstance⟩)
 case rest =>
  obtain ⟨a1, c1, a2, c2, V1, V2, j1, j2, b3⟩ := hcut
  generalize wc = v1 at *
  clear HN HN2
  haveI T1 : Tb v1 := ⟨hT.below b3.out⟩
  cases hb : dbad d with
  | true =>
   obtain rfl : u = 9221120237041090560 := by rw [hU.out, none_gt hb]; rfl
   clear hU
   go_wp2_with fail
   go_ret
   exact ⟨rfl, zbh⟩
  | false =>
  cases hb' : dbad d' with
  | true =>
   obtain rfl : u = 9221120237041090560 := by rw [hU.out, none_gt hb', some_gt hb]; rfl
   clear hU
   go_wp2_with fail
   go_ret
   exact ⟨rfl, zbh⟩
  | false =>
  obtain ⟨m, E, hd⟩ : ∃ m E, d = some (m, E) := ⟨_, _, some_gt hb⟩
  obtain ⟨m', E', hd'⟩ : ∃ m E, d' = some (m, E) := ⟨_, _, some_gt hb'⟩
  subst hd hd'
  have V1 : DB v1 w.heap.size false (decide (m < 0)) (.slice a1 (nl m.natAbs) c1) E := V1
  have V2 : DB v1 (w.heap.size + 1) false (decide (m' < 0)) (.slice a2 (nl m'.natAbs) c2) E' := V2
  have j1 : BI v1 a1 (nl m.natAbs) c1 m.natAbs := j1
  have j2 : BI v1 a2 (nl m'.natAbs) c2 m'.natAbs := j2
  have hB : blen m.natAbs ≤ 131072 ∧ -65536 ≤ E ∧ E ≤ 65536 := hB
  have hB' : blen m'.natAbs ≤ 131072 ∧ -65536 ≤ E' ∧ E' ≤ 65536 := hB'
  have HG := fun W b c [i : BI W b (nl m.natAbs) c m.natAbs] [Tb W] => Lib.hid (frm (dsign_any W false (decide (m < 0)) b _ c E (some (m, E)) (dyin_of (d := some (m, E)) (N1) i.out) tb))
  have HG := fun W b c [i : BI W b (nl m.natAbs) c m.natAbs] [Tb W] => Lib.hid (show Calls Tryz.prog 103 #[.agg #[.bool false, .bool (decide (m < 0)), .slice b (nl m.natAbs) c, .int .i64 E]] W fun o w' => o = .returned (.int .i64 (cmpI m 0)) ∧ From W w' from (HG W b c).out)
  have HG2 := fun W b c [i : BI W b (nl m'.natAbs) c m'.natAbs] [Tb W] => Lib.hid (frm (dsign_any W false (decide (m' < 0)) b _ c E' (some (m', E')) (dyin_of (d := some (m', E')) (N2) i.out) tb))
  have HG2 := fun W b c [i : BI W b (nl m'.natAbs) c m'.natAbs] [Tb W] => Lib.hid (show Calls Tryz.prog 103 #[.agg #[.bool false, .bool (decide (m' < 0)), .slice b (nl m'.natAbs) c, .int .i64 E']] W fun o w' => o = .returned (.int .i64 (cmpI m' 0)) ∧ From W w' from (HG2 W b c).out)
  have hu : u = (((if m' = 0 then fNaN else if m = 0 then 0 else frnd (decide (m < 0) != decide (m' < 0)) (m.natAbs * 2 ^ qsh m m' 56 / m'.natAbs) (E - qsh m m' 56 - E') (decide (m.natAbs * 2 ^ qsh m m' 56 % m'.natAbs ≠ 0)) mode : Nat)) : Int) := hU.out
  clear N1 N2 hU hb hb' HX HY
  by_cases hz' : m' = 0
  · obtain rfl : u = 9221120237041090560 := by rw [hu, if_pos hz']; rfl
    have hs : cmpI m' 0 = 0 := by rw [hz']; rfl
    rw [hs] at HG2
    clear hs hz' hu hB hB'
    go_wp2_with fail
    refine (HG2 _ _ _).out.mono ?_
    rintro o w3 ⟨rfl, b3⟩
    go_wp2_with fail
    go_ret
    exact ⟨rfl, zbh⟩
  · obtain ⟨g', hg'⟩ : ∃ g, g = cmpI m' 0 := ⟨_, rfl⟩
    have hg1 : (g' == 0) = false := by rw [hg']; unfold cmpI; split <;> (try split) <;> first | decide | (exfalso; omega)
    have hg2 : ¬ g' = 0 := by simpa using hg1
    rw [← hg'] at HG2
    clear hg'
    rw [if_neg hz'] at hu
    by_cases hz : m = 0
    · obtain rfl : u = 0 := by rw [hu, if_pos hz]; rfl
      have hs : cmpI m 0 = 0 := by rw [hz]; rfl
      rw [hs] at HG
      clear hs hz' hz hu hB hB'
      go_wp2_with fail
      refine (HG2 _ _ _).out.mono ?_
      rintro o w3 ⟨rfl, b3⟩
      go_wp2_with fail
      refine (HG _ _ _).out.mono ?_
      rintro o w4 ⟨rfl, b4⟩
      go_wp2_with fail
      go_ret
      exact ⟨rfl, zbh⟩
    · obtain ⟨g, hg⟩ : ∃ g, g = cmpI m 0 := ⟨_, rfl⟩
      have hk1 : (g == 0) = false := by rw [hg]; unfold cmpI; split <;> (try split) <;> first | decide | (exfalso; omega)
      have hk2 : ¬ g = 0 := by simpa using hk1
      rw [← hg] at HG
      clear hg
      rw [if_neg hz] at hu
      have hl := qsh_ge (a := m) (b := m') hz' hz
      have hq : qsh m m' 56 ≤ 131200 := by unfold qsh; omega
      have hQl : blen (m.natAbs * 2 ^ qsh m m' 56 / m'.natAbs) ≤ 500000 := by
       refine Nat.le_trans (blen_mono (Nat.div_le_self _ _)) ?_
       rw [blen_mul_pow (by omega)]; omega
      have HR := fun W b c b' c' [i : BI W b (nl m.natAbs) c m.natAbs] [j : BI W b' (nl m'.natAbs) c' m'.natAbs] => Lib.hid (ratio_any W false false b b' c c' m E m' E' 56 i.out j.out hB.1 hB'.1 hz' (by omega) (by omega) hB.2.1 hB.2.2 hB'.2.1 hB'.2.2)
      have HO := fun W b c (i : Mag W b (nl (m.natAbs * 2 ^ qsh m m' 56 / m'.natAbs)) c (m.natAbs * 2 ^ qsh m m' 56 / m'.natAbs)) [Tb W] => Lib.hid (frm (rounded_any W (decide (m < 0) != decide (m' < 0)) (decide (m.natAbs * 2 ^ qsh m m' 56 % m'.natAbs ≠ 0)) b c (m.natAbs * 2 ^ qsh m m' 56 / m'.natAbs) (E - qsh m m' 56 - E') mode i (by rcases Nat.eq_zero_or_pos (m.natAbs * 2 ^ qsh m m' 56 / m'.natAbs) with h | h; rw [h] at hl; exact absurd hl (by decide); exact h) hQl (by omega) (by omega) tb))
      rw [← hu] at HO
      generalize decide (m.natAbs * 2 ^ qsh m m' 56 % m'.natAbs ≠ 0) = mo at *
      generalize m.natAbs * 2 ^ qsh m m' 56 / m'.natAbs = Q at *
      generalize (decide (m < 0) != decide (m' < 0)) = sg at *
      generalize E - ((qsh m m' 56 : Nat) : Int) - E' = x2 at *
      clear hu hq hQl hl hz hz' hB hB'
      go_wp2_with fail
      refine (HG2 _ _ _).out.mono ?_
      rintro o w3 ⟨rfl, b3⟩
      go_wp2_with fail
      refine (HG _ _ _).out.mono ?_
      rintro o w4 ⟨rfl, b4⟩
      go_wp2_with fail
      refine (HR _ _ _ _ _).out.mono ?_
      rintro o w5 ⟨a5, c5, rfl, m5, b5, f5⟩
      haveI i5 : From _ w5 := ⟨b5⟩
      go_wp2_with fail
      refine (HO _ _ _ m5).out.mono ?_
      rintro o w6 ⟨rfl, b6⟩
      go_wp2_with fail
      go_ret
      exact ⟨rfl, zbh⟩
end Go.Proofs.YtgicceiimciafaaGreatDoor
namespace Go.Proofs.YtgicceiimciafaaGreatDoor
open Go.RowKit Sp
theorem wroot_bad (w : World) (bd s : Bool) (a : Option Addr) (n cap : Nat) (e mode : Int) (d : Option (Int × Int)) (hx : DyIn w bd s a n cap e d) (hT : Tab w) (hbd : dbad d = true) :
 Calls Tryz.prog 119 #[.agg #[.bool bd, .bool s, .slice a n cap, .int .i64 e], .int .i64 mode] w fun o w' => o = .returned (.int .u64 9221120237041090560) ∧ Below w.heap.size w w' := by
 have HN := fun W h ht => Lib.hid (@dNorm_d W bd s a n cap e d h ht)
 have hN := Lib.hid hx.isN
 go_enter Tryz.func119, Tryz.ntmps119
 go_wp2_with fail
 have I0 := DyV.made w 34 bd s (.slice a n cap) e
 have B0 : Below w.heap.size w (w.alloc (.cells #[.bool bd, .bool s, .slice a n cap, .int .i64 e] 34)) := zbh
 generalize (w.alloc (.cells #[.bool bd, .bool s, .slice a n cap, .int .i64 e] 34)) = w0 at I0 B0 ⊢
 generalize hz0 : w.heap.size = b0 at I0 ⊢
 refine (HN _ (hx.below B0) (hT.below B0)).out.mono ?_
 rintro e1 w1 ⟨a1, c1, rfl, M1, hb1, hf1⟩
 have B1 := below_box (w := w) B0 hb1
 have hlt := I0.lt
 have hfr : 0 < nl (dman d).natAbs → b0 < ab a1 := fun h => by have := hf1 h; omega
 obtain ⟨p0, p1, p2, p3, p4, p5⟩ := I0.below hb1
 clear hb1 hf1 I0
 go_wp2_with fail
 go_ret
 exact ⟨rfl, (by have hszw := (B1).size; repeat (with_reducible first | refine Below.setCell ?_ (by first | omega | (simp <;> omega)) _ | refine Below.alloc ?_ (by first | omega | (simp <;> omega)) _ | refine Below.drew ?_ | refine below_drewN ?_ _ | exact B1))⟩
theorem wroot_neg (w : World) (bd s : Bool) (a : Option Addr) (n cap : Nat) (e mode : Int) (d : Option (Int × Int)) (hx : DyIn w bd s a n cap e d) (hT : Tab w) (hbd : dbad d = false) (hz : dman d < 0) :
 Calls Tryz.prog 119 #[.agg #[.bool bd, .bool s, .slice a n cap, .int .i64 e], .int .i64 mode] w fun o w' => o = .returned (.int .u64 9221120237041090560) ∧ Below w.heap.size w w' := by
 have HN := fun W h ht => Lib.hid (@dNorm_d W bd s a n cap e d h ht)
 have hN := Lib.hid hx.isN
 have HG := fun W b c (h : Mag W b (nl (dman d).natAbs) c (dman d).natAbs) ht => Lib.hid (dsign_any W (dbad d) (decide (dman d < 0)) b _ c (dexp d) d (dyin_of hN.out h) ht)
 rw [hbd] at HG
 obtain ⟨g, hg⟩ : ∃ g, g = cmpI (dman d) 0 := ⟨_, rfl⟩
 rw [← hg] at HG
 have hge : decide (g < 0) = true := by rw [hg, cmpI_lt hz]; rfl
 clear hg
 have HZ := Lib.hid hz
 clear hz
 go_enter Tryz.func119, Tryz.ntmps119
 go_wp2_with fail
 have I0 := DyV.made w 34 bd s (.slice a n cap) e
 have B0 : Below w.heap.size w (w.alloc (.cells #[.bool bd, .bool s, .slice a n cap, .int .i64 e] 34)) := zbh
 generalize (w.alloc (.cells #[.bool bd, .bool s, .slice a n cap, .int .i64 e] 34)) = w0 at I0 B0 ⊢
 generalize hz0 : w.heap.size = b0 at I0 ⊢
 refine (HN _ (hx.below B0) (hT.below B0)).out.mono ?_
 rintro e1 w1 ⟨a1, c1, rfl, M1, hb1, hf1⟩
 have B1 := below_box (w := w) B0 hb1
 have hlt := I0.lt
 have hfr : 0 < nl (dman d).natAbs → b0 < ab a1 := fun h => by have := hf1 h; omega
 obtain ⟨p0, p1, p2, p3, p4, p5⟩ := I0.below hb1
 clear hb1 hf1 I0
 go_wp2_with fail
 have hzb : w.heap.size ≤ b0 := by omega
 have B2 : Below w.heap.size w ((((w1.setCell ⟨b0, 0, none⟩ (.bool false)).setCell ⟨b0, 1, none⟩ (.bool (decide (dman d < 0)))).setCell ⟨b0, 2, none⟩ (.slice a1 (nl (dman d).natAbs) c1)).setCell ⟨b0, 3, none⟩ (.int .i64 (dexp d))) := (((B1.setCell hzb _).setCell hzb _).setCell hzb _).setCell hzb _
 have K0 : DyV ((((w1.setCell ⟨b0, 0, none⟩ (.bool false)).setCell ⟨b0, 1, none⟩ (.bool (decide (dman d < 0)))).setCell ⟨b0, 2, none⟩ (.slice a1 (nl (dman d).natAbs) c1)).setCell ⟨b0, 3, none⟩ (.int .i64 (dexp d))) b0 false (decide (dman d < 0)) (.slice a1 (nl (dman d).natAbs) c1) (dexp d) := ⟨by go_simp, by go_simp, by go_simp, by go_simp, fun i => by go_simp, by simpa using p5⟩
 have ne1 : 0 < nl (dman d).natAbs → ab a1 ≠ b0 := fun h => by have := hfr h; omega
 have m2 := (((M1.set ne1 0 (.bool false)).set ne1 1 (.bool (decide (dman d < 0)))).set ne1 2 (.slice a1 (nl (dman d).natAbs) c1)).set ne1 3 (.int .i64 (dexp d))
 generalize ((((w1.setCell ⟨b0, 0, none⟩ (.bool false)).setCell ⟨b0, 1, none⟩ (.bool (decide (dman d < 0)))).setCell ⟨b0, 2, none⟩ (.slice a1 (nl (dman d).natAbs) c1)).setCell ⟨b0, 3, none⟩ (.int .i64 (dexp d))) = w2 at B2 K0 m2 ⊢
 clear p0 p1 p2 p3 p4 p5 M1 B1
 refine (HG _ a1 c1 m2 (hT.below B2)).out.mono ?_
 rintro e1 w3 ⟨rfl, hb⟩
 have B3 := below_box (w := w) B2 hb
 have m3 := m2.below hb
 have K0 := K0.below hb
 have J0 := Lib.hid K0
 clear hb m2
 obtain ⟨p0, p1, p2, p3, p4, p5⟩ := K0
 go_wp2_with fail
 go_ret
 exact ⟨rfl, B3⟩
theorem wroot_zero (w : World) (bd s : Bool) (a : Option Addr) (n cap : Nat) (e mode : Int) (d : Option (Int × Int)) (hx : DyIn w bd s a n cap e d) (hT : Tab w) (hbd : dbad d = false) (hz : dman d = 0) :
 Calls Tryz.prog 119 #[.agg #[.bool bd, .bool s, .slice a n cap, .int .i64 e], .int .i64 mode] w fun o w' => o = .returned (.int .u64 0) ∧ Below w.heap.size w w' := by
 have HN := fun W h ht => Lib.hid (@dNorm_d W bd s a n cap e d h ht)
 have hN := Lib.hid hx.isN
 have HG := fun W b c (h : Mag W b (nl (dman d).natAbs) c (dman d).natAbs) ht => Lib.hid (dsign_any W (dbad d) (decide (dman d < 0)) b _ c (dexp d) d (dyin_of hN.out h) ht)
 rw [hbd] at HG
 obtain ⟨g, hg⟩ : ∃ g, g = cmpI (dman d) 0 := ⟨_, rfl⟩
 rw [← hg] at HG
 have hge : decide (g < 0) = false := by rw [hg, cmpI_eq hz]; rfl
 have hge2 : (g == 0) = true := by rw [hg, cmpI_eq hz]; rfl
 clear hg
 have HZ := Lib.hid hz
 clear hz
 go_enter Tryz.func119, Tryz.ntmps119
 go_wp2_with fail
 have I0 := DyV.made w 34 bd s (.slice a n cap) e
 have B0 : Below w.heap.size w (w.alloc (.cells #[.bool bd, .bool s, .slice a n cap, .int .i64 e] 34)) := zbh
 generalize (w.alloc (.cells #[.bool bd, .bool s, .slice a n cap, .int .i64 e] 34)) = w0 at I0 B0 ⊢
 generalize hz0 : w.heap.size = b0 at I0 ⊢
 refine (HN _ (hx.below B0) (hT.below B0)).out.mono ?_
 rintro e1 w1 ⟨a1, c1, rfl, M1, hb1, hf1⟩
 have B1 := below_box (w := w) B0 hb1
 have hlt := I0.lt
 have hfr : 0 < nl (dman d).natAbs → b0 < ab a1 := fun h => by have := hf1 h; omega
 obtain ⟨p0, p1, p2, p3, p4, p5⟩ := I0.below hb1
 clear hb1 hf1 I0
 go_wp2_with fail
 have hzb : w.heap.size ≤ b0 := by omega
 have B2 : Below w.heap.size w ((((w1.setCell ⟨b0, 0, none⟩ (.bool false)).setCell ⟨b0, 1, none⟩ (.bool (decide (dman d < 0)))).setCell ⟨b0, 2, none⟩ (.slice a1 (nl (dman d).natAbs) c1)).setCell ⟨b0, 3, none⟩ (.int .i64 (dexp d))) := (((B1.setCell hzb _).setCell hzb _).setCell hzb _).setCell hzb _
 have K0 : DyV ((((w1.setCell ⟨b0, 0, none⟩ (.bool false)).setCell ⟨b0, 1, none⟩ (.bool (decide (dman d < 0)))).setCell ⟨b0, 2, none⟩ (.slice a1 (nl (dman d).natAbs) c1)).setCell ⟨b0, 3, none⟩ (.int .i64 (dexp d))) b0 false (decide (dman d < 0)) (.slice a1 (nl (dman d).natAbs) c1) (dexp d) := ⟨by go_simp, by go_simp, by go_simp, by go_simp, fun i => by go_simp, by simpa using p5⟩
 have ne1 : 0 < nl (dman d).natAbs → ab a1 ≠ b0 := fun h => by have := hfr h; omega
 have m2 := (((M1.set ne1 0 (.bool false)).set ne1 1 (.bool (decide (dman d < 0)))).set ne1 2 (.slice a1 (nl (dman d).natAbs) c1)).set ne1 3 (.int .i64 (dexp d))
 generalize ((((w1.setCell ⟨b0, 0, none⟩ (.bool false)).setCell ⟨b0, 1, none⟩ (.bool (decide (dman d < 0)))).setCell ⟨b0, 2, none⟩ (.slice a1 (nl (dman d).natAbs) c1)).setCell ⟨b0, 3, none⟩ (.int .i64 (dexp d))) = w2 at B2 K0 m2 ⊢
 clear p0 p1 p2 p3 p4 p5 M1 B1
 refine (HG _ a1 c1 m2 (hT.below B2)).out.mono ?_
 rintro e1 w3 ⟨rfl, hb⟩
 have B3 := below_box (w := w) B2 hb
 have m3 := m2.below hb
 have K0 := K0.below hb
 have J0 := Lib.hid K0
 clear hb m2
 obtain ⟨p0, p1, p2, p3, p4, p5⟩ := K0
 go_wp2_with fail
 have K0 := J0.out
 clear p0 p1 p2 p3 p4 p5 J0
 refine (HG _ a1 c1 m3 (hT.below B3)).out.mono ?_
 rintro e1 w4 ⟨rfl, hb⟩
 have B4 := below_box (w := w) B3 hb
 have m4 := m3.below hb
 have K0 := K0.below hb
 have J0 := Lib.hid K0
 clear hb m3
 obtain ⟨p0, p1, p2, p3, p4, p5⟩ := K0
 go_wp2_with fail
 go_ret
 exact ⟨rfl, B4⟩
theorem wroot_ok (w : World) (bd s : Bool) (a : Option Addr) (n cap : Nat) (e mode : Int) (d : Option (Int × Int)) (hx : DyIn w bd s a n cap e d) (hT : Tab w) (hbd : dbad d = false) (hz : 0 < dman d) :
 Calls Tryz.prog 119 #[.agg #[.bool bd, .bool s, .slice a n cap, .int .i64 e], .int .i64 mode] w fun o w' => o = .returned (.int .u64 ((froot d mode : Nat) : Int)) ∧ Below w.heap.size w w' := by
 have HN := fun W h ht => Lib.hid (@dNorm_d W bd s a n cap e d h ht)
 have hN := Lib.hid hx.isN
 have HG := fun W b c (h : Mag W b (nl (dman d).natAbs) c (dman d).natAbs) ht => Lib.hid (dsign_any W (dbad d) (decide (dman d < 0)) b _ c (dexp d) d (dyin_of hN.out h) ht)
 rw [hbd] at HG
 obtain ⟨g, hg⟩ : ∃ g, g = cmpI (dman d) 0 := ⟨_, rfl⟩
 rw [← hg] at HG
 have hge : decide (g < 0) = false := by rw [hg, cmpI_gt hz]; rfl
 have hge2 : (g == 0) = false := by rw [hg, cmpI_gt hz]; rfl
 obtain ⟨q0, q1, q2⟩ := isN_bounds hN.out
 have HO := fun W b c h => Lib.hid (droot_any W false b c (dman d) (dexp d) 56 h q0 hz (by omega) (by omega) q1 q2)
 have hr1 := rsh_le (dman d) (dexp d) 56 (by decide)
 have hr2 := rsh_ge (dman d) (dexp d) 56
 have hV : froot d mode = frnd false (isq ((dman d).natAbs * 2 ^ rsh (dman d) (dexp d) 56)) ((dexp d - rsh (dman d) (dexp d) 56) / 2) (decide (isq ((dman d).natAbs * 2 ^ rsh (dman d) (dexp d) 56) * isq ((dman d).natAbs * 2 ^ rsh (dman d) (dexp d) 56) ≠ (dman d).natAbs * 2 ^ rsh (dman d) (dexp d) 56)) mode := by
  rcases dcases d with h | ⟨m, f, h⟩
  · rw [h] at hbd; cases hbd
  · subst h
    have k1 : ¬ m < 0 := by have : 0 < m := hz; omega
    have k2 : ¬ m = 0 := by have : 0 < m := hz; omega
    unfold froot; simp only; rw [if_neg k1, if_neg k2]; rfl
 have hM : 0 < (dman d).natAbs * 2 ^ rsh (dman d) (dexp d) 56 := Nat.mul_pos (by omega) (Nat.pow_pos (by decide))
 have hMb : blen ((dman d).natAbs * 2 ^ rsh (dman d) (dexp d) 56) ≤ 200000 := by rw [blen_mul_pow (by omega)]; omega
 have hX0 : 0 < isq ((dman d).natAbs * 2 ^ rsh (dman d) (dexp d) 56) := by
  have := isq_lt ((dman d).natAbs * 2 ^ rsh (dman d) (dexp d) 56)
  rcases Nat.eq_zero_or_pos (isq ((dman d).natAbs * 2 ^ rsh (dman d) (dexp d) 56)) with h | h
  · rw [h] at this; omega
  · exact h
 have hXb : blen (isq ((dman d).natAbs * 2 ^ rsh (dman d) (dexp d) 56)) ≤ 500000 := by
  refine Nat.le_trans (blen_mono (y := (dman d).natAbs * 2 ^ rsh (dman d) (dexp d) 56) ?_) (by omega)
  have := isq_le ((dman d).natAbs * 2 ^ rsh (dman d) (dexp d) 56)
  exact Nat.le_trans (Nat.le_mul_of_pos_left _ hX0) this
 have hE0 : -500000 ≤ (dexp d - (rsh (dman d) (dexp d) 56 : Int)) / 2 := by omega
 have hE1 : (dexp d - (rsh (dman d) (dexp d) 56 : Int)) / 2 ≤ 500000 := by omega
 rw [hV]
 generalize (decide (isq ((dman d).natAbs * 2 ^ rsh (dman d) (dexp d) 56) * isq ((dman d).natAbs * 2 ^ rsh (dman d) (dexp d) 56) ≠ (dman d).natAbs * 2 ^ rsh (dman d) (dexp d) 56)) = mo at *
 generalize isq ((dman d).natAbs * 2 ^ rsh (dman d) (dexp d) 56) = X at *
 generalize (dexp d - (rsh (dman d) (dexp d) 56 : Int)) / 2 = EE at *
 have HR := fun W b c h ht => Lib.hid (rounded_any W false mo b c X EE mode h hX0 hXb hE0 hE1 ht)
 generalize ((frnd false X EE mo mode : Nat) : Int) = V at *
 clear hg q0 q1 q2 hz hr1 hr2 hV hM hMb hX0 hXb hE0 hE1
 go_enter Tryz.func119, Tryz.ntmps119
 go_wp2_with fail
 have I0 := DyV.made w 34 bd s (.slice a n cap) e
 have B0 : Below w.heap.size w (w.alloc (.cells #[.bool bd, .bool s, .slice a n cap, .int .i64 e] 34)) := zbh
 generalize (w.alloc (.cells #[.bool bd, .bool s, .slice a n cap, .int .i64 e] 34)) = w0 at I0 B0 ⊢
 generalize hz0 : w.heap.size = b0 at I0 ⊢
 refine (HN _ (hx.below B0) (hT.below B0)).out.mono ?_
 rintro e1 w1 ⟨a1, c1, rfl, M1, hb1, hf1⟩
 have B1 := below_box (w := w) B0 hb1
 have hlt := I0.lt
 have hfr : 0 < nl (dman d).natAbs → b0 < ab a1 := fun h => by have := hf1 h; omega
 obtain ⟨p0, p1, p2, p3, p4, p5⟩ := I0.below hb1
 clear hb1 hf1 I0
 go_wp2_with fail
 have hzb : w.heap.size ≤ b0 := by omega
 have B2 : Below w.heap.size w ((((w1.setCell ⟨b0, 0, none⟩ (.bool false)).setCell ⟨b0, 1, none⟩ (.bool (decide (dman d < 0)))).setCell ⟨b0, 2, none⟩ (.slice a1 (nl (dman d).natAbs) c1)).setCell ⟨b0, 3, none⟩ (.int .i64 (dexp d))) := (((B1.setCell hzb _).setCell hzb _).setCell hzb _).setCell hzb _
 have K0 : DyV ((((w1.setCell ⟨b0, 0, none⟩ (.bool false)).setCell ⟨b0, 1, none⟩ (.bool (decide (dman d < 0)))).setCell ⟨b0, 2, none⟩ (.slice a1 (nl (dman d).natAbs) c1)).setCell ⟨b0, 3, none⟩ (.int .i64 (dexp d))) b0 false (decide (dman d < 0)) (.slice a1 (nl (dman d).natAbs) c1) (dexp d) := ⟨by go_simp, by go_simp, by go_simp, by go_simp, fun i => by go_simp, by simpa using p5⟩
 have ne1 : 0 < nl (dman d).natAbs → ab a1 ≠ b0 := fun h => by have := hfr h; omega
 have m2 := (((M1.set ne1 0 (.bool false)).set ne1 1 (.bool (decide (dman d < 0)))).set ne1 2 (.slice a1 (nl (dman d).natAbs) c1)).set ne1 3 (.int .i64 (dexp d))
 generalize ((((w1.setCell ⟨b0, 0, none⟩ (.bool false)).setCell ⟨b0, 1, none⟩ (.bool (decide (dman d < 0)))).setCell ⟨b0, 2, none⟩ (.slice a1 (nl (dman d).natAbs) c1)).setCell ⟨b0, 3, none⟩ (.int .i64 (dexp d))) = w2 at B2 K0 m2 ⊢
 clear p0 p1 p2 p3 p4 p5 M1 B1
 refine (HG _ a1 c1 m2 (hT.below B2)).out.mono ?_
 rintro e1 w3 ⟨rfl, hb⟩
 have B3 := below_box (w := w) B2 hb
 have m3 := m2.below hb
 have K0 := K0.below hb
 have J0 := Lib.hid K0
 clear hb m2
 obtain ⟨p0, p1, p2, p3, p4, p5⟩ := K0
 go_wp2_with fail
 have K0 := J0.out
 clear p0 p1 p2 p3 p4 p5 J0
 refine (HG _ a1 c1 m3 (hT.below B3)).out.mono ?_
 rintro e1 w4 ⟨rfl, hb⟩
 have B4 := below_box (w := w) B3 hb
 have m4 := m3.below hb
 have K0 := K0.below hb
 have J0 := Lib.hid K0
 clear hb m3
 obtain ⟨p0, p1, p2, p3, p4, p5⟩ := K0
 go_wp2_with fail
 refine (HO _ a1 c1 m4).out.mono ?_
 rintro e1 w5 ⟨a4, c4, rfl, m5, hb, _⟩
 have B5 := below_box (w := w) B4 hb
 clear hb p0 p1 p2 p3 p4 p5 J0
 go_wp2_with fail
 refine (HR _ a4 c4 m5 (hT.below B5)).out.mono ?_
 rintro e1 w6 ⟨rfl, hb⟩
 have B6 := below_box (w := w) B5 hb
 go_wp2_with fail
 go_ret
 exact ⟨rfl, B6⟩
theorem wroot_any (w : World) (bd s : Bool) (a : Option Addr) (n cap : Nat) (e mode : Int) (d : Option (Int × Int)) (hx : DyIn w bd s a n cap e d) (hT : Tab w) :
 Calls Tryz.prog 119 #[.agg #[.bool bd, .bool s, .slice a n cap, .int .i64 e], .int .i64 mode] w fun o w' => o = .returned (.int .u64 (froot d mode : Nat)) ∧ Below w.heap.size w w' := by
 rcases dcases d with rfl | ⟨m, f, rfl⟩
 · exact wroot_bad w bd s a n cap e mode none hx hT rfl
 · rcases Int.lt_trichotomy m 0 with h0 | h0 | h0
   · have := wroot_neg w bd s a n cap e mode (some (m, f)) hx hT rfl h0
     rwa [show froot (some (m, f)) mode = fNaN by unfold froot; simp only; rw [if_pos h0]]
   · have := wroot_zero w bd s a n cap e mode (some (m, f)) hx hT rfl h0
     rwa [show froot (some (m, f)) mode = 0 by unfold froot; simp only; rw [if_neg (by omega), if_pos h0]]
   · exact wroot_ok w bd s a n cap e mode (some (m, f)) hx hT rfl h0
end Go.Proofs.YtgicceiimciafaaGreatDoor
