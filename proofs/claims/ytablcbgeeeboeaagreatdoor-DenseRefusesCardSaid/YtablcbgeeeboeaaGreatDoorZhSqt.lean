/-
  Walks: package float: Quo.
-/
import Derived.Test.YtablcbgeeeboeaaGreatDoorZhGq
import Derived.Test.YtablcbgeeeboeaaGreatDoorZhQuo
import Derived.Test.YtablcbgeeeboeaaGreatDoorZhCs
import Derived.Test.YtablcbgeeeboeaaGreatDoorZhBh
import Derived.Test.YtablcbgeeeboeaaGreatDoorZhBg
import Derived.Test.YtablcbgeeeboeaaGreatDoorZhBf
import Derived.Test.YtablcbgeeeboeaaGreatDoorZhFP
set_option maxRecDepth 100000
set_option maxHeartbeats 20000000
namespace Go.Proofs.YtablcbgeeeboeaaGreatDoor
open Go.RowKit Sp
attribute [local irreducible] Calls
theorem zJZ {d : Option (Int × Int)} (h : zA3 d = true) : d = none := by cases d with | none => rfl | some p => cases h
theorem zGG {d : Option (Int × Int)} (h : zA3 d = false) : d = some (zA1 d, zA2 d) := by cases d with | none => cases h | some p => rfl
theorem frF {P : Program} {f : FuncId} {args : Array Value} {W : World} {d : Option (Int × Int)} (h : Calls P f args W (zAy W d)) :
 Calls P f args W fun e w' => ∃ a c, e = .returned (.agg #[.bool (zA3 d), .bool (decide (zA1 d < 0)), .slice a (nl (zA1 d).natAbs) c, .int .i64 (zA2 d)]) ∧ BI w' a (nl (zA1 d).natAbs) c (zA1 d).natAbs ∧ From W w' ∧ (0 < nl (zA1 d).natAbs → W.heap.size ≤ ab a) :=
 h.mono fun _ _ ⟨a, c, he, hm, hb, hf⟩ => ⟨a, c, he, ⟨hm⟩, ⟨hb⟩, hf⟩
theorem zLh (w : World) (bd s bd' s' : Bool) (a a' : Option Addr) (n n' cap cap' : Nat) (e e' mode : Int) (d d' : Option (Int × Int)) (hx : DyIn w bd s a n cap e d) (hy : DyIn w bd' s' a' n' cap' e' d') (hT : Tab w) :
 Calls Tryz.prog 96 #[.agg #[.bool bd, .bool s, .slice a n cap, .int .i64 e], .agg #[.bool bd', .bool s', .slice a' n' cap', .int .i64 e'], .int .i64 mode] w fun o w' => o = .returned (.int .u64 (zH0 d d' mode : Nat)) ∧ Below w.heap.size w w' := by
 have HT : Tb w := ⟨hT⟩
 have HX : DI w bd s a n cap e d := ⟨hx⟩
 have HY : DI w bd' s' a' n' cap' e' d' := ⟨hy⟩
 have N1 := hx.isN
 have N2 := hy.isN
 have HN := fun W [i : DI W bd s a n cap e d] [Tb W] => Lib.hid (frF (zBY W i.out tb))
 have HN2 := fun W [i : DI W bd' s' a' n' cap' e' d'] [Tb W] => Lib.hid (frF (zBY W i.out tb))
 have hB := zA7 N1
 have hB' := zA7 N2
 obtain ⟨u, hu⟩ : ∃ u : Int, u = ((zH0 d d' mode : Nat) : Int) := ⟨_, rfl⟩
 rw [← hu]
 have hU := Lib.hid hu
 clear hx hy hu
 go_enter Tryz.func96, Tryz.ntmps96
 go_upto_region 1 with fail
 go_cut [] (fun wx => ∃ a1 c1 a2 c2, DB wx w.heap.size (zA3 d) (decide (zA1 d < 0)) (.slice a1 (nl (zA1 d).natAbs) c1) (zA2 d) ∧ DB wx (w.heap.size + 1) (zA3 d') (decide (zA1 d' < 0)) (.slice a2 (nl (zA1 d').natAbs) c2) (zA2 d') ∧ BI wx a1 (nl (zA1 d).natAbs) c1 (zA1 d).natAbs ∧ BI wx a2 (nl (zA1 d').natAbs) c2 (zA1 d').natAbs ∧ Beh w wx)
 case first =>
  first
  | go_region_with (first
   | (go_at_call 72; refine (HN _).out.mono ?_; rintro o w1 ⟨a1, c1, rfl, j1, b1, f1⟩; haveI g1 := FA.mk f1)
   | (go_at_call 72; refine (HN2 _).out.mono ?_; rintro o w2 ⟨a2, c2, rfl, j2, b2, f2⟩; haveI g2 := FA.mk f2)
   | fail)
  | fail "region"
  all_goals (
   go_wp2_with fail
   go_meet
   exact ⟨a1, c1, a2, c2, inferInstance, inferInstance, inferInstance, inferInstance, inferInstance⟩)
 case rest =>
  obtain ⟨a1, c1, a2, c2, V1, V2, j1, j2, b3⟩ := hcut
  generalize wc = v1 at *
  clear HN HN2
  haveI T1 : Tb v1 := ⟨hT.below b3.out⟩
  cases hb : zA3 d with
  | true =>
   obtain rfl : u = 9221120237041090560 := by rw [hU.out, zJZ hb]; rfl
   clear hU
   go_wp2_with fail
   go_ret
   exact ⟨rfl, zbh⟩
  | false =>
  cases hb' : zA3 d' with
  | true =>
   obtain rfl : u = 9221120237041090560 := by rw [hU.out, zJZ hb', zGG hb]; rfl
   clear hU
   go_wp2_with fail
   go_ret
   exact ⟨rfl, zbh⟩
  | false =>
  obtain ⟨m, E, hd⟩ : ∃ m E, d = some (m, E) := ⟨_, _, zGG hb⟩
  obtain ⟨m', E', hd'⟩ : ∃ m E, d' = some (m, E) := ⟨_, _, zGG hb'⟩
  subst hd hd'
  have V1 : DB v1 w.heap.size false (decide (m < 0)) (.slice a1 (nl m.natAbs) c1) E := V1
  have V2 : DB v1 (w.heap.size + 1) false (decide (m' < 0)) (.slice a2 (nl m'.natAbs) c2) E' := V2
  have j1 : BI v1 a1 (nl m.natAbs) c1 m.natAbs := j1
  have j2 : BI v1 a2 (nl m'.natAbs) c2 m'.natAbs := j2
  have hB : zA4 m.natAbs ≤ 131072 ∧ -65536 ≤ E ∧ E ≤ 65536 := hB
  have hB' : zA4 m'.natAbs ≤ 131072 ∧ -65536 ≤ E' ∧ E' ≤ 65536 := hB'
  have HG := fun W b c [i : BI W b (nl m.natAbs) c m.natAbs] [Tb W] => Lib.hid (frm (zBG W false (decide (m < 0)) b _ c E (some (m, E)) (zAI (d := some (m, E)) (N1) i.out) tb))
  have HG := fun W b c [i : BI W b (nl m.natAbs) c m.natAbs] [Tb W] => Lib.hid (show Calls Tryz.prog 92 #[.agg #[.bool false, .bool (decide (m < 0)), .slice b (nl m.natAbs) c, .int .i64 E]] W fun o w' => o = .returned (.int .i64 (zAr m 0)) ∧ From W w' from (HG W b c).out)
  have HG2 := fun W b c [i : BI W b (nl m'.natAbs) c m'.natAbs] [Tb W] => Lib.hid (frm (zBG W false (decide (m' < 0)) b _ c E' (some (m', E')) (zAI (d := some (m', E')) (N2) i.out) tb))
  have HG2 := fun W b c [i : BI W b (nl m'.natAbs) c m'.natAbs] [Tb W] => Lib.hid (show Calls Tryz.prog 92 #[.agg #[.bool false, .bool (decide (m' < 0)), .slice b (nl m'.natAbs) c, .int .i64 E']] W fun o w' => o = .returned (.int .i64 (zAr m' 0)) ∧ From W w' from (HG2 W b c).out)
  have hu : u = (((if m' = 0 then zIU else if m = 0 then 0 else zCf (decide (m < 0) != decide (m' < 0)) (m.natAbs * 2 ^ qsh m m' 56 / m'.natAbs) (E - qsh m m' 56 - E') (decide (m.natAbs * 2 ^ qsh m m' 56 % m'.natAbs ≠ 0)) mode : Nat)) : Int) := hU.out
  clear N1 N2 hU hb hb' HX HY
  by_cases hz' : m' = 0
  · obtain rfl : u = 9221120237041090560 := by rw [hu, if_pos hz']; rfl
    have hs : zAr m' 0 = 0 := by rw [hz']; rfl
    rw [hs] at HG2
    clear hs hz' hu hB hB'
    go_wp2_with fail
    refine (HG2 _ _ _).out.mono ?_
    rintro o w3 ⟨rfl, b3⟩
    go_wp2_with fail
    go_ret
    exact ⟨rfl, zbh⟩
  · obtain ⟨g', hg'⟩ : ∃ g, g = zAr m' 0 := ⟨_, rfl⟩
    have hg1 : (g' == 0) = false := by rw [hg']; unfold zAr; split <;> (try split) <;> first | decide | (exfalso; omega)
    have hg2 : ¬ g' = 0 := by simpa using hg1
    rw [← hg'] at HG2
    clear hg'
    rw [if_neg hz'] at hu
    by_cases hz : m = 0
    · obtain rfl : u = 0 := by rw [hu, if_pos hz]; rfl
      have hs : zAr m 0 = 0 := by rw [hz]; rfl
      rw [hs] at HG
      clear hs hz' hz hu hB hB'
      go_wp2_with fail
      refine (HG2 _ _ _).out.mono ?_
      rintro o w3 ⟨rfl, b3⟩
      go_wp2_with fail
      refine (HG _ _ _).out.mono ?_
      rintro o w4 ⟨rfl, b4⟩
      go_wp2_with fail
      go_ret
      exact ⟨rfl, zbh⟩
    · obtain ⟨g, hg⟩ : ∃ g, g = zAr m 0 := ⟨_, rfl⟩
      have hk1 : (g == 0) = false := by rw [hg]; unfold zAr; split <;> (try split) <;> first | decide | (exfalso; omega)
      have hk2 : ¬ g = 0 := by simpa using hk1
      rw [← hg] at HG
      clear hg
      rw [if_neg hz] at hu
      have hl := zOs (a := m) (b := m') hz' hz
      have hq : qsh m m' 56 ≤ 131200 := by unfold qsh; omega
      have hQl : zA4 (m.natAbs * 2 ^ qsh m m' 56 / m'.natAbs) ≤ 500000 := by
       refine Nat.le_trans (zBm (Nat.div_le_self _ _)) ?_
       rw [zAi (by omega)]; omega
      have HR := fun W b c b' c' [i : BI W b (nl m.natAbs) c m.natAbs] [j : BI W b' (nl m'.natAbs) c' m'.natAbs] => Lib.hid (zJJ W false false b b' c c' m E m' E' 56 i.out j.out hB.1 hB'.1 hz' (by omega) (by omega) hB.2.1 hB.2.2 hB'.2.1 hB'.2.2)
      have HO := fun W b c (i : Mag W b (nl (m.natAbs * 2 ^ qsh m m' 56 / m'.natAbs)) c (m.natAbs * 2 ^ qsh m m' 56 / m'.natAbs)) [Tb W] => Lib.hid (frm (zCW W (decide (m < 0) != decide (m' < 0)) (decide (m.natAbs * 2 ^ qsh m m' 56 % m'.natAbs ≠ 0)) b c (m.natAbs * 2 ^ qsh m m' 56 / m'.natAbs) (E - qsh m m' 56 - E') mode i (by rcases Nat.eq_zero_or_pos (m.natAbs * 2 ^ qsh m m' 56 / m'.natAbs) with h | h; rw [h] at hl; exact absurd hl (by decide); exact h) hQl (by omega) (by omega) tb))
      rw [← hu] at HO
      generalize decide (m.natAbs * 2 ^ qsh m m' 56 % m'.natAbs ≠ 0) = mo at *
      generalize m.natAbs * 2 ^ qsh m m' 56 / m'.natAbs = Q at *
      generalize (decide (m < 0) != decide (m' < 0)) = sg at *
      generalize E - ((qsh m m' 56 : Nat) : Int) - E' = x2 at *
      clear hu hq hQl hl hz hz' hB hB'
      go_wp2_with fail
      refine (HG2 _ _ _).out.mono ?_
      rintro o w3 ⟨rfl, b3⟩
      go_wp2_with fail
      refine (HG _ _ _).out.mono ?_
      rintro o w4 ⟨rfl, b4⟩
      go_wp2_with fail
      refine (HR _ _ _ _ _).out.mono ?_
      rintro o w5 ⟨a5, c5, rfl, m5, b5, f5⟩
      haveI i5 : From _ w5 := ⟨b5⟩
      go_wp2_with fail
      refine (HO _ _ _ m5).out.mono ?_
      rintro o w6 ⟨rfl, b6⟩
      go_wp2_with fail
      go_ret
      exact ⟨rfl, zbh⟩
end Go.Proofs.YtablcbgeeeboeaaGreatDoor
set_option maxRecDepth 100000
set_option maxHeartbeats 2000000
namespace Go.Proofs.YtablcbgeeeboeaaGreatDoor
open Go.RowKit Sp
structure ReV (W : World) (b : Nat) : Prop where
 c0 : W.cell? ⟨b, 0, none⟩ = some (.bool false)
 c1 : W.cell? ⟨b, 1, none⟩ = some (.bool false)
 c2 : W.cell? ⟨b, 2, none⟩ = some (.slice none 0 0)
 c3 : W.cell? ⟨b, 3, none⟩ = some (.int .i64 0)
 c4 : W.cell? ⟨b, 4, none⟩ = some (.bool false)
 z : ∀ i, W.frozen? ⟨b, i, none⟩ = false
 lt : b < W.heap.size
theorem ReV.below {W W' : World} {b : Nat} (h : ReV W b) (hb : Below W.heap.size W W') : ReV W' b := by
 obtain ⟨h1, h2⟩ := zA8 hb
 exact ⟨(h1 _ _ h.lt).trans h.c0, (h1 _ _ h.lt).trans h.c1, (h1 _ _ h.lt).trans h.c2, (h1 _ _ h.lt).trans h.c3, (h1 _ _ h.lt).trans h.c4, fun i => (h2 _ _ h.lt).trans (h.z i), Nat.lt_of_lt_of_le h.lt hb.size⟩
theorem ReV.alloc {W : World} {b : Nat} (h : ReV W b) (o : Obj) : ReV (W.alloc o) b := h.below ((Below.refl _ _).alloc (Nat.le_refl _) _)
theorem ReV.made (W : World) (t : TypeId) {n : Nat} (hn : n = W.heap.size) : ReV (W.alloc (.cells #[.bool false, .bool false, .slice none 0 0, .int .i64 0, .bool false] t)) n := by
 subst hn
 refine ⟨by rw [World.cell?_alloc_new]; rfl, by rw [World.cell?_alloc_new]; rfl, by rw [World.cell?_alloc_new]; rfl, by rw [World.cell?_alloc_new]; rfl, by rw [World.cell?_alloc_new]; rfl, fun i => by simp [go_sem], by rw [World.size_alloc]; omega⟩
theorem ReV.drew {W : World} {b : Nat} (h : ReV W b) : ReV W.drew b := ⟨h.c0, h.c1, h.c2, h.c3, h.c4, h.z, h.lt⟩
theorem ReV.drewN {W : World} {b : Nat} (h : ReV W b) (q : Nat) : ReV (W.drewN q) b := ⟨h.c0, h.c1, h.c2, h.c3, h.c4, h.z, h.lt⟩
theorem zJu (w : World) (bd : Bool) (a : Option Addr) (c : Nat) (z f p n0 n y E q : Int) (B X r : Nat) (odd more : Bool) (hx : Mag w a (nl z.natAbs) c z.natAbs) (hl : nl z.natAbs ≤ 1099511627776) (hB : B = zA4 z.natAbs) (hB1 : B ≤ 131072) (hp0 : 1 ≤ p) (hp1 : p ≤ 4096) (hf : -65536 ≤ f) (hf1 : f ≤ 65536)
 (hn0 : max 0 (2 * (p + 3) - (B : Int)) = n0) (hodd : odd = ((f - n0).tmod 2 != 0)) (hn : n = if odd then n0 + 1 else n0) (hz : 0 ≤ z) (hX : X = z.natAbs * 2 ^ n.toNat) (hy : y = (X : Int)) (hXl : nl X ≤ 17179869184) (hr1 : r * r ≤ X) (hr2 : X < (r + 1) * (r + 1)) (hq : q = (r : Int)) (hE : (f - n).tdiv 2 = E) (hEb : -100000 ≤ E ∧ E ≤ 100000) (hmo : more = (zAr ((r * r : Nat) : Int) (X : Int) != 0)) :
 Calls Tryz.prog 139 #[.agg #[.bool bd, .bool (decide (z < 0)), .slice a (nl z.natAbs) c, .int .i64 f], .int .i64 p] w (zI1 w false r E more) := by
 have e1 : ¬ w.heap.size + 1 = w.heap.size := by omega
 have e2 : ¬ w.heap.size = w.heap.size + 1 := by omega
 have hn00 : 0 ≤ n0 := by omega
 have hn01 : n0 ≤ 8198 := by omega
 have hn2 : 0 ≤ n := by rw [hn]; split <;> omega
 have hn3 : n ≤ 8199 := by rw [hn]; split <;> omega
 have HBl := fun W h => Lib.hid (zCN W a c z h hl)
 rw [← hB] at HBl
 have HL := fun W h => Lib.hid (zFs W (decide (z < 0)) a (nl z.natAbs) c z.natAbs n h hl hn2 (by omega))
 have esh : shl (sgn (decide (z < 0)) z.natAbs) n = y := by
  rw [zAg]; unfold shl; rw [if_pos hn2, hy, hX]
  rw [show z = (z.natAbs : Int) by omega]; simp
 rw [esh] at HL
 have hyX : y.natAbs = X := by omega
 have hy0 : decide (y < 0) = false := by simp; omega
 have HS := fun W b c (h : Mag W b (nl y.natAbs) c y.natAbs) => Lib.hid (zLp W false b (nl y.natAbs) c y.natAbs r h (by rw [hyX]; exact hXl) (by simp [sgn]) (by rw [hyX]; exact hr1) (by rw [hyX]; exact hr2))
 rw [show sgn false r = q by rw [hq]; rfl] at HS
 have hqr : q.natAbs = r := by omega
 have hq0 : decide (q < 0) = false := by simp; omega
 have hqn : nl q.natAbs ≤ 17179869184 := by
  rw [hqr]; refine Nat.le_trans (zAR ?_) hXl
  refine Nat.le_trans ?_ hr1
  rcases Nat.eq_zero_or_pos r with h | h
  · rw [h]; exact Nat.zero_le _
  · exact Nat.le_mul_of_pos_left _ h
 obtain ⟨v, hv⟩ : ∃ v, v = q * q := ⟨_, rfl⟩
 have hv0 : decide (v < 0) = false := by
  have : 0 ≤ v := by rw [hv, hq]; exact Int.mul_nonneg (by omega) (by omega)
  simp; omega
 have HM := fun W b c h => Lib.hid (zOB W b b c c q q v hv h h (by omega) (by omega))
 rw [hq0] at HM
 obtain ⟨g, hg⟩ : ∃ g, g = zAr v y := ⟨_, rfl⟩
 have HC := fun W b b' c c' h h' => Lib.hid (zOS W b b' c c' v y g hg h h')
 rw [hv0, hy0] at HC
 have hmg : (g != 0) = more := by rw [hmo, hg, hv, hq, hy]; simp
 have hE1 : IntKind.i64.wrap (f - n) = f - n := by rw [IntKind.wrap_i64]; omega
 have hE2 : IntKind.i64.wrap ((f - n).tdiv 2) = E := by rw [hE, IntKind.wrap_i64]; omega
 have hE3 : IntKind.i64.wrap E = E := by rw [IntKind.wrap_i64]; omega
 have hod : ((f - n0).tmod 2 != 0) = odd := hodd.symm
 have HQR := Lib.hid hqr
 clear hqr hodd hB hg hv hmo hX hy hXl hr1 hr2 hq esh hyX
 have hz0 : decide (z < 0) = false := by simp; omega
 rw [hz0] at HBl HL ⊢
 cases odd
 all_goals (
  simp only [if_true, if_false, Bool.false_eq_true] at hn
  subst hn
  go_enter Tryz.func139, Tryz.ntmps139
  go_wp2_with fail
  have Ip := (DyV.made w 46 bd false (.slice a (nl z.natAbs) c) f).alloc (.cells #[.bool false, .bool false, .slice none 0 0, .int .i64 0, .bool false] 135)
  have Ir := ReV.made (w.alloc (.cells #[.bool bd, .bool false, .slice a (nl z.natAbs) c, .int .i64 f] 46)) 135 (n := w.heap.size + 1) (by rw [World.size_alloc])
  have Mx0 : Mag ((w.alloc (.cells #[.bool bd, .bool false, .slice a (nl z.natAbs) c, .int .i64 f] 46)).alloc (.cells #[.bool false, .bool false, .slice none 0 0, .int .i64 0, .bool false] 135)) a (nl z.natAbs) c z.natAbs := (hx.alloc _).alloc _
  have B0 : Below w.heap.size w ((w.alloc (.cells #[.bool bd, .bool false, .slice a (nl z.natAbs) c, .int .i64 f] 46)).alloc (.cells #[.bool false, .bool false, .slice none 0 0, .int .i64 0, .bool false] 135)) := zbh
  generalize ((w.alloc (.cells #[.bool bd, .bool false, .slice a (nl z.natAbs) c, .int .i64 f] 46)).alloc (.cells #[.bool false, .bool false, .slice none 0 0, .int .i64 0, .bool false] 135)) = w0 at Ip Ir Mx0 B0 ⊢
  obtain ⟨pc0, pc1, pc2, pc3, pc4, pc5⟩ := Ip
  have Vp0 := Lib.hid (DyV.mk pc0 pc1 pc2 pc3 pc4 pc5)
  obtain ⟨rc0, rc1, rc2, rc3, rc4, rc5, rc6⟩ := Ir
  have Vr0 := Lib.hid (ReV.mk rc0 rc1 rc2 rc3 rc4 rc5 rc6)
  refine (HBl _ Mx0.on).out.mono ?_
  rintro e w1 ⟨rfl, hb1⟩
  have Vp1 : DyV w1 w.heap.size bd false (.slice a (nl z.natAbs) c) f := (Vp0.out.on.below hb1)
  obtain ⟨pc0, pc1, pc2, pc3, pc4, pc5⟩ := Vp1
  have Vp1 := Lib.hid (DyV.mk pc0 pc1 pc2 pc3 pc4 pc5)
  have Vr1 : ReV w1 (w.heap.size + 1)  := (by refine ReV.below ?_ hb1; (repeat (with_reducible first | refine ReV.drew ?_ | refine ReV.drewN ?_ _ | refine ReV.alloc ?_ _)); exact Vr0.out)
  obtain ⟨rc0, rc1, rc2, rc3, rc4, rc5, rc6⟩ := Vr1
  have Vr1 := Lib.hid (ReV.mk rc0 rc1 rc2 rc3 rc4 rc5 rc6)
  have Mx1 : Mag w1 a (nl z.natAbs) c z.natAbs := Mag.below Mx0.on hb1
  have B1 := zA0 (w := w) (have := Beh.mk B0; zbh) hb1
  clear hb1
  go_wp2_with fail
  refine (HL _ Mx1.on).out.mono ?_
  rintro e w2 ⟨ay, cy, rfl, My2, hb2, hf2⟩
  have Vp2 : DyV w2 w.heap.size bd false (.slice a (nl z.natAbs) c) f := (Vp1.out.on.below hb2)
  obtain ⟨pc0, pc1, pc2, pc3, pc4, pc5⟩ := Vp2
  have Vp2 := Lib.hid (DyV.mk pc0 pc1 pc2 pc3 pc4 pc5)
  have Vr2 : ReV w2 (w.heap.size + 1)  := (by refine ReV.below ?_ hb2; (repeat (with_reducible first | refine ReV.drew ?_ | refine ReV.drewN ?_ _ | refine ReV.alloc ?_ _)); exact Vr1.out)
  obtain ⟨rc0, rc1, rc2, rc3, rc4, rc5, rc6⟩ := Vr2
  have Vr2 := Lib.hid (ReV.mk rc0 rc1 rc2 rc3 rc4 rc5 rc6)
  have Mx2 : Mag w2 a (nl z.natAbs) c z.natAbs := Mag.below Mx1.on hb2
  have B2 := zA0 (w := w) (have := Beh.mk B1; zbh) hb2
  clear hb2 hf2
  go_wp2_with fail
  have Vy3 := BgV.made w2 44 false (.slice ay (nl y.natAbs) cy)
  have Vp3 := DyV.alloc Vp2.out (.cells #[.bool false, (.slice ay (nl y.natAbs) cy)] 44)
  have Vr3 := ReV.alloc Vr2.out (.cells #[.bool false, (.slice ay (nl y.natAbs) cy)] 44)
  have My3 := My2.alloc (.cells #[.bool false, (.slice ay (nl y.natAbs) cy)] 44)
  have B3 : Below w.heap.size w (w2.alloc (.cells #[.bool false, (.slice ay (nl y.natAbs) cy)] 44)) := B2.alloc B2.size _
  generalize (w2.alloc (.cells #[.bool false, (.slice ay (nl y.natAbs) cy)] 44)) = w3 at Vy3 Vp3 Vr3 My3 B3 ⊢
  have lzy : w.heap.size + 1 < w2.heap.size := Vr2.out.lt
  generalize w2.heap.size = zy at Vy3 lzy ⊢
  have mzy : ¬ w.heap.size + 1 = zy := by omega
  have nzy : ¬ zy = w.heap.size + 1 := by omega
  obtain ⟨pc0, pc1, pc2, pc3, pc4, pc5⟩ := Vp3
  have Vp3 := Lib.hid (DyV.mk pc0 pc1 pc2 pc3 pc4 pc5)
  obtain ⟨rc0, rc1, rc2, rc3, rc4, rc5, rc6⟩ := Vr3
  have Vr3 := Lib.hid (ReV.mk rc0 rc1 rc2 rc3 rc4 rc5 rc6)
  obtain ⟨yc0, yc1, yc2, yc3⟩ := Vy3
  have Vy3 := Lib.hid (BgV.mk yc0 yc1 yc2 yc3)
  refine (HS _ ay cy My3.on).out.mono ?_
  rintro e w4 ⟨aq, cq, rfl, Mq4, hb4, hf4⟩
  have Vp4 : DyV w4 w.heap.size bd false (.slice a (nl z.natAbs) c) f := (Vp3.out.on.below hb4)
  obtain ⟨pc0, pc1, pc2, pc3, pc4, pc5⟩ := Vp4
  have Vp4 := Lib.hid (DyV.mk pc0 pc1 pc2 pc3 pc4 pc5)
  have Vr4 : ReV w4 (w.heap.size + 1)  := (by refine ReV.below ?_ hb4; (repeat (with_reducible first | refine ReV.drew ?_ | refine ReV.drewN ?_ _ | refine ReV.alloc ?_ _)); exact Vr3.out)
  obtain ⟨rc0, rc1, rc2, rc3, rc4, rc5, rc6⟩ := Vr4
  have Vr4 := Lib.hid (ReV.mk rc0 rc1 rc2 rc3 rc4 rc5 rc6)
  have Vy4 : BgV w4 zy false (.slice ay (nl y.natAbs) cy) := (Vy3.out.on.below hb4)
  obtain ⟨yc0, yc1, yc2, yc3⟩ := Vy4
  have Vy4 := Lib.hid (BgV.mk yc0 yc1 yc2 yc3)
  have My4 : Mag w4 ay (nl y.natAbs) cy y.natAbs := Mag.below My3.on hb4
  have B4 := zA0 (w := w) (have := Beh.mk B3; zbh) hb4
  have hfq : 0 < nl q.natAbs → w.heap.size + 2 ≤ ab aq := fun h => by have := hf4 h; have := Vr3.out.lt; omega
  clear hb4 hf4
  go_wp2_with fail
  have Vq5 := BgV.made w4 44 false (.slice aq (nl q.natAbs) cq)
  have Vp5 := DyV.alloc Vp4.out (.cells #[.bool false, (.slice aq (nl q.natAbs) cq)] 44)
  have Vr5 := ReV.alloc Vr4.out (.cells #[.bool false, (.slice aq (nl q.natAbs) cq)] 44)
  have Vy5 := BgV.alloc Vy4.out (.cells #[.bool false, (.slice aq (nl q.natAbs) cq)] 44)
  have My5 := My4.alloc (.cells #[.bool false, (.slice aq (nl q.natAbs) cq)] 44)
  have Mq5 := Mq4.alloc (.cells #[.bool false, (.slice aq (nl q.natAbs) cq)] 44)
  have B5 : Below w.heap.size w (w4.alloc (.cells #[.bool false, (.slice aq (nl q.natAbs) cq)] 44)) := B4.alloc B4.size _
  generalize (w4.alloc (.cells #[.bool false, (.slice aq (nl q.natAbs) cq)] 44)) = w5 at Vq5 Vp5 Vr5 Vy5 My5 Mq5 B5 ⊢
  have lzq : w.heap.size + 1 < w4.heap.size := Vr4.out.lt
  generalize w4.heap.size = zq at Vq5 lzq ⊢
  have mzq : ¬ w.heap.size + 1 = zq := by omega
  have nzq : ¬ zq = w.heap.size + 1 := by omega
  obtain ⟨pc0, pc1, pc2, pc3, pc4, pc5⟩ := Vp5
  have Vp5 := Lib.hid (DyV.mk pc0 pc1 pc2 pc3 pc4 pc5)
  obtain ⟨rc0, rc1, rc2, rc3, rc4, rc5, rc6⟩ := Vr5
  have Vr5 := Lib.hid (ReV.mk rc0 rc1 rc2 rc3 rc4 rc5 rc6)
  obtain ⟨yc0, yc1, yc2, yc3⟩ := Vy5
  have Vy5 := Lib.hid (BgV.mk yc0 yc1 yc2 yc3)
  obtain ⟨qc0, qc1, qc2, qc3⟩ := Vq5
  have Vq5 := Lib.hid (BgV.mk qc0 qc1 qc2 qc3)
  first
  | go_region_held3 (fun w' => w'.cell? ⟨w.heap.size, 0, none⟩ = some (.bool bd) ∧ w'.cell? ⟨w.heap.size, 1, none⟩ = some (.bool false) ∧ w'.cell? ⟨w.heap.size, 2, none⟩ = some ((.slice a (nl z.natAbs) c)) ∧ w'.cell? ⟨w.heap.size, 3, none⟩ = some (.int .i64 f) ∧ w'.cell? ⟨zy, 0, none⟩ = some (.bool false) ∧ w'.cell? ⟨zy, 1, none⟩ = some ((.slice ay (nl y.natAbs) cy)) ∧ w'.cell? ⟨zq, 0, none⟩ = some (.bool false) ∧ w'.cell? ⟨zq, 1, none⟩ = some ((.slice aq (nl q.natAbs) cq))) (first | (go_keep; done) | (go_simp; done))
   (first
    | (go_at_call 133; have xx := B6; refine (HC _ av ay cv cy Mv6.on My6.on).out.mono ?_; rintro e w7 ⟨rfl, hb7⟩; have Vp7 : DyV w7 w.heap.size bd false (.slice a (nl z.natAbs) c) f := (Vp6.out.on.below hb7); obtain ⟨pc0, pc1, pc2, pc3, pc4, pc5⟩ := Vp7; have Vp7 := Lib.hid (DyV.mk pc0 pc1 pc2 pc3 pc4 pc5); have Vr7 : ReV w7 (w.heap.size + 1)  := (by refine ReV.below ?_ hb7; (repeat (with_reducible first | refine ReV.drew ?_ | refine ReV.drewN ?_ _ | refine ReV.alloc ?_ _)); exact Vr6.out); obtain ⟨rc0, rc1, rc2, rc3, rc4, rc5, rc6⟩ := Vr7; have Vr7 := Lib.hid (ReV.mk rc0 rc1 rc2 rc3 rc4 rc5 rc6); have Vy7 : BgV w7 zy false (.slice ay (nl y.natAbs) cy) := (Vy6.out.on.below hb7); obtain ⟨yc0, yc1, yc2, yc3⟩ := Vy7; have Vy7 := Lib.hid (BgV.mk yc0 yc1 yc2 yc3); have Vq7 : BgV w7 zq false (.slice aq (nl q.natAbs) cq) := (Vq6.out.on.below hb7); obtain ⟨qc0, qc1, qc2, qc3⟩ := Vq7; have Vq7 := Lib.hid (BgV.mk qc0 qc1 qc2 qc3); have My7 : Mag w7 ay (nl y.natAbs) cy y.natAbs := Mag.below My6.on hb7; have Mq7 : Mag w7 aq (nl q.natAbs) cq q.natAbs := Mag.below Mq6.on hb7; have B7 := zA0 (w := w) (have := Beh.mk B6; zbh) hb7; clear hb7)
    | (go_at_call 125; refine (HM _ aq cq Mq5.on).out.mono ?_; rintro e w6 ⟨av, cv, rfl, Mv6, hb6, hf6⟩; have Vp6 : DyV w6 w.heap.size bd false (.slice a (nl z.natAbs) c) f := (Vp5.out.on.below hb6); obtain ⟨pc0, pc1, pc2, pc3, pc4, pc5⟩ := Vp6; have Vp6 := Lib.hid (DyV.mk pc0 pc1 pc2 pc3 pc4 pc5); have Vr6 : ReV w6 (w.heap.size + 1)  := (by refine ReV.below ?_ hb6; (repeat (with_reducible first | refine ReV.drew ?_ | refine ReV.drewN ?_ _ | refine ReV.alloc ?_ _)); exact Vr5.out); obtain ⟨rc0, rc1, rc2, rc3, rc4, rc5, rc6⟩ := Vr6; have Vr6 := Lib.hid (ReV.mk rc0 rc1 rc2 rc3 rc4 rc5 rc6); have Vy6 : BgV w6 zy false (.slice ay (nl y.natAbs) cy) := (Vy5.out.on.below hb6); obtain ⟨yc0, yc1, yc2, yc3⟩ := Vy6; have Vy6 := Lib.hid (BgV.mk yc0 yc1 yc2 yc3); have Vq6 : BgV w6 zq false (.slice aq (nl q.natAbs) cq) := (Vq5.out.on.below hb6); obtain ⟨qc0, qc1, qc2, qc3⟩ := Vq6; have Vq6 := Lib.hid (BgV.mk qc0 qc1 qc2 qc3); have My6 : Mag w6 ay (nl y.natAbs) cy y.natAbs := Mag.below My5.on hb6; have Mq6 : Mag w6 aq (nl q.natAbs) cq q.natAbs := Mag.below Mq5.on hb6; have B6 := zA0 (w := w) (have := Beh.mk B5; zbh) hb6; clear hb6 hf6)
    | fail)
  | fail "region"
  all_goals go_wp2_with fail
  all_goals (
   refine bodyPost_ret (v := .agg #[.bool false, .bool false, .slice aq (nl q.natAbs) cq, .int .i64 E, .bool more]) (by simp only [results, Tryz.results139]; go_simp) rfl ?_
   unfold zI1
   rw [← HQR.out]
   exact ⟨aq, cq, rfl, (by repeat (with_reducible first | refine Mag.set ?_ (fun h => by have := hfq h; omega) _ _ | exact Mq7)), (have := Beh.mk B7; zbh), fun h => by have := hfq h; omega⟩))
theorem zKF (w : World) (bd : Bool) (a : Option Addr) (c : Nat) (z f p : Int) (hx : Mag w a (nl z.natAbs) c z.natAbs) (hb : zA4 z.natAbs ≤ 131072) (hz : 0 < z) (hp0 : 1 ≤ p) (hp1 : p ≤ 4096) (hf : -65536 ≤ f) (hf1 : f ≤ 65536) :
 Calls Tryz.prog 139 #[.agg #[.bool bd, .bool (decide (z < 0)), .slice a (nl z.natAbs) c, .int .i64 f], .int .i64 p] w
  (zI1 w false (isq (z.natAbs * 2 ^ rsh z f p)) ((f - rsh z f p) / 2) (decide (isq (z.natAbs * 2 ^ rsh z f p) * isq (z.natAbs * 2 ^ rsh z f p) ≠ z.natAbs * 2 ^ rsh z f p))) := by
 have hz0 : 0 < z.natAbs := by omega
 obtain ⟨n0, hn0⟩ : ∃ n0, n0 = max 0 (2 * (p + 3) - (zA4 z.natAbs : Int)) := ⟨_, rfl⟩
 have hn0' : 0 ≤ n0 := by omega
 have hrsh : ((rsh z f p : Nat) : Int) = if ((f - n0).tmod 2 != 0) = true then n0 + 1 else n0 := by
  unfold rsh
  rw [← hn0]
  have e1 : ((n0.toNat : Nat) : Int) = n0 := Int.toNat_of_nonneg hn0'
  rw [e1]
  have e2 : (((f - n0).tmod 2 != 0) = true) ↔ ((f - n0) % 2 ≠ 0) := by
   rw [bne_iff_ne, Ne, Ne, ← Int.dvd_iff_tmod_eq_zero, ← Int.dvd_iff_emod_eq_zero]
  by_cases h : (f - n0) % 2 ≠ 0
  · rw [if_pos h, if_pos (e2.2 h)]; omega
  · rw [if_neg h, if_neg (fun h' => h (e2.1 h'))]; omega
 have hle := zMG z f p (by omega)
 have hev := zHt z f p
 have hbX : zA4 (z.natAbs * 2 ^ rsh z f p) = zA4 z.natAbs + rsh z f p := zAi hz0 _
 have hdv : (f - (rsh z f p : Nat)).tdiv 2 = (f - (rsh z f p : Nat)) / 2 := by
  obtain ⟨k, hk⟩ : (2 : Int) ∣ (f - (rsh z f p : Nat)) := Int.dvd_of_emod_eq_zero hev
  rw [hk, Int.mul_tdiv_cancel_left _ (by omega), Int.mul_ediv_cancel_left _ (by omega)]
 generalize hR : rsh z f p = R at *
 refine zJu w bd a c z f p n0 (R : Int) ((z.natAbs * 2 ^ R : Nat) : Int) ((f - R) / 2) ((isq (z.natAbs * 2 ^ R) : Nat) : Int) (zA4 z.natAbs) (z.natAbs * 2 ^ R) (isq (z.natAbs * 2 ^ R)) _ _ hx (zAz (by omega)) rfl hb hp0 hp1 hf hf1 hn0.symm rfl hrsh (by omega) (by rw [Int.toNat_natCast]) rfl ?_ (zDI _) (zDH _) rfl hdv (by omega) ?_
 · exact Nat.le_trans (zAe _) (by omega)
 · generalize isq (z.natAbs * 2 ^ R) = s
   generalize z.natAbs * 2 ^ R = X
   by_cases h : s * s = X
   · rw [h, zBZ rfl]; simp
   · have h1 : zAr ((s * s : Nat) : Int) (X : Int) ≠ 0 := fun h2 => h (by have := cmpI_eq0.1 h2; omega)
     have h2 : decide (s * s ≠ X) = true := by simpa using h
     rw [h2]; symm; rw [bne_iff_ne]; exact h1
end Go.Proofs.YtablcbgeeeboeaaGreatDoor
