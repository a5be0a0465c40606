/-
  Walks: the reference's dyads: Cmp, Add, Sub, Mul.
-/
import Derived.Test.YtablcbgeeeboeaaGreatDoorZfRva
import Derived.Test.YtablcbgeeeboeaaGreatDoorZfCs
import Derived.Test.YtablcbgeeeboeaaGreatDoorZfCm
import Derived.Test.YtablcbgeeeboeaaGreatDoorZfTj
import Derived.Test.YtablcbgeeeboeaaGreatDoorZfS3
import Derived.Test.YtablcbgeeeboeaaGreatDoorZfRd
import Derived.Test.YtablcbgeeeboeaaGreatDoorZfRt
import Derived.Test.YtablcbgeeeboeaaGreatDoorZfRa
import Derived.Deep.LoopGhost
import Derived.Test.YtablcbgeeeboeaaGreatDoorZfFP
set_option maxRecDepth 100000
set_option maxHeartbeats 20000000
namespace Go.Proofs.YtablcbgeeeboeaaGreatDoor
open Go.RowKit Sp
attribute [local irreducible] Calls
theorem frA {P : Program} {f : FuncId} {args : Array Value} {W : World} {x y E : Int} (h : Calls P f args W (RetAlp W x y E)) :
 Calls P f args W fun e w' => ∃ a c a' c', e = .returned (.tuple #[.agg #[.bool (decide (x < 0)), .slice a (nl x.natAbs) c], .agg #[.bool (decide (y < 0)), .slice a' (nl y.natAbs) c'], .int .i64 E]) ∧ BI w' a (nl x.natAbs) c x.natAbs ∧ BI w' a' (nl y.natAbs) c' y.natAbs ∧ From W w' :=
 h.mono fun _ _ ⟨a, c, a', c', he, h1, h2, hb⟩ => ⟨a, c, a', c', he, ⟨h1⟩, ⟨h2⟩, ⟨hb⟩⟩
theorem rdcmp_any (w : World) (v s v' s' : Bool) (A A' : Option Addr) (n n' c c' : Nat) (e e' : Int) (d d' : Option (Int × Int)) (hx : DyIs w v s A n c e d) (hy : DyIs w v' s' A' n' c' e' d') (hT : Tab w) :
 Calls Tryz.prog 134 #[.agg #[.bool v, .bool s, .slice A n c, .int .i64 e], .agg #[.bool v', .bool s', .slice A' n' c', .int .i64 e']] w fun o w' => o = .returned (.tuple #[.int .i64 (dcmp d d'), .bool (!dbad d && !dbad d')]) ∧ Below w.heap.size w w' := by
 obtain ⟨u, hu⟩ : ∃ u, u = dcmp d d' := ⟨_, rfl⟩
 obtain ⟨q, hq⟩ : ∃ q, q = (!dbad d && !dbad d') := ⟨_, rfl⟩
 rw [← hu, ← hq]
 have hQ := Lib.hid hq
 clear hq
 have HT : Tb w := ⟨hT⟩
 have HX : DS w v s A n c e d := ⟨hx⟩
 have HY : DS w v' s' A' n' c' e' d' := ⟨hy⟩
 have hN := hx.1.isN
 have hN' := hy.1.isN
 have HN := fun W [i : DS W v s A n c e d] [Tb W] => Lib.hid (frsF hN (rdnorm_in W i.out tb))
 have HN2 := fun W [i : DS W v' s' A' n' c' e' d'] [Tb W] => Lib.hid (frsF hN' (rdnorm_in W i.out tb))
 have HB := fun W => Lib.hid (frm (rbad_any W))
 have hB := isN_bounds hN
 have hB' := isN_bounds hN'
 have hU := Lib.hid hu
 clear hx hy hu
 go_enter Tryz.func134, Tryz.ntmps134
 go_upto_region 1 with fail
 go_cut [] (fun wx => ∃ a1 c1 a2 c2, DB wx w.heap.size (dbad d) (decide (dman d < 0)) (.slice a1 (nl (dman d).natAbs) c1) (dexp d) ∧ DB wx (w.heap.size + 1) (dbad d') (decide (dman d' < 0)) (.slice a2 (nl (dman d').natAbs) c2) (dexp d') ∧ BI wx a1 (nl (dman d).natAbs) c1 (dman d).natAbs ∧ BI wx a2 (nl (dman d').natAbs) c2 (dman d').natAbs ∧ Beh w wx)
 case first =>
  first
  | go_region_with (first
   | (go_at_call 55; refine (HN _).out.mono ?_; rintro o w1 ⟨a1, c1, rfl, i1, b1, j1, f1⟩; haveI g1 := FA.mk f1)
   | (go_at_call 55; refine (HN2 _).out.mono ?_; rintro o w2 ⟨a2, c2, rfl, i2, b2, j2, f2⟩; haveI g2 := FA.mk f2)
   | fail)
  | fail "region"
  all_goals (
   go_wp2_with fail
   go_meet
   exact ⟨a1, c1, a2, c2, inferInstance, inferInstance, inferInstance, inferInstance, inferInstance⟩)
 case rest =>
  obtain ⟨a1, c1, a2, c2, V1, V2, j1, j2, b3⟩ := hcut
  generalize wc = v1 at *
  clear HN HN2
  haveI T1 : Tb v1 := ⟨hT.below b3.out⟩
  cases hb : dbad d with
  | true =>
   obtain rfl : u = 0 := by rw [hU.out, dbad_none hb]; cases d' <;> rfl
   obtain rfl : q = false := by rw [hQ.out, hb]; rfl
   clear hU hQ
   go_wp2_with fail
   refine bodyPost_ret2 (v := .tuple #[.int .i64 0, .bool false]) (by simp only [results, Tryz.results134]; go_simp) rfl ?_
   exact ⟨rfl, zbh⟩
  | false =>
  cases hb' : dbad d' with
  | true =>
   obtain rfl : u = 0 := by rw [hU.out, dbad_none hb', dsome hb]; rfl
   obtain rfl : q = false := by rw [hQ.out, hb, hb']; rfl
   clear hU hQ
   go_wp2_with fail
   refine bodyPost_ret2 (v := .tuple #[.int .i64 0, .bool false]) (by simp only [results, Tryz.results134]; go_simp) rfl ?_
   exact ⟨rfl, zbh⟩
  | false =>
  obtain rfl : q = true := by rw [hQ.out, hb, hb']; rfl
  clear hQ
  obtain ⟨m, E, hd⟩ : ∃ m E, d = some (m, E) := ⟨_, _, dsome hb⟩
  obtain ⟨m', E', hd'⟩ : ∃ m E, d' = some (m, E) := ⟨_, _, dsome hb'⟩
  subst hd hd'
  have V1 : DB v1 w.heap.size false (decide (m < 0)) (.slice a1 (nl m.natAbs) c1) E := V1
  have V2 : DB v1 (w.heap.size + 1) false (decide (m' < 0)) (.slice a2 (nl m'.natAbs) c2) E' := V2
  have j1 : BI v1 a1 (nl m.natAbs) c1 m.natAbs := j1
  have j2 : BI v1 a2 (nl m'.natAbs) c2 m'.natAbs := j2
  have hB : blen m.natAbs ≤ 131072 ∧ -65536 ≤ E ∧ E ≤ 65536 := hB
  have hB' : blen m'.natAbs ≤ 131072 ∧ -65536 ≤ E' ∧ E' ≤ 65536 := hB'
  have hu : u = cmpI (up m E (ale m E m' E')) (up m' E' (ale m E m' E')) := by rw [hU.out, ale_cmp]; rfl
  clear hN hN' hU hb hb' HX HY
  obtain ⟨K, hE⟩ : ∃ K, K = ale m E m' E' := ⟨_, rfl⟩
  have HA := fun W b c b' c' [i : BI W b (nl m.natAbs) c m.natAbs] [j : BI W b' (nl m'.natAbs) c' m'.natAbs] => Lib.hid (frA (ralign_any W false false b b' c c' m m' E E' i.out j.out (nl_lim5 (by omega)) (nl_lim5 (by omega)) hB.2.1 hB.2.2 hB'.2.1 hB'.2.2))
  have hbl := ale_bl m E m' E' hB.2 hB'.2 hB.1 hB'.1
  have hge := ale_ge m E m' E' hB.2 hB'.2
  rw [← hE] at HA hbl hge hu
  obtain ⟨X, hX⟩ : ∃ X, X = up m E K := ⟨_, rfl⟩
  obtain ⟨Y, hY⟩ : ∃ Y, Y = up m' E' K := ⟨_, rfl⟩
  rw [← hX, ← hY] at HA hbl hu
  obtain ⟨hblX, hblY⟩ := hbl
  have HC := fun W b c b' c' [i : BI W b (nl X.natAbs) c X.natAbs] [j : BI W b' (nl Y.natAbs) c' Y.natAbs] => Lib.hid (frm (rcmp_z W b b' c c' X Y u hu i.out j.out (nl_lim5 (by omega)) (nl_lim5 (by omega))))
  clear hE hX hY hu hge hblX hblY hB hB'
  go_wp2_with fail
  refine (HA _ _ _ _ _).out.mono ?_
  rintro o w4 ⟨a4, c4, a5, c5, rfl, i4, i5, b4⟩
  go_wp2_with fail
  refine (HC _ _ _ _ _).out.mono ?_
  rintro o w6 ⟨rfl, b6⟩
  go_wp2_with fail
  refine bodyPost_ret2 (v := .tuple #[.int .i64 u, .bool true]) (by simp only [results, Tryz.results134]; go_simp) rfl ?_
  exact ⟨rfl, zbh⟩
theorem rdadd_any (w : World) (v s v' s' : Bool) (A A' : Option Addr) (n n' c c' : Nat) (e e' : Int) (d d' : Option (Int × Int)) (hx : DyIs w v s A n c e d) (hy : DyIs w v' s' A' n' c' e' d') (hT : Tab w) :
 Calls Tryz.prog 74 #[.agg #[.bool v, .bool s, .slice A n c, .int .i64 e], .agg #[.bool v', .bool s', .slice A' n' c', .int .i64 e']] w (RetDy w (dadd d d')) := by
 obtain ⟨u, hu⟩ : ∃ u, u = dadd d d' := ⟨_, rfl⟩
 rw [← hu]
 have HT : Tb w := ⟨hT⟩
 have HX : DS w v s A n c e d := ⟨hx⟩
 have HY : DS w v' s' A' n' c' e' d' := ⟨hy⟩
 have hN := hx.1.isN
 have hN' := hy.1.isN
 have HN := fun W [i : DS W v s A n c e d] [Tb W] => Lib.hid (frsF hN (rdnorm_in W i.out tb))
 have HN2 := fun W [i : DS W v' s' A' n' c' e' d'] [Tb W] => Lib.hid (frsF hN' (rdnorm_in W i.out tb))
 have HB := fun W => Lib.hid (frm (rbad_any W))
 have hB := isN_bounds hN
 have hB' := isN_bounds hN'
 have hU := Lib.hid hu
 clear hx hy hu
 go_enter Tryz.func74, Tryz.ntmps74
 go_upto_region 1 with fail
 go_cut [] (fun wx => ∃ a1 c1 a2 c2, DB wx w.heap.size (dbad d) (decide (dman d < 0)) (.slice a1 (nl (dman d).natAbs) c1) (dexp d) ∧ DB wx (w.heap.size + 1) (dbad d') (decide (dman d' < 0)) (.slice a2 (nl (dman d').natAbs) c2) (dexp d') ∧ DB wx (w.heap.size + 1 + 1) false false (.slice none 0 0) 0 ∧ BI wx a1 (nl (dman d).natAbs) c1 (dman d).natAbs ∧ BI wx a2 (nl (dman d').natAbs) c2 (dman d').natAbs ∧ Beh w wx)
 case first =>
  first
  | go_region_with (first
   | (go_at_call 55; refine (HN _).out.mono ?_; rintro o w1 ⟨a1, c1, rfl, i1, b1, j1, f1⟩; haveI g1 := FA.mk f1)
   | (go_at_call 55; refine (HN2 _).out.mono ?_; rintro o w2 ⟨a2, c2, rfl, i2, b2, j2, f2⟩; haveI g2 := FA.mk f2)
   | fail)
  | fail "region"
  all_goals (
   go_wp2_with fail
   go_meet
   exact ⟨a1, c1, a2, c2, inferInstance, inferInstance, inferInstance, inferInstance, inferInstance, inferInstance⟩)
 case rest =>
  obtain ⟨a1, c1, a2, c2, V1, V2, V3, j1, j2, b3⟩ := hcut
  generalize wc = v1 at *
  clear HN HN2
  haveI T1 : Tb v1 := ⟨hT.below b3.out⟩
  cases hb : dbad d with
  | true =>
   obtain rfl : u = none := by rw [hU.out, dbad_none hb]; cases d' <;> rfl
   clear hU
   go_wp2_with fail
   refine (HB _).out.mono ?_
   rintro o w8 ⟨rfl, b8⟩
   go_wp2_with fail
   refine bodyPost_ret (v := .agg #[.bool true, .bool false, .slice none 0 0, .int .i64 0]) (by simp only [results, Tryz.results74]; go_simp) rfl ?_
   exact ⟨none, 0, rfl, Mag.nil _, zbh, nl0⟩
  | false =>
  cases hb' : dbad d' with
  | true =>
   obtain rfl : u = none := by rw [hU.out, dbad_none hb', dsome hb]; rfl
   clear hU
   go_wp2_with fail
   refine (HB _).out.mono ?_
   rintro o w8 ⟨rfl, b8⟩
   go_wp2_with fail
   refine bodyPost_ret (v := .agg #[.bool true, .bool false, .slice none 0 0, .int .i64 0]) (by simp only [results, Tryz.results74]; go_simp) rfl ?_
   exact ⟨none, 0, rfl, Mag.nil _, zbh, nl0⟩
  | false =>
  obtain ⟨m, E, hd⟩ : ∃ m E, d = some (m, E) := ⟨_, _, dsome hb⟩
  obtain ⟨m', E', hd'⟩ : ∃ m E, d' = some (m, E) := ⟨_, _, dsome hb'⟩
  subst hd hd'
  have V1 : DB v1 w.heap.size false (decide (m < 0)) (.slice a1 (nl m.natAbs) c1) E := V1
  have V2 : DB v1 (w.heap.size + 1) false (decide (m' < 0)) (.slice a2 (nl m'.natAbs) c2) E' := V2
  have j1 : BI v1 a1 (nl m.natAbs) c1 m.natAbs := j1
  have j2 : BI v1 a2 (nl m'.natAbs) c2 m'.natAbs := j2
  have hB : blen m.natAbs ≤ 131072 ∧ -65536 ≤ E ∧ E ≤ 65536 := hB
  have hB' : blen m'.natAbs ≤ 131072 ∧ -65536 ≤ E' ∧ E' ≤ 65536 := hB'
  have hu : u = nrm (up m E (ale m E m' E') + up m' E' (ale m E m' E')) (ale m E m' E') := by rw [hU.out, ale_add m E m' E' (hN _ _ rfl) (hN' _ _ rfl)]; rfl
  clear hN hN' hU hb hb' HX HY
  obtain ⟨K, hE⟩ : ∃ K, K = ale m E m' E' := ⟨_, rfl⟩
  have HA := fun W b c b' c' [i : BI W b (nl m.natAbs) c m.natAbs] [j : BI W b' (nl m'.natAbs) c' m'.natAbs] => Lib.hid (frA (ralign_any W false false b b' c c' m m' E E' i.out j.out (nl_lim5 (by omega)) (nl_lim5 (by omega)) hB.2.1 hB.2.2 hB'.2.1 hB'.2.2))
  have hbl := ale_bl m E m' E' hB.2 hB'.2 hB.1 hB'.1
  have hge := ale_ge m E m' E' hB.2 hB'.2
  rw [← hE] at HA hbl hge hu
  obtain ⟨X, hX⟩ : ∃ X, X = up m E K := ⟨_, rfl⟩
  obtain ⟨Y, hY⟩ : ∃ Y, Y = up m' E' K := ⟨_, rfl⟩
  rw [← hX, ← hY] at HA hbl hu
  obtain ⟨hblX, hblY⟩ := hbl
  obtain ⟨Z, hZ⟩ : ∃ Z, Z = X + Y := ⟨_, rfl⟩
  have hblZ : blen Z.natAbs ≤ 262145 := by
   rw [hZ]
   have h1 : (X + Y).natAbs ≤ X.natAbs + Y.natAbs := by omega
   have h2 := blen_mono h1
   have h3 := blen_add_le X.natAbs Y.natAbs
   omega
  rw [← hZ] at hu
  have nu : IsN u := by rw [hu]; exact isN_nrm _ _
  have HC := fun W b c b' c' [i : BI W b (nl X.natAbs) c X.natAbs] [j : BI W b' (nl Y.natAbs) c' Y.natAbs] => Lib.hid (frb (radd_zz W b b' c c' X Y Z hZ i.out j.out (nl_lim5 (by omega)) (nl_lim5 (by omega))))
  have HM := fun W b c [i : BI W b (nl Z.natAbs) c Z.natAbs] [Tb W] => Lib.hid (frsF nu (rmake_z W b c Z K u hu i.out tb (nl_lim5 (by omega)) (by omega) (by omega)))
  clear hE hX hY hu hZ nu hge hblX hblY hblZ hB hB'
  go_wp2_with fail
  refine (HA _ _ _ _ _).out.mono ?_
  rintro o w4 ⟨a4, c4, a5, c5, rfl, i4, i5, b4⟩
  go_wp2_with fail
  refine (HC _ _ _ _ _).out.mono ?_
  rintro o w6 ⟨a6, c6, rfl, i6, b6, f6⟩
  haveI T6 : Tb w6 := ⟨hT.below zbh⟩
  go_wp2_with fail
  refine (HM _ _ _).out.mono ?_
  rintro o w9 ⟨a9, c9, rfl, i9, b9, j9, f9⟩
  haveI g9 := FA.mk f9
  go_wp2_with fail
  refine bodyPost_ret (v := .agg #[.bool (dbad u), .bool (decide (dman u < 0)), .slice a9 (nl (dman u).natAbs) c9, .int .i64 (dexp u)]) (by simp only [results, Tryz.results74]; go_simp) rfl ?_
  exact ⟨a9, c9, rfl, BI.out, zbh, fresh_of b9 f9⟩
theorem rdmul_any (w : World) (v s v' s' : Bool) (A A' : Option Addr) (n n' c c' : Nat) (e e' : Int) (d d' : Option (Int × Int)) (hx : DyIs w v s A n c e d) (hy : DyIs w v' s' A' n' c' e' d') (hT : Tab w) :
 Calls Tryz.prog 19 #[.agg #[.bool v, .bool s, .slice A n c, .int .i64 e], .agg #[.bool v', .bool s', .slice A' n' c', .int .i64 e']] w (RetDy w (dmul d d')) := by
 obtain ⟨u, hu⟩ : ∃ u, u = dmul d d' := ⟨_, rfl⟩
 rw [← hu]
 have HT : Tb w := ⟨hT⟩
 have HX : DS w v s A n c e d := ⟨hx⟩
 have HY : DS w v' s' A' n' c' e' d' := ⟨hy⟩
 have hN := hx.1.isN
 have hN' := hy.1.isN
 have HN := fun W [i : DS W v s A n c e d] [Tb W] => Lib.hid (frsF hN (rdnorm_in W i.out tb))
 have HN2 := fun W [i : DS W v' s' A' n' c' e' d'] [Tb W] => Lib.hid (frsF hN' (rdnorm_in W i.out tb))
 have HB := fun W => Lib.hid (frm (rbad_any W))
 have hB := isN_bounds hN
 have hB' := isN_bounds hN'
 have hU := Lib.hid hu
 clear hx hy hu
 go_enter Tryz.func19, Tryz.ntmps19
 go_upto_region 1 with fail
 go_cut [] (fun wx => ∃ a1 c1 a2 c2, DB wx w.heap.size (dbad d) (decide (dman d < 0)) (.slice a1 (nl (dman d).natAbs) c1) (dexp d) ∧ DB wx (w.heap.size + 1) (dbad d') (decide (dman d' < 0)) (.slice a2 (nl (dman d').natAbs) c2) (dexp d') ∧ DB wx (w.heap.size + 1 + 1) false false (.slice none 0 0) 0 ∧ BI wx a1 (nl (dman d).natAbs) c1 (dman d).natAbs ∧ BI wx a2 (nl (dman d').natAbs) c2 (dman d').natAbs ∧ Beh w wx)
 case first =>
  first
  | go_region_with (first
   | (go_at_call 55; refine (HN _).out.mono ?_; rintro o w1 ⟨a1, c1, rfl, i1, b1, j1, f1⟩; haveI g1 := FA.mk f1)
   | (go_at_call 55; refine (HN2 _).out.mono ?_; rintro o w2 ⟨a2, c2, rfl, i2, b2, j2, f2⟩; haveI g2 := FA.mk f2)
   | fail)
  | fail "region"
  all_goals (
   go_wp2_with fail
   go_meet
   exact ⟨a1, c1, a2, c2, inferInstance, inferInstance, inferInstance, inferInstance, inferInstance, inferInstance⟩)
 case rest =>
  obtain ⟨a1, c1, a2, c2, V1, V2, V3, j1, j2, b3⟩ := hcut
  generalize wc = v1 at *
  clear HN HN2
  haveI T1 : Tb v1 := ⟨hT.below b3.out⟩
  cases hb : dbad d with
  | true =>
   obtain rfl : u = none := by rw [hU.out, dbad_none hb]; cases d' <;> rfl
   clear hU
   go_wp2_with fail
   refine (HB _).out.mono ?_
   rintro o w8 ⟨rfl, b8⟩
   go_wp2_with fail
   refine bodyPost_ret (v := .agg #[.bool true, .bool false, .slice none 0 0, .int .i64 0]) (by simp only [results, Tryz.results19]; go_simp) rfl ?_
   exact ⟨none, 0, rfl, Mag.nil _, zbh, nl0⟩
  | false =>
  cases hb' : dbad d' with
  | true =>
   obtain rfl : u = none := by rw [hU.out, dbad_none hb', dsome hb]; rfl
   clear hU
   go_wp2_with fail
   refine (HB _).out.mono ?_
   rintro o w8 ⟨rfl, b8⟩
   go_wp2_with fail
   refine bodyPost_ret (v := .agg #[.bool true, .bool false, .slice none 0 0, .int .i64 0]) (by simp only [results, Tryz.results19]; go_simp) rfl ?_
   exact ⟨none, 0, rfl, Mag.nil _, zbh, nl0⟩
  | false =>
  obtain ⟨m, E, hd⟩ : ∃ m E, d = some (m, E) := ⟨_, _, dsome hb⟩
  obtain ⟨m', E', hd'⟩ : ∃ m E, d' = some (m, E) := ⟨_, _, dsome hb'⟩
  subst hd hd'
  have V1 : DB v1 w.heap.size false (decide (m < 0)) (.slice a1 (nl m.natAbs) c1) E := V1
  have V2 : DB v1 (w.heap.size + 1) false (decide (m' < 0)) (.slice a2 (nl m'.natAbs) c2) E' := V2
  have j1 : BI v1 a1 (nl m.natAbs) c1 m.natAbs := j1
  have j2 : BI v1 a2 (nl m'.natAbs) c2 m'.natAbs := j2
  have hB : blen m.natAbs ≤ 131072 ∧ -65536 ≤ E ∧ E ≤ 65536 := hB
  have hB' : blen m'.natAbs ≤ 131072 ∧ -65536 ≤ E' ∧ E' ≤ 65536 := hB'
  have hu : u = nrm (m * m') (E + E') := hU.out
  clear hN hN' hU hb hb' HX HY
  obtain ⟨Z, hZ⟩ : ∃ Z, Z = m * m' := ⟨_, rfl⟩
  obtain ⟨K, hK⟩ : ∃ K, K = E + E' := ⟨_, rfl⟩
  have hblZ : blen Z.natAbs ≤ 262145 := by
   rw [hZ, Int.natAbs_mul]
   have := blen_mul_le m.natAbs m'.natAbs
   omega
  rw [← hZ, ← hK] at hu
  have nu : IsN u := by rw [hu]; exact isN_nrm _ _
  have HC := fun W b c b' c' [i : BI W b (nl m.natAbs) c m.natAbs] [j : BI W b' (nl m'.natAbs) c' m'.natAbs] => Lib.hid (frb (rmul_z W b b' c c' m m' Z hZ i.out j.out (nl_lim5 (by omega)) (nl_lim5 (by omega))))
  have HM := fun W b c [i : BI W b (nl Z.natAbs) c Z.natAbs] [Tb W] => Lib.hid (frsF nu (rmake_z W b c Z K u hu i.out tb (nl_lim5 (by omega)) (by omega) (by omega)))
  have t1 : IntKind.i64.wrap (E + E') = K := by rw [IntKind.wrap_i64]; omega
  have t2 : wrap64 (E + E') = K := by unfold wrap64; omega
  clear hu hZ hK nu hblZ hB hB'
  go_wp2_with fail
  first
  | go_region_held3 (fun w' => w'.cell? ⟨w.heap.size, 1, none⟩ = some (.bool (decide (m < 0))) ∧ w'.cell? ⟨w.heap.size, 2, none⟩ = some (.slice a1 (nl m.natAbs) c1) ∧ w'.cell? ⟨w.heap.size, 3, none⟩ = some (.int .i64 E) ∧ w'.cell? ⟨w.heap.size + 1, 1, none⟩ = some (.bool (decide (m' < 0))) ∧ w'.cell? ⟨w.heap.size + 1, 2, none⟩ = some (.slice a2 (nl m'.natAbs) c2) ∧ w'.cell? ⟨w.heap.size + 1, 3, none⟩ = some (.int .i64 E')) (first | (go_simp; done)) (first
   | (go_at_call 59; refine (HC _ _ _ _ _).out.mono ?_; rintro o w6 ⟨a6, c6, rfl, i6, b6, f6⟩; haveI T6 : Tb w6 := ⟨hT.below zbh⟩)
   | (go_at_call 56; refine (HM _ _ _).out.mono ?_; rintro o w9 ⟨a9, c9, rfl, i9, b9, j9, f9⟩; haveI g9 := FA.mk f9)
   | fail)
  | fail "region"
  all_goals (
   go_wp2_with fail
   refine bodyPost_ret (v := .agg #[.bool (dbad u), .bool (decide (dman u < 0)), .slice a9 (nl (dman u).natAbs) c9, .int .i64 (dexp u)]) (by simp only [results, Tryz.results19]; go_simp) rfl ?_
   exact ⟨a9, c9, rfl, BI.out, zbh, fresh_of b9 f9⟩)
end Go.Proofs.YtablcbgeeeboeaaGreatDoor
namespace Go.Proofs.YtablcbgeeeboeaaGreatDoor
open Go.RowKit Sp
def rsumD (d : Nat → Option (Int × Int)) : Nat → Option (Int × Int)
 | 0 => some (0, 0)
 | k + 1 => dadd (rsumD d k) (d k)
theorem isN_rsum (d : Nat → Option (Int × Int)) (n : Nat) : IsN (rsumD d n) := by
 cases n with
 | zero => exact isN_zz
 | succ n => exact isN_add _ _
theorem rsumD_fin {d : Nat → Option (Int × Int)} {M : Nat → Int} {E : Int} {n : Nat} (h : ∀ i, i < n → d i = nrm (M i) E ∧ nrm (M i) E ≠ none) (hs : ∀ k, k ≤ n → dsum d k = nrm (sumI M k) E ∧ nrm (sumI M k) E ≠ none) :
 ∀ k, k ≤ n → rsumD d k = dsum d k := by
 intro k
 induction k with
 | zero => intro _; rw [(hs 0 (by omega)).1]; show some (0, 0) = nrm 0 E; rw [nrm_zero]
 | succ k ih =>
  intro hk
  show dadd (rsumD d k) (d k) = _
  rw [ih (by omega), (hs k (by omega)).1, (hs (k + 1) hk).1, (h k (by omega)).1, dadd_nrm _ _ _ (hs k (by omega)).2 (h k (by omega)).2]
  rfl
theorem rdot_law (X Y : Nat → Nat) {n : Nat} (hn : n ≤ 15) (hx : allfin X n = true) (hy : allfin Y n = true) : rsumD (fun i => dmul (fof (X i)) (fof (Y i))) n = ddot X Y n := by
 have h := (allfin_iff X n).1 hx
 have h' := (allfin_iff Y n).1 hy
 exact rsumD_fin (M := fun i => fz (X i) * fz (Y i)) (E := -2148) (fun i hi => fmul_val (h i hi) (h' i hi)) (fun k hk => adot_val (by omega) (fun i hi => h i (by omega)) (fun i hi => h' i (by omega))) n (Nat.le_refl _)
end Go.Proofs.YtablcbgeeeboeaaGreatDoor
namespace Go.Proofs.YtablcbgeeeboeaaGreatDoor
open Go.RowKit Sp
attribute [local irreducible] Calls
class FZ (W : World) (a : Option Addr) (n c : Nat) (X : outParam (Nat → Nat)) : Prop where out : Fls W a n c X
section
variable {W : World} {a : Option Addr} {n c : Nat} {X : Nat → Nat}
instance FZ.dr [h : FZ W a n c X] : FZ W.drew a n c X := ⟨h.out.below (Below.refl _ _).drew⟩
instance FZ.dn (q : Nat) [h : FZ W a n c X] : FZ (W.drewN q) a n c X := ⟨h.out.below (below_drewN (Below.refl _ _) _)⟩
instance FZ.al (o : Obj) [h : FZ W a n c X] : FZ (W.alloc o) a n c X := ⟨h.out.below ((Below.refl _ _).alloc (Nat.le_refl _) _)⟩
instance FZ.fr (L : World) [k : From L W] [h : FZ L a n c X] : FZ W a n c X := ⟨h.out.below k.out⟩
end
end Go.Proofs.YtablcbgeeeboeaaGreatDoor
