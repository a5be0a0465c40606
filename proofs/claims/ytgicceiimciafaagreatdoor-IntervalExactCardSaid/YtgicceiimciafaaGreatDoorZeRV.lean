/-
  Walks: the reference's dyads: align.
  Walks: the reference's dyads: Cmp, Add, Sub, Mul.
-/
import Derived.Test.YtgicceiimciafaaGreatDoorZeRu
import Derived.Test.YtgicceiimciafaaGreatDoorZeCs
import Derived.Test.YtgicceiimciafaaGreatDoorZeCL
set_option maxRecDepth 100000
set_option maxHeartbeats 20000000
namespace Go.Proofs.YtgicceiimciafaaGreatDoor
open Go.RowKit Sp
def RetAlp (w : World) (x y E : Int) (e : Ending) (w' : World) : Prop :=
 ∃ a c a' c', e = .returned (.tuple #[.agg #[.bool (decide (x < 0)), .slice a (nl x.natAbs) c], .agg #[.bool (decide (y < 0)), .slice a' (nl y.natAbs) c'], .int .i64 E]) ∧ Mag w' a (nl x.natAbs) c x.natAbs ∧ Mag w' a' (nl y.natAbs) c' y.natAbs ∧ Below w.heap.size w w'
def ale (z f z' f' : Int) : Int := if z = 0 then f' else if z' = 0 then f else min f f'
attribute [local irreducible] Calls
theorem al_cases (z f z' f' : Int) : (z = 0 ∧ up z f (ale z f z' f') = z ∧ up z' f' (ale z f z' f') = z' ∧ ale z f z' f' = f') ∨ (z ≠ 0 ∧ z' = 0 ∧ up z f (ale z f z' f') = z ∧ up z' f' (ale z f z' f') = z' ∧ ale z f z' f' = f) ∨
 (z ≠ 0 ∧ z' ≠ 0 ∧ f' < f ∧ up z f (ale z f z' f') = z * 2 ^ (f - f').toNat ∧ up z' f' (ale z f z' f') = z' ∧ ale z f z' f' = f') ∨ (z ≠ 0 ∧ z' ≠ 0 ∧ ¬ f' < f ∧ up z f (ale z f z' f') = z ∧ up z' f' (ale z f z' f') = z' * 2 ^ (f' - f).toNat ∧ ale z f z' f' = f) := by
 unfold ale
 by_cases hz : z = 0
 · left; rw [if_pos hz, up_self]; exact ⟨hz, by rw [hz, up_zero], rfl, rfl⟩
 · rw [if_neg hz]
   by_cases hz' : z' = 0
   · right; left; rw [if_pos hz', up_self]; exact ⟨hz, hz', rfl, by rw [hz', up_zero], rfl⟩
   · rw [if_neg hz']
     by_cases hf : f' < f
     · right; right; left; rw [show min f f' = f' by omega, up_self]; exact ⟨hz, hz', hf, rfl, rfl, rfl⟩
     · right; right; right; rw [show min f f' = f by omega, up_self]; exact ⟨hz, hz', hf, rfl, rfl, rfl⟩
theorem ralign_any (w : World) (bd bd' : Bool) (a a' : Option Addr) (c c' : Nat) (z z' f f' : Int) (hx : Mag w a (nl z.natAbs) c z.natAbs) (hy : Mag w a' (nl z'.natAbs) c' z'.natAbs) (hl : nl z.natAbs ≤ 549755813888) (hl' : nl z'.natAbs ≤ 549755813888) (h0 : -65536 ≤ f) (h1 : f ≤ 65536) (h0' : -65536 ≤ f') (h1' : f' ≤ 65536) :
 Calls Tryz.prog 147 #[.agg #[.bool bd, .bool (decide (z < 0)), .slice a (nl z.natAbs) c, .int .i64 f], .agg #[.bool bd', .bool (decide (z' < 0)), .slice a' (nl z'.natAbs) c', .int .i64 f']] w (RetAlp w (up z f (ale z f z' f')) (up z' f' (ale z f z' f')) (ale z f z' f')) := by
 have hC := al_cases z f z' f'
 obtain ⟨X, hX⟩ : ∃ X, X = up z f (ale z f z' f') := ⟨_, rfl⟩
 obtain ⟨Y, hY⟩ : ∃ Y, Y = up z' f' (ale z f z' f') := ⟨_, rfl⟩
 obtain ⟨K, hK⟩ : ∃ K, K = ale z f z' f' := ⟨_, rfl⟩
 rw [← hX, ← hY, ← hK] at hC ⊢
 have hC := Lib.hid hC
 have HX := Lib.hid hx
 have HY := Lib.hid hy
 have HS := fun W (h : Below w.heap.size w W) => Lib.hid (frm (rsgn_z W a c z _ rfl (hx.below h) hl))
 have HS2 := fun W (h : Below w.heap.size w W) => Lib.hid (frm (rsgn_z W a' c' z' _ rfl (hy.below h) hl'))
 clear hx hy hX hY hK
 go_enter Tryz.func147, Tryz.ntmps147
 go_upto_region 1 with fail
 go_cut [7, 8] (fun p7 p8 wx => ∃ y1 y2, p7 = .pointer (some ⟨y1, 0, none⟩) ∧ p8 = .pointer (some ⟨y2, 0, none⟩) ∧ w.heap.size + 3 < y1 ∧ w.heap.size + 3 < y2 ∧ DB wx w.heap.size bd (decide (z < 0)) (.slice a (nl z.natAbs) c) f ∧ DB wx (w.heap.size + 1) bd' (decide (z' < 0)) (.slice a' (nl z'.natAbs) c') f' ∧ BB wx (w.heap.size + 1 + 1) false (.slice none 0 0) ∧ BB wx (w.heap.size + 1 + 1 + 1) false (.slice none 0 0) ∧ BB wx y1 (decide (z < 0)) (.slice a (nl z.natAbs) c) ∧ BB wx y2 (decide (z' < 0)) (.slice a' (nl z'.natAbs) c') ∧ Beh w wx)
 case first =>
  first
  | go_big_region
  | fail "region"
  all_goals (
   go_wp2_with fail
   go_meet
   exact ⟨_, _, rfl, rfl, by first | omega | (simp only [World.size_alloc]; omega), by first | omega | (simp only [World.size_alloc]; omega), inferInstance, inferInstance, inferInstance, inferInstance, inferInstance, inferInstance, inferInstance⟩)
 case rest =>
  obtain ⟨y1, y2, rfl, rfl, q1, q2, V1, V2, V3, V4, V5, V6, b1⟩ := hcut
  generalize wc = v1 at *
  have hx := HX.out
  have hy := HY.out
  haveI n1 : NB y1 (w.heap.size + 1 + 1) := ⟨by omega⟩
  haveI n2 : NB y2 (w.heap.size + 1 + 1) := ⟨by omega⟩
  haveI n3 : NB y1 (w.heap.size + 1 + 1 + 1) := ⟨by omega⟩
  haveI n4 : NB y2 (w.heap.size + 1 + 1 + 1) := ⟨by omega⟩
  rcases hC.out with ⟨hz, rfl, rfl, rfl⟩ | ⟨hz, hz', rfl, rfl, rfl⟩ | ⟨hz, hz', hf, hX, rfl, rfl⟩ | ⟨hz, hz', hf, rfl, hY, rfl⟩
  · have g1 := sg0 hz
    generalize sg X = g at *
    clear hC hz
    go_wp2_with fail
    refine (HS _ zbh).out.mono ?_
    rintro o w2 ⟨rfl, b2⟩
    go_wp2_with fail
    first
    | go_big_region
    | fail "region"
    all_goals (
     go_wp2_with fail
     refine bodyPost_ret2 (v := .tuple #[.agg #[.bool (decide (X < 0)), .slice a (nl X.natAbs) c], .agg #[.bool (decide (Y < 0)), .slice a' (nl Y.natAbs) c'], .int .i64 K]) (by simp only [results, Tryz.results147]; go_simp) rfl ?_
     exact ⟨a, c, a', c', rfl, hx.below zbh, hy.below zbh, zbh⟩)
  · have g1 := sg1 hz
    have g2 := sg0 hz'
    generalize sg X = g at *
    generalize sg Y = g' at *
    clear hC hz hz'
    go_wp2_with fail
    refine (HS _ zbh).out.mono ?_
    rintro o w2 ⟨rfl, b2⟩
    go_wp2_with fail
    refine (HS2 _ zbh).out.mono ?_
    rintro o w3 ⟨rfl, b3⟩
    go_wp2_with fail
    first
    | go_big_region
    | fail "region"
    all_goals (
     go_wp2_with fail
     refine bodyPost_ret2 (v := .tuple #[.agg #[.bool (decide (X < 0)), .slice a (nl X.natAbs) c], .agg #[.bool (decide (Y < 0)), .slice a' (nl Y.natAbs) c'], .int .i64 K]) (by simp only [results, Tryz.results147]; go_simp) rfl ?_
     exact ⟨a, c, a', c', rfl, hx.below zbh, hy.below zbh, zbh⟩)
  · have g1 := sg1 hz
    have g2 := sg1 hz'
    have hc : decide (K < f) = true := by simpa using hf
    obtain ⟨k, hk⟩ : ∃ k, k = f - K := ⟨_, rfl⟩
    rw [← hk] at hX
    have hw : IntKind.i64.wrap (f - K) = k := by rw [IntKind.wrap_i64]; omega
    have HG := fun W (h : Below w.heap.size w W) => Lib.hid (frb (rshl_z W a c z k X hX (hx.below h) hl (by omega) (by omega)))
    generalize sg z = g at *
    generalize sg Y = g' at *
    clear hC hz hz' hX hk
    go_wp2_with fail
    refine (HS _ zbh).out.mono ?_
    rintro o w2 ⟨rfl, b2⟩
    go_wp2_with fail
    refine (HS2 _ zbh).out.mono ?_
    rintro o w3 ⟨rfl, b3⟩
    go_wp2_with fail
    first
    | go_region_held3 (fun w' => w'.cell? ⟨w.heap.size, 3, none⟩ = some (.int .i64 f) ∧ w'.cell? ⟨w.heap.size + 1, 3, none⟩ = some (.int .i64 K) ∧ w'.cell? ⟨y1, 0, none⟩ = some (.bool (decide (z < 0))) ∧ w'.cell? ⟨y1, 1, none⟩ = some (.slice a (nl z.natAbs) c) ∧ w'.cell? ⟨y2, 0, none⟩ = some (.bool (decide (Y < 0))) ∧ w'.cell? ⟨y2, 1, none⟩ = some (.slice a' (nl Y.natAbs) c')) (first | (go_simp; done)) (first | (go_at_call 159; refine (HG _ zbh).out.mono ?_; rintro o w5 ⟨av, cv, rfl, i5, b5, f5⟩; haveI g5 := FA.mk f5) | fail)
    | fail "region"
    all_goals (
     go_wp2_with fail
     refine bodyPost_ret2 (v := .tuple #[.agg #[.bool (decide (X < 0)), .slice av (nl X.natAbs) cv], .agg #[.bool (decide (Y < 0)), .slice a' (nl Y.natAbs) c'], .int .i64 K]) (by simp only [results, Tryz.results147]; go_simp) rfl ?_
     exact ⟨av, cv, a', c', rfl, BI.out, hy.below zbh, zbh⟩)
  · have g1 := sg1 hz
    have g2 := sg1 hz'
    have hc : decide (f' < K) = false := by simpa using hf
    obtain ⟨k, hk⟩ : ∃ k, k = f' - K := ⟨_, rfl⟩
    rw [← hk] at hY
    have hw : IntKind.i64.wrap (f' - K) = k := by rw [IntKind.wrap_i64]; omega
    have HG := fun W (h : Below w.heap.size w W) => Lib.hid (frb (rshl_z W a' c' z' k Y hY (hy.below h) hl' (by omega) (by omega)))
    generalize sg X = g at *
    generalize sg z' = g' at *
    clear hC hz hz' hY hk
    go_wp2_with fail
    refine (HS _ zbh).out.mono ?_
    rintro o w2 ⟨rfl, b2⟩
    go_wp2_with fail
    refine (HS2 _ zbh).out.mono ?_
    rintro o w3 ⟨rfl, b3⟩
    go_wp2_with fail
    first
    | go_region_held3 (fun w' => w'.cell? ⟨w.heap.size, 3, none⟩ = some (.int .i64 K) ∧ w'.cell? ⟨w.heap.size + 1, 3, none⟩ = some (.int .i64 f') ∧ w'.cell? ⟨y1, 0, none⟩ = some (.bool (decide (X < 0))) ∧ w'.cell? ⟨y1, 1, none⟩ = some (.slice a (nl X.natAbs) c) ∧ w'.cell? ⟨y2, 0, none⟩ = some (.bool (decide (z' < 0))) ∧ w'.cell? ⟨y2, 1, none⟩ = some (.slice a' (nl z'.natAbs) c')) (first | (go_simp; done)) (first | (go_at_call 159; refine (HG _ zbh).out.mono ?_; rintro o w5 ⟨av, cv, rfl, i5, b5, f5⟩; haveI g5 := FA.mk f5) | fail)
    | fail "region"
    all_goals (
     go_wp2_with fail
     refine bodyPost_ret2 (v := .tuple #[.agg #[.bool (decide (X < 0)), .slice a (nl X.natAbs) c], .agg #[.bool (decide (Y < 0)), .slice av (nl Y.natAbs) cv], .int .i64 K]) (by simp only [results, Tryz.results147]; go_simp) rfl ?_
     exact ⟨a, c, av, cv, rfl, hx.below zbh, BI.out, zbh⟩)
theorem ale_cmp (z f z' f' : Int) : cmpI (up z f (ale z f z' f')) (up z' f' (ale z f z' f')) = cmpI (up z f (min f f')) (up z' f' (min f f')) := by
 unfold ale
 by_cases hz : z = 0
 · subst hz
   rw [if_pos rfl, up_zero, up_zero, up_self]
   exact (cmpI_sign (mul_pow_neg z' (f' - min f f').toNat).1 (mul_pow_neg z' (f' - min f f').toNat).2).2.symm
 · rw [if_neg hz]
   by_cases hz' : z' = 0
   · subst hz'
     rw [if_pos rfl, up_zero, up_zero, up_self]
     exact (cmpI_sign (mul_pow_neg z (f - min f f').toNat).1 (mul_pow_neg z (f - min f f').toNat).2).1.symm
   · rw [if_neg hz']
theorem ale_add (z f z' f' : Int) (h : Okd z f) (h' : Okd z' f') : nrm (up z f (ale z f z' f') + up z' f' (ale z f z' f')) (ale z f z' f') = nrm (up z f (min f f') + up z' f' (min f f')) (min f f') := by
 unfold ale
 by_cases hz : z = 0
 · subst hz
   rw [if_pos rfl, up_zero, up_zero, up_self, Int.zero_add, Int.zero_add, nrm_up _ _ _ (by omega)]
 · rw [if_neg hz]
   by_cases hz' : z' = 0
   · subst hz'
     rw [if_pos rfl, up_zero, up_zero, up_self, Int.add_zero, Int.add_zero, nrm_up _ _ _ (by omega)]
   · rw [if_neg hz']
theorem ale_ge (z f z' f' : Int) (h : -65536 ≤ f ∧ f ≤ 65536) (h' : -65536 ≤ f' ∧ f' ≤ 65536) : -65536 ≤ ale z f z' f' ∧ ale z f z' f' ≤ 65536 := by
 unfold ale; split <;> (try split) <;> omega
theorem ale_bl (z f z' f' : Int) (h : -65536 ≤ f ∧ f ≤ 65536) (h' : -65536 ≤ f' ∧ f' ≤ 65536) (hb : blen z.natAbs ≤ 131072) (hb' : blen z'.natAbs ≤ 131072) : blen (up z f (ale z f z' f')).natAbs ≤ 262144 ∧ blen (up z' f' (ale z f z' f')).natAbs ≤ 262144 := by
 unfold ale
 by_cases hz : z = 0
 · subst hz
   rw [if_pos rfl, up_zero, up_self]; exact ⟨by decide, by omega⟩
 · rw [if_neg hz]
   by_cases hz' : z' = 0
   · subst hz'
     rw [if_pos rfl, up_zero, up_self]; exact ⟨by omega, by decide⟩
   · rw [if_neg hz']
     exact ⟨blen_up_le (by omega) (by omega), blen_up_le (by omega) (by omega)⟩
end Go.Proofs.YtgicceiimciafaaGreatDoor
namespace Go.Proofs.YtgicceiimciafaaGreatDoor
open Go.RowKit Sp
attribute [local irreducible] Calls
theorem frA {P : Program} {f : FuncId} {args : Array Value} {W : World} {x y E : Int} (h : Calls P f args W (RetAlp W x y E)) :
 Calls P f args W fun e w' => ∃ a c a' c', e = .returned (.tuple #[.agg #[.bool (decide (x < 0)), .slice a (nl x.natAbs) c], .agg #[.bool (decide (y < 0)), .slice a' (nl y.natAbs) c'], .int .i64 E]) ∧ BI w' a (nl x.natAbs) c x.natAbs ∧ BI w' a' (nl y.natAbs) c' y.natAbs ∧ From W w' :=
 h.mono fun _ _ ⟨a, c, a', c', he, h1, h2, hb⟩ => ⟨a, c, a', c', he, ⟨h1⟩, ⟨h2⟩, ⟨hb⟩⟩
theorem rdcmp_any (w : World) (v s v' s' : Bool) (A A' : Option Addr) (n n' c c' : Nat) (e e' : Int) (d d' : Option (Int × Int)) (hx : DyIs w v s A n c e d) (hy : DyIs w v' s' A' n' c' e' d') (hT : Tab w) :
 Calls Tryz.prog 149 #[.agg #[.bool v, .bool s, .slice A n c, .int .i64 e], .agg #[.bool v', .bool s', .slice A' n' c', .int .i64 e']] w fun o w' => o = .returned (.tuple #[.int .i64 (dcmp d d'), .bool (!dbad d && !dbad d')]) ∧ Below w.heap.size w w' := by
 obtain ⟨u, hu⟩ : ∃ u, u = dcmp d d' := ⟨_, rfl⟩
 obtain ⟨q, hq⟩ : ∃ q, q = (!dbad d && !dbad d') := ⟨_, rfl⟩
 rw [← hu, ← hq]
 have hQ := Lib.hid hq
 clear hq
 have HT : Tb w := ⟨hT⟩
 have HX : DS w v s A n c e d := ⟨hx⟩
 have HY : DS w v' s' A' n' c' e' d' := ⟨hy⟩
 have hN := hx.1.isN
 have hN' := hy.1.isN
 have HN := fun W [i : DS W v s A n c e d] [Tb W] => Lib.hid (frsF hN (rdnorm_in W i.out tb))
 have HN2 := fun W [i : DS W v' s' A' n' c' e' d'] [Tb W] => Lib.hid (frsF hN' (rdnorm_in W i.out tb))
 have HB := fun W => Lib.hid (frm (rbad_any W))
 have hB := isN_bounds hN
 have hB' := isN_bounds hN'
 have hU := Lib.hid hu
 clear hx hy hu
 go_enter Tryz.func149, Tryz.ntmps149
 go_upto_region 1 with fail
 go_cut [] (fun wx => ∃ a1 c1 a2 c2, DB wx w.heap.size (dbad d) (decide (dman d < 0)) (.slice a1 (nl (dman d).natAbs) c1) (dexp d) ∧ DB wx (w.heap.size + 1) (dbad d') (decide (dman d' < 0)) (.slice a2 (nl (dman d').natAbs) c2) (dexp d') ∧ BI wx a1 (nl (dman d).natAbs) c1 (dman d).natAbs ∧ BI wx a2 (nl (dman d').natAbs) c2 (dman d').natAbs ∧ Beh w wx)
 case first =>
  first
  | go_region_with (first
   | (go_at_call 123; refine (HN _).out.mono ?_; rintro o w1 ⟨a1, c1, rfl, i1, b1, j1, f1⟩; haveI g1 := FA.mk f1)
   | (go_at_call 123; refine (HN2 _).out.mono ?_; rintro o w2 ⟨a2, c2, rfl, i2, b2, j2, f2⟩; haveI g2 := FA.mk f2)
   | fail)
  | fail "region"
  all_goals (
   go_wp2_with fail
   go_meet
   exact ⟨a1, c1, a2, c2, inferInstance, inferInstance, inferInstance, inferInstance, inferInstance⟩)
 case rest =>
  obtain ⟨a1, c1, a2, c2, V1, V2, j1, j2, b3⟩ := hcut
  generalize wc = v1 at *
  clear HN HN2
  haveI T1 : Tb v1 := ⟨hT.below b3.out⟩
  cases hb : dbad d with
  | true =>
   obtain rfl : u = 0 := by rw [hU.out, dbad_none hb]; cases d' <;> rfl
   obtain rfl : q = false := by rw [hQ.out, hb]; rfl
   clear hU hQ
   go_wp2_with fail
   refine bodyPost_ret2 (v := .tuple #[.int .i64 0, .bool false]) (by simp only [results, Tryz.results149]; go_simp) rfl ?_
   exact ⟨rfl, zbh⟩
  | false =>
  cases hb' : dbad d' with
  | true =>
   obtain rfl : u = 0 := by rw [hU.out, dbad_none hb', dsome hb]; rfl
   obtain rfl : q = false := by rw [hQ.out, hb, hb']; rfl
   clear hU hQ
   go_wp2_with fail
   refine bodyPost_ret2 (v := .tuple #[.int .i64 0, .bool false]) (by simp only [results, Tryz.results149]; go_simp) rfl ?_
   exact ⟨rfl, zbh⟩
  | false =>
  obtain rfl : q = true := by rw [hQ.out, hb, hb']; rfl
  clear hQ
  obtain ⟨m, E, hd⟩ : ∃ m E, d = some (m, E) := ⟨_, _, dsome hb⟩
  obtain ⟨m', E', hd'⟩ : ∃ m E, d' = some (m, E) := ⟨_, _, dsome hb'⟩
  subst hd hd'
  have V1 : DB v1 w.heap.size false (decide (m < 0)) (.slice a1 (nl m.natAbs) c1) E := V1
  have V2 : DB v1 (w.heap.size + 1) false (decide (m' < 0)) (.slice a2 (nl m'.natAbs) c2) E' := V2
  have j1 : BI v1 a1 (nl m.natAbs) c1 m.natAbs := j1
  have j2 : BI v1 a2 (nl m'.natAbs) c2 m'.natAbs := j2
  have hB : blen m.natAbs ≤ 131072 ∧ -65536 ≤ E ∧ E ≤ 65536 := hB
  have hB' : blen m'.natAbs ≤ 131072 ∧ -65536 ≤ E' ∧ E' ≤ 65536 := hB'
  have hu : u = cmpI (up m E (ale m E m' E')) (up m' E' (ale m E m' E')) := by rw [hU.out, ale_cmp]; rfl
  clear hN hN' hU hb hb' HX HY
  obtain ⟨K, hE⟩ : ∃ K, K = ale m E m' E' := ⟨_, rfl⟩
  have HA := fun W b c b' c' [i : BI W b (nl m.natAbs) c m.natAbs] [j : BI W b' (nl m'.natAbs) c' m'.natAbs] => Lib.hid (frA (ralign_any W false false b b' c c' m m' E E' i.out j.out (nl_lim5 (by omega)) (nl_lim5 (by omega)) hB.2.1 hB.2.2 hB'.2.1 hB'.2.2))
  have hbl := ale_bl m E m' E' hB.2 hB'.2 hB.1 hB'.1
  have hge := ale_ge m E m' E' hB.2 hB'.2
  rw [← hE] at HA hbl hge hu
  obtain ⟨X, hX⟩ : ∃ X, X = up m E K := ⟨_, rfl⟩
  obtain ⟨Y, hY⟩ : ∃ Y, Y = up m' E' K := ⟨_, rfl⟩
  rw [← hX, ← hY] at HA hbl hu
  obtain ⟨hblX, hblY⟩ := hbl
  have HC := fun W b c b' c' [i : BI W b (nl X.natAbs) c X.natAbs] [j : BI W b' (nl Y.natAbs) c' Y.natAbs] => Lib.hid (frm (rcmp_z W b b' c c' X Y u hu i.out j.out (nl_lim5 (by omega)) (nl_lim5 (by omega))))
  clear hE hX hY hu hge hblX hblY hB hB'
  go_wp2_with fail
  refine (HA _ _ _ _ _).out.mono ?_
  rintro o w4 ⟨a4, c4, a5, c5, rfl, i4, i5, b4⟩
  go_wp2_with fail
  refine (HC _ _ _ _ _).out.mono ?_
  rintro o w6 ⟨rfl, b6⟩
  go_wp2_with fail
  refine bodyPost_ret2 (v := .tuple #[.int .i64 u, .bool true]) (by simp only [results, Tryz.results149]; go_simp) rfl ?_
  exact ⟨rfl, zbh⟩
theorem rdadd_any (w : World) (v s v' s' : Bool) (A A' : Option Addr) (n n' c c' : Nat) (e e' : Int) (d d' : Option (Int × Int)) (hx : DyIs w v s A n c e d) (hy : DyIs w v' s' A' n' c' e' d') (hT : Tab w) :
 Calls Tryz.prog 107 #[.agg #[.bool v, .bool s, .slice A n c, .int .i64 e], .agg #[.bool v', .bool s', .slice A' n' c', .int .i64 e']] w (RetDy w (dadd d d')) := by
 obtain ⟨u, hu⟩ : ∃ u, u = dadd d d' := ⟨_, rfl⟩
 rw [← hu]
 have HT : Tb w := ⟨hT⟩
 have HX : DS w v s A n c e d := ⟨hx⟩
 have HY : DS w v' s' A' n' c' e' d' := ⟨hy⟩
 have hN := hx.1.isN
 have hN' := hy.1.isN
 have HN := fun W [i : DS W v s A n c e d] [Tb W] => Lib.hid (frsF hN (rdnorm_in W i.out tb))
 have HN2 := fun W [i : DS W v' s' A' n' c' e' d'] [Tb W] => Lib.hid (frsF hN' (rdnorm_in W i.out tb))
 have HB := fun W => Lib.hid (frm (rbad_any W))
 have hB := isN_bounds hN
 have hB' := isN_bounds hN'
 have hU := Lib.hid hu
 clear hx hy hu
 go_enter Tryz.func107, Tryz.ntmps107
 go_upto_region 1 with fail
 go_cut [] (fun wx => ∃ a1 c1 a2 c2, DB wx w.heap.size (dbad d) (decide (dman d < 0)) (.slice a1 (nl (dman d).natAbs) c1) (dexp d) ∧ DB wx (w.heap.size + 1) (dbad d') (decide (dman d' < 0)) (.slice a2 (nl (dman d').natAbs) c2) (dexp d') ∧ DB wx (w.heap.size + 1 + 1) false false (.slice none 0 0) 0 ∧ BI wx a1 (nl (dman d).natAbs) c1 (dman d).natAbs ∧ BI wx a2 (nl (dman d').natAbs) c2 (dman d').natAbs ∧ Beh w wx)
 case first =>
  first
  | go_region_with (first
   | (go_at_call 123; refine (HN _).out.mono ?_; rintro o w1 ⟨a1, c1, rfl, i1, b1, j1, f1⟩; haveI g1 := FA.mk f1)
   | (go_at_call 123; refine (HN2 _).out.mono ?_; rintro o w2 ⟨a2, c2, rfl, i2, b2, j2, f2⟩; haveI g2 := FA.mk f2)
   | fail)
  | fail "region"
  all_goals (
   go_wp2_with fail
   go_meet
   exact ⟨a1, c1, a2, c2, inferInstance, inferInstance, inferInstance, inferInstance, inferInstance, inferInstance⟩)
 case rest =>
  obtain ⟨a1, c1, a2, c2, V1, V2, V3, j1, j2, b3⟩ := hcut
  generalize wc = v1 at *
  clear HN HN2
  haveI T1 : Tb v1 := ⟨hT.below b3.out⟩
  cases hb : dbad d with
  | true =>
   obtain rfl : u = none := by rw [hU.out, dbad_none hb]; cases d' <;> rfl
   clear hU
   go_wp2_with fail
   refine (HB _).out.mono ?_
   rintro o w8 ⟨rfl, b8⟩
   go_wp2_with fail
   refine bodyPost_ret (v := .agg #[.bool true, .bool false, .slice none 0 0, .int .i64 0]) (by simp only [results, Tryz.results107]; go_simp) rfl ?_
   exact ⟨none, 0, rfl, Mag.nil _, zbh, nl0⟩
  | false =>
  cases hb' : dbad d' with
  | true =>
   obtain rfl : u = none := by rw [hU.out, dbad_none hb', dsome hb]; rfl
   clear hU
   go_wp2_with fail
   refine (HB _).out.mono ?_
   rintro o w8 ⟨rfl, b8⟩
   go_wp2_with fail
   refine bodyPost_ret (v := .agg #[.bool true, .bool false, .slice none 0 0, .int .i64 0]) (by simp only [results, Tryz.results107]; go_simp) rfl ?_
   exact ⟨none, 0, rfl, Mag.nil _, zbh, nl0⟩
  | false =>
  obtain ⟨m, E, hd⟩ : ∃ m E, d = some (m, E) := ⟨_, _, dsome hb⟩
  obtain ⟨m', E', hd'⟩ : ∃ m E, d' = some (m, E) := ⟨_, _, dsome hb'⟩
  subst hd hd'
  have V1 : DB v1 w.heap.size false (decide (m < 0)) (.slice a1 (nl m.natAbs) c1) E := V1
  have V2 : DB v1 (w.heap.size + 1) false (decide (m' < 0)) (.slice a2 (nl m'.natAbs) c2) E' := V2
  have j1 : BI v1 a1 (nl m.natAbs) c1 m.natAbs := j1
  have j2 : BI v1 a2 (nl m'.natAbs) c2 m'.natAbs := j2
  have hB : blen m.natAbs ≤ 131072 ∧ -65536 ≤ E ∧ E ≤ 65536 := hB
  have hB' : blen m'.natAbs ≤ 131072 ∧ -65536 ≤ E' ∧ E' ≤ 65536 := hB'
  have hu : u = nrm (up m E (ale m E m' E') + up m' E' (ale m E m' E')) (ale m E m' E') := by rw [hU.out, ale_add m E m' E' (hN _ _ rfl) (hN' _ _ rfl)]; rfl
  clear hN hN' hU hb hb' HX HY
  obtain ⟨K, hE⟩ : ∃ K, K = ale m E m' E' := ⟨_, rfl⟩
  have HA := fun W b c b' c' [i : BI W b (nl m.natAbs) c m.natAbs] [j : BI W b' (nl m'.natAbs) c' m'.natAbs] => Lib.hid (frA (ralign_any W false false b b' c c' m m' E E' i.out j.out (nl_lim5 (by omega)) (nl_lim5 (by omega)) hB.2.1 hB.2.2 hB'.2.1 hB'.2.2))
  have hbl := ale_bl m E m' E' hB.2 hB'.2 hB.1 hB'.1
  have hge := ale_ge m E m' E' hB.2 hB'.2
  rw [← hE] at HA hbl hge hu
  obtain ⟨X, hX⟩ : ∃ X, X = up m E K := ⟨_, rfl⟩
  obtain ⟨Y, hY⟩ : ∃ Y, Y = up m' E' K := ⟨_, rfl⟩
  rw [← hX, ← hY] at HA hbl hu
  obtain ⟨hblX, hblY⟩ := hbl
  obtain ⟨Z, hZ⟩ : ∃ Z, Z = X + Y := ⟨_, rfl⟩
  have hblZ : blen Z.natAbs ≤ 262145 := by
   rw [hZ]
   have h1 : (X + Y).natAbs ≤ X.natAbs + Y.natAbs := by omega
   have h2 := blen_mono h1
   have h3 := blen_add_le X.natAbs Y.natAbs
   omega
  rw [← hZ] at hu
  have nu : IsN u := by rw [hu]; exact isN_nrm _ _
  have HC := fun W b c b' c' [i : BI W b (nl X.natAbs) c X.natAbs] [j : BI W b' (nl Y.natAbs) c' Y.natAbs] => Lib.hid (frb (radd_zz W b b' c c' X Y Z hZ i.out j.out (nl_lim5 (by omega)) (nl_lim5 (by omega))))
  have HM := fun W b c [i : BI W b (nl Z.natAbs) c Z.natAbs] [Tb W] => Lib.hid (frsF nu (rmake_z W b c Z K u hu i.out tb (nl_lim5 (by omega)) (by omega) (by omega)))
  clear hE hX hY hu hZ nu hge hblX hblY hblZ hB hB'
  go_wp2_with fail
  refine (HA _ _ _ _ _).out.mono ?_
  rintro o w4 ⟨a4, c4, a5, c5, rfl, i4, i5, b4⟩
  go_wp2_with fail
  refine (HC _ _ _ _ _).out.mono ?_
  rintro o w6 ⟨a6, c6, rfl, i6, b6, f6⟩
  haveI T6 : Tb w6 := ⟨hT.below zbh⟩
  go_wp2_with fail
  refine (HM _ _ _).out.mono ?_
  rintro o w9 ⟨a9, c9, rfl, i9, b9, j9, f9⟩
  haveI g9 := FA.mk f9
  go_wp2_with fail
  refine bodyPost_ret (v := .agg #[.bool (dbad u), .bool (decide (dman u < 0)), .slice a9 (nl (dman u).natAbs) c9, .int .i64 (dexp u)]) (by simp only [results, Tryz.results107]; go_simp) rfl ?_
  exact ⟨a9, c9, rfl, BI.out, zbh, fresh_of b9 f9⟩
theorem rdmul_any (w : World) (v s v' s' : Bool) (A A' : Option Addr) (n n' c c' : Nat) (e e' : Int) (d d' : Option (Int × Int)) (hx : DyIs w v s A n c e d) (hy : DyIs w v' s' A' n' c' e' d') (hT : Tab w) :
 Calls Tryz.prog 114 #[.agg #[.bool v, .bool s, .slice A n c, .int .i64 e], .agg #[.bool v', .bool s', .slice A' n' c', .int .i64 e']] w (RetDy w (dmul d d')) := by
 obtain ⟨u, hu⟩ : ∃ u, u = dmul d d' := ⟨_, rfl⟩
 rw [← hu]
 have HT : Tb w := ⟨hT⟩
 have HX : DS w v s A n c e d := ⟨hx⟩
 have HY : DS w v' s' A' n' c' e' d' := ⟨hy⟩
 have hN := hx.1.isN
 have hN' := hy.1.isN
 have HN := fun W [i : DS W v s A n c e d] [Tb W] => Lib.hid (frsF hN (rdnorm_in W i.out tb))
 have HN2 := fun W [i : DS W v' s' A' n' c' e' d'] [Tb W] => Lib.hid (frsF hN' (rdnorm_in W i.out tb))
 have HB := fun W => Lib.hid (frm (rbad_any W))
 have hB := isN_bounds hN
 have hB' := isN_bounds hN'
 have hU := Lib.hid hu
 clear hx hy hu
 go_enter Tryz.func114, Tryz.ntmps114
 go_upto_region 1 with fail
 go_cut [] (fun wx => ∃ a1 c1 a2 c2, DB wx w.heap.size (dbad d) (decide (dman d < 0)) (.slice a1 (nl (dman d).natAbs) c1) (dexp d) ∧ DB wx (w.heap.size + 1) (dbad d') (decide (dman d' < 0)) (.slice a2 (nl (dman d').natAbs) c2) (dexp d') ∧ DB wx (w.heap.size + 1 + 1) false false (.slice none 0 0) 0 ∧ BI wx a1 (nl (dman d).natAbs) c1 (dman d).natAbs ∧ BI wx a2 (nl (dman d').natAbs) c2 (dman d').natAbs ∧ Beh w wx)
 case first =>
  first
  | go_region_with (first
   | (go_at_call 123; refine (HN _).out.mono ?_; rintro o w1 ⟨a1, c1, rfl, i1, b1, j1, f1⟩; haveI g1 := FA.mk f1)
   | (go_at_call 123; refine (HN2 _).out.mono ?_; rintro o w2 ⟨a2, c2, rfl, i2, b2, j2, f2⟩; haveI g2 := FA.mk f2)
   | fail)
  | fail "region"
  all_goals (
   go_wp2_with fail
   go_meet
   exact ⟨a1, c1, a2, c2, inferInstance, inferInstance, inferInstance, inferInstance, inferInstance, inferInstance⟩)
 case rest =>
  obtain ⟨a1, c1, a2, c2, V1, V2, V3, j1, j2, b3⟩ := hcut
  generalize wc = v1 at *
  clear HN HN2
  haveI T1 : Tb v1 := ⟨hT.below b3.out⟩
  cases hb : dbad d with
  | true =>
   obtain rfl : u = none := by rw [hU.out, dbad_none hb]; cases d' <;> rfl
   clear hU
   go_wp2_with fail
   refine (HB _).out.mono ?_
   rintro o w8 ⟨rfl, b8⟩
   go_wp2_with fail
   refine bodyPost_ret (v := .agg #[.bool true, .bool false, .slice none 0 0, .int .i64 0]) (by simp only [results, Tryz.results114]; go_simp) rfl ?_
   exact ⟨none, 0, rfl, Mag.nil _, zbh, nl0⟩
  | false =>
  cases hb' : dbad d' with
  | true =>
   obtain rfl : u = none := by rw [hU.out, dbad_none hb', dsome hb]; rfl
   clear hU
   go_wp2_with fail
   refine (HB _).out.mono ?_
   rintro o w8 ⟨rfl, b8⟩
   go_wp2_with fail
   refine bodyPost_ret (v := .agg #[.bool true, .bool false, .slice none 0 0, .int .i64 0]) (by simp only [results, Tryz.results114]; go_simp) rfl ?_
   exact ⟨none, 0, rfl, Mag.nil _, zbh, nl0⟩
  | false =>
  obtain ⟨m, E, hd⟩ : ∃ m E, d = some (m, E) := ⟨_, _, dsome hb⟩
  obtain ⟨m', E', hd'⟩ : ∃ m E, d' = some (m, E) := ⟨_, _, dsome hb'⟩
  subst hd hd'
  have V1 : DB v1 w.heap.size false (decide (m < 0)) (.slice a1 (nl m.natAbs) c1) E := V1
  have V2 : DB v1 (w.heap.size + 1) false (decide (m' < 0)) (.slice a2 (nl m'.natAbs) c2) E' := V2
  have j1 : BI v1 a1 (nl m.natAbs) c1 m.natAbs := j1
  have j2 : BI v1 a2 (nl m'.natAbs) c2 m'.natAbs := j2
  have hB : blen m.natAbs ≤ 131072 ∧ -65536 ≤ E ∧ E ≤ 65536 := hB
  have hB' : blen m'.natAbs ≤ 131072 ∧ -65536 ≤ E' ∧ E' ≤ 65536 := hB'
  have hu : u = nrm (m * m') (E + E') := hU.out
  clear hN hN' hU hb hb' HX HY
  obtain ⟨Z, hZ⟩ : ∃ Z, Z = m * m' := ⟨_, rfl⟩
  obtain ⟨K, hK⟩ : ∃ K, K = E + E' := ⟨_, rfl⟩
  have hblZ : blen Z.natAbs ≤ 262145 := by
   rw [hZ, Int.natAbs_mul]
   have := blen_mul_le m.natAbs m'.natAbs
   omega
  rw [← hZ, ← hK] at hu
  have nu : IsN u := by rw [hu]; exact isN_nrm _ _
  have HC := fun W b c b' c' [i : BI W b (nl m.natAbs) c m.natAbs] [j : BI W b' (nl m'.natAbs) c' m'.natAbs] => Lib.hid (frb (rmul_z W b b' c c' m m' Z hZ i.out j.out (nl_lim5 (by omega)) (nl_lim5 (by omega))))
  have HM := fun W b c [i : BI W b (nl Z.natAbs) c Z.natAbs] [Tb W] => Lib.hid (frsF nu (rmake_z W b c Z K u hu i.out tb (nl_lim5 (by omega)) (by omega) (by omega)))
  have t1 : IntKind.i64.wrap (E + E') = K := by rw [IntKind.wrap_i64]; omega
  have t2 : wrap64 (E + E') = K := by unfold wrap64; omega
  clear hu hZ hK nu hblZ hB hB'
  go_wp2_with fail
  first
  | go_region_held3 (fun w' => w'.cell? ⟨w.heap.size, 1, none⟩ = some (.bool (decide (m < 0))) ∧ w'.cell? ⟨w.heap.size, 2, none⟩ = some (.slice a1 (nl m.natAbs) c1) ∧ w'.cell? ⟨w.heap.size, 3, none⟩ = some (.int .i64 E) ∧ w'.cell? ⟨w.heap.size + 1, 1, none⟩ = some (.bool (decide (m' < 0))) ∧ w'.cell? ⟨w.heap.size + 1, 2, none⟩ = some (.slice a2 (nl m'.natAbs) c2) ∧ w'.cell? ⟨w.heap.size + 1, 3, none⟩ = some (.int .i64 E')) (first | (go_simp; done)) (first
   | (go_at_call 150; refine (HC _ _ _ _ _).out.mono ?_; rintro o w6 ⟨a6, c6, rfl, i6, b6, f6⟩; haveI T6 : Tb w6 := ⟨hT.below zbh⟩)
   | (go_at_call 127; refine (HM _ _ _).out.mono ?_; rintro o w9 ⟨a9, c9, rfl, i9, b9, j9, f9⟩; haveI g9 := FA.mk f9)
   | fail)
  | fail "region"
  all_goals (
   go_wp2_with fail
   refine bodyPost_ret (v := .agg #[.bool (dbad u), .bool (decide (dman u < 0)), .slice a9 (nl (dman u).natAbs) c9, .int .i64 (dexp u)]) (by simp only [results, Tryz.results114]; go_simp) rfl ?_
   exact ⟨a9, c9, rfl, BI.out, zbh, fresh_of b9 f9⟩)
end Go.Proofs.YtgicceiimciafaaGreatDoor
