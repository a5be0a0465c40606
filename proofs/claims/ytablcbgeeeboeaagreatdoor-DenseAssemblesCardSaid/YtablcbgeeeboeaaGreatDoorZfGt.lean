/-
  Walks: package dyad, round.go: Quo.
-/
import Derived.Test.YtablcbgeeeboeaaGreatDoorZfBh
import Derived.Test.YtablcbgeeeboeaaGreatDoorZfRat
import Derived.Test.YtablcbgeeeboeaaGreatDoorZfGq
import Derived.Test.YtablcbgeeeboeaaGreatDoorZfCs
namespace Go.Proofs.YtablcbgeeeboeaaGreatDoor
open Go.RowKit Sp
def RetReN (w : World) (s : Bool) (x : Nat) (E : Int) (more : Bool) (e : Ending) (w' : World) : Prop :=
 ∃ a c, e = .returned (.agg #[.bool s, .bool false, .slice a (nl x) c, .int .i64 E, .bool more]) ∧ Mag w' a (nl x) c x ∧ Below w.heap.size w w' ∧ (0 < nl x → w.heap.size ≤ ab a)
theorem ratio_any (w : World) (bd bd' : Bool) (a a' : Option Addr) (c c' : Nat) (z f z' f' p : Int) (hx : Mag w a (nl z.natAbs) c z.natAbs) (hy : Mag w a' (nl z'.natAbs) c' z'.natAbs) (hb : blen z.natAbs ≤ 131072) (hb' : blen z'.natAbs ≤ 131072) (hz' : z' ≠ 0) (hp0 : 1 ≤ p) (hp1 : p ≤ 4096) (hf : -65536 ≤ f) (hf1 : f ≤ 65536) (hf' : -65536 ≤ f') (hf1' : f' ≤ 65536) :
 Calls Tryz.prog 140 #[.agg #[.bool bd, .bool (decide (z < 0)), .slice a (nl z.natAbs) c, .int .i64 f], .agg #[.bool bd', .bool (decide (z' < 0)), .slice a' (nl z'.natAbs) c', .int .i64 f'], .int .i64 p]
  w (RetReN w (decide (z < 0) != decide (z' < 0)) (z.natAbs * 2 ^ qsh z z' p / z'.natAbs) (f - qsh z z' p - f') (decide (z.natAbs * 2 ^ qsh z z' p % z'.natAbs ≠ 0))) := by
 have hn : max 0 (p + 3 + (blen z'.natAbs : Int) - (blen z.natAbs : Int)) = (qsh z z' p : Int) := by unfold qsh; omega
 have hn2 : qsh z z' p ≤ 140000 := by unfold qsh; omega
 have hyl : nl ((z.natAbs * 2 ^ qsh z z' p : Nat) : Int).natAbs ≤ 1099511627776 := by
  refine nl_lim ?_
  show blen (z.natAbs * 2 ^ qsh z z' p) ≤ _
  by_cases h0 : z.natAbs = 0
  · rw [h0, Nat.zero_mul]; decide
  · rw [blen_mul_pow (Nat.pos_of_ne_zero h0)]; omega
 have h := ratio_core w bd bd' a a' c c' z f z' f' p (qsh z z' p) (f - qsh z z' p - f') (z.natAbs : Int) ((z.natAbs * 2 ^ qsh z z' p : Nat) : Int) _ _ _ _ (z.natAbs * 2 ^ qsh z z' p) z'.natAbs hx hy (nl_lim (by omega)) (nl_lim (by omega)) rfl rfl hb hb' hp0 hp1 hn rfl (by simp) rfl rfl (Int.natAbs_pos.2 hz') rfl rfl hyl hf hf1 hf' hf1' rfl
 have e : (sg ((z.natAbs * 2 ^ qsh z z' p % z'.natAbs : Nat) : Int) != 0) = decide (z.natAbs * 2 ^ qsh z z' p % z'.natAbs ≠ 0) := by
  by_cases h0 : z.natAbs * 2 ^ qsh z z' p % z'.natAbs = 0
  · rw [h0]; rfl
  · rw [sg_pos (by omega)]; simp [h0]
 rw [e] at h
 refine h.mono ?_
 rintro o w' ⟨a1, c1, rfl, h1, h2, h3⟩
 refine ⟨a1, c1, ?_, h1, h2, h3⟩
 simp only [show ∀ k : Nat, decide ((k : Int) < 0) = false from fun k => by simp]
 rfl
end Go.Proofs.YtablcbgeeeboeaaGreatDoor
set_option maxRecDepth 100000
set_option maxHeartbeats 20000000
namespace Go.Proofs.YtablcbgeeeboeaaGreatDoor
open Go.RowKit Sp
attribute [local irreducible] Calls
theorem none_gt {d : Option (Int × Int)} (h : dbad d = true) : d = none := by cases d with | none => rfl | some p => cases h
theorem some_gt {d : Option (Int × Int)} (h : dbad d = false) : d = some (dman d, dexp d) := by cases d with | none => cases h | some p => rfl
theorem frF {P : Program} {f : FuncId} {args : Array Value} {W : World} {d : Option (Int × Int)} (h : Calls P f args W (RetDy W d)) :
 Calls P f args W fun e w' => ∃ a c, e = .returned (.agg #[.bool (dbad d), .bool (decide (dman d < 0)), .slice a (nl (dman d).natAbs) c, .int .i64 (dexp d)]) ∧ BI w' a (nl (dman d).natAbs) c (dman d).natAbs ∧ From W w' ∧ (0 < nl (dman d).natAbs → W.heap.size ≤ ab a) :=
 h.mono fun _ _ ⟨a, c, he, hm, hb, hf⟩ => ⟨a, c, he, ⟨hm⟩, ⟨hb⟩, hf⟩
theorem wquo_any (w : World) (bd s bd' s' : Bool) (a a' : Option Addr) (n n' cap cap' : Nat) (e e' mode : Int) (d d' : Option (Int × Int)) (hx : DyIn w bd s a n cap e d) (hy : DyIn w bd' s' a' n' cap' e' d') (hT : Tab w) :
 Calls Tryz.prog 96 #[.agg #[.bool bd, .bool s, .slice a n cap, .int .i64 e], .agg #[.bool bd', .bool s', .slice a' n' cap', .int .i64 e'], .int .i64 mode] w fun o w' => o = .returned (.int .u64 (fquo d d' mode : Nat)) ∧ Below w.heap.size w w' := by
 have HT : Tb w := ⟨hT⟩
 have HX : DI w bd s a n cap e d := ⟨hx⟩
 have HY : DI w bd' s' a' n' cap' e' d' := ⟨hy⟩
 have N1 := hx.isN
 have N2 := hy.isN
 have HN := fun W [i : DI W bd s a n cap e d] [Tb W] => Lib.hid (frF (dNorm_d W i.out tb))
 have HN2 := fun W [i : DI W bd' s' a' n' cap' e' d'] [Tb W] => Lib.hid (frF (dNorm_d W i.out tb))
 have hB := isN_bounds N1
 have hB' := isN_bounds N2
 obtain ⟨u, hu⟩ : ∃ u : Int, u = ((fquo d d' mode : Nat) : Int) := ⟨_, rfl⟩
 rw [← hu]
 have hU := Lib.hid hu
 clear hx hy hu
 go_enter Tryz.func96, Tryz.ntmps96
 go_upto_region 1 with fail
 go_cut [] (fun wx => ∃ a1 c1 a2 c2, DB wx w.heap.size (dbad d) (decide (dman d < 0)) (.slice a1 (nl (dman d).natAbs) c1) (dexp d) ∧ DB wx (w.heap.size + 1) (dbad d') (decide (dman d' < 0)) (.slice a2 (nl (dman d').natAbs) c2) (dexp d') ∧ BI wx a1 (nl (dman d).natAbs) c1 (dman d).natAbs ∧ BI wx a2 (nl (dman d').natAbs) c2 (dman d').natAbs ∧ Beh w wx)
 case first =>
  first
  | go_region_with (first
   | (go_at_call 72; refine (HN _).out.mono ?_; rintro o w1 ⟨a1, c1, rfl, j1, b1, f1⟩; haveI g1 := FA.mk f1)
   | (go_at_call 72; refine (HN2 _).out.mono ?_; rintro o w2 ⟨a2, c2, rfl, j2, b2, f2⟩; haveI g2 := FA.mk f2)
   | fail)
  | fail "region"
  all_goals (
   go_wp2_with fail
   go_meet
   exact ⟨a1, c1, a2, c2, inferInstance, inferInstance, inferInstance, inferInstance, inferInstance⟩)
 case rest =>
  obtain ⟨a1, c1, a2, c2, V1, V2, j1, j2, b3⟩ := hcut
  generalize wc = v1 at *
  clear HN HN2
  haveI T1 : Tb v1 := ⟨hT.below b3.out⟩
  cases hb : dbad d with
  | true =>
   obtain rfl : u = 9221120237041090560 := by rw [hU.out, none_gt hb]; rfl
   clear hU
   go_wp2_with fail
   go_ret
   exact ⟨rfl, zbh⟩
  | false =>
  cases hb' : dbad d' with
  | true =>
   obtain rfl : u = 9221120237041090560 := by rw [hU.out, none_gt hb', some_gt hb]; rfl
   clear hU
   go_wp2_with fail
   go_ret
   exact ⟨rfl, zbh⟩
  | false =>
  obtain ⟨m, E, hd⟩ : ∃ m E, d = some (m, E) := ⟨_, _, some_gt hb⟩
  obtain ⟨m', E', hd'⟩ : ∃ m E, d' = some (m, E) := ⟨_, _, some_gt hb'⟩
  subst hd hd'
  have V1 : DB v1 w.heap.size false (decide (m < 0)) (.slice a1 (nl m.natAbs) c1) E := V1
  have V2 : DB v1 (w.heap.size + 1) false (decide (m' < 0)) (.slice a2 (nl m'.natAbs) c2) E' := V2
  have j1 : BI v1 a1 (nl m.natAbs) c1 m.natAbs := j1
  have j2 : BI v1 a2 (nl m'.natAbs) c2 m'.natAbs := j2
  have hB : blen m.natAbs ≤ 131072 ∧ -65536 ≤ E ∧ E ≤ 65536 := hB
  have hB' : blen m'.natAbs ≤ 131072 ∧ -65536 ≤ E' ∧ E' ≤ 65536 := hB'
  have HG := fun W b c [i : BI W b (nl m.natAbs) c m.natAbs] [Tb W] => Lib.hid (frm (dsign_any W false (decide (m < 0)) b _ c E (some (m, E)) (dyin_of (d := some (m, E)) (N1) i.out) tb))
  have HG := fun W b c [i : BI W b (nl m.natAbs) c m.natAbs] [Tb W] => Lib.hid (show Calls Tryz.prog 92 #[.agg #[.bool false, .bool (decide (m < 0)), .slice b (nl m.natAbs) c, .int .i64 E]] W fun o w' => o = .returned (.int .i64 (cmpI m 0)) ∧ From W w' from (HG W b c).out)
  have HG2 := fun W b c [i : BI W b (nl m'.natAbs) c m'.natAbs] [Tb W] => Lib.hid (frm (dsign_any W false (decide (m' < 0)) b _ c E' (some (m', E')) (dyin_of (d := some (m', E')) (N2) i.out) tb))
  have HG2 := fun W b c [i : BI W b (nl m'.natAbs) c m'.natAbs] [Tb W] => Lib.hid (show Calls Tryz.prog 92 #[.agg #[.bool false, .bool (decide (m' < 0)), .slice b (nl m'.natAbs) c, .int .i64 E']] W fun o w' => o = .returned (.int .i64 (cmpI m' 0)) ∧ From W w' from (HG2 W b c).out)
  have hu : u = (((if m' = 0 then fNaN else if m = 0 then 0 else frnd (decide (m < 0) != decide (m' < 0)) (m.natAbs * 2 ^ qsh m m' 56 / m'.natAbs) (E - qsh m m' 56 - E') (decide (m.natAbs * 2 ^ qsh m m' 56 % m'.natAbs ≠ 0)) mode : Nat)) : Int) := hU.out
  clear N1 N2 hU hb hb' HX HY
  by_cases hz' : m' = 0
  · obtain rfl : u = 9221120237041090560 := by rw [hu, if_pos hz']; rfl
    have hs : cmpI m' 0 = 0 := by rw [hz']; rfl
    rw [hs] at HG2
    clear hs hz' hu hB hB'
    go_wp2_with fail
    refine (HG2 _ _ _).out.mono ?_
    rintro o w3 ⟨rfl, b3⟩
    go_wp2_with fail
    go_ret
    exact ⟨rfl, zbh⟩
  · obtain ⟨g', hg'⟩ : ∃ g, g = cmpI m' 0 := ⟨_, rfl⟩
    have hg1 : (g' == 0) = false := by rw [hg']; unfold cmpI; split <;> (try split) <;> first | decide | (exfalso; omega)
    have hg2 : ¬ g' = 0 := by simpa using hg1
    rw [← hg'] at HG2
    clear hg'
    rw [if_neg hz'] at hu
    by_cases hz : m = 0
    · obtain rfl : u = 0 := by rw [hu, if_pos hz]; rfl
      have hs : cmpI m 0 = 0 := by rw [hz]; rfl
      rw [hs] at HG
      clear hs hz' hz hu hB hB'
      go_wp2_with fail
      refine (HG2 _ _ _).out.mono ?_
      rintro o w3 ⟨rfl, b3⟩
      go_wp2_with fail
      refine (HG _ _ _).out.mono ?_
      rintro o w4 ⟨rfl, b4⟩
      go_wp2_with fail
      go_ret
      exact ⟨rfl, zbh⟩
    · obtain ⟨g, hg⟩ : ∃ g, g = cmpI m 0 := ⟨_, rfl⟩
      have hk1 : (g == 0) = false := by rw [hg]; unfold cmpI; split <;> (try split) <;> first | decide | (exfalso; omega)
      have hk2 : ¬ g = 0 := by simpa using hk1
      rw [← hg] at HG
      clear hg
      rw [if_neg hz] at hu
      have hl := qsh_ge (a := m) (b := m') hz' hz
      have hq : qsh m m' 56 ≤ 131200 := by unfold qsh; omega
      have hQl : blen (m.natAbs * 2 ^ qsh m m' 56 / m'.natAbs) ≤ 500000 := by
       refine Nat.le_trans (blen_mono (Nat.div_le_self _ _)) ?_
       rw [blen_mul_pow (by omega)]; omega
      have HR := fun W b c b' c' [i : BI W b (nl m.natAbs) c m.natAbs] [j : BI W b' (nl m'.natAbs) c' m'.natAbs] => Lib.hid (ratio_any W false false b b' c c' m E m' E' 56 i.out j.out hB.1 hB'.1 hz' (by omega) (by omega) hB.2.1 hB.2.2 hB'.2.1 hB'.2.2)
      have HO := fun W b c (i : Mag W b (nl (m.natAbs * 2 ^ qsh m m' 56 / m'.natAbs)) c (m.natAbs * 2 ^ qsh m m' 56 / m'.natAbs)) [Tb W] => Lib.hid (frm (rounded_any W (decide (m < 0) != decide (m' < 0)) (decide (m.natAbs * 2 ^ qsh m m' 56 % m'.natAbs ≠ 0)) b c (m.natAbs * 2 ^ qsh m m' 56 / m'.natAbs) (E - qsh m m' 56 - E') mode i (by rcases Nat.eq_zero_or_pos (m.natAbs * 2 ^ qsh m m' 56 / m'.natAbs) with h | h; rw [h] at hl; exact absurd hl (by decide); exact h) hQl (by omega) (by omega) tb))
      rw [← hu] at HO
      generalize decide (m.natAbs * 2 ^ qsh m m' 56 % m'.natAbs ≠ 0) = mo at *
      generalize m.natAbs * 2 ^ qsh m m' 56 / m'.natAbs = Q at *
      generalize (decide (m < 0) != decide (m' < 0)) = sg at *
      generalize E - ((qsh m m' 56 : Nat) : Int) - E' = x2 at *
      clear hu hq hQl hl hz hz' hB hB'
      go_wp2_with fail
      refine (HG2 _ _ _).out.mono ?_
      rintro o w3 ⟨rfl, b3⟩
      go_wp2_with fail
      refine (HG _ _ _).out.mono ?_
      rintro o w4 ⟨rfl, b4⟩
      go_wp2_with fail
      refine (HR _ _ _ _ _).out.mono ?_
      rintro o w5 ⟨a5, c5, rfl, m5, b5, f5⟩
      haveI i5 : From _ w5 := ⟨b5⟩
      go_wp2_with fail
      refine (HO _ _ _ m5).out.mono ?_
      rintro o w6 ⟨rfl, b6⟩
      go_wp2_with fail
      go_ret
      exact ⟨rfl, zbh⟩
end Go.Proofs.YtablcbgeeeboeaaGreatDoor
