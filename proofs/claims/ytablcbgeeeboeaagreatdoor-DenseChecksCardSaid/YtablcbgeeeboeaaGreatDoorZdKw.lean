/-
  Walks: the reference's floats: Root, Quo.
-/
import Derived.Test.YtablcbgeeeboeaaGreatDoorZdS3
import Derived.Test.YtablcbgeeeboeaaGreatDoorZdRzc
import Derived.Test.YtablcbgeeeboeaaGreatDoorZdCs
import Derived.Test.YtablcbgeeeboeaaGreatDoorZdFP
import Derived.Test.YtablcbgeeeboeaaGreatDoorZdRt
import Derived.Test.YtablcbgeeeboeaaGreatDoorZdBg
import Derived.Test.YtablcbgeeeboeaaGreatDoorZdBf
import Derived.Test.YtablcbgeeeboeaaGreatDoorZdCm
import Derived.Test.YtablcbgeeeboeaaGreatDoorZdRy
import Derived.Test.YtablcbgeeeboeaaGreatDoorZdOpenW
set_option maxRecDepth 100000
set_option maxHeartbeats 20000000
namespace Go.Proofs.YtablcbgeeeboeaaGreatDoor
open Go.RowKit Sp
attribute [local irreducible] Calls
theorem isq_long {M p : Nat} (h : 2 * p ≤ blen M) : p ≤ blen (isq M) := by
 rcases Nat.lt_or_ge (blen (isq M)) p with k | k
 · exfalso
   have h1 := lt_blen (isq M)
   have h2 : isq M + 1 ≤ 2 ^ (p - 1) := Nat.le_trans h1 (Nat.pow_le_pow_right (by decide) (by omega))
   have h3 := isq_lt M
   have h4 : (isq M + 1) * (isq M + 1) ≤ 2 ^ (p - 1) * 2 ^ (p - 1) := Nat.mul_le_mul h2 h2
   rw [← Nat.pow_add] at h4
   have h5 : blen M ≤ p - 1 + (p - 1) := blen_le (Nat.lt_of_lt_of_le h3 h4)
   omega
 · exact k
theorem r3root_any (w : World) (v s : Bool) (A : Option Addr) (n c : Nat) (e : Int) (d : Option (Int × Int)) (mode : Int) (hx : DyIs w v s A n c e d) (hT : Tab w) :
 Calls Tryz.prog 97 #[.agg #[.bool v, .bool s, .slice A n c, .int .i64 e], .int .i64 mode] w fun e w' => e = .returned (.int .u64 (froot d mode : Nat)) ∧ Below w.heap.size w w' := by
 have HT : Tb w := ⟨hT⟩
 have HX : DS w v s A n c e d := ⟨hx⟩
 have hN := hx.1.isN
 have HN := fun W [i : DS W v s A n c e d] [Tb W] => Lib.hid (frsF hN (rdnorm_in W i.out tb))
 have hB := isN_bounds hN
 have HG := fun W b c [i : BI W b (nl (dman d).natAbs) c (dman d).natAbs] => Lib.hid (frm (rsgn_z W b c (dman d) _ rfl i.out (nl_lim5 (by omega))))
 clear hx
 cases hb : dbad d with
 | true =>
  rw [show froot d mode = fNaN by rw [dbad_none hb]; rfl]
  show Calls _ _ _ _ fun e w' => e = .returned (.int .u64 9221120237041090560) ∧ Below w.heap.size w w'
  go_enter Tryz.func97, Tryz.ntmps97
  go_wp2_with fail
  refine (HN _).out.mono ?_
  rintro e w1 ⟨a1, c1, rfl, i1, b1, j1, f1⟩
  haveI k1 : NA a1 (nl (dman d).natAbs) w.heap.size := ⟨na_ofd f1⟩
  go_wp2_with fail
  go_ret
  exact ⟨rfl, zbh⟩
 | false =>
  obtain ⟨m, E, hd⟩ : ∃ m E, d = some (m, E) := ⟨_, _, dsome hb⟩
  obtain ⟨z, hz⟩ : ∃ z, z = dman d := ⟨_, rfl⟩
  have hzm : z = m := by rw [hz, hd]; rfl
  have hdE : dexp d = E := by rw [hd]; rfl
  rcases sg_cases z with ⟨hs, hq⟩ | ⟨hs, hq⟩ | ⟨hs, hq⟩
  · rw [show froot d mode = fNaN by rw [hd]; show (if m < 0 then _ else _) = _; rw [if_pos (by omega)]]
    show Calls _ _ _ _ fun e w' => e = .returned (.int .u64 9221120237041090560) ∧ Below w.heap.size w w'
    rw [← hz, hs] at HG
    rw [← hz] at HN
    clear hzm hd hdE hz hs hB
    have z0 : decide (z < 0) = true := by simpa using hq
    rw [z0] at HG HN
    clear hq
    go_enter Tryz.func97, Tryz.ntmps97
    go_wp2_with fail
    refine (HN _).out.mono ?_
    rintro e w1 ⟨a1, c1, rfl, i1, b1, j1, f1⟩
    haveI k1 : NA a1 (nl z.natAbs) w.heap.size := ⟨na_ofd f1⟩
    go_wp2_with fail
    refine (HG _ _ _).out.mono ?_
    rintro e w2 ⟨rfl, b2⟩
    go_wp2_with fail
    go_ret
    exact ⟨rfl, zbh⟩
  · rw [show froot d mode = 0 by rw [hd]; show (if m < 0 then _ else if m = 0 then _ else _) = _; rw [if_neg (by omega), if_pos (by omega)]]
    show Calls _ _ _ _ fun e w' => e = .returned (.int .u64 0) ∧ Below w.heap.size w w'
    rw [← hz, hs] at HG
    rw [← hz] at HN
    clear hzm hd hdE hz hs hB
    have z0 : decide (z < 0) = false := by simp; omega
    rw [z0] at HG HN
    clear hq
    go_enter Tryz.func97, Tryz.ntmps97
    go_wp2_with fail
    refine (HN _).out.mono ?_
    rintro e w1 ⟨a1, c1, rfl, i1, b1, j1, f1⟩
    haveI k1 : NA a1 (nl z.natAbs) w.heap.size := ⟨na_ofd f1⟩
    go_wp2_with fail
    refine (HG _ _ _).out.mono ?_
    rintro e w2 ⟨rfl, b2⟩
    go_wp2_with fail
    refine (HG _ _ _).out.mono ?_
    rintro e w3 ⟨rfl, b3⟩
    go_wp2_with fail
    go_ret
    exact ⟨rfl, zbh⟩
  · obtain ⟨K, hK⟩ : ∃ K, K = rtk z.natAbs E 60 := ⟨_, rfl⟩
    obtain ⟨M, hM⟩ : ∃ M, M = z.natAbs * 2 ^ K := ⟨_, rfl⟩
    rw [← hz, hdE] at hB
    have hMb : blen M = blen z.natAbs + K := by rw [hM]; exact blen_mul_pow (by omega) K
    have hKb : 126 ≤ blen z.natAbs + K ∧ K ≤ 200 := by rw [hK]; unfold rtk; split <;> omega
    have hrb : 63 ≤ blen (isq M) := isq_long (by omega)
    have hrl : blen (isq M) ≤ 140000 := by
     have h1 : isq M ≤ M := by
      rcases Nat.eq_zero_or_pos (isq M) with h | h
      · omega
      · exact Nat.le_trans (Nat.le_mul_of_pos_left _ h) (isq_le M)
     have := blen_mono h1; omega
    have hv : froot d mode = frnd false (isq M) ((E - (K : Nat)) / 2) (decide (isq M * isq M ≠ M)) mode := by
     rw [hd]; show (if m < 0 then _ else if m = 0 then _ else _) = _
     rw [if_neg (by omega), if_neg (by omega), hM, hzm]
     have hr := rsh_ge m E 56
     have e1 : blen (m.natAbs * 2 ^ rsh m E 56) = blen m.natAbs + rsh m E 56 := blen_mul_pow (by omega) _
     refine froot_indep E mode (rsh_even m E 56) (by rw [hK]; exact rtk_even _ _ _) (isq_long (p := 54) (by omega)) ?_
     rw [← hzm, ← hM]; omega
    have HR := fun W b c [i : BI W b (nl z.natAbs) c z.natAbs] => Lib.hid (rroot_any W b c z.natAbs (isq M) E 60 i.out (by omega) (by omega) (by omega) (by omega) (by omega) K M hK hM (isq_le M) (isq_lt M))
    have HO := fun W b c [i : BI W b (nl (isq M)) c (isq M)] [Tb W] => Lib.hid (frm (r3rounded_any W false (decide (isq M * isq M ≠ M)) b c (isq M) ((E - (K : Nat)) / 2) mode i.out (by rcases Nat.eq_zero_or_pos (isq M) with h | h; rw [h] at hrb; exact absurd hrb (by decide); exact h) (by omega) (by omega) (by omega) (fun _ => by omega) tb))
    rw [hv]
    generalize ((frnd false (isq M) ((E - (K : Nat)) / 2) (decide (isq M * isq M ≠ M)) mode : Nat) : Int) = u at *
    generalize decide (isq M * isq M ≠ M) = mo at *
    generalize (E - (K : Nat)) / 2 = x2 at *
    generalize isq M = r at *
    rw [← hz, hs] at HG
    rw [← hz, hdE] at HN
    have z0 : decide (z < 0) = false := by simp; omega
    rw [z0] at HG HN
    clear hq
    clear hv hrl hrb hKb hMb hM hK hB hzm hd hdE hz hs
    go_enter Tryz.func97, Tryz.ntmps97
    go_wp2_with fail
    refine (HN _).out.mono ?_
    rintro e w1 ⟨a1, c1, rfl, i1, b1, j1, f1⟩
    haveI k1 : NA a1 (nl z.natAbs) w.heap.size := ⟨na_ofd f1⟩
    go_wp2_with fail
    refine (HG _ _ _).out.mono ?_
    rintro e w2 ⟨rfl, b2⟩
    go_wp2_with fail
    refine (HG _ _ _).out.mono ?_
    rintro e w3 ⟨rfl, b3⟩
    go_wp2_with fail
    refine (HR _ _ _).out.mono ?_
    rintro e w4 ⟨a4, c4, rfl, i4, b4, f4⟩
    haveI T4 : Tb w4 := ⟨hT.below zbh⟩
    go_wp2_with fail
    refine (HO _ _ _).out.mono ?_
    rintro e w5 ⟨rfl, b5⟩
    go_wp2_with fail
    go_ret
    exact ⟨rfl, zbh⟩
theorem quo_long {A B K p : Nat} (hA : 0 < A) (hB : 0 < B) (h : blen B + p ≤ blen A + K) : p ≤ blen (A * 2 ^ K / B) := by
 rcases Nat.lt_or_ge (blen (A * 2 ^ K / B)) p with k | k
 · exfalso
   have h1 : A * 2 ^ K / B < 2 ^ (p - 1) := Nat.lt_of_lt_of_le (lt_blen _) (Nat.pow_le_pow_right (by decide) (by omega))
   rw [Nat.div_lt_iff_lt_mul hB] at h1
   have h2 : 2 ^ (p - 1) * B < 2 ^ (p - 1) * 2 ^ blen B := Nat.mul_lt_mul_of_pos_left (lt_blen B) (Nat.pow_pos (by decide))
   rw [← Nat.pow_add] at h2
   have h3 := blen_mul_pow hA K
   have h4 := blen_le (Nat.lt_trans h1 h2)
   omega
 · exact k
theorem r3quo_any (w : World) (v s : Bool) (A : Option Addr) (n c : Nat) (e : Int) (d : Option (Int × Int)) (v' s' : Bool) (A' : Option Addr) (n' c' : Nat) (e' : Int) (d' : Option (Int × Int)) (mode : Int) (hx : DyIs w v s A n c e d) (hy : DyIs w v' s' A' n' c' e' d') (hT : Tab w) :
 Calls Tryz.prog 98 #[.agg #[.bool v, .bool s, .slice A n c, .int .i64 e], .agg #[.bool v', .bool s', .slice A' n' c', .int .i64 e'], .int .i64 mode] w fun e w' => e = .returned (.int .u64 (fquo d d' mode : Nat)) ∧ Below w.heap.size w w' := by
 have HT : Tb w := ⟨hT⟩
 have HX : DS w v s A n c e d := ⟨hx⟩
 have HY : DS w v' s' A' n' c' e' d' := ⟨hy⟩
 have hN := hx.1.isN
 have hN' := hy.1.isN
 have HN := fun W [i : DS W v s A n c e d] [Tb W] => Lib.hid (frsF hN (rdnorm_in W i.out tb))
 have HN2 := fun W [i : DS W v' s' A' n' c' e' d'] [Tb W] => Lib.hid (frsF hN' (rdnorm_in W i.out tb))
 have hB := isN_bounds hN
 have hB' := isN_bounds hN'
 obtain ⟨u, hu⟩ : ∃ u : Int, u = ((fquo d d' mode : Nat) : Int) := ⟨_, rfl⟩
 rw [← hu]
 have hU := Lib.hid hu
 clear hx hy hu
 go_enter Tryz.func98, Tryz.ntmps98
 go_upto_region 1 with fail
 go_cut [] (fun wx => ∃ a1 c1 a2 c2, DB wx w.heap.size (dbad d) (decide (dman d < 0)) (.slice a1 (nl (dman d).natAbs) c1) (dexp d) ∧ DB wx (w.heap.size + 1) (dbad d') (decide (dman d' < 0)) (.slice a2 (nl (dman d').natAbs) c2) (dexp d') ∧ BI wx a1 (nl (dman d).natAbs) c1 (dman d).natAbs ∧ BI wx a2 (nl (dman d').natAbs) c2 (dman d').natAbs ∧ Beh w wx)
 case first =>
  first
  | go_region_with (first
   | (go_at_call 55; refine (HN _).out.mono ?_; rintro o w1 ⟨a1, c1, rfl, i1, b1, j1, f1⟩; haveI g1 := FA.mk f1)
   | (go_at_call 55; refine (HN2 _).out.mono ?_; rintro o w2 ⟨a2, c2, rfl, i2, b2, j2, f2⟩; haveI g2 := FA.mk f2)
   | fail)
  | fail "region"
  all_goals (
   go_wp2_with fail
   go_meet
   exact ⟨a1, c1, a2, c2, inferInstance, inferInstance, inferInstance, inferInstance, inferInstance⟩)
 case rest =>
  obtain ⟨a1, c1, a2, c2, V1, V2, j1, j2, b3⟩ := hcut
  generalize wc = v1 at *
  clear HN HN2
  haveI T1 : Tb v1 := ⟨hT.below b3.out⟩
  cases hb : dbad d with
  | true =>
   obtain rfl : u = 9221120237041090560 := by rw [hU.out, dbad_none hb]; rfl
   clear hU
   go_wp2_with fail
   go_ret
   exact ⟨rfl, zbh⟩
  | false =>
  cases hb' : dbad d' with
  | true =>
   obtain rfl : u = 9221120237041090560 := by rw [hU.out, dbad_none hb', dsome hb]; rfl
   clear hU
   go_wp2_with fail
   go_ret
   exact ⟨rfl, zbh⟩
  | false =>
  obtain ⟨m, E, hd⟩ : ∃ m E, d = some (m, E) := ⟨_, _, dsome hb⟩
  obtain ⟨m', E', hd'⟩ : ∃ m E, d' = some (m, E) := ⟨_, _, dsome hb'⟩
  subst hd hd'
  have V1 : DB v1 w.heap.size false (decide (m < 0)) (.slice a1 (nl m.natAbs) c1) E := V1
  have V2 : DB v1 (w.heap.size + 1) false (decide (m' < 0)) (.slice a2 (nl m'.natAbs) c2) E' := V2
  have j1 : BI v1 a1 (nl m.natAbs) c1 m.natAbs := j1
  have j2 : BI v1 a2 (nl m'.natAbs) c2 m'.natAbs := j2
  have hB : blen m.natAbs ≤ 131072 ∧ -65536 ≤ E ∧ E ≤ 65536 := hB
  have hB' : blen m'.natAbs ≤ 131072 ∧ -65536 ≤ E' ∧ E' ≤ 65536 := hB'
  have HG := fun W b c [i : BI W b (nl m.natAbs) c m.natAbs] => Lib.hid (frm (rsgn_z W b c m _ rfl i.out (nl_lim5 (by omega))))
  have HG2 := fun W b c [i : BI W b (nl m'.natAbs) c m'.natAbs] => Lib.hid (frm (rsgn_z W b c m' _ rfl i.out (nl_lim5 (by omega))))
  have hu : u = (((if m' = 0 then fNaN else if m = 0 then 0 else frnd (decide (m < 0) != decide (m' < 0)) (m.natAbs * 2 ^ qsh m m' 56 / m'.natAbs) (E - qsh m m' 56 - E') (decide (m.natAbs * 2 ^ qsh m m' 56 % m'.natAbs ≠ 0)) mode : Nat)) : Int) := hU.out
  clear hN hN' hU hb hb' HX HY
  by_cases hz' : m' = 0
  · obtain rfl : u = 9221120237041090560 := by rw [hu, if_pos hz']; rfl
    have hs : sg m' = 0 := by rw [hz']; rfl
    rw [hs] at HG2
    clear hs hz' hu hB hB'
    go_wp2_with fail
    refine (HG2 _ _ _).out.mono ?_
    rintro o w3 ⟨rfl, b3⟩
    go_wp2_with fail
    go_ret
    exact ⟨rfl, zbh⟩
  · obtain ⟨g', hg'⟩ : ∃ g, g = sg m' := ⟨_, rfl⟩
    have hg1 : (g' == 0) = false := by rw [hg', beq_eq_false_iff_ne]; rcases sg_cases m' with ⟨h, q⟩ | ⟨h, q⟩ | ⟨h, q⟩ <;> omega
    have hg2 : ¬ g' = 0 := by simpa using hg1
    rw [← hg'] at HG2
    clear hg'
    rw [if_neg hz'] at hu
    by_cases hz : m = 0
    · obtain rfl : u = 0 := by rw [hu, if_pos hz]; rfl
      have hs : sg m = 0 := by rw [hz]; rfl
      rw [hs] at HG
      clear hs hz' hz hu hB hB'
      go_wp2_with fail
      refine (HG2 _ _ _).out.mono ?_
      rintro o w3 ⟨rfl, b3⟩
      go_wp2_with fail
      refine (HG _ _ _).out.mono ?_
      rintro o w4 ⟨rfl, b4⟩
      go_wp2_with fail
      go_ret
      exact ⟨rfl, zbh⟩
    · obtain ⟨g, hg⟩ : ∃ g, g = sg m := ⟨_, rfl⟩
      have hk1 : (g == 0) = false := by rw [hg, beq_eq_false_iff_ne]; rcases sg_cases m with ⟨h, q⟩ | ⟨h, q⟩ | ⟨h, q⟩ <;> omega
      have hk2 : ¬ g = 0 := by simpa using hk1
      rw [← hg] at HG
      clear hg
      rw [if_neg hz] at hu
      obtain ⟨K, hK⟩ : ∃ K, K = qtk m.natAbs m'.natAbs 60 := ⟨_, rfl⟩
      have hl : 61 ≤ blen (m.natAbs * 2 ^ K / m'.natAbs) := quo_long (by omega) (by omega) (by rw [hK]; unfold qtk; omega)
      have hl' : 54 ≤ blen (m.natAbs * 2 ^ qsh m m' 56 / m'.natAbs) := quo_long (by omega) (by omega) (by unfold qsh; omega)
      have hKl : K ≤ 140000 := by rw [hK]; unfold qtk; omega
      have hQl : blen (m.natAbs * 2 ^ K / m'.natAbs) ≤ 300000 := by
       have h1 := blen_mono (Nat.div_le_self (m.natAbs * 2 ^ K) m'.natAbs)
       rw [blen_mul_pow (by omega) K] at h1; omega
      have hq := fquo_indep (decide (m < 0) != decide (m' < 0)) (A := m.natAbs) (B := m'.natAbs) (k := qsh m m' 56) (k' := K) (E - E') mode (by omega) hl' (by omega)
      rw [show E - (qsh m m' 56 : Int) - E' = E - E' - (qsh m m' 56 : Nat) by omega, hq] at hu
      have HR := fun W b c b' c' [i : BI W b (nl m.natAbs) c m.natAbs] [j : BI W b' (nl m'.natAbs) c' m'.natAbs] => Lib.hid (rratio_any W b b' c c' m.natAbs m'.natAbs 60 i.out j.out hB.1 hB'.1 (by omega) (by omega) (by omega) K _ _ hK rfl rfl)
      have HA := fun W b c [i : BI W b (nl m.natAbs) c m.natAbs] => Lib.hid (frbn (rabs_z W b c m _ rfl i.out (nl_lim5 (by omega))))
      have HA2 := fun W b c [i : BI W b (nl m'.natAbs) c m'.natAbs] => Lib.hid (frbn (rabs_z W b c m' _ rfl i.out (nl_lim5 (by omega))))
      have HO := fun W b c [i : BI W b (nl (m.natAbs * 2 ^ K / m'.natAbs)) c (m.natAbs * 2 ^ K / m'.natAbs)] [Tb W] => Lib.hid (frm (r3rounded_any W (decide (m < 0) != decide (m' < 0)) (decide (m.natAbs * 2 ^ K % m'.natAbs ≠ 0)) b c (m.natAbs * 2 ^ K / m'.natAbs) (E - E' - (K : Nat)) mode i.out (by rcases Nat.eq_zero_or_pos (m.natAbs * 2 ^ K / m'.natAbs) with h | h; rw [h] at hl; exact absurd hl (by decide); exact h) (by omega) (by omega) (by omega) (fun _ => by omega) tb))
      rw [← hu, show (decide (m < 0) != decide (m' < 0)) = !(decide (m < 0) == decide (m' < 0)) from rfl] at HO
      have t1 : IntKind.i64.wrap (E - E') = E - E' := by rw [IntKind.wrap_i64]; omega
      have t2 : wrap64 (E - E') = E - E' := by unfold wrap64; omega
      have t3 : IntKind.i64.wrap (E - E' + -(K : Int)) = E - E' - (K : Nat) := by rw [IntKind.wrap_i64]; omega
      have t4 : wrap64 (E - E' + -(K : Int)) = E - E' - (K : Nat) := by unfold wrap64; omega
      have t5 : E - E' + -(K : Int) = E - E' - (K : Nat) := by omega
      have t6 : wrap64 (E - E' - (K : Nat)) = E - E' - (K : Nat) := by unfold wrap64; omega
      generalize decide (m.natAbs * 2 ^ K % m'.natAbs ≠ 0) = mo at *
      generalize m.natAbs * 2 ^ K / m'.natAbs = Q at *
      generalize E - E' - ((K : Nat) : Int) = x2 at *
      clear hu hq hQl hKl hl hl' hK hz hz' hB hB'
      go_wp2_with fail
      refine (HG2 _ _ _).out.mono ?_
      rintro o w3 ⟨rfl, b3⟩
      go_wp2_with fail
      refine (HG _ _ _).out.mono ?_
      rintro o w4 ⟨rfl, b4⟩
      go_wp2_with fail
      go_cut [7, 8, 9] (fun p7 x8 x9 wx => ∃ z aq cq, p7 = .pointer (some ⟨z, 0, none⟩) ∧ x8 = .int .i64 (-(K : Int)) ∧ x9 = .bool mo ∧ BB wx z false (.slice aq (nl Q) cq) ∧ BI wx aq (nl Q) cq Q ∧ From w4 wx)
      case first =>
       first
       | go_region_held3 (fun w' => w'.cell? ⟨w.heap.size, 1, none⟩ = some (.bool (decide (m < 0))) ∧ w'.cell? ⟨w.heap.size, 2, none⟩ = some (.slice a1 (nl m.natAbs) c1) ∧ w'.cell? ⟨w.heap.size + 1, 1, none⟩ = some (.bool (decide (m' < 0))) ∧ w'.cell? ⟨w.heap.size + 1, 2, none⟩ = some (.slice a2 (nl m'.natAbs) c2)) (first | (go_simp; done))
        (first
         | (go_at_call 102; refine (HA _ _ _).out.mono ?_; rintro o w5 ⟨a5, c5, rfl, i5, b5, f5⟩)
         | (go_at_call 102; refine (HA2 _ _ _).out.mono ?_; rintro o w6 ⟨a6, c6, rfl, i6, b6, f6⟩)
         | (go_at_call 142; refine (HR _ _ _ _ _).out.mono ?_; rintro o w7 ⟨a7, c7, rfl, i7, b7, f7⟩; haveI g7 := FA.mk f7)
         | fail)
       | fail "region"
       all_goals (
        go_wp2_with fail
        go_meet
        exact ⟨_, a7, c7, rfl, rfl, rfl, inferInstance, inferInstance, ⟨zbh⟩⟩)
      case rest =>
       obtain ⟨z, aq, cq, rfl, rfl, rfl, V5, i8, b8⟩ := hcut
       generalize wc = v2 at *
       clear HR HA HA2 HG HG2
       go_wp2_with fail
       refine (HO _ _ _).out.mono ?_
       rintro o w9 ⟨rfl, b9⟩
       go_wp2_with fail
       go_ret
       exact ⟨rfl, zbh⟩
end Go.Proofs.YtablcbgeeeboeaaGreatDoor
set_option maxRecDepth 100000
set_option maxHeartbeats 20000000
namespace Go.Proofs.YtablcbgeeeboeaaGreatDoor
open Go.RowKit Sp
attribute [local irreducible] Calls
theorem rdmul_any (w : World) (v s v' s' : Bool) (A A' : Option Addr) (n n' c c' : Nat) (e e' : Int) (d d' : Option (Int × Int)) (hx : DyIs w v s A n c e d) (hy : DyIs w v' s' A' n' c' e' d') (hT : Tab w) :
 Calls Tryz.prog 19 #[.agg #[.bool v, .bool s, .slice A n c, .int .i64 e], .agg #[.bool v', .bool s', .slice A' n' c', .int .i64 e']] w (RetDy w (dmul d d')) := by
 obtain ⟨u, hu⟩ : ∃ u, u = dmul d d' := ⟨_, rfl⟩
 rw [← hu]
 have HT : Tb w := ⟨hT⟩
 have HX : DS w v s A n c e d := ⟨hx⟩
 have HY : DS w v' s' A' n' c' e' d' := ⟨hy⟩
 have hN := hx.1.isN
 have hN' := hy.1.isN
 have HN := fun W [i : DS W v s A n c e d] [Tb W] => Lib.hid (frsF hN (rdnorm_in W i.out tb))
 have HN2 := fun W [i : DS W v' s' A' n' c' e' d'] [Tb W] => Lib.hid (frsF hN' (rdnorm_in W i.out tb))
 have HB := fun W => Lib.hid (frm (rbad_any W))
 have hB := isN_bounds hN
 have hB' := isN_bounds hN'
 have hU := Lib.hid hu
 clear hx hy hu
 go_enter Tryz.func19, Tryz.ntmps19
 go_upto_region 1 with fail
 go_cut [] (fun wx => ∃ a1 c1 a2 c2, DB wx w.heap.size (dbad d) (decide (dman d < 0)) (.slice a1 (nl (dman d).natAbs) c1) (dexp d) ∧ DB wx (w.heap.size + 1) (dbad d') (decide (dman d' < 0)) (.slice a2 (nl (dman d').natAbs) c2) (dexp d') ∧ DB wx (w.heap.size + 1 + 1) false false (.slice none 0 0) 0 ∧ BI wx a1 (nl (dman d).natAbs) c1 (dman d).natAbs ∧ BI wx a2 (nl (dman d').natAbs) c2 (dman d').natAbs ∧ Beh w wx)
 case first =>
  first
  | go_region_with (first
   | (go_at_call 55; refine (HN _).out.mono ?_; rintro o w1 ⟨a1, c1, rfl, i1, b1, j1, f1⟩; haveI g1 := FA.mk f1)
   | (go_at_call 55; refine (HN2 _).out.mono ?_; rintro o w2 ⟨a2, c2, rfl, i2, b2, j2, f2⟩; haveI g2 := FA.mk f2)
   | fail)
  | fail "region"
  all_goals (
   go_wp2_with fail
   go_meet
   exact ⟨a1, c1, a2, c2, inferInstance, inferInstance, inferInstance, inferInstance, inferInstance, inferInstance⟩)
 case rest =>
  obtain ⟨a1, c1, a2, c2, V1, V2, V3, j1, j2, b3⟩ := hcut
  generalize wc = v1 at *
  clear HN HN2
  haveI T1 : Tb v1 := ⟨hT.below b3.out⟩
  cases hb : dbad d with
  | true =>
   obtain rfl : u = none := by rw [hU.out, dbad_none hb]; cases d' <;> rfl
   clear hU
   go_wp2_with fail
   refine (HB _).out.mono ?_
   rintro o w8 ⟨rfl, b8⟩
   go_wp2_with fail
   refine bodyPost_ret (v := .agg #[.bool true, .bool false, .slice none 0 0, .int .i64 0]) (by simp only [results, Tryz.results19]; go_simp) rfl ?_
   exact ⟨none, 0, rfl, Mag.nil _, zbh, nl0⟩
  | false =>
  cases hb' : dbad d' with
  | true =>
   obtain rfl : u = none := by rw [hU.out, dbad_none hb', dsome hb]; rfl
   clear hU
   go_wp2_with fail
   refine (HB _).out.mono ?_
   rintro o w8 ⟨rfl, b8⟩
   go_wp2_with fail
   refine bodyPost_ret (v := .agg #[.bool true, .bool false, .slice none 0 0, .int .i64 0]) (by simp only [results, Tryz.results19]; go_simp) rfl ?_
   exact ⟨none, 0, rfl, Mag.nil _, zbh, nl0⟩
  | false =>
  obtain ⟨m, E, hd⟩ : ∃ m E, d = some (m, E) := ⟨_, _, dsome hb⟩
  obtain ⟨m', E', hd'⟩ : ∃ m E, d' = some (m, E) := ⟨_, _, dsome hb'⟩
  subst hd hd'
  have V1 : DB v1 w.heap.size false (decide (m < 0)) (.slice a1 (nl m.natAbs) c1) E := V1
  have V2 : DB v1 (w.heap.size + 1) false (decide (m' < 0)) (.slice a2 (nl m'.natAbs) c2) E' := V2
  have j1 : BI v1 a1 (nl m.natAbs) c1 m.natAbs := j1
  have j2 : BI v1 a2 (nl m'.natAbs) c2 m'.natAbs := j2
  have hB : blen m.natAbs ≤ 131072 ∧ -65536 ≤ E ∧ E ≤ 65536 := hB
  have hB' : blen m'.natAbs ≤ 131072 ∧ -65536 ≤ E' ∧ E' ≤ 65536 := hB'
  have hu : u = nrm (m * m') (E + E') := hU.out
  clear hN hN' hU hb hb' HX HY
  obtain ⟨Z, hZ⟩ : ∃ Z, Z = m * m' := ⟨_, rfl⟩
  obtain ⟨K, hK⟩ : ∃ K, K = E + E' := ⟨_, rfl⟩
  have hblZ : blen Z.natAbs ≤ 262145 := by
   rw [hZ, Int.natAbs_mul]
   have := blen_mul_le m.natAbs m'.natAbs
   omega
  rw [← hZ, ← hK] at hu
  have nu : IsN u := by rw [hu]; exact isN_nrm _ _
  have HC := fun W b c b' c' [i : BI W b (nl m.natAbs) c m.natAbs] [j : BI W b' (nl m'.natAbs) c' m'.natAbs] => Lib.hid (frb (rmul_z W b b' c c' m m' Z hZ i.out j.out (nl_lim5 (by omega)) (nl_lim5 (by omega))))
  have HM := fun W b c [i : BI W b (nl Z.natAbs) c Z.natAbs] [Tb W] => Lib.hid (frsF nu (rmake_z W b c Z K u hu i.out tb (nl_lim5 (by omega)) (by omega) (by omega)))
  have t1 : IntKind.i64.wrap (E + E') = K := by rw [IntKind.wrap_i64]; omega
  have t2 : wrap64 (E + E') = K := by unfold wrap64; omega
  clear hu hZ hK nu hblZ hB hB'
  go_wp2_with fail
  first
  | go_region_held3 (fun w' => w'.cell? ⟨w.heap.size, 1, none⟩ = some (.bool (decide (m < 0))) ∧ w'.cell? ⟨w.heap.size, 2, none⟩ = some (.slice a1 (nl m.natAbs) c1) ∧ w'.cell? ⟨w.heap.size, 3, none⟩ = some (.int .i64 E) ∧ w'.cell? ⟨w.heap.size + 1, 1, none⟩ = some (.bool (decide (m' < 0))) ∧ w'.cell? ⟨w.heap.size + 1, 2, none⟩ = some (.slice a2 (nl m'.natAbs) c2) ∧ w'.cell? ⟨w.heap.size + 1, 3, none⟩ = some (.int .i64 E')) (first | (go_simp; done)) (first
   | (go_at_call 59; refine (HC _ _ _ _ _).out.mono ?_; rintro o w6 ⟨a6, c6, rfl, i6, b6, f6⟩; haveI T6 : Tb w6 := ⟨hT.below zbh⟩)
   | (go_at_call 56; refine (HM _ _ _).out.mono ?_; rintro o w9 ⟨a9, c9, rfl, i9, b9, j9, f9⟩; haveI g9 := FA.mk f9)
   | fail)
  | fail "region"
  all_goals (
   go_wp2_with fail
   refine bodyPost_ret (v := .agg #[.bool (dbad u), .bool (decide (dman u < 0)), .slice a9 (nl (dman u).natAbs) c9, .int .i64 (dexp u)]) (by simp only [results, Tryz.results19]; go_simp) rfl ?_
   exact ⟨a9, c9, rfl, BI.out, zbh, fresh_of b9 f9⟩)
end Go.Proofs.YtablcbgeeeboeaaGreatDoor
namespace Go.Proofs.YtablcbgeeeboeaaGreatDoor
open Go.RowKit Sp
attribute [local irreducible] Calls
class FZ (W : World) (a : Option Addr) (n c : Nat) (X : outParam (Nat → Nat)) : Prop where out : Fls W a n c X
section
variable {W : World} {a : Option Addr} {n c : Nat} {X : Nat → Nat}
instance FZ.dr [h : FZ W a n c X] : FZ W.drew a n c X := ⟨h.out.below (Below.refl _ _).drew⟩
instance FZ.dn (q : Nat) [h : FZ W a n c X] : FZ (W.drewN q) a n c X := ⟨h.out.below (below_drewN (Below.refl _ _) _)⟩
instance FZ.al (o : Obj) [h : FZ W a n c X] : FZ (W.alloc o) a n c X := ⟨h.out.below ((Below.refl _ _).alloc (Nat.le_refl _) _)⟩
instance FZ.fr (L : World) [k : From L W] [h : FZ L a n c X] : FZ W a n c X := ⟨h.out.below k.out⟩
end
theorem frT {P : Program} {f : FuncId} {args : Array Value} {W : World} {n : Nat} {X : Nat → Nat} (h : Calls P f args W fun e w' => ∃ oa ocap, e = .returned (.slice oa n ocap) ∧ Fls w' oa n ocap X ∧ Below W.heap.size W w') :
 Calls P f args W fun e w' => ∃ oa ocap, e = .returned (.slice oa n ocap) ∧ FZ w' oa n ocap X ∧ From W w' :=
 h.mono fun _ _ ⟨a, c, he, hm, hb⟩ => ⟨a, c, he, ⟨hm⟩, ⟨hb⟩⟩
end Go.Proofs.YtablcbgeeeboeaaGreatDoor
