/-
  Walks: the reference's floats: Root, Quo.
-/
import Derived.Test.YtablcbgeeeboeaaGreatDoorZhS3
import Derived.Test.YtablcbgeeeboeaaGreatDoorZhRzc
import Derived.Test.YtablcbgeeeboeaaGreatDoorZhCs
import Derived.Test.YtablcbgeeeboeaaGreatDoorZhFP
import Derived.Test.YtablcbgeeeboeaaGreatDoorZhRt
import Derived.Test.YtablcbgeeeboeaaGreatDoorZhBg
import Derived.Test.YtablcbgeeeboeaaGreatDoorZhBf
import Derived.Test.YtablcbgeeeboeaaGreatDoorZhCm
set_option maxRecDepth 100000
set_option maxHeartbeats 20000000
namespace Go.Proofs.YtablcbgeeeboeaaGreatDoor
open Go.RowKit Sp
attribute [local irreducible] Calls
theorem zHK {M p : Nat} (h : 2 * p ≤ zA4 M) : p ≤ zA4 (isq M) := by
 rcases Nat.lt_or_ge (zA4 (isq M)) p with k | k
 · exfalso
   have h1 := zAH (isq M)
   have h2 : isq M + 1 ≤ 2 ^ (p - 1) := Nat.le_trans h1 (Nat.pow_le_pow_right (by decide) (by omega))
   have h3 := zDH M
   have h4 : (isq M + 1) * (isq M + 1) ≤ 2 ^ (p - 1) * 2 ^ (p - 1) := Nat.mul_le_mul h2 h2
   rw [← Nat.pow_add] at h4
   have h5 : zA4 M ≤ p - 1 + (p - 1) := zAq (Nat.lt_of_lt_of_le h3 h4)
   omega
 · exact k
theorem zIy (w : World) (v s : Bool) (A : Option Addr) (n c : Nat) (e : Int) (d : Option (Int × Int)) (mode : Int) (hx : DyIs w v s A n c e d) (hT : Tab w) :
 Calls Tryz.prog 97 #[.agg #[.bool v, .bool s, .slice A n c, .int .i64 e], .int .i64 mode] w fun e w' => e = .returned (.int .u64 (zBE d mode : Nat)) ∧ Below w.heap.size w w' := by
 have HT : Tb w := ⟨hT⟩
 have HX : DS w v s A n c e d := ⟨hx⟩
 have hN := hx.1.isN
 have HN := fun W [i : DS W v s A n c e d] [Tb W] => Lib.hid (zM0 hN (zAt W i.out tb))
 have hB := zA7 hN
 have HG := fun W b c [i : BI W b (nl (zA1 d).natAbs) c (zA1 d).natAbs] => Lib.hid (frm (zCR W b c (zA1 d) _ rfl i.out (zAS (by omega))))
 clear hx
 cases hb : zA3 d with
 | true =>
  rw [show zBE d mode = zIU by rw [zBl hb]; rfl]
  show Calls _ _ _ _ fun e w' => e = .returned (.int .u64 9221120237041090560) ∧ Below w.heap.size w w'
  go_enter Tryz.func97, Tryz.ntmps97
  go_wp2_with fail
  refine (HN _).out.mono ?_
  rintro e w1 ⟨a1, c1, rfl, i1, b1, j1, f1⟩
  haveI k1 : NA a1 (nl (zA1 d).natAbs) w.heap.size := ⟨zHF f1⟩
  go_wp2_with fail
  go_ret
  exact ⟨rfl, zbh⟩
 | false =>
  obtain ⟨m, E, hd⟩ : ∃ m E, d = some (m, E) := ⟨_, _, zEC hb⟩
  obtain ⟨z, hz⟩ : ∃ z, z = zA1 d := ⟨_, rfl⟩
  have hzm : z = m := by rw [hz, hd]; rfl
  have hdE : zA2 d = E := by rw [hd]; rfl
  rcases zBy z with ⟨hs, hq⟩ | ⟨hs, hq⟩ | ⟨hs, hq⟩
  · rw [show zBE d mode = zIU by rw [hd]; show (if m < 0 then _ else _) = _; rw [if_pos (by omega)]]
    show Calls _ _ _ _ fun e w' => e = .returned (.int .u64 9221120237041090560) ∧ Below w.heap.size w w'
    rw [← hz, hs] at HG
    rw [← hz] at HN
    clear hzm hd hdE hz hs hB
    have z0 : decide (z < 0) = true := by simpa using hq
    rw [z0] at HG HN
    clear hq
    go_enter Tryz.func97, Tryz.ntmps97
    go_wp2_with fail
    refine (HN _).out.mono ?_
    rintro e w1 ⟨a1, c1, rfl, i1, b1, j1, f1⟩
    haveI k1 : NA a1 (nl z.natAbs) w.heap.size := ⟨zHF f1⟩
    go_wp2_with fail
    refine (HG _ _ _).out.mono ?_
    rintro e w2 ⟨rfl, b2⟩
    go_wp2_with fail
    go_ret
    exact ⟨rfl, zbh⟩
  · rw [show zBE d mode = 0 by rw [hd]; show (if m < 0 then _ else if m = 0 then _ else _) = _; rw [if_neg (by omega), if_pos (by omega)]]
    show Calls _ _ _ _ fun e w' => e = .returned (.int .u64 0) ∧ Below w.heap.size w w'
    rw [← hz, hs] at HG
    rw [← hz] at HN
    clear hzm hd hdE hz hs hB
    have z0 : decide (z < 0) = false := by simp; omega
    rw [z0] at HG HN
    clear hq
    go_enter Tryz.func97, Tryz.ntmps97
    go_wp2_with fail
    refine (HN _).out.mono ?_
    rintro e w1 ⟨a1, c1, rfl, i1, b1, j1, f1⟩
    haveI k1 : NA a1 (nl z.natAbs) w.heap.size := ⟨zHF f1⟩
    go_wp2_with fail
    refine (HG _ _ _).out.mono ?_
    rintro e w2 ⟨rfl, b2⟩
    go_wp2_with fail
    refine (HG _ _ _).out.mono ?_
    rintro e w3 ⟨rfl, b3⟩
    go_wp2_with fail
    go_ret
    exact ⟨rfl, zbh⟩
  · obtain ⟨K, hK⟩ : ∃ K, K = rtk z.natAbs E 60 := ⟨_, rfl⟩
    obtain ⟨M, hM⟩ : ∃ M, M = z.natAbs * 2 ^ K := ⟨_, rfl⟩
    rw [← hz, hdE] at hB
    have hMb : zA4 M = zA4 z.natAbs + K := by rw [hM]; exact zAi (by omega) K
    have hKb : 126 ≤ zA4 z.natAbs + K ∧ K ≤ 200 := by rw [hK]; unfold rtk; split <;> omega
    have hrb : 63 ≤ zA4 (isq M) := zHK (by omega)
    have hrl : zA4 (isq M) ≤ 140000 := by
     have h1 : isq M ≤ M := by
      rcases Nat.eq_zero_or_pos (isq M) with h | h
      · omega
      · exact Nat.le_trans (Nat.le_mul_of_pos_left _ h) (zDI M)
     have := zBm h1; omega
    have hv : zBE d mode = zCf false (isq M) ((E - (K : Nat)) / 2) (decide (isq M * isq M ≠ M)) mode := by
     rw [hd]; show (if m < 0 then _ else if m = 0 then _ else _) = _
     rw [if_neg (by omega), if_neg (by omega), hM, hzm]
     have hr := zMH m E 56
     have e1 : zA4 (m.natAbs * 2 ^ rsh m E 56) = zA4 m.natAbs + rsh m E 56 := zAi (by omega) _
     refine zGX E mode (zHt m E 56) (by rw [hK]; exact zHq _ _ _) (zHK (p := 54) (by omega)) ?_
     rw [← hzm, ← hM]; omega
    have HR := fun W b c [i : BI W b (nl z.natAbs) c z.natAbs] => Lib.hid (zJt W b c z.natAbs (isq M) E 60 i.out (by omega) (by omega) (by omega) (by omega) (by omega) K M hK hM (zDI M) (zDH M))
    have HO := fun W b c [i : BI W b (nl (isq M)) c (isq M)] [Tb W] => Lib.hid (frm (zCl W false (decide (isq M * isq M ≠ M)) b c (isq M) ((E - (K : Nat)) / 2) mode i.out (by rcases Nat.eq_zero_or_pos (isq M) with h | h; rw [h] at hrb; exact absurd hrb (by decide); exact h) (by omega) (by omega) (by omega) (fun _ => by omega) tb))
    rw [hv]
    generalize ((zCf false (isq M) ((E - (K : Nat)) / 2) (decide (isq M * isq M ≠ M)) mode : Nat) : Int) = u at *
    generalize decide (isq M * isq M ≠ M) = mo at *
    generalize (E - (K : Nat)) / 2 = x2 at *
    generalize isq M = r at *
    rw [← hz, hs] at HG
    rw [← hz, hdE] at HN
    have z0 : decide (z < 0) = false := by simp; omega
    rw [z0] at HG HN
    clear hq
    clear hv hrl hrb hKb hMb hM hK hB hzm hd hdE hz hs
    go_enter Tryz.func97, Tryz.ntmps97
    go_wp2_with fail
    refine (HN _).out.mono ?_
    rintro e w1 ⟨a1, c1, rfl, i1, b1, j1, f1⟩
    haveI k1 : NA a1 (nl z.natAbs) w.heap.size := ⟨zHF f1⟩
    go_wp2_with fail
    refine (HG _ _ _).out.mono ?_
    rintro e w2 ⟨rfl, b2⟩
    go_wp2_with fail
    refine (HG _ _ _).out.mono ?_
    rintro e w3 ⟨rfl, b3⟩
    go_wp2_with fail
    refine (HR _ _ _).out.mono ?_
    rintro e w4 ⟨a4, c4, rfl, i4, b4, f4⟩
    haveI T4 : Tb w4 := ⟨hT.below zbh⟩
    go_wp2_with fail
    refine (HO _ _ _).out.mono ?_
    rintro e w5 ⟨rfl, b5⟩
    go_wp2_with fail
    go_ret
    exact ⟨rfl, zbh⟩
theorem zHA {A B K p : Nat} (hA : 0 < A) (hB : 0 < B) (h : zA4 B + p ≤ zA4 A + K) : p ≤ zA4 (A * 2 ^ K / B) := by
 rcases Nat.lt_or_ge (zA4 (A * 2 ^ K / B)) p with k | k
 · exfalso
   have h1 : A * 2 ^ K / B < 2 ^ (p - 1) := Nat.lt_of_lt_of_le (zAH _) (Nat.pow_le_pow_right (by decide) (by omega))
   rw [Nat.div_lt_iff_lt_mul hB] at h1
   have h2 : 2 ^ (p - 1) * B < 2 ^ (p - 1) * 2 ^ zA4 B := Nat.mul_lt_mul_of_pos_left (zAH B) (Nat.pow_pos (by decide))
   rw [← Nat.pow_add] at h2
   have h3 := zAi hA K
   have h4 := zAq (Nat.lt_trans h1 h2)
   omega
 · exact k
theorem zJP (w : World) (v s : Bool) (A : Option Addr) (n c : Nat) (e : Int) (d : Option (Int × Int)) (v' s' : Bool) (A' : Option Addr) (n' c' : Nat) (e' : Int) (d' : Option (Int × Int)) (mode : Int) (hx : DyIs w v s A n c e d) (hy : DyIs w v' s' A' n' c' e' d') (hT : Tab w) :
 Calls Tryz.prog 98 #[.agg #[.bool v, .bool s, .slice A n c, .int .i64 e], .agg #[.bool v', .bool s', .slice A' n' c', .int .i64 e'], .int .i64 mode] w fun e w' => e = .returned (.int .u64 (zH0 d d' mode : Nat)) ∧ Below w.heap.size w w' := by
 have HT : Tb w := ⟨hT⟩
 have HX : DS w v s A n c e d := ⟨hx⟩
 have HY : DS w v' s' A' n' c' e' d' := ⟨hy⟩
 have hN := hx.1.isN
 have hN' := hy.1.isN
 have HN := fun W [i : DS W v s A n c e d] [Tb W] => Lib.hid (zM0 hN (zAt W i.out tb))
 have HN2 := fun W [i : DS W v' s' A' n' c' e' d'] [Tb W] => Lib.hid (zM0 hN' (zAt W i.out tb))
 have hB := zA7 hN
 have hB' := zA7 hN'
 obtain ⟨u, hu⟩ : ∃ u : Int, u = ((zH0 d d' mode : Nat) : Int) := ⟨_, rfl⟩
 rw [← hu]
 have hU := Lib.hid hu
 clear hx hy hu
 go_enter Tryz.func98, Tryz.ntmps98
 go_upto_region 1 with fail
 go_cut [] (fun wx => ∃ a1 c1 a2 c2, DB wx w.heap.size (zA3 d) (decide (zA1 d < 0)) (.slice a1 (nl (zA1 d).natAbs) c1) (zA2 d) ∧ DB wx (w.heap.size + 1) (zA3 d') (decide (zA1 d' < 0)) (.slice a2 (nl (zA1 d').natAbs) c2) (zA2 d') ∧ BI wx a1 (nl (zA1 d).natAbs) c1 (zA1 d).natAbs ∧ BI wx a2 (nl (zA1 d').natAbs) c2 (zA1 d').natAbs ∧ Beh w wx)
 case first =>
  first
  | go_region_with (first
   | (go_at_call 55; refine (HN _).out.mono ?_; rintro o w1 ⟨a1, c1, rfl, i1, b1, j1, f1⟩; haveI g1 := FA.mk f1)
   | (go_at_call 55; refine (HN2 _).out.mono ?_; rintro o w2 ⟨a2, c2, rfl, i2, b2, j2, f2⟩; haveI g2 := FA.mk f2)
   | fail)
  | fail "region"
  all_goals (
   go_wp2_with fail
   go_meet
   exact ⟨a1, c1, a2, c2, inferInstance, inferInstance, inferInstance, inferInstance, inferInstance⟩)
 case rest =>
  obtain ⟨a1, c1, a2, c2, V1, V2, j1, j2, b3⟩ := hcut
  generalize wc = v1 at *
  clear HN HN2
  haveI T1 : Tb v1 := ⟨hT.below b3.out⟩
  cases hb : zA3 d with
  | true =>
   obtain rfl : u = 9221120237041090560 := by rw [hU.out, zBl hb]; rfl
   clear hU
   go_wp2_with fail
   go_ret
   exact ⟨rfl, zbh⟩
  | false =>
  cases hb' : zA3 d' with
  | true =>
   obtain rfl : u = 9221120237041090560 := by rw [hU.out, zBl hb', zEC hb]; rfl
   clear hU
   go_wp2_with fail
   go_ret
   exact ⟨rfl, zbh⟩
  | false =>
  obtain ⟨m, E, hd⟩ : ∃ m E, d = some (m, E) := ⟨_, _, zEC hb⟩
  obtain ⟨m', E', hd'⟩ : ∃ m E, d' = some (m, E) := ⟨_, _, zEC hb'⟩
  subst hd hd'
  have V1 : DB v1 w.heap.size false (decide (m < 0)) (.slice a1 (nl m.natAbs) c1) E := V1
  have V2 : DB v1 (w.heap.size + 1) false (decide (m' < 0)) (.slice a2 (nl m'.natAbs) c2) E' := V2
  have j1 : BI v1 a1 (nl m.natAbs) c1 m.natAbs := j1
  have j2 : BI v1 a2 (nl m'.natAbs) c2 m'.natAbs := j2
  have hB : zA4 m.natAbs ≤ 131072 ∧ -65536 ≤ E ∧ E ≤ 65536 := hB
  have hB' : zA4 m'.natAbs ≤ 131072 ∧ -65536 ≤ E' ∧ E' ≤ 65536 := hB'
  have HG := fun W b c [i : BI W b (nl m.natAbs) c m.natAbs] => Lib.hid (frm (zCR W b c m _ rfl i.out (zAS (by omega))))
  have HG2 := fun W b c [i : BI W b (nl m'.natAbs) c m'.natAbs] => Lib.hid (frm (zCR W b c m' _ rfl i.out (zAS (by omega))))
  have hu : u = (((if m' = 0 then zIU else if m = 0 then 0 else zCf (decide (m < 0) != decide (m' < 0)) (m.natAbs * 2 ^ qsh m m' 56 / m'.natAbs) (E - qsh m m' 56 - E') (decide (m.natAbs * 2 ^ qsh m m' 56 % m'.natAbs ≠ 0)) mode : Nat)) : Int) := hU.out
  clear hN hN' hU hb hb' HX HY
  by_cases hz' : m' = 0
  · obtain rfl : u = 9221120237041090560 := by rw [hu, if_pos hz']; rfl
    have hs : sg m' = 0 := by rw [hz']; rfl
    rw [hs] at HG2
    clear hs hz' hu hB hB'
    go_wp2_with fail
    refine (HG2 _ _ _).out.mono ?_
    rintro o w3 ⟨rfl, b3⟩
    go_wp2_with fail
    go_ret
    exact ⟨rfl, zbh⟩
  · obtain ⟨g', hg'⟩ : ∃ g, g = sg m' := ⟨_, rfl⟩
    have hg1 : (g' == 0) = false := by rw [hg', beq_eq_false_iff_ne]; rcases zBy m' with ⟨h, q⟩ | ⟨h, q⟩ | ⟨h, q⟩ <;> omega
    have hg2 : ¬ g' = 0 := by simpa using hg1
    rw [← hg'] at HG2
    clear hg'
    rw [if_neg hz'] at hu
    by_cases hz : m = 0
    · obtain rfl : u = 0 := by rw [hu, if_pos hz]; rfl
      have hs : sg m = 0 := by rw [hz]; rfl
      rw [hs] at HG
      clear hs hz' hz hu hB hB'
      go_wp2_with fail
      refine (HG2 _ _ _).out.mono ?_
      rintro o w3 ⟨rfl, b3⟩
      go_wp2_with fail
      refine (HG _ _ _).out.mono ?_
      rintro o w4 ⟨rfl, b4⟩
      go_wp2_with fail
      go_ret
      exact ⟨rfl, zbh⟩
    · obtain ⟨g, hg⟩ : ∃ g, g = sg m := ⟨_, rfl⟩
      have hk1 : (g == 0) = false := by rw [hg, beq_eq_false_iff_ne]; rcases zBy m with ⟨h, q⟩ | ⟨h, q⟩ | ⟨h, q⟩ <;> omega
      have hk2 : ¬ g = 0 := by simpa using hk1
      rw [← hg] at HG
      clear hg
      rw [if_neg hz] at hu
      obtain ⟨K, hK⟩ : ∃ K, K = qtk m.natAbs m'.natAbs 60 := ⟨_, rfl⟩
      have hl : 61 ≤ zA4 (m.natAbs * 2 ^ K / m'.natAbs) := zHA (by omega) (by omega) (by rw [hK]; unfold qtk; omega)
      have hl' : 54 ≤ zA4 (m.natAbs * 2 ^ qsh m m' 56 / m'.natAbs) := zHA (by omega) (by omega) (by unfold qsh; omega)
      have hKl : K ≤ 140000 := by rw [hK]; unfold qtk; omega
      have hQl : zA4 (m.natAbs * 2 ^ K / m'.natAbs) ≤ 300000 := by
       have h1 := zBm (Nat.div_le_self (m.natAbs * 2 ^ K) m'.natAbs)
       rw [zAi (by omega) K] at h1; omega
      have hq := zIL (decide (m < 0) != decide (m' < 0)) (A := m.natAbs) (B := m'.natAbs) (k := qsh m m' 56) (k' := K) (E - E') mode (by omega) hl' (by omega)
      rw [show E - (qsh m m' 56 : Int) - E' = E - E' - (qsh m m' 56 : Nat) by omega, hq] at hu
      have HR := fun W b c b' c' [i : BI W b (nl m.natAbs) c m.natAbs] [j : BI W b' (nl m'.natAbs) c' m'.natAbs] => Lib.hid (zIm W b b' c c' m.natAbs m'.natAbs 60 i.out j.out hB.1 hB'.1 (by omega) (by omega) (by omega) K _ _ hK rfl rfl)
      have HA := fun W b c [i : BI W b (nl m.natAbs) c m.natAbs] => Lib.hid (zLf (zJO W b c m _ rfl i.out (zAS (by omega))))
      have HA2 := fun W b c [i : BI W b (nl m'.natAbs) c m'.natAbs] => Lib.hid (zLf (zJO W b c m' _ rfl i.out (zAS (by omega))))
      have HO := fun W b c [i : BI W b (nl (m.natAbs * 2 ^ K / m'.natAbs)) c (m.natAbs * 2 ^ K / m'.natAbs)] [Tb W] => Lib.hid (frm (zCl W (decide (m < 0) != decide (m' < 0)) (decide (m.natAbs * 2 ^ K % m'.natAbs ≠ 0)) b c (m.natAbs * 2 ^ K / m'.natAbs) (E - E' - (K : Nat)) mode i.out (by rcases Nat.eq_zero_or_pos (m.natAbs * 2 ^ K / m'.natAbs) with h | h; rw [h] at hl; exact absurd hl (by decide); exact h) (by omega) (by omega) (by omega) (fun _ => by omega) tb))
      rw [← hu, show (decide (m < 0) != decide (m' < 0)) = !(decide (m < 0) == decide (m' < 0)) from rfl] at HO
      have t1 : IntKind.i64.wrap (E - E') = E - E' := by rw [IntKind.wrap_i64]; omega
      have t2 : wrap64 (E - E') = E - E' := by unfold wrap64; omega
      have t3 : IntKind.i64.wrap (E - E' + -(K : Int)) = E - E' - (K : Nat) := by rw [IntKind.wrap_i64]; omega
      have t4 : wrap64 (E - E' + -(K : Int)) = E - E' - (K : Nat) := by unfold wrap64; omega
      have t5 : E - E' + -(K : Int) = E - E' - (K : Nat) := by omega
      have t6 : wrap64 (E - E' - (K : Nat)) = E - E' - (K : Nat) := by unfold wrap64; omega
      generalize decide (m.natAbs * 2 ^ K % m'.natAbs ≠ 0) = mo at *
      generalize m.natAbs * 2 ^ K / m'.natAbs = Q at *
      generalize E - E' - ((K : Nat) : Int) = x2 at *
      clear hu hq hQl hKl hl hl' hK hz hz' hB hB'
      go_wp2_with fail
      refine (HG2 _ _ _).out.mono ?_
      rintro o w3 ⟨rfl, b3⟩
      go_wp2_with fail
      refine (HG _ _ _).out.mono ?_
      rintro o w4 ⟨rfl, b4⟩
      go_wp2_with fail
      go_cut [7, 8, 9] (fun p7 x8 x9 wx => ∃ z aq cq, p7 = .pointer (some ⟨z, 0, none⟩) ∧ x8 = .int .i64 (-(K : Int)) ∧ x9 = .bool mo ∧ BB wx z false (.slice aq (nl Q) cq) ∧ BI wx aq (nl Q) cq Q ∧ From w4 wx)
      case first =>
       first
       | go_region_held3 (fun w' => w'.cell? ⟨w.heap.size, 1, none⟩ = some (.bool (decide (m < 0))) ∧ w'.cell? ⟨w.heap.size, 2, none⟩ = some (.slice a1 (nl m.natAbs) c1) ∧ w'.cell? ⟨w.heap.size + 1, 1, none⟩ = some (.bool (decide (m' < 0))) ∧ w'.cell? ⟨w.heap.size + 1, 2, none⟩ = some (.slice a2 (nl m'.natAbs) c2)) (first | (go_simp; done))
        (first
         | (go_at_call 102; refine (HA _ _ _).out.mono ?_; rintro o w5 ⟨a5, c5, rfl, i5, b5, f5⟩)
         | (go_at_call 102; refine (HA2 _ _ _).out.mono ?_; rintro o w6 ⟨a6, c6, rfl, i6, b6, f6⟩)
         | (go_at_call 142; refine (HR _ _ _ _ _).out.mono ?_; rintro o w7 ⟨a7, c7, rfl, i7, b7, f7⟩; haveI g7 := FA.mk f7)
         | fail)
       | fail "region"
       all_goals (
        go_wp2_with fail
        go_meet
        exact ⟨_, a7, c7, rfl, rfl, rfl, inferInstance, inferInstance, ⟨zbh⟩⟩)
      case rest =>
       obtain ⟨z, aq, cq, rfl, rfl, rfl, V5, i8, b8⟩ := hcut
       generalize wc = v2 at *
       clear HR HA HA2 HG HG2
       go_wp2_with fail
       refine (HO _ _ _).out.mono ?_
       rintro o w9 ⟨rfl, b9⟩
       go_wp2_with fail
       go_ret
       exact ⟨rfl, zbh⟩
end Go.Proofs.YtablcbgeeeboeaaGreatDoor
namespace Go.Proofs.YtablcbgeeeboeaaGreatDoor
open Go.RowKit Sp
theorem sg0 {z : Int} (h : z = 0) : (sg z == 0) = true := by rw [h]; rfl
theorem sg1 {z : Int} (h : z ≠ 0) : (sg z == 0) = false := by
 rw [beq_eq_false_iff_ne]; unfold sg zAr; split <;> (try split) <;> omega
end Go.Proofs.YtablcbgeeeboeaaGreatDoor
set_option maxRecDepth 100000
set_option maxHeartbeats 20000000
namespace Go.Proofs.YtablcbgeeeboeaaGreatDoor
open Go.RowKit Sp
def zMZ (w : World) (x y E : Int) (e : Ending) (w' : World) : Prop :=
 ∃ a c a' c', e = .returned (.tuple #[.agg #[.bool (decide (x < 0)), .slice a (nl x.natAbs) c], .agg #[.bool (decide (y < 0)), .slice a' (nl y.natAbs) c'], .int .i64 E]) ∧ Mag w' a (nl x.natAbs) c x.natAbs ∧ Mag w' a' (nl y.natAbs) c' y.natAbs ∧ Below w.heap.size w w'
def ale (z f z' f' : Int) : Int := if z = 0 then f' else if z' = 0 then f else min f f'
attribute [local irreducible] Calls
theorem zMu (z f z' f' : Int) : (z = 0 ∧ up z f (ale z f z' f') = z ∧ up z' f' (ale z f z' f') = z' ∧ ale z f z' f' = f') ∨ (z ≠ 0 ∧ z' = 0 ∧ up z f (ale z f z' f') = z ∧ up z' f' (ale z f z' f') = z' ∧ ale z f z' f' = f) ∨
 (z ≠ 0 ∧ z' ≠ 0 ∧ f' < f ∧ up z f (ale z f z' f') = z * 2 ^ (f - f').toNat ∧ up z' f' (ale z f z' f') = z' ∧ ale z f z' f' = f') ∨ (z ≠ 0 ∧ z' ≠ 0 ∧ ¬ f' < f ∧ up z f (ale z f z' f') = z ∧ up z' f' (ale z f z' f') = z' * 2 ^ (f' - f).toNat ∧ ale z f z' f' = f) := by
 unfold ale
 by_cases hz : z = 0
 · left; rw [if_pos hz, zCt]; exact ⟨hz, by rw [hz, zB6], rfl, rfl⟩
 · rw [if_neg hz]
   by_cases hz' : z' = 0
   · right; left; rw [if_pos hz', zCt]; exact ⟨hz, hz', rfl, by rw [hz', zB6], rfl⟩
   · rw [if_neg hz']
     by_cases hf : f' < f
     · right; right; left; rw [show min f f' = f' by omega, zCt]; exact ⟨hz, hz', hf, rfl, rfl, rfl⟩
     · right; right; right; rw [show min f f' = f by omega, zCt]; exact ⟨hz, hz', hf, rfl, rfl, rfl⟩
theorem zIw (w : World) (bd bd' : Bool) (a a' : Option Addr) (c c' : Nat) (z z' f f' : Int) (hx : Mag w a (nl z.natAbs) c z.natAbs) (hy : Mag w a' (nl z'.natAbs) c' z'.natAbs) (hl : nl z.natAbs ≤ 549755813888) (hl' : nl z'.natAbs ≤ 549755813888) (h0 : -65536 ≤ f) (h1 : f ≤ 65536) (h0' : -65536 ≤ f') (h1' : f' ≤ 65536) :
 Calls Tryz.prog 124 #[.agg #[.bool bd, .bool (decide (z < 0)), .slice a (nl z.natAbs) c, .int .i64 f], .agg #[.bool bd', .bool (decide (z' < 0)), .slice a' (nl z'.natAbs) c', .int .i64 f']] w (zMZ w (up z f (ale z f z' f')) (up z' f' (ale z f z' f')) (ale z f z' f')) := by
 have hC := zMu z f z' f'
 obtain ⟨X, hX⟩ : ∃ X, X = up z f (ale z f z' f') := ⟨_, rfl⟩
 obtain ⟨Y, hY⟩ : ∃ Y, Y = up z' f' (ale z f z' f') := ⟨_, rfl⟩
 obtain ⟨K, hK⟩ : ∃ K, K = ale z f z' f' := ⟨_, rfl⟩
 rw [← hX, ← hY, ← hK] at hC ⊢
 have hC := Lib.hid hC
 have HX := Lib.hid hx
 have HY := Lib.hid hy
 have HS := fun W (h : Below w.heap.size w W) => Lib.hid (frm (zCR W a c z _ rfl (hx.below h) hl))
 have HS2 := fun W (h : Below w.heap.size w W) => Lib.hid (frm (zCR W a' c' z' _ rfl (hy.below h) hl'))
 clear hx hy hX hY hK
 go_enter Tryz.func124, Tryz.ntmps124
 go_upto_region 1 with fail
 go_cut [7, 8] (fun p7 p8 wx => ∃ y1 y2, p7 = .pointer (some ⟨y1, 0, none⟩) ∧ p8 = .pointer (some ⟨y2, 0, none⟩) ∧ w.heap.size + 3 < y1 ∧ w.heap.size + 3 < y2 ∧ DB wx w.heap.size bd (decide (z < 0)) (.slice a (nl z.natAbs) c) f ∧ DB wx (w.heap.size + 1) bd' (decide (z' < 0)) (.slice a' (nl z'.natAbs) c') f' ∧ BB wx (w.heap.size + 1 + 1) false (.slice none 0 0) ∧ BB wx (w.heap.size + 1 + 1 + 1) false (.slice none 0 0) ∧ BB wx y1 (decide (z < 0)) (.slice a (nl z.natAbs) c) ∧ BB wx y2 (decide (z' < 0)) (.slice a' (nl z'.natAbs) c') ∧ Beh w wx)
 case first =>
  first
  | go_big_region
  | fail "region"
  all_goals (
   go_wp2_with fail
   go_meet
   exact ⟨_, _, rfl, rfl, by first | omega | (simp only [World.size_alloc]; omega), by first | omega | (simp only [World.size_alloc]; omega), inferInstance, inferInstance, inferInstance, inferInstance, inferInstance, inferInstance, inferInstance⟩)
 case rest =>
  obtain ⟨y1, y2, rfl, rfl, q1, q2, V1, V2, V3, V4, V5, V6, b1⟩ := hcut
  generalize wc = v1 at *
  have hx := HX.out
  have hy := HY.out
  haveI n1 : NB y1 (w.heap.size + 1 + 1) := ⟨by omega⟩
  haveI n2 : NB y2 (w.heap.size + 1 + 1) := ⟨by omega⟩
  haveI n3 : NB y1 (w.heap.size + 1 + 1 + 1) := ⟨by omega⟩
  haveI n4 : NB y2 (w.heap.size + 1 + 1 + 1) := ⟨by omega⟩
  rcases hC.out with ⟨hz, rfl, rfl, rfl⟩ | ⟨hz, hz', rfl, rfl, rfl⟩ | ⟨hz, hz', hf, hX, rfl, rfl⟩ | ⟨hz, hz', hf, rfl, hY, rfl⟩
  · have g1 := sg0 hz
    generalize sg X = g at *
    clear hC hz
    go_wp2_with fail
    refine (HS _ zbh).out.mono ?_
    rintro o w2 ⟨rfl, b2⟩
    go_wp2_with fail
    first
    | go_big_region
    | fail "region"
    all_goals (
     go_wp2_with fail
     refine zAa (v := .tuple #[.agg #[.bool (decide (X < 0)), .slice a (nl X.natAbs) c], .agg #[.bool (decide (Y < 0)), .slice a' (nl Y.natAbs) c'], .int .i64 K]) (by simp only [results, Tryz.results124]; go_simp) rfl ?_
     exact ⟨a, c, a', c', rfl, hx.below zbh, hy.below zbh, zbh⟩)
  · have g1 := sg1 hz
    have g2 := sg0 hz'
    generalize sg X = g at *
    generalize sg Y = g' at *
    clear hC hz hz'
    go_wp2_with fail
    refine (HS _ zbh).out.mono ?_
    rintro o w2 ⟨rfl, b2⟩
    go_wp2_with fail
    refine (HS2 _ zbh).out.mono ?_
    rintro o w3 ⟨rfl, b3⟩
    go_wp2_with fail
    first
    | go_big_region
    | fail "region"
    all_goals (
     go_wp2_with fail
     refine zAa (v := .tuple #[.agg #[.bool (decide (X < 0)), .slice a (nl X.natAbs) c], .agg #[.bool (decide (Y < 0)), .slice a' (nl Y.natAbs) c'], .int .i64 K]) (by simp only [results, Tryz.results124]; go_simp) rfl ?_
     exact ⟨a, c, a', c', rfl, hx.below zbh, hy.below zbh, zbh⟩)
  · have g1 := sg1 hz
    have g2 := sg1 hz'
    have hc : decide (K < f) = true := by simpa using hf
    obtain ⟨k, hk⟩ : ∃ k, k = f - K := ⟨_, rfl⟩
    rw [← hk] at hX
    have hw : IntKind.i64.wrap (f - K) = k := by rw [IntKind.wrap_i64]; omega
    have HG := fun W (h : Below w.heap.size w W) => Lib.hid (frb (zMF W a c z k X hX (hx.below h) hl (by omega) (by omega)))
    generalize sg z = g at *
    generalize sg Y = g' at *
    clear hC hz hz' hX hk
    go_wp2_with fail
    refine (HS _ zbh).out.mono ?_
    rintro o w2 ⟨rfl, b2⟩
    go_wp2_with fail
    refine (HS2 _ zbh).out.mono ?_
    rintro o w3 ⟨rfl, b3⟩
    go_wp2_with fail
    first
    | go_region_held3 (fun w' => w'.cell? ⟨w.heap.size, 3, none⟩ = some (.int .i64 f) ∧ w'.cell? ⟨w.heap.size + 1, 3, none⟩ = some (.int .i64 K) ∧ w'.cell? ⟨y1, 0, none⟩ = some (.bool (decide (z < 0))) ∧ w'.cell? ⟨y1, 1, none⟩ = some (.slice a (nl z.natAbs) c) ∧ w'.cell? ⟨y2, 0, none⟩ = some (.bool (decide (Y < 0))) ∧ w'.cell? ⟨y2, 1, none⟩ = some (.slice a' (nl Y.natAbs) c')) (first | (go_simp; done)) (first | (go_at_call 63; refine (HG _ zbh).out.mono ?_; rintro o w5 ⟨av, cv, rfl, i5, b5, f5⟩; haveI g5 := FA.mk f5) | fail)
    | fail "region"
    all_goals (
     go_wp2_with fail
     refine zAa (v := .tuple #[.agg #[.bool (decide (X < 0)), .slice av (nl X.natAbs) cv], .agg #[.bool (decide (Y < 0)), .slice a' (nl Y.natAbs) c'], .int .i64 K]) (by simp only [results, Tryz.results124]; go_simp) rfl ?_
     exact ⟨av, cv, a', c', rfl, BI.out, hy.below zbh, zbh⟩)
  · have g1 := sg1 hz
    have g2 := sg1 hz'
    have hc : decide (f' < K) = false := by simpa using hf
    obtain ⟨k, hk⟩ : ∃ k, k = f' - K := ⟨_, rfl⟩
    rw [← hk] at hY
    have hw : IntKind.i64.wrap (f' - K) = k := by rw [IntKind.wrap_i64]; omega
    have HG := fun W (h : Below w.heap.size w W) => Lib.hid (frb (zMF W a' c' z' k Y hY (hy.below h) hl' (by omega) (by omega)))
    generalize sg X = g at *
    generalize sg z' = g' at *
    clear hC hz hz' hY hk
    go_wp2_with fail
    refine (HS _ zbh).out.mono ?_
    rintro o w2 ⟨rfl, b2⟩
    go_wp2_with fail
    refine (HS2 _ zbh).out.mono ?_
    rintro o w3 ⟨rfl, b3⟩
    go_wp2_with fail
    first
    | go_region_held3 (fun w' => w'.cell? ⟨w.heap.size, 3, none⟩ = some (.int .i64 K) ∧ w'.cell? ⟨w.heap.size + 1, 3, none⟩ = some (.int .i64 f') ∧ w'.cell? ⟨y1, 0, none⟩ = some (.bool (decide (X < 0))) ∧ w'.cell? ⟨y1, 1, none⟩ = some (.slice a (nl X.natAbs) c) ∧ w'.cell? ⟨y2, 0, none⟩ = some (.bool (decide (z' < 0))) ∧ w'.cell? ⟨y2, 1, none⟩ = some (.slice a' (nl z'.natAbs) c')) (first | (go_simp; done)) (first | (go_at_call 63; refine (HG _ zbh).out.mono ?_; rintro o w5 ⟨av, cv, rfl, i5, b5, f5⟩; haveI g5 := FA.mk f5) | fail)
    | fail "region"
    all_goals (
     go_wp2_with fail
     refine zAa (v := .tuple #[.agg #[.bool (decide (X < 0)), .slice a (nl X.natAbs) c], .agg #[.bool (decide (Y < 0)), .slice av (nl Y.natAbs) cv], .int .i64 K]) (by simp only [results, Tryz.results124]; go_simp) rfl ?_
     exact ⟨a, c, av, cv, rfl, hx.below zbh, BI.out, zbh⟩)
theorem zNZ (z f z' f' : Int) (h : Okd z f) (h' : Okd z' f') : nrm (up z f (ale z f z' f') + up z' f' (ale z f z' f')) (ale z f z' f') = nrm (up z f (min f f') + up z' f' (min f f')) (min f f') := by
 unfold ale
 by_cases hz : z = 0
 · subst hz
   rw [if_pos rfl, zB6, zB6, zCt, Int.zero_add, Int.zero_add, zEb _ _ _ (by omega)]
 · rw [if_neg hz]
   by_cases hz' : z' = 0
   · subst hz'
     rw [if_pos rfl, zB6, zB6, zCt, Int.add_zero, Int.add_zero, zEb _ _ _ (by omega)]
   · rw [if_neg hz']
theorem zOX (z f z' f' : Int) (h : -65536 ≤ f ∧ f ≤ 65536) (h' : -65536 ≤ f' ∧ f' ≤ 65536) : -65536 ≤ ale z f z' f' ∧ ale z f z' f' ≤ 65536 := by
 unfold ale; split <;> (try split) <;> omega
theorem zOY (z f z' f' : Int) (h : -65536 ≤ f ∧ f ≤ 65536) (h' : -65536 ≤ f' ∧ f' ≤ 65536) (hb : zA4 z.natAbs ≤ 131072) (hb' : zA4 z'.natAbs ≤ 131072) : zA4 (up z f (ale z f z' f')).natAbs ≤ 262144 ∧ zA4 (up z' f' (ale z f z' f')).natAbs ≤ 262144 := by
 unfold ale
 by_cases hz : z = 0
 · subst hz
   rw [if_pos rfl, zB6, zCt]; exact ⟨by decide, by omega⟩
 · rw [if_neg hz]
   by_cases hz' : z' = 0
   · subst hz'
     rw [if_pos rfl, zB6, zCt]; exact ⟨by omega, by decide⟩
   · rw [if_neg hz']
     exact ⟨zBx (by omega) (by omega), zBx (by omega) (by omega)⟩
end Go.Proofs.YtablcbgeeeboeaaGreatDoor
