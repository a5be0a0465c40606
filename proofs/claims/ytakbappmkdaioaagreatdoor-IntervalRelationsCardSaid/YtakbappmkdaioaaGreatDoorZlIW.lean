/-
  Plain law: relations, midpoints, radii, magnitudes of intervals as the reference reads them are the program's. No program in sight.
  Plain law: sums, products, quotients, squares, roots and hulls of intervals as the reference computes them are the program's. No program in sight.
-/
import Derived.Test.YtakbappmkdaioaaGreatDoorZlIP
namespace Go.Proofs.YtakbappmkdaioaaGreatDoor
open Go.RowKit Sp
set_option linter.unusedSimpArgs false

/-- the sign of a bound, and a bound rounded, as the reference reads them -/
def nsg (i : Int) (d : Option (Int × Int)) : Int := if i ≠ 0 then i else sg (dman d)
noncomputable def nrnd (i : Int) (d : Option (Int × Int)) (m : Int) : Nat := if i = 1 then fInf else if i = -1 then fNInf else fclean (fround d m)
theorem nrnd_of {f : Nat} (hf : f < 18446744073709551616) (nf : fnan f = false) (m : Int) : nrnd (nin f) (nof f) m = fclean f := by
  unfold nrnd
  rcases bound_cases hf nf with ⟨i, p⟩ | ⟨i, p⟩ | ⟨i, e, ff, _, _⟩
  · have := (place_top hf nf).1 p; subst this; rw [i, if_pos rfl]; decide
  · have := (place_bot hf nf).1 p; subst this; rw [i, if_neg (by decide), if_pos rfl]; decide
  · rw [i, e, if_neg (by decide), if_neg (by decide)]
    by_cases h0 : fM f = 0
    · rw [fof_fin ff, fz_zero.2 h0, fround_zero]
      have : f = 0 ∨ f = 9223372036854775808 := by unfold fM at h0; omega
      rcases this with h | h <;> subst h <;> decide
    · rw [fround_of hf ff h0]
theorem dman_sgn {M E : Int} (h : nrm M E ≠ none) : (dman (nrm M E) < 0 ↔ M < 0) ∧ (0 < dman (nrm M E) ↔ 0 < M) := by
  have h0 : nrm 0 E = some (0, 0) := nrm_zero E
  have v0 : nrm 0 E ≠ none := by rw [h0]; simp
  have c1 := dcmp_nrm M 0 E h v0
  rw [h0] at c1
  cases k : nrm M E with
  | none => exact absurd k h
  | some p =>
    obtain ⟨m, e⟩ := p
    rw [k] at c1
    have e1 : dcmp (some (m, e)) (some (0, 0)) = cmpI (up m e (min e 0)) (up 0 0 (min e 0)) := rfl
    rw [e1] at c1
    have hp : (0 : Int) < 2 ^ (e - min e 0).toNat := Int.pow_pos (by decide)
    have e2 : up 0 0 (min e 0) = 0 := by unfold up; exact Int.zero_mul _
    rw [e2] at c1
    unfold up at c1
    show (m < 0 ↔ M < 0) ∧ (0 < m ↔ 0 < M)
    have g1 := @cmpI_neg_iff (m * 2 ^ (e - min e 0).toNat) 0
    have g2 := @cmpI_pos_iff (m * 2 ^ (e - min e 0).toNat) 0
    have g3 := @cmpI_neg_iff M 0
    have g4 := @cmpI_pos_iff M 0
    rw [c1] at g1 g2
    refine ⟨?_, ?_⟩
    · rw [← g3, g1]
      constructor
      · intro h; exact Int.mul_neg_of_neg_of_pos h hp
      · intro h
        by_cases hm : m < 0
        · exact hm
        · exact absurd h (Int.not_lt.2 (Int.mul_nonneg (by omega) (Int.le_of_lt hp)))
    · rw [← g4, g2]
      constructor
      · intro h; exact Int.mul_pos h hp
      · intro h
        by_cases hm : 0 < m
        · exact hm
        · exact absurd h (Int.not_lt.2 (Int.mul_nonpos_of_nonpos_of_nonneg (by omega) (Int.le_of_lt hp)))
theorem nsg_of {f : Nat} (hf : f < 18446744073709551616) (nf : fnan f = false) : (nsg (nin f) (nof f) ≤ 0 ↔ fplace f ≤ 0) ∧ (0 ≤ nsg (nin f) (nof f) ↔ 0 ≤ fplace f) := by
  have t := TT_pos
  unfold nsg
  rcases bound_cases hf nf with ⟨i, p⟩ | ⟨i, p⟩ | ⟨i, e, ff, _, _⟩
  · rw [i, p, if_pos (by decide)]; constructor <;> constructor <;> intro h <;> omega
  · rw [i, p, if_pos (by decide)]; constructor <;> constructor <;> intro h <;> omega
  · rw [i, e, if_neg (by decide), fof_fin ff]
    have d := dman_sgn (fof_some ff)
    have z := fz_sign f
    rcases sg_cases (dman (nrm (fz f) (-1074))) with ⟨s, q⟩ | ⟨s, q⟩ | ⟨s, q⟩ <;> rw [s] <;> constructor <;> constructor <;> intro h <;> omega

/-! ### containment, interior -/
theorem dcmp_anti (d e : Option (Int × Int)) : dcmp d e = - dcmp e d := by
  cases d with
  | none => cases e <;> rfl
  | some p => cases e with
    | none => rfl
    | some q =>
      obtain ⟨m, e⟩ := p
      obtain ⟨n, f⟩ := q
      show cmpI (up m e (min e f)) (up n f (min e f)) = - cmpI (up n f (min f e)) (up m e (min f e))
      rw [Int.min_comm f e]
      unfold cmpI
      repeat' split
      all_goals omega
theorem rcont_eq {x : Nat × Nat} (hx : Lt64 x) (d : Option (Int × Int)) : rcont x d = icont x d := by
  have t := TT_pos
  unfold rcont icont
  cases h : iok x
  · rfl
  · cases k : dbad d
    · obtain ⟨n1, n2, _, h1, h2⟩ := (iok_iff hx).1 h
      have b1 := place_bot hx.1 n1
      have b2 := place_top hx.2 n2
      have L : (!nless 0 d (nin x.1) (nof x.1)) = (decide (x.1 = fNInf) || decide (dcmp (fof x.1) d ≤ 0)) := by
        unfold nless
        rcases bound_cases hx.1 n1 with ⟨i, p⟩ | ⟨i, p⟩ | ⟨i, e, ff, _, _⟩
        · omega
        · rw [i, show x.1 = fNInf from b1.1 p]; rfl
        · rw [i, e, if_neg (by decide), dcmp_anti d (fof x.1)]
          have : decide (x.1 = fNInf) = false := by
            rw [decide_eq_false_iff_not]; intro q; have := b1.2 q; omega
          rw [this, Bool.false_or, Bool.eq_iff_iff, Bool.not_eq_true', decide_eq_true_eq, decide_eq_false_iff_not]
          omega
      have U : (!nless (nin x.2) (nof x.2) 0 d) = (decide (x.2 = fInf) || decide (0 ≤ dcmp (fof x.2) d)) := by
        unfold nless
        rcases bound_cases hx.2 n2 with ⟨i, p⟩ | ⟨i, p⟩ | ⟨i, e, ff, _, _⟩
        · rw [i, show x.2 = fInf from b2.1 p]; rfl
        · omega
        · rw [i, e, if_neg (by decide)]
          have : decide (x.2 = fInf) = false := by
            rw [decide_eq_false_iff_not]; intro q; have := b2.2 q; omega
          rw [this, Bool.false_or, Bool.eq_iff_iff, Bool.not_eq_true', decide_eq_true_eq, decide_eq_false_iff_not]
          omega
      rw [L, U]
    · rfl
def rins (x y : Nat × Nat) : Bool := iok x && iok y && (decide (y.1 = fNInf) || nless (nin y.1) (nof y.1) (nin x.1) (nof x.1)) && (decide (y.2 = fInf) || nless (nin x.2) (nof x.2) (nin y.2) (nof y.2))
theorem rins_eq {x y : Nat × Nat} (hx : Lt64 x) (hy : Lt64 y) : rins x y = iinside x y := by
  unfold rins iinside
  cases h : iok x
  · rfl
  · cases k : iok y
    · rfl
    · obtain ⟨n1, n2, _⟩ := (iok_iff hx).1 h
      obtain ⟨m1, m2, _⟩ := (iok_iff hy).1 k
      rw [nless_of hy.1 hx.1 m1 n1, nless_of hx.2 hy.2 n2 m2, fless_place m1 n1, fless_place n2 m2]

/-! ### the intersection: the bounds chosen by the reference -/
theorem nless_f {a b : Nat} (ha : a < 18446744073709551616) (hb : b < 18446744073709551616) (na : fnan a = false) (nb : fnan b = false) :
    nless (nin a) (nof a) (nin b) (nof b) = fless a b := by rw [nless_of ha hb na nb, fless_place na nb]

/-! ### radius, mignitude -/
theorem fround_sign {M : Int} {g : Nat} {m : Int} (h : nrm M (-1074 - (g : Int)) ≠ none) (h0 : 0 ≤ M) : fS (fround (nrm M (-1074 - (g : Int))) m) = false := by
  by_cases hz : M = 0
  · subst hz; rw [fround_zero]; decide
  · obtain ⟨c, _, h2⟩ := fround_grid M g m hz h
    rw [h2, fcut_S]; simp; omega
theorem fclean_pos {f : Nat} (h : fS f = false) : fclean f = f := by
  unfold fclean
  by_cases h1 : f = 9223372036854775808
  · subst h1; revert h; decide
  · rw [if_neg h1]
theorem eq_of_place {a b : Nat} (ha : a < 18446744073709551616) (hb : b < 18446744073709551616) (sa : fS a = false) (sb : fS b = false) (h : fplace a = fplace b) : a = b := by
  rw [fplace_eq, fplace_eq, sa, sb] at h
  have h' : (fM a : Int) = (fM b : Int) := h
  rw [← fsgn_self ha, ← fsgn_self hb, sa, sb, Int.ofNat.inj h']
theorem irad_ref {x : Nat × Nat} (hx : Lt64 x) (h : iok x = true) (h1 : ¬ x.1 = fNInf) (h2 : ¬ x.2 = fInf) :
    irad x = fclean (fround (if dcmp (dsub (fof (imid x)) (fof x.1)) (dsub (fof x.2) (fof (imid x))) < 0 then dsub (fof x.2) (fof (imid x)) else dsub (fof (imid x)) (fof x.1)) 2) := by
  obtain ⟨n1, n2, hle, l1, l2⟩ := (iok_iff hx).1 h
  have b1 := place_bound n1
  have b2 := place_bound n2
  have t1 : fplace x.1 ≠ -TT := fun q => h1 ((place_bot hx.1 n1).1 q)
  have t2 : fplace x.2 ≠ TT := fun q => h2 ((place_top hx.2 n2).1 q)
  have f1 : ffin x.1 = true := fin_of n1 (by omega) (by omega)
  have f2 : ffin x.2 = true := fin_of n2 (by omega) (by omega)
  obtain ⟨fm, m1, m2⟩ := imid_in hx h
  have hv : irad x = fmax2 (fround (dsub (fof (imid x)) (fof x.1)) 2) (fround (dsub (fof x.2) (fof (imid x))) 2) := by
    unfold irad; rw [h]; simp [h1, h2, dsub]
  rw [hv]
  unfold dsub
  rw [(fsub_val fm f1).1, (fsub_val f2 fm).1]
  have vA := (fsub_val fm f1).2
  have vB := (fsub_val f2 fm).2
  rw [dcmp_nrm _ _ _ vA vB]
  have pA : 0 ≤ fz (imid x) - fz x.1 := by have := (@fz_le x.1 (imid x)).2 m1; omega
  have pB : 0 ≤ fz x.2 - fz (imid x) := by have := (@fz_le (imid x) x.2).2 m2; omega
  generalize fz (imid x) - fz x.1 = A at *
  generalize fz x.2 - fz (imid x) = B at *
  rw [g0] at vA vB ⊢
  have sA := fround_sign (m := 2) vA pA
  have sB := fround_sign (m := 2) vB pB
  have qA := (fround_place A 0 2 vA).1
  have qB := (fround_place B 0 2 vB).1
  have lA := fround_lt' (nrm A (-1074 - ((0 : Nat) : Int))) 2
  have lB := fround_lt' (nrm B (-1074 - ((0 : Nat) : Int))) 2
  have hc := @cmpI_neg_iff A B
  unfold fmax2
  rw [fless_place qA qB]
  by_cases hAB : A < B
  · have mo := fround_mono A B 0 2 vA vB (by omega)
    rw [if_pos (hc.2 hAB), fclean_pos sB]
    by_cases hl : fplace (fround (nrm A (-1074 - ((0 : Nat) : Int))) 2) < fplace (fround (nrm B (-1074 - ((0 : Nat) : Int))) 2)
    · rw [if_pos (decide_eq_true hl)]
    · rw [if_neg (fun q => hl (of_decide_eq_true q))]
      exact eq_of_place lA lB sA sB (by omega)
  · have mo := fround_mono B A 0 2 vB vA (by omega)
    rw [if_neg (fun q => hAB (hc.1 q)), fclean_pos sA, if_neg (fun q => by have := of_decide_eq_true q; omega)]
theorem imig_ref {x : Nat × Nat} (hx : Lt64 x) (h : iok x = true) :
    imig x = if nsg (nin x.1) (nof x.1) ≤ 0 ∧ 0 ≤ nsg (nin x.2) (nof x.2) then 0 else if fcmpv (fabs x.1) (fabs x.2) < 0 then fabs x.1 else fabs x.2 := by
  obtain ⟨n1, n2, _, _, _⟩ := (iok_iff hx).1 h
  have z := izero_iff hx h
  have s1 := (nsg_of hx.1 n1).1
  have s2 := (nsg_of hx.2 n2).2
  have e : imig x = if izero x then 0 else fmin2 (fabs x.1) (fabs x.2) := by unfold imig; rw [h]; rfl
  rw [e]
  by_cases k : izero x = true
  · rw [if_pos k, if_pos ⟨s1.2 (z.1 k).1, s2.2 (z.1 k).2⟩]
  · rw [if_neg k, if_neg (fun q => k (z.2 ⟨s1.1 q.1, s2.1 q.2⟩))]
    obtain ⟨a1, p1⟩ := fabs_place n1
    obtain ⟨a2, p2⟩ := fabs_place n2
    have v1 := fless_place a1 a2
    have v2 := fless_place a2 a1
    have w1 : fless (fabs x.1) (fabs x.2) = decide (fcmpv (fabs x.1) (fabs x.2) < 0) := rfl
    unfold fmin2
    rw [v2]
    rw [w1] at v1
    have v1' : fcmpv (fabs x.1) (fabs x.2) < 0 ↔ fplace (fabs x.1) < fplace (fabs x.2) := by simpa using v1
    by_cases c : fplace (fabs x.1) < fplace (fabs x.2)
    · rw [if_pos (v1'.2 c), if_neg (by simp; omega)]
    · rw [if_neg (fun q => c (v1'.1 q))]
      by_cases c2 : fplace (fabs x.2) < fplace (fabs x.1)
      · rw [if_pos (by simpa using c2)]
      · rw [if_neg (by simpa using c2)]
        have q1 := place_nat (fabs_lt' x.1)
        have q2 := place_nat (fabs_lt' x.2)
        have : (fabs x.1 : Int) = (fabs x.2 : Int) := by omega
        exact Int.ofNat.inj this

end Go.Proofs.YtakbappmkdaioaaGreatDoor

namespace Go.Proofs.YtakbappmkdaioaaGreatDoor
open Go.RowKit Sp
set_option linter.unusedSimpArgs false

/-! ### floats told by their places; -0 left out -/
/-! ### the reference's numbers: an infinity, or a dyad -/
def nb (f : Nat) : Int × Option (Int × Int) := (nin f, nof f)
noncomputable def nout (p q : Int × Option (Int × Int)) : Nat × Nat := (nrnd p.1 p.2 1, nrnd q.1 q.2 2)
/-! ### bounds -/
/-! ### sums, differences, products -/
/-! ### hulls, squares, roots -/
/-! ### quotients -/
end Go.Proofs.YtakbappmkdaioaaGreatDoor

