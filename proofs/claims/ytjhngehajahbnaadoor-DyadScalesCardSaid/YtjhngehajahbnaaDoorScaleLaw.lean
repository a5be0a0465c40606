/-
  Plain law: scaling there and back, Log2, Floor. No program in sight.
-/
import Derived.Test.YtjhngehajahbnaaDoorRingLaw
namespace Go.Proofs.YtjhngehajahbnaaDoor
open Go.RowKit Sp

/-! ### scaling, Log2, Floor -/
theorem dscale_back {m e n : Int} (h : Slim m e) (h0 : -2000 ≤ n) (h1 : n ≤ 2000) : dscale (some (m, e)) n ≠ none ∧ dscale (dscale (some (m, e)) n) (-n) = some (m, e) := by
  have hb := h.bounds
  have e1 : dscale (some (m, e)) n = nrm m (e + n) := by
    show nrm m (e + max (min n 262144) (-262144)) = _
    congr 1; omega
  rw [e1]
  have hv : nrm m (e + n) ≠ none := nrm_valid (by omega) (by omega)
  refine ⟨hv, ?_⟩
  by_cases hm : m = 0
  · have : e = 0 := by rcases h with h | h <;> omega
    subst hm this; rfl
  · have ho : m % 2 = 1 := by rcases h with h | h <;> omega
    have e2 : nrm m (e + n) = some (m, e + n) := nrm_self (Or.inr ⟨ho, by omega, by omega⟩)
    rw [e2]
    show nrm m (e + n + max (min (-n) 262144) (-262144)) = _
    rw [show e + n + max (min (-n) 262144) (-262144) = e by omega]
    exact nrm_self h.okd
theorem sg_eq (z : Int) : cmpI z 0 = (if z < 0 then -1 else if 0 < z then 1 else 0) := rfl
/-- the sign of a dyad is that of its integer -/
theorem dman_sign {M E m e : Int} (h : nrm M E = some (m, e)) : cmpI m 0 = cmpI M 0 := by
  by_cases h0 : M = 0
  · subst h0; rw [nrm_zero] at h; injection h with h; injection h with h1 h2; subst h1; rfl
  · obtain ⟨t, ht, _⟩ := nrm_some h0 h
    have a2 := mul_pow_neg m t
    rw [← ht] at a2
    exact (cmpI_sign a2.1.symm a2.2.symm).1
theorem dfloor_law {m e : Int} (h : Slim m e) : ∃ g r : Int, blen (dfloor (some (m, e))).natAbs ≤ 2640 ∧ nrm (dfloor (some (m, e))) 0 ≠ none ∧ dadd (some (m, e)) (dneg (nrm (dfloor (some (m, e))) 0)) = some (g, r) ∧ ¬ cmpI g 0 < 0 ∧ dcmp (some (g, r)) (some (1, 0)) < 0 := by
  have hb := h.bounds
  have em := nrm_self h.okd
  by_cases he : 0 ≤ e
  · have e1 : dfloor (some (m, e)) = up m e 0 := by
      show shl m e = _
      unfold shl up; rw [if_pos he, Int.sub_zero]
    rw [e1, nrm_up _ _ _ he, em]
    have hl : blen (up m e 0).natAbs ≤ 2640 := by
      by_cases h0 : m = 0
      · subst h0; rw [up_zero]; decide
      · have := blen_up he h0; omega
    refine ⟨0, 0, hl, by simp, ?_, by decide, by decide⟩
    have hv : nrm m e ≠ none := by rw [em]; simp
    have hv' : nrm (-m) e ≠ none := nrm_valid (by omega) (by rw [Int.natAbs_neg]; omega)
    rw [← em, dneg_nrm _ _ hv, dadd_nrm _ _ _ hv hv', Int.add_right_neg]; rfl
  · obtain ⟨k, hk⟩ : ∃ k : Nat, e = -(k : Int) := ⟨(-e).toNat, by omega⟩
    have e1 : dfloor (some (m, e)) = m / 2 ^ k := by
      show shl m e = _
      unfold shl; rw [if_neg he]; congr 2; omega
    have hp := pow2_pos k
    obtain ⟨q, hq⟩ : ∃ q, q = m / 2 ^ k := ⟨_, rfl⟩
    have hdm := Int.mul_ediv_add_emod m (2 ^ k)
    have hm0 := Int.emod_nonneg m (Int.ne_of_gt hp)
    have hm1 := Int.emod_lt_of_pos m hp
    rw [e1, ← hq]
    rw [← hq] at hdm
    obtain ⟨R, hR⟩ : ∃ R, R = m % 2 ^ k := ⟨_, rfl⟩
    rw [← hR] at hdm hm0 hm1
    have hql : q.natAbs ≤ m.natAbs := by
      rw [hq]
      exact Int.natAbs_ediv_le_natAbs _ _
    have hbq := blen_mono hql
    have v0 : nrm q 0 ≠ none := nrm_valid (by omega) (by omega)
    have e2 : nrm q 0 = nrm (q * 2 ^ k) e := by rw [nrm_scale, hk]; congr 1; omega
    have v1 : nrm (q * 2 ^ k) e ≠ none := by rw [← e2]; exact v0
    have v2 : nrm (-(q * 2 ^ k)) e ≠ none := by
      rw [← dneg_nrm _ _ v1]
      cases h5 : nrm (q * 2 ^ k) e with
      | none => exact absurd h5 v1
      | some p => obtain ⟨x, y⟩ := p; simp [dneg]
    have v3 : nrm m e ≠ none := by rw [em]; simp
    have hsum : m + -(q * 2 ^ k) = R := by rw [Int.mul_comm] at hdm; omega
    have hRl : blen R.natAbs ≤ k := by
      refine blen_le ?_
      have h6 : ((R.natAbs : Nat) : Int) < ((2 ^ k : Nat) : Int) := by rw [pow2_nat]; omega
      exact Int.ofNat_lt.1 h6
    have v4 : nrm R e ≠ none := nrm_valid (by omega) (by omega)
    have e3 : dadd (some (m, e)) (dneg (nrm q 0)) = nrm R e := by
      rw [e2, dneg_nrm _ _ v1, ← em, dadd_nrm _ _ _ v3 v2, hsum]
    cases h7 : nrm R e with
    | none => exact absurd h7 v4
    | some p =>
      obtain ⟨g, r⟩ := p
      refine ⟨g, r, by omega, v0, by rw [e3, h7], ?_, ?_⟩
      · rw [dman_sign h7]; unfold cmpI; rw [if_neg (by omega)]; split <;> decide
      · have e4 : some ((1 : Int), (0 : Int)) = nrm (2 ^ k) e := by
          have := nrm_scale 1 e k
          rw [Int.one_mul] at this
          rw [this, hk, show -(k : Int) + k = 0 by omega]
          rfl
        have v5 : nrm (2 ^ k) e ≠ none := by rw [← e4]; simp
        rw [← h7, e4, dcmp_nrm _ _ _ v4 v5]
        unfold cmpI; rw [if_pos hm1]; decide
theorem dlog_law {m e : Int} (h : Slim m e) (h0 : m ≠ 0) : dscale (some (1, 0)) (dlog (some (m, e))) ≠ none ∧ dscale (some (1, 0)) (dlog (some (m, e)) + 1) ≠ none ∧ dcmp (dscale (some (1, 0)) (dlog (some (m, e)))) (dabs (some (m, e))) ≤ 0 ∧ dcmp (dabs (some (m, e))) (dscale (some (1, 0)) (dlog (some (m, e)) + 1)) < 0 ∧ -4640 ≤ dlog (some (m, e)) ∧ dlog (some (m, e)) ≤ 4640 := by
  have hb := h.bounds
  have hz := blen_nz h0
  have e1 : dlog (some (m, e)) = e + blen m.natAbs - 1 := by simp [dlog, h0]
  rw [e1]
  obtain ⟨k, hk⟩ : ∃ k, blen m.natAbs = k + 1 := ⟨blen m.natAbs - 1, by omega⟩
  have l1 := blen_le_self (Int.natAbs_pos.2 h0)
  have l2 := lt_blen m.natAbs
  rw [hk] at l1 l2
  rw [Nat.add_sub_cancel] at l1
  rw [hk]
  have p1 : ∀ j : Nat, j ≤ 641 → dscale (some (1, 0)) (e + j) = nrm (2 ^ j) e ∧ nrm (2 ^ j) e ≠ none := by
    intro j hj
    have h1 : dscale (some (1, 0)) (e + j) = nrm 1 (e + j) := by
      show nrm 1 (0 + max (min (e + j) 262144) (-262144)) = _
      congr 1; omega
    have h2 := nrm_scale 1 e j
    rw [Int.one_mul] at h2
    rw [h1, h2]
    refine ⟨rfl, nrm_valid (by omega) ?_⟩
    have : blen (1 : Int).natAbs = 1 := rfl
    omega
  obtain ⟨q1, q2⟩ := p1 k (by omega)
  obtain ⟨q3, q4⟩ := p1 (k + 1) (by omega)
  rw [show e + ((k + 1 : Nat) : Int) - 1 + 1 = e + ((k + 1 : Nat) : Int) by omega, show e + ((k + 1 : Nat) : Int) - 1 = e + k by omega, q1, q3]
  have em := nrm_self (okd_abs h.okd)
  have e3 : dabs (some (m, e)) = nrm (m.natAbs : Int) e := by rw [em]; rfl
  have v3 : nrm (m.natAbs : Int) e ≠ none := by rw [em]; simp
  rw [e3]
  have c1 : (2 : Int) ^ k ≤ (m.natAbs : Int) := by rw [← pow2_nat]; omega
  have c2 : (m.natAbs : Int) < (2 : Int) ^ (k + 1) := by rw [← pow2_nat]; omega
  refine ⟨q2, q4, ?_, ?_, by omega, by omega⟩
  · rw [dcmp_nrm _ _ _ q2 v3, cmpI_le]; exact c1
  · rw [dcmp_nrm _ _ _ v3 q4]; unfold cmpI; rw [if_pos c2]; decide

end Go.Proofs.YtjhngehajahbnaaDoor
