/-
  Plain law: the quotients rounded down and up enclose the exact one. No program in sight.
  Plain laws: slim dyads form a ring; scaling, Log2, Floor; rounding; square roots. No program in sight.
-/
import Derived.Test.YtablcbgeeeboeaaGreatDoorZdBe
namespace Go.Proofs.YtablcbgeeeboeaaGreatDoor
open Go.RowKit Sp
theorem nrm_valid {m e : Int} (h1 : -65536 ≤ e) (h2 : e + blen m.natAbs ≤ 65536) : nrm m e ≠ none := by
 intro h; have := nrm_none.1 h; omega
theorem blen_mul_le (x y : Nat) : blen (x * y) ≤ blen x + blen y := by
 refine blen_le ?_
 rw [Nat.pow_add]
 exact Nat.mul_lt_mul'' (lt_blen x) (lt_blen y)
theorem blen_add_le (x y : Nat) : blen (x + y) ≤ max (blen x) (blen y) + 1 := by
 refine blen_le ?_
 rw [Nat.pow_succ]
 have h1 := Nat.lt_of_lt_of_le (lt_blen x) (Nat.pow_le_pow_right (n := 2) (by omega) (Nat.le_max_left (blen x) (blen y)))
 have h2 := Nat.lt_of_lt_of_le (lt_blen y) (Nat.pow_le_pow_right (n := 2) (by omega) (Nat.le_max_right (blen x) (blen y)))
 omega
theorem blen_div_pow (x c : Nat) : blen (x / 2 ^ c) ≤ blen x - c := by
 by_cases h : c ≤ blen x
 · refine blen_le ?_
   rw [Nat.div_lt_iff_lt_mul (Nat.pow_pos (by decide)), ← Nat.pow_add, show blen x - c + c = blen x by omega]
   exact lt_blen x
 · have : x / 2 ^ c = 0 := Nat.div_eq_of_lt (Nat.lt_of_lt_of_le (lt_blen x) (Nat.pow_le_pow_right (by decide) (by omega)))
   rw [this]; exact Nat.zero_le _
theorem sgn_true (x : Nat) : sgn true x = -(x : Int) := rfl
theorem sgn_false (x : Nat) : sgn false x = (x : Int) := rfl
theorem cmpI_le {m n : Int} : cmpI m n ≤ 0 ↔ m ≤ n := by unfold cmpI; split <;> (try split) <;> omega
theorem cmpI_eq0 {m n : Int} : cmpI m n = 0 ↔ m = n := by unfold cmpI; split <;> (try split) <;> omega
theorem bl_add (M N : Int) : blen (M + N).natAbs ≤ max (blen M.natAbs) (blen N.natAbs) + 1 :=
 Nat.le_trans (blen_mono (Int.natAbs_add_le M N)) (blen_add_le _ _)
theorem bl_mul (M N : Int) : blen (M * N).natAbs ≤ blen M.natAbs + blen N.natAbs := by
 rw [Int.natAbs_mul]; exact blen_mul_le _ _
theorem dneg_nrm (M E : Int) (h : nrm M E ≠ none) : dneg (nrm M E) = nrm (-M) E := by
 cases k : nrm M E with
 | none => exact absurd k h
 | some p =>
  obtain ⟨m, e⟩ := p
  show some (-m, e) = _
  by_cases h0 : M = 0
  · subst h0; rw [nrm_zero] at k; injection k with k; injection k with h1 h2; subst h1 h2; rfl
  · obtain ⟨t, ht, he, _⟩ := nrm_some h0 k
    rw [ht, ← Int.neg_mul, nrm_scale, ← he]
    exact (nrm_self (okd_neg (nrm_ok k))).symm
theorem isq_ex (x : Nat) : ∃ r, r * r ≤ x ∧ x < (r + 1) * (r + 1) := by
 induction x with
 | zero => exact ⟨0, by decide⟩
 | succ n ih =>
  obtain ⟨r, h1, h2⟩ := ih
  by_cases h : n + 1 < (r + 1) * (r + 1)
  · exact ⟨r, by omega, h⟩
  · refine ⟨r + 1, by omega, ?_⟩
    have h3 : (r + 1 + 1) * (r + 1 + 1) = (r + 1) * (r + 1) + 2 * r + 3 := by grind
    omega
noncomputable def isq (x : Nat) : Nat := Classical.choose (isq_ex x)
theorem isq_le (x : Nat) : isq x * isq x ≤ x := (Classical.choose_spec (isq_ex x)).1
theorem isq_lt (x : Nat) : x < (isq x + 1) * (isq x + 1) := (Classical.choose_spec (isq_ex x)).2
theorem sq_lt {a b : Nat} (h : a < b) : a * a < b * b := Nat.mul_self_lt_mul_self h
theorem sq_le {a b : Nat} (h : a ≤ b) : a * a ≤ b * b := Nat.mul_self_le_mul_self h
theorem isq_sq (k : Nat) : isq (k * k) = k := by
 have h1 := isq_le (k * k)
 have h2 := isq_lt (k * k)
 rcases Nat.lt_trichotomy (isq (k * k)) k with h | h | h
 · have := sq_le (show isq (k * k) + 1 ≤ k by omega); omega
 · exact h
 · have := sq_lt h; omega
def rsh (m e p : Int) : Nat :=
 if (e - (max 0 (2 * (p + 3) - blen m.natAbs)).toNat) % 2 ≠ 0 then (max 0 (2 * (p + 3) - blen m.natAbs)).toNat + 1 else (max 0 (2 * (p + 3) - blen m.natAbs)).toNat
theorem rsh_even (m e p : Int) : (e - rsh m e p) % 2 = 0 := by unfold rsh; split <;> omega
theorem rsh_ge (m e p : Int) : 2 * (p + 3) ≤ blen m.natAbs + rsh m e p := by unfold rsh; split <;> omega
theorem rsh_le (m e p : Int) (hp : 0 ≤ p) : (rsh m e p : Int) ≤ 2 * (p + 3) + 1 := by unfold rsh; split <;> omega
end Go.Proofs.YtablcbgeeeboeaaGreatDoor
