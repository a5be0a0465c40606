/-
  Plain law: slim dyads form a ring. No program in sight.
-/
import Derived.Test.YtjhngehajahbnaaDoorQuoLaw
namespace Go.Proofs.YtjhngehajahbnaaDoor
open Go.RowKit Sp

/-! ### slim dyads in units of 2^-2000 -/
theorem slim_up {m e : Int} (h : Slim m e) : ∃ M : Int, nrm M (-2000) = some (m, e) ∧ blen M.natAbs ≤ 4640 := by
  refine ⟨up m e (-2000), ?_, ?_⟩
  · by_cases h0 : m = 0
    · have : e = 0 := by rcases h with h | h <;> omega
      subst h0 this; rw [up_zero]; rfl
    · rw [nrm_up _ _ _ (h.bounds.2.1)]; exact nrm_self h.okd
  · by_cases h0 : m = 0
    · subst h0; rw [up_zero]; decide
    · have h1 := blen_up h.bounds.2.1 h0
      have h2 := h.bounds
      omega
theorem nv {M E : Int} {k : Nat} (h : blen M.natAbs ≤ k) (h1 : -65536 ≤ E) (h2 : E + k ≤ 65536) : nrm M E ≠ none := nrm_valid h1 (by omega)
theorem bl_add (M N : Int) : blen (M + N).natAbs ≤ max (blen M.natAbs) (blen N.natAbs) + 1 :=
  Nat.le_trans (blen_mono (Int.natAbs_add_le M N)) (blen_add_le _ _)
theorem bl_mul (M N : Int) : blen (M * N).natAbs ≤ blen M.natAbs + blen N.natAbs := by
  rw [Int.natAbs_mul]; exact blen_mul_le _ _
theorem dneg_nrm (M E : Int) (h : nrm M E ≠ none) : dneg (nrm M E) = nrm (-M) E := by
  cases k : nrm M E with
  | none => exact absurd k h
  | some p =>
    obtain ⟨m, e⟩ := p
    show some (-m, e) = _
    by_cases h0 : M = 0
    · subst h0; rw [nrm_zero] at k; injection k with k; injection k with h1 h2; subst h1 h2; rfl
    · obtain ⟨t, ht, he, _⟩ := nrm_some h0 k
      rw [ht, ← Int.neg_mul, nrm_scale, ← he]
      exact (nrm_self (okd_neg (nrm_ok k))).symm
theorem dadd_comm (a b : Option (Int × Int)) : dadd a b = dadd b a := by
  unfold dadd
  cases a <;> cases b <;> try rfl
  rename_i p q
  obtain ⟨m, e⟩ := p
  obtain ⟨n, f⟩ := q
  show nrm _ (min e f) = nrm _ (min f e)
  rw [Int.min_comm f e, Int.add_comm]
theorem dmul_comm (a b : Option (Int × Int)) : dmul a b = dmul b a := by
  unfold dmul
  cases a <;> cases b <;> try rfl
  rename_i p q
  obtain ⟨m, e⟩ := p
  obtain ⟨n, f⟩ := q
  show nrm _ (e + f) = nrm _ (f + e)
  rw [Int.mul_comm, Int.add_comm]
theorem dadd_none (a : Option (Int × Int)) : dadd a none = none := by cases a <;> rfl
theorem dmul_none (a : Option (Int × Int)) : dmul a none = none := by cases a <;> rfl

/-- The ring laws, for slim dyads; and nothing is out of range. -/
theorem ring_law {a e b f c g : Int} (ha : Slim a e) (hb : Slim b f) (hc : Slim c g) :
    dadd (some (a, e)) (dneg (some (a, e))) = some (0, 0) ∧
    dadd (dadd (some (a, e)) (some (b, f))) (some (c, g)) = dadd (some (a, e)) (dadd (some (b, f)) (some (c, g))) ∧
    dmul (dmul (some (a, e)) (some (b, f))) (some (c, g)) = dmul (some (a, e)) (dmul (some (b, f)) (some (c, g))) ∧
    dmul (dadd (some (a, e)) (some (b, f))) (some (c, g)) = dadd (dmul (some (a, e)) (some (c, g))) (dmul (some (b, f)) (some (c, g))) := by
  obtain ⟨A, hA, lA⟩ := slim_up ha
  obtain ⟨B, hB, lB⟩ := slim_up hb
  obtain ⟨C, hC, lC⟩ := slim_up hc
  rw [← hA, ← hB, ← hC]
  have vA := nv lA (E := -2000) (by omega) (by omega)
  have vB := nv lB (E := -2000) (by omega) (by omega)
  have vC := nv lC (E := -2000) (by omega) (by omega)
  have vA' : nrm (-A) (-2000) ≠ none := nv (k := 4640) (by rw [Int.natAbs_neg]; exact lA) (by omega) (by omega)
  have vAB := nv (E := -2000) (k := 4641) (Nat.le_trans (bl_add A B) (by omega)) (by omega) (by omega)
  have vBC := nv (E := -2000) (k := 4641) (Nat.le_trans (bl_add B C) (by omega)) (by omega) (by omega)
  have wAB := nv (E := -2000 + -2000) (k := 9280) (Nat.le_trans (bl_mul A B) (by omega)) (by omega) (by omega)
  have wBC := nv (E := -2000 + -2000) (k := 9280) (Nat.le_trans (bl_mul B C) (by omega)) (by omega) (by omega)
  have wAC := nv (E := -2000 + -2000) (k := 9280) (Nat.le_trans (bl_mul A C) (by omega)) (by omega) (by omega)
  refine ⟨?_, ?_, ?_, ?_⟩
  · rw [dneg_nrm _ _ vA, dadd_nrm _ _ _ vA vA', Int.add_right_neg]; rfl
  · rw [dadd_nrm _ _ _ vA vB, dadd_nrm _ _ _ vB vC, dadd_nrm _ _ _ vAB vC, dadd_nrm _ _ _ vA vBC, Int.add_assoc]
  · rw [dmul_nrm _ _ _ _ vA vB, dmul_nrm _ _ _ _ vB vC, dmul_nrm _ _ _ _ wAB vC, dmul_nrm _ _ _ _ vA wBC, Int.mul_assoc, Int.add_assoc]
  · rw [dadd_nrm _ _ _ vA vB, dmul_nrm _ _ _ _ vA vC, dmul_nrm _ _ _ _ vB vC, dmul_nrm _ _ _ _ vAB vC, dadd_nrm _ _ _ wAC wBC, Int.add_mul]

end Go.Proofs.YtjhngehajahbnaaDoor
