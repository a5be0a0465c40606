/-
  Plain law: the reference's sums, made by one addition after the other, are the exact sums. No program in sight.
-/
import Derived.Test.YtakbappmkdaioaaGreatDoorZkKA
namespace Go.Proofs.YtakbappmkdaioaaGreatDoor
open Go.RowKit Sp

/-- one addition after the other -/
def rsumD (d : Nat → Option (Int × Int)) : Nat → Option (Int × Int)
  | 0 => some (0, 0)
  | k + 1 => dadd (rsumD d k) (d k)
theorem isN_rsum (d : Nat → Option (Int × Int)) (n : Nat) : IsN (rsumD d n) := by
  cases n with
  | zero => exact isN_zz
  | succ n => exact isN_add _ _
theorem rsumD_bad (d : Nat → Option (Int × Int)) {n i : Nat} (hi : i < n) (h : d i = none) : rsumD d n = none := by
  induction n with
  | zero => omega
  | succ n ih =>
    show dadd (rsumD d n) (d n) = none
    by_cases hin : i = n
    · subst hin; rw [h]
      cases rsumD d i with
      | none => rfl
      | some p => obtain ⟨z, f⟩ := p; rfl
    · rw [ih (by omega)]; rfl
theorem dsum_bad (d : Nat → Option (Int × Int)) {n i : Nat} (hi : i < n) (h : d i = none) : dsum d n = none := by
  unfold dsum
  rw [if_pos ((anyBad_iff d n).2 ⟨i, hi, by rw [h]; rfl⟩)]
theorem rsumD_fin {d : Nat → Option (Int × Int)} {M : Nat → Int} {E : Int} {n : Nat} (h : ∀ i, i < n → d i = nrm (M i) E ∧ nrm (M i) E ≠ none) (hs : ∀ k, k ≤ n → dsum d k = nrm (sumI M k) E ∧ nrm (sumI M k) E ≠ none) :
    ∀ k, k ≤ n → rsumD d k = dsum d k := by
  intro k
  induction k with
  | zero => intro _; rw [(hs 0 (by omega)).1]; show some (0, 0) = nrm 0 E; rw [nrm_zero]
  | succ k ih =>
    intro hk
    show dadd (rsumD d k) (d k) = _
    rw [ih (by omega), (hs k (by omega)).1, (hs (k + 1) hk).1, (h k (by omega)).1, dadd_nrm _ _ _ (hs k (by omega)).2 (h k (by omega)).2]
    rfl
theorem rdot_law (X Y : Nat → Nat) {n : Nat} (hn : n ≤ 15) (hx : allfin X n = true) (hy : allfin Y n = true) : rsumD (fun i => dmul (fof (X i)) (fof (Y i))) n = ddot X Y n := by
  have h := (allfin_iff X n).1 hx
  have h' := (allfin_iff Y n).1 hy
  exact rsumD_fin (M := fun i => fz (X i) * fz (Y i)) (E := -2148) (fun i hi => fmul_val (h i hi) (h' i hi)) (fun k hk => adot_val (by omega) (fun i hi => h i (by omega)) (fun i hi => h' i (by omega))) n (Nat.le_refl _)

end Go.Proofs.YtakbappmkdaioaaGreatDoor

