/-
  Plain law: exact sums of floats (the statements about accumulation). No program in sight.
  Plain law: roots of sums of squares; the rounding error of a sum (the statements about accumulation). No program in sight.
-/
import Derived.Test.YtakbappmkdaioaaGreatDoorZlFP
import Derived.Test.YtakbappmkdaioaaGreatDoorZlSU
namespace Go.Proofs.YtakbappmkdaioaaGreatDoor
open Go.RowKit Sp

/-! ### sums in one unit -/
/-! ### values -/
theorem dsub_nrm (M N E : Int) (hM : nrm M E ≠ none) (hN : nrm N E ≠ none) (hN' : nrm (-N) E ≠ none) : dadd (nrm M E) (dneg (nrm N E)) = nrm (M - N) E := by
  rw [dneg_nrm _ _ hN, dadd_nrm _ _ _ hM hN', Int.sub_eq_add_neg]
theorem nrm_neg_valid {M E : Int} (h : nrm M E ≠ none) : nrm (-M) E ≠ none := by
  rw [← dneg_nrm _ _ h]
  cases k : nrm M E with
  | none => exact absurd k h
  | some p => obtain ⟨m, e⟩ := p; exact fun h' => by cases h'

/-! ### AccumResidual -/
/-! ### the norms -/
/-! ### AccumCauchy -/
end Go.Proofs.YtakbappmkdaioaaGreatDoor

namespace Go.Proofs.YtakbappmkdaioaaGreatDoor
open Go.RowKit Sp

/-! ### the root of a dyad in units of 2^-2148 -/
/-! ### AccumRoots -/
/-! ### the rounding error of a sum is a float -/
/-! ### awake -/
end Go.Proofs.YtakbappmkdaioaaGreatDoor

