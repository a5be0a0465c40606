/-
  Plain law: sums of dyads. No program in sight.
-/
import Derived.Test.YtakbappmkdaioaaGreatDoorZcBL
namespace Go.Proofs.YtakbappmkdaioaaGreatDoor
open Go.RowKit Sp

/-- the least exponent, at most 0 -/
def mnE (d : Nat → Option (Int × Int)) : Nat → Int
  | 0 => 0
  | k + 1 => min (mnE d k) (dexp (d k))
/-- the sum of the first k, in units of 2^E -/
def smE (d : Nat → Option (Int × Int)) (E : Int) : Nat → Int
  | 0 => 0
  | k + 1 => smE d E k + up (dman (d k)) (dexp (d k)) E
def anyBad (d : Nat → Option (Int × Int)) : Nat → Bool
  | 0 => false
  | k + 1 => anyBad d k || dbad (d k)
/-- the exact sum -/
def dsum (d : Nat → Option (Int × Int)) (n : Nat) : Option (Int × Int) := if anyBad d n then none else nrm (smE d (mnE d n) n) (mnE d n)

theorem mnE_le0 (d : Nat → Option (Int × Int)) (k : Nat) : mnE d k ≤ 0 := by
  induction k with
  | zero => exact Int.le_refl _
  | succ n ih => simp only [mnE]; omega
theorem mnE_le (d : Nat → Option (Int × Int)) {i k : Nat} (h : i < k) : mnE d k ≤ dexp (d i) := by
  induction k with
  | zero => omega
  | succ n ih =>
    simp only [mnE]
    by_cases hi : i < n
    · have := ih hi; omega
    · obtain rfl : i = n := by omega
      omega
theorem mnE_ge (d : Nat → Option (Int × Int)) (h : ∀ i, IsN (d i)) (k : Nat) : -65536 ≤ mnE d k := by
  induction k with
  | zero => show (-65536 : Int) ≤ 0; omega
  | succ n ih =>
    have := (isN_bounds (h n)).2.1
    simp only [mnE]; omega
/-- another unit -/
theorem smE_up (d : Nat → Option (Int × Int)) {E F : Int} (h : E ≤ F) (k : Nat) (hF : ∀ i, i < k → F ≤ dexp (d i)) : up (smE d F k) F E = smE d E k := by
  induction k with
  | zero => simp only [smE]; exact up_zero _ _
  | succ n ih =>
    simp only [smE]
    rw [up_add, ih (fun i hi => hF i (by omega)), up_up _ h (hF n (by omega))]
theorem blen_dy {d : Option (Int × Int)} (h : IsN d) {E : Int} (h0 : -65536 ≤ E) (h1 : E ≤ dexp d) : blen (up (dman d) (dexp d) E).natAbs ≤ 131072 := by
  refine blen_up_le h1 ?_
  cases d with
  | none => simp [dman, dexp] at *; rw [show blen 0 = 0 from rfl]; omega
  | some p =>
    obtain ⟨m, e⟩ := p
    have := okd_bounds (h m e rfl)
    simp only [dman, dexp, Option.getD_some] at *
    omega
theorem abs_lt_pow {x : Int} {k : Nat} (h : blen x.natAbs ≤ k) : x.natAbs < 2 ^ k := Nat.lt_of_lt_of_le (lt_blen _) (Nat.pow_le_pow_right (by decide) h)
theorem smE_abs (d : Nat → Option (Int × Int)) (h : ∀ i, IsN (d i)) {E : Int} (h0 : -65536 ≤ E) (p : Nat) (hp : p = 131072) (k : Nat) (hE : ∀ i, i < k → E ≤ dexp (d i)) : (smE d E k).natAbs ≤ k * 2 ^ p := by
  induction k with
  | zero => simp [smE]
  | succ n ih =>
    have h1 := ih (fun i hi => hE i (by omega))
    have h2 := abs_lt_pow (k := p) (by rw [hp]; exact blen_dy (h n) h0 (hE n (by omega)))
    simp only [smE]
    have h3 := Int.natAbs_add_le (smE d E n) (up (dman (d n)) (dexp (d n)) E)
    rw [Nat.add_mul, Nat.one_mul]
    omega
theorem smE_blen (d : Nat → Option (Int × Int)) (h : ∀ i, IsN (d i)) {E : Int} (h0 : -65536 ≤ E) {k : Nat} (hk : k ≤ 1048576) (hE : ∀ i, i < k → E ≤ dexp (d i)) : blen (smE d E k).natAbs ≤ 131100 := by
  obtain ⟨p, hp⟩ : ∃ p : Nat, p = 131072 := ⟨_, rfl⟩
  have h1 := smE_abs d h h0 p hp k hE
  have h2 : (smE d E k).natAbs < 2 ^ (21 + p) := by
    refine Nat.lt_of_le_of_lt h1 ?_
    rw [Nat.pow_add]
    exact Nat.mul_lt_mul_of_pos_right (by omega) (Nat.pow_pos (by decide))
  have := blen_le h2
  omega
theorem anyBad_iff (d : Nat → Option (Int × Int)) (n : Nat) : anyBad d n = true ↔ ∃ i, i < n ∧ dbad (d i) = true := by
  induction n with
  | zero => simp [anyBad]
  | succ n ih =>
    simp only [anyBad, Bool.or_eq_true, ih]
    constructor
    · rintro (⟨i, hi, h⟩ | h)
      · exact ⟨i, by omega, h⟩
      · exact ⟨n, by omega, h⟩
    · rintro ⟨i, hi, h⟩
      by_cases hin : i < n
      · exact .inl ⟨i, hin, h⟩
      · obtain rfl : i = n := by omega
        exact .inr h
/-- the sum in any unit that is small enough -/
theorem dsum_unit (d : Nat → Option (Int × Int)) {n : Nat} (hb : anyBad d n = false) {E : Int} (hE : ∀ i, i < n → E ≤ dexp (d i)) (h0 : E ≤ 0) : dsum d n = nrm (smE d E n) E := by
  unfold dsum
  rw [hb]
  show nrm _ _ = _
  have hm : E ≤ mnE d n := by
    clear hb
    induction n with
    | zero => exact h0
    | succ k ih =>
      have := ih (fun i hi => hE i (by omega))
      have := hE k (by omega)
      simp only [mnE]; omega
  rw [← nrm_up _ _ E hm, smE_up d hm n (fun i hi => mnE_le d hi)]

/-! ### other orders -/
end Go.Proofs.YtakbappmkdaioaaGreatDoor

