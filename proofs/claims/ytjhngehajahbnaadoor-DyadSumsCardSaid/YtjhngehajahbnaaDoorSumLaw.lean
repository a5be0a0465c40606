/-
  Plain law: sums of dyads. No program in sight.
-/
import Derived.Test.YtjhngehajahbnaaDoorQuoLaw
namespace Go.Proofs.YtjhngehajahbnaaDoor
open Go.RowKit Sp

/-- the least exponent, at most 0 -/
def mnE (d : Nat → Option (Int × Int)) : Nat → Int
  | 0 => 0
  | k + 1 => min (mnE d k) (dexp (d k))
/-- the sum of the first k, in units of 2^E -/
def smE (d : Nat → Option (Int × Int)) (E : Int) : Nat → Int
  | 0 => 0
  | k + 1 => smE d E k + up (dman (d k)) (dexp (d k)) E
def anyBad (d : Nat → Option (Int × Int)) : Nat → Bool
  | 0 => false
  | k + 1 => anyBad d k || dbad (d k)
/-- the exact sum -/
def dsum (d : Nat → Option (Int × Int)) (n : Nat) : Option (Int × Int) := if anyBad d n then none else nrm (smE d (mnE d n) n) (mnE d n)

theorem mnE_le0 (d : Nat → Option (Int × Int)) (k : Nat) : mnE d k ≤ 0 := by
  induction k with
  | zero => exact Int.le_refl _
  | succ n ih => simp only [mnE]; omega
theorem mnE_le (d : Nat → Option (Int × Int)) {i k : Nat} (h : i < k) : mnE d k ≤ dexp (d i) := by
  induction k with
  | zero => omega
  | succ n ih =>
    simp only [mnE]
    by_cases hi : i < n
    · have := ih hi; omega
    · obtain rfl : i = n := by omega
      omega
theorem mnE_ge (d : Nat → Option (Int × Int)) (h : ∀ i, IsN (d i)) (k : Nat) : -65536 ≤ mnE d k := by
  induction k with
  | zero => show (-65536 : Int) ≤ 0; omega
  | succ n ih =>
    have := (isN_bounds (h n)).2.1
    simp only [mnE]; omega
theorem mnE_mono (d : Nat → Option (Int × Int)) {j k : Nat} (h : j ≤ k) : mnE d k ≤ mnE d j := by
  induction k with
  | zero => obtain rfl : j = 0 := by omega
            exact Int.le_refl _
  | succ n ih =>
    by_cases hj : j ≤ n
    · have := ih hj; simp only [mnE]; omega
    · obtain rfl : j = n + 1 := by omega
      exact Int.le_refl _
/-- another unit -/
theorem smE_up (d : Nat → Option (Int × Int)) {E F : Int} (h : E ≤ F) (k : Nat) (hF : ∀ i, i < k → F ≤ dexp (d i)) : up (smE d F k) F E = smE d E k := by
  induction k with
  | zero => simp only [smE]; exact up_zero _ _
  | succ n ih =>
    simp only [smE]
    rw [up_add, ih (fun i hi => hF i (by omega)), up_up _ h (hF n (by omega))]
theorem blen_dy {d : Option (Int × Int)} (h : IsN d) {E : Int} (h0 : -65536 ≤ E) (h1 : E ≤ dexp d) : blen (up (dman d) (dexp d) E).natAbs ≤ 131072 := by
  refine blen_up_le h1 ?_
  cases d with
  | none => simp [dman, dexp] at *; rw [show blen 0 = 0 from rfl]; omega
  | some p =>
    obtain ⟨m, e⟩ := p
    have := okd_bounds (h m e rfl)
    simp only [dman, dexp, Option.getD_some] at *
    omega
theorem abs_lt_pow {x : Int} {k : Nat} (h : blen x.natAbs ≤ k) : x.natAbs < 2 ^ k := Nat.lt_of_lt_of_le (lt_blen _) (Nat.pow_le_pow_right (by decide) h)
theorem smE_abs (d : Nat → Option (Int × Int)) (h : ∀ i, IsN (d i)) {E : Int} (h0 : -65536 ≤ E) (p : Nat) (hp : p = 131072) (k : Nat) (hE : ∀ i, i < k → E ≤ dexp (d i)) : (smE d E k).natAbs ≤ k * 2 ^ p := by
  induction k with
  | zero => simp [smE]
  | succ n ih =>
    have h1 := ih (fun i hi => hE i (by omega))
    have h2 := abs_lt_pow (k := p) (by rw [hp]; exact blen_dy (h n) h0 (hE n (by omega)))
    simp only [smE]
    have h3 := Int.natAbs_add_le (smE d E n) (up (dman (d n)) (dexp (d n)) E)
    rw [Nat.add_mul, Nat.one_mul]
    omega
theorem smE_blen (d : Nat → Option (Int × Int)) (h : ∀ i, IsN (d i)) {E : Int} (h0 : -65536 ≤ E) {k : Nat} (hk : k ≤ 1048576) (hE : ∀ i, i < k → E ≤ dexp (d i)) : blen (smE d E k).natAbs ≤ 131100 := by
  obtain ⟨p, hp⟩ : ∃ p : Nat, p = 131072 := ⟨_, rfl⟩
  have h1 := smE_abs d h h0 p hp k hE
  have h2 : (smE d E k).natAbs < 2 ^ (21 + p) := by
    refine Nat.lt_of_le_of_lt h1 ?_
    rw [Nat.pow_add]
    exact Nat.mul_lt_mul_of_pos_right (by omega) (Nat.pow_pos (by decide))
  have := blen_le h2
  omega
theorem anyBad_iff (d : Nat → Option (Int × Int)) (n : Nat) : anyBad d n = true ↔ ∃ i, i < n ∧ dbad (d i) = true := by
  induction n with
  | zero => simp [anyBad]
  | succ n ih =>
    simp only [anyBad, Bool.or_eq_true, ih]
    constructor
    · rintro (⟨i, hi, h⟩ | h)
      · exact ⟨i, by omega, h⟩
      · exact ⟨n, by omega, h⟩
    · rintro ⟨i, hi, h⟩
      by_cases hin : i < n
      · exact .inl ⟨i, hin, h⟩
      · obtain rfl : i = n := by omega
        exact .inr h
/-- the sum in any unit that is small enough -/
theorem dsum_unit (d : Nat → Option (Int × Int)) {n : Nat} (hb : anyBad d n = false) {E : Int} (hE : ∀ i, i < n → E ≤ dexp (d i)) (h0 : E ≤ 0) : dsum d n = nrm (smE d E n) E := by
  unfold dsum
  rw [hb]
  show nrm _ _ = _
  have hm : E ≤ mnE d n := by
    clear hb
    induction n with
    | zero => exact h0
    | succ k ih =>
      have := ih (fun i hi => hE i (by omega))
      have := hE k (by omega)
      simp only [mnE]; omega
  rw [← nrm_up _ _ E hm, smE_up d hm n (fun i hi => mnE_le d hi)]

/-! ### other orders -/
theorem smE_congr {d d' : Nat → Option (Int × Int)} {E : Int} {n : Nat} (h : ∀ i, i < n → d i = d' i) : smE d E n = smE d' E n := by
  induction n with
  | zero => rfl
  | succ n ih => simp only [smE]; rw [ih (fun i hi => h i (by omega)), h n (by omega)]
theorem smE_add (d : Nat → Option (Int × Int)) (E : Int) (k m : Nat) : smE d E (k + m) = smE d E k + smE (fun i => d (k + i)) E m := by
  induction m with
  | zero => simp [smE]
  | succ m ih => rw [← Nat.add_assoc]; simp only [smE]; rw [ih]; omega
theorem smE_rev (d : Nat → Option (Int × Int)) (E : Int) (n : Nat) : smE (fun i => d (n - 1 - i)) E n = smE d E n := by
  induction n generalizing d with
  | zero => rfl
  | succ n ih =>
    have h1 : smE (fun i => d (n + 1 - 1 - i)) E (n + 1) = smE (fun i => d (n + 1 - 1 - i)) E n + up (dman (d 0)) (dexp (d 0)) E := by
      simp only [smE]; rw [show n + 1 - 1 - n = 0 by omega]
    have h2 : smE (fun i => d (n + 1 - 1 - i)) E n = smE (fun i => (fun j => d (j + 1)) (n - 1 - i)) E n := smE_congr fun i hi => by
      show d (n + 1 - 1 - i) = d (n - 1 - i + 1)
      congr 1; omega
    rw [h1, h2, ih (fun j => d (j + 1))]
    have h3 := smE_add d E 1 n
    rw [Nat.add_comm 1 n] at h3
    rw [h3]
    simp only [smE]
    have h4 : smE (fun i => d (1 + i)) E n = smE (fun j => d (j + 1)) E n := smE_congr fun i _ => by rw [Nat.add_comm]
    rw [h4]; omega

/-- The sums of the law: slim dyads; the reverse order; two parts. -/
theorem sums_law (d : Nat → Option (Int × Int)) {n k : Nat} (hn : n ≤ 12) (hk : k ≤ n) (h : ∀ i, i < n → d i = none ∨ ∃ m e, d i = some (m, e) ∧ Slim m e) :
    dsum (fun i => d (n - 1 - i)) n = dsum d n ∧ dadd (dsum d k) (dsum (fun i => d (k + i)) (n - k)) = dsum d n := by
  have hbr : anyBad (fun i => d (n - 1 - i)) n = anyBad d n := by
    rw [Bool.eq_iff_iff, anyBad_iff, anyBad_iff]
    constructor
    · rintro ⟨i, hi, h⟩; exact ⟨n - 1 - i, by omega, h⟩
    · rintro ⟨i, hi, h⟩; refine ⟨n - 1 - i, by omega, ?_⟩; show dbad (d (n - 1 - (n - 1 - i))) = true; rw [show n - 1 - (n - 1 - i) = i by omega]; exact h
  cases hb : anyBad d n with
  | true =>
    obtain ⟨i, hi, hd⟩ := (anyBad_iff d n).1 hb
    refine ⟨by simp [dsum, hbr, hb], ?_⟩
    have e0 : dsum d n = none := by unfold dsum; rw [hb]; rfl
    rw [e0]
    by_cases hik : i < k
    · have : anyBad d k = true := (anyBad_iff d k).2 ⟨i, hik, hd⟩
      have e1 : dsum d k = none := by unfold dsum; rw [this]; rfl
      rw [e1]; rfl
    · have : anyBad (fun i => d (k + i)) (n - k) = true := (anyBad_iff _ _).2 ⟨i - k, by omega, by show dbad (d (k + (i - k))) = true; rw [show k + (i - k) = i by omega]; exact hd⟩
      have e1 : dsum (fun i => d (k + i)) (n - k) = none := by unfold dsum; rw [this]; rfl
      rw [e1]; unfold dadd; split <;> simp_all
  | false =>
    have hsl : ∀ i, i < n → ∃ m e, d i = some (m, e) ∧ Slim m e := fun i hi => by
      rcases h i hi with h1 | h1
      · have : anyBad d n = true := (anyBad_iff d n).2 ⟨i, hi, by rw [h1]; rfl⟩
        rw [hb] at this; cases this
      · exact h1
    have hE : ∀ i, i < n → (-2000 : Int) ≤ dexp (d i) := fun i hi => by
      obtain ⟨m, e, h1, h2⟩ := hsl i hi
      rw [h1]; exact h2.bounds.2.1
    have hbk : anyBad d k = false := by
      cases hc : anyBad d k with
      | false => rfl
      | true => obtain ⟨i, hi, hd⟩ := (anyBad_iff d k).1 hc; have := (anyBad_iff d n).2 ⟨i, by omega, hd⟩; rw [hb] at this; cases this
    have hbm : anyBad (fun i => d (k + i)) (n - k) = false := by
      cases hc : anyBad (fun i => d (k + i)) (n - k) with
      | false => rfl
      | true => obtain ⟨i, hi, hd⟩ := (anyBad_iff _ _).1 hc; have := (anyBad_iff d n).2 ⟨k + i, by omega, hd⟩; rw [hb] at this; cases this
    rw [dsum_unit _ (hbr.trans hb) (fun i hi => hE _ (by omega)) (by omega), dsum_unit d hb hE (by omega), dsum_unit d hbk (fun i hi => hE i (by omega)) (by omega), dsum_unit _ hbm (fun i hi => hE _ (by omega)) (by omega), smE_rev]
    refine ⟨rfl, ?_⟩
    obtain ⟨P, hP⟩ : ∃ P : Nat, P = 4640 := ⟨_, rfl⟩
    have hab : ∀ j m, (∀ i, i < m → j + i < n) → (smE (fun i => d (j + i)) (-2000) m).natAbs ≤ m * 2 ^ P := fun j m => by
      induction m with
      | zero => intro _; simp [smE]
      | succ m ih =>
        intro hm
        have h1 := ih (fun i hi => hm i (by omega))
        obtain ⟨M, E, h2, h3⟩ := hsl (j + m) (hm m (by omega))
        have h4 : (up (dman (d (j + m))) (dexp (d (j + m))) (-2000)).natAbs < 2 ^ P := abs_lt_pow (by
          refine blen_up_le ?_ ?_
          · rw [h2]; exact h3.bounds.2.1
          · rw [h2]; have := h3.bounds; show (blen M.natAbs : Int) + (E - -2000) ≤ (P : Nat); omega)
        simp only [smE]
        have h5 := Int.natAbs_add_le (smE (fun i => d (j + i)) (-2000) m) (up (dman (d (j + m))) (dexp (d (j + m))) (-2000))
        rw [Nat.add_mul, Nat.one_mul]
        omega
    have hbl : ∀ j m, m ≤ 12 → (∀ i, i < m → j + i < n) → nrm (smE (fun i => d (j + i)) (-2000) m) (-2000) ≠ none := fun j m hm12 hm => by
      have h1 := hab j m hm
      have h2 : (smE (fun i => d (j + i)) (-2000) m).natAbs < 2 ^ (4 + P) := by
        refine Nat.lt_of_le_of_lt h1 ?_
        rw [Nat.pow_add]
        exact Nat.mul_lt_mul_of_pos_right (by omega) (Nat.pow_pos (by decide))
      have h3 := blen_le h2
      exact nrm_valid (by omega) (by omega)
    have v1 := hbl 0 k (by omega) (fun i hi => by omega)
    have v2 := hbl k (n - k) (by omega) (fun i hi => by omega)
    simp only [Nat.zero_add] at v1
    rw [dadd_nrm _ _ _ v1 v2, ← smE_add, show k + (n - k) = n by omega]

end Go.Proofs.YtjhngehajahbnaaDoor
