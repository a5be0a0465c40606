/-
  Plain law: exact sums of floats (the statements about accumulation). No program in sight.
  Plain law: roots of sums of squares; the rounding error of a sum (the statements about accumulation). No program in sight.
-/
import Derived.Test.YtablcbgeeeboeaaGreatDoorZaFP
import Derived.Test.YtablcbgeeeboeaaGreatDoorZaSumLaw
import Derived.Test.YtablcbgeeeboeaaGreatDoorZaGr
import Derived.Test.YtablcbgeeeboeaaGreatDoorZaGo
import Derived.Test.YtablcbgeeeboeaaGreatDoorZaBg
namespace Go.Proofs.YtablcbgeeeboeaaGreatDoor
open Go.RowKit Sp
def sumI (M : Nat → Int) : Nat → Int
 | 0 => 0
 | k + 1 => sumI M k + M k
theorem up_nrm {M E m e : Int} (h : nrm M E = some (m, e)) (hE : E ≤ 0) : E ≤ e ∧ up m e E = M := by
 by_cases h0 : M = 0
 · subst h0; rw [nrm_zero] at h; injection h with h; injection h with h1 h2; subst h1 h2; exact ⟨hE, up_zero _ _⟩
 · obtain ⟨t, ht, he, _⟩ := nrm_some h0 h
   subst he
   exact ⟨by omega, by rw [up_nat]; exact ht.symm⟩
theorem dsum_nrm (d : Nat → Option (Int × Int)) (M : Nat → Int) {E : Int} (hE : E ≤ 0) (n : Nat) (h : ∀ i, i < n → d i = nrm (M i) E ∧ nrm (M i) E ≠ none) : dsum d n = nrm (sumI M n) E := by
 have hb : anyBad d n = false := by
  cases hc : anyBad d n with
  | false => rfl
  | true =>
   obtain ⟨i, hi, hd⟩ := (anyBad_iff d n).1 hc
   have h1 := h i hi
   rw [h1.1] at hd
   exact absurd (dbad_nn.2 h1.2) (by rw [hd]; decide)
 have hu : ∀ i, i < n → E ≤ dexp (d i) ∧ up (dman (d i)) (dexp (d i)) E = M i := fun i hi => by
  obtain ⟨h1, h2⟩ := h i hi
  cases hd : nrm (M i) E with
  | none => exact absurd hd h2
  | some p => obtain ⟨m, e⟩ := p; rw [h1, hd]; exact up_nrm hd hE
 rw [dsum_unit d hb (fun i hi => (hu i hi).1) hE]
 congr 1
 clear hb h
 induction n with
 | zero => rfl
 | succ n ih => simp only [smE, sumI]; rw [ih (fun i hi => hu i (by omega)), (hu n (by omega)).2]
theorem sumI_abs (M : Nat → Int) (P n : Nat) (h : ∀ i, i < n → blen (M i).natAbs ≤ P) : (sumI M n).natAbs ≤ n * 2 ^ P := by
 induction n with
 | zero => simp [sumI]
 | succ n ih =>
  have h1 := ih (fun i hi => h i (by omega))
  have h2 := abs_lt_pow (h n (by omega))
  simp only [sumI]
  have h3 := Int.natAbs_add_le (sumI M n) (M n)
  rw [Nat.add_mul, Nat.one_mul]
  omega
theorem sumI_blen (M : Nat → Int) {P n : Nat} (hn : n ≤ 15) (h : ∀ i, i < n → blen (M i).natAbs ≤ P) : blen (sumI M n).natAbs ≤ 4 + P := by
 refine blen_le (Nat.lt_of_le_of_lt (sumI_abs M P n h) ?_)
 rw [Nat.pow_add]
 exact Nat.mul_lt_mul_of_pos_right (by omega) (Nat.pow_pos (by decide))
theorem blen_mulpow {z : Int} {k : Nat} (p : Nat) (h : blen z.natAbs ≤ k) : blen (z * 2 ^ p).natAbs ≤ k + p := by
 by_cases h0 : z = 0
 · rw [h0, Int.zero_mul]; exact Nat.zero_le _
 · rw [natAbs_mul_pow, blen_mul_pow (by omega)]; omega
theorem nrm_neg_valid {M E : Int} (h : nrm M E ≠ none) : nrm (-M) E ≠ none := by
 rw [← dneg_nrm _ _ h]
 cases k : nrm M E with
 | none => exact absurd k h
 | some p => obtain ⟨m, e⟩ := p; exact fun h' => by cases h'
theorem dabs_nrm (M E : Int) (h : nrm M E ≠ none) : dabs (nrm M E) = nrm (M.natAbs : Int) E ∧ nrm (M.natAbs : Int) E ≠ none := by
 rcases Int.natAbs_eq M with h1 | h1
 · rw [← h1]
   refine ⟨?_, h⟩
   cases k : nrm M E with
   | none => exact absurd k h
   | some p =>
    obtain ⟨m, e⟩ := p
    show some ((m.natAbs : Int), e) = _
    have : 0 ≤ m := by
     by_cases h0 : M = 0
     · subst h0; rw [nrm_zero] at k; injection k with k; injection k with h2 h3; omega
     · obtain ⟨t, ht, _⟩ := nrm_some h0 k
       have := (mul_pow_neg m t).1; rw [← ht] at this; omega
    rw [show (m.natAbs : Int) = m by omega]
 · have e1 : (M.natAbs : Int) = -M := by omega
   rw [e1]
   refine ⟨?_, nrm_neg_valid h⟩
   rw [← dneg_nrm _ _ h]
   cases k : nrm M E with
   | none => exact absurd k h
   | some p =>
    obtain ⟨m, e⟩ := p
    show some ((m.natAbs : Int), e) = some (-m, e)
    have : m ≤ 0 := by
     by_cases h0 : M = 0
     · subst h0; rw [nrm_zero] at k; injection k with k; injection k with h2 h3; omega
     · obtain ⟨t, ht, _⟩ := nrm_some h0 k
       have := (mul_pow_neg m t).2; rw [← ht] at this; omega
    rw [show (m.natAbs : Int) = -m by omega]
theorem fround_code {R : Int} {r : Nat} (hr : fzN r = R.natAbs) (hl : r < 9218868437227405312) (mode : Int) :
 ffin (fround (nrm R (-1074)) mode) = true ∧ fz (fround (nrm R (-1074)) mode) = R := by
 by_cases h0 : R = 0
 · subst h0; rw [fround_zero]; exact ⟨by decide, by decide⟩
 · rw [fround_exact h0 hr.symm hl]
   have h5 := fof_fsgn (s := decide (R < 0)) hl
   exact ⟨h5.1, by rw [h5.2, hr, sgn_self]⟩
end Go.Proofs.YtablcbgeeeboeaaGreatDoor
namespace Go.Proofs.YtablcbgeeeboeaaGreatDoor
open Go.RowKit Sp
theorem dNorm_d (w : World) {bd s : Bool} {a : Option Addr} {n cap : Nat} {e : Int} {d : Option (Int × Int)} (h : DyIn w bd s a n cap e d) (hT : Tab w) :
 Calls Tryz.prog 72 #[.agg #[.bool bd, .bool s, .slice a n cap, .int .i64 e]] w (RetDy w d) := by
 obtain ⟨x, h1, h2, h3, h4, h5, rfl⟩ := h
 exact dNorm_any w bd s a n cap x e h1 h2 hT h3 (tz_lim h3) h4 h5
theorem dcases (d : Option (Int × Int)) : d = none ∨ ∃ m e, d = some (m, e) := by
 cases d with
 | none => exact Or.inl rfl
 | some p => exact Or.inr ⟨p.1, p.2, rfl⟩
end Go.Proofs.YtablcbgeeeboeaaGreatDoor
