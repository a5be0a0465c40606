/-
  Plain law: exact sums of floats (the statements about accumulation). No program in sight.
  Plain law: roots of sums of squares; the rounding error of a sum (the statements about accumulation). No program in sight.
-/
import Derived.Test.YtmpcikkimcehnaaGreatDoorZbFP
import Derived.Test.YtmpcikkimcehnaaGreatDoorZbSumLaw
namespace Go.Proofs.YtmpcikkimcehnaaGreatDoor
open Go.RowKit Sp

/-! ### sums in one unit -/
def sumI (M : Nat → Int) : Nat → Int
  | 0 => 0
  | k + 1 => sumI M k + M k
theorem sumI_congr {M M' : Nat → Int} {n : Nat} (h : ∀ i, i < n → M i = M' i) : sumI M n = sumI M' n := by
  induction n with
  | zero => rfl
  | succ n ih => simp only [sumI]; rw [ih (fun i hi => h i (by omega)), h n (by omega)]
theorem sumI_neg (M : Nat → Int) (n : Nat) : sumI (fun i => -M i) n = -sumI M n := by
  induction n with
  | zero => rfl
  | succ n ih => simp only [sumI]; rw [ih]; omega
theorem up_nrm {M E m e : Int} (h : nrm M E = some (m, e)) (hE : E ≤ 0) : E ≤ e ∧ up m e E = M := by
  by_cases h0 : M = 0
  · subst h0; rw [nrm_zero] at h; injection h with h; injection h with h1 h2; subst h1 h2; exact ⟨hE, up_zero _ _⟩
  · obtain ⟨t, ht, he, _⟩ := nrm_some h0 h
    subst he
    exact ⟨by omega, by rw [up_nat]; exact ht.symm⟩
theorem dsum_nrm (d : Nat → Option (Int × Int)) (M : Nat → Int) {E : Int} (hE : E ≤ 0) (n : Nat) (h : ∀ i, i < n → d i = nrm (M i) E ∧ nrm (M i) E ≠ none) : dsum d n = nrm (sumI M n) E := by
  have hb : anyBad d n = false := by
    cases hc : anyBad d n with
    | false => rfl
    | true =>
      obtain ⟨i, hi, hd⟩ := (anyBad_iff d n).1 hc
      have h1 := h i hi
      rw [h1.1] at hd
      exact absurd (dbad_nn.2 h1.2) (by rw [hd]; decide)
  have hu : ∀ i, i < n → E ≤ dexp (d i) ∧ up (dman (d i)) (dexp (d i)) E = M i := fun i hi => by
    obtain ⟨h1, h2⟩ := h i hi
    cases hd : nrm (M i) E with
    | none => exact absurd hd h2
    | some p => obtain ⟨m, e⟩ := p; rw [h1, hd]; exact up_nrm hd hE
  rw [dsum_unit d hb (fun i hi => (hu i hi).1) hE]
  congr 1
  clear hb h
  induction n with
  | zero => rfl
  | succ n ih => simp only [smE, sumI]; rw [ih (fun i hi => hu i (by omega)), (hu n (by omega)).2]
theorem sumI_abs (M : Nat → Int) (P n : Nat) (h : ∀ i, i < n → blen (M i).natAbs ≤ P) : (sumI M n).natAbs ≤ n * 2 ^ P := by
  induction n with
  | zero => simp [sumI]
  | succ n ih =>
    have h1 := ih (fun i hi => h i (by omega))
    have h2 := abs_lt_pow (h n (by omega))
    simp only [sumI]
    have h3 := Int.natAbs_add_le (sumI M n) (M n)
    rw [Nat.add_mul, Nat.one_mul]
    omega
theorem sumI_blen (M : Nat → Int) {P n : Nat} (hn : n ≤ 15) (h : ∀ i, i < n → blen (M i).natAbs ≤ P) : blen (sumI M n).natAbs ≤ 4 + P := by
  refine blen_le (Nat.lt_of_le_of_lt (sumI_abs M P n h) ?_)
  rw [Nat.pow_add]
  exact Nat.mul_lt_mul_of_pos_right (by omega) (Nat.pow_pos (by decide))

/-! ### values -/
theorem asum_val {L : Nat → Nat} {n : Nat} (hn : n ≤ 15) (h : ∀ i, i < n → ffin (L i) = true) :
    dsum (fun i => fof (L i)) n = nrm (sumI (fun i => fz (L i)) n) (-1074) ∧ nrm (sumI (fun i => fz (L i)) n) (-1074) ≠ none := by
  refine ⟨dsum_nrm _ (fun i => fz (L i)) (by omega) n (fun i hi => ⟨fof_fin (h i hi), fof_some (h i hi)⟩), ?_⟩
  have := sumI_blen (fun i => fz (L i)) hn (P := 2098) (fun i hi => blen_fz (h i hi))
  exact nrm_valid (by omega) (by omega)
theorem blen_fz_mul {a b : Nat} (ha : ffin a = true) (hb : ffin b = true) : blen (fz a * fz b).natAbs ≤ 4196 := by
  have := bl_mul (fz a) (fz b); have := blen_fz ha; have := blen_fz hb; omega
def dotI (X Y : Nat → Nat) (n : Nat) : Int := sumI (fun i => fz (X i) * fz (Y i)) n
def ddot (X Y : Nat → Nat) (n : Nat) : Option (Int × Int) := dsum (fun i => dmul (fof (X i)) (fof (Y i))) n
theorem adot_blen {X Y : Nat → Nat} {n : Nat} (hn : n ≤ 15) (hx : ∀ i, i < n → ffin (X i) = true) (hy : ∀ i, i < n → ffin (Y i) = true) : blen (dotI X Y n).natAbs ≤ 4200 :=
  sumI_blen (fun i => fz (X i) * fz (Y i)) hn (P := 4196) (fun i hi => blen_fz_mul (hx i hi) (hy i hi))
theorem adot_val {X Y : Nat → Nat} {n : Nat} (hn : n ≤ 15) (hx : ∀ i, i < n → ffin (X i) = true) (hy : ∀ i, i < n → ffin (Y i) = true) :
    ddot X Y n = nrm (dotI X Y n) (-2148) ∧ nrm (dotI X Y n) (-2148) ≠ none := by
  refine ⟨dsum_nrm _ (fun i => fz (X i) * fz (Y i)) (by omega) n (fun i hi => fmul_val (hx i hi) (hy i hi)), ?_⟩
  have := adot_blen hn hx hy
  exact nrm_valid (by omega) (by omega)
theorem dval2 {b : Nat} (hb : ffin b = true) : fof b = nrm (fz b * 2 ^ 1074) (-2148) ∧ nrm (fz b * 2 ^ 1074) (-2148) ≠ none := by
  have e1 : fof b = nrm (fz b * 2 ^ 1074) (-2148) := by rw [nrm_scale, fof_fin hb]; rfl
  exact ⟨e1, by rw [← e1, fof_fin hb]; exact fof_some hb⟩
theorem blen_mulpow {z : Int} {k : Nat} (p : Nat) (h : blen z.natAbs ≤ k) : blen (z * 2 ^ p).natAbs ≤ k + p := by
  by_cases h0 : z = 0
  · rw [h0, Int.zero_mul]; exact Nat.zero_le _
  · rw [natAbs_mul_pow, blen_mul_pow (by omega)]; omega
theorem blen_val2 {b : Nat} (hb : ffin b = true) : blen (fz b * 2 ^ 1074).natAbs ≤ 3172 := blen_mulpow 1074 (blen_fz hb)
theorem dsub_nrm (M N E : Int) (hM : nrm M E ≠ none) (hN : nrm N E ≠ none) (hN' : nrm (-N) E ≠ none) : dadd (nrm M E) (dneg (nrm N E)) = nrm (M - N) E := by
  rw [dneg_nrm _ _ hN, dadd_nrm _ _ _ hM hN', Int.sub_eq_add_neg]
theorem nrm_neg_valid {M E : Int} (h : nrm M E ≠ none) : nrm (-M) E ≠ none := by
  rw [← dneg_nrm _ _ h]
  cases k : nrm M E with
  | none => exact absurd k h
  | some p => obtain ⟨m, e⟩ := p; exact fun h' => by cases h'

/-! ### AccumResidual -/
theorem ares_val {b : Nat} {A X : Nat → Nat} {n : Nat} (hn : n ≤ 15) (hb : ffin b = true) (ha : ∀ i, i < n → ffin (A i) = true) (hx : ∀ i, i < n → ffin (X i) = true) :
    dadd (fof b) (dneg (ddot A X n)) = nrm (fz b * 2 ^ 1074 - dotI A X n) (-2148) ∧ nrm (fz b * 2 ^ 1074 - dotI A X n) (-2148) ≠ none := by
  have v1 := dval2 hb
  have v2 := adot_val hn ha hx
  refine ⟨by rw [v1.1, v2.1]; exact dsub_nrm _ _ _ v1.2 v2.2 (nrm_neg_valid v2.2), ?_⟩
  have h1 := bl_add (fz b * 2 ^ 1074) (-dotI A X n)
  rw [Int.natAbs_neg] at h1
  have h2 := adot_blen hn ha hx
  have h3 := blen_val2 hb
  rw [Int.sub_eq_add_neg]
  exact nrm_valid (by omega) (by omega)
theorem ares_law {b : Nat} {A X : Nat → Nat} {n : Nat} (hn : n ≤ 15) (hb : ffin b = true) (ha : ∀ i, i < n → ffin (A i) = true) (hx : ∀ i, i < n → ffin (X i) = true) :
    dadd (dadd (fof b) (dneg (ddot A X n))) (ddot A X n) = fof b ∧ dadd (fof (fneg b)) (dneg (ddot (fun i => fneg (A i)) X n)) = dneg (dadd (fof b) (dneg (ddot A X n))) := by
  have v1 := dval2 hb
  have v2 := adot_val hn ha hx
  have v3 := ares_val hn hb ha hx
  have na : ∀ i, i < n → ffin (fneg (A i)) = true := fun i hi => (fz_fneg (ha i hi)).1
  have v4 := ares_val hn (fz_fneg hb).1 na hx
  refine ⟨?_, ?_⟩
  · rw [v3.1, v2.1, dadd_nrm _ _ _ v3.2 v2.2, Int.sub_add_cancel, v1.1]
  · rw [v4.1, v3.1, dneg_nrm _ _ v3.2, (fz_fneg hb).2]
    congr 1
    have e1 : dotI (fun i => fneg (A i)) X n = -dotI A X n := by
      unfold dotI
      rw [← sumI_neg]
      exact sumI_congr fun i hi => by rw [(fz_fneg (ha i hi)).2, Int.neg_mul]
    rw [e1, Int.neg_mul]; omega

/-! ### the norms -/
def maxI (M : Nat → Int) : Nat → Int
  | 0 => 0
  | k + 1 => if maxI M k < M k then M k else maxI M k
def dinf (d : Nat → Option (Int × Int)) : Nat → Option (Int × Int)
  | 0 => some (0, 0)
  | k + 1 => if 0 < dcmp (d k) (dinf d k) then d k else dinf d k
theorem cmpI_pos {m n : Int} : 0 < cmpI m n ↔ n < m := by unfold cmpI; split <;> (try split) <;> constructor <;> intro h <;> omega
theorem dinf_nrm (d : Nat → Option (Int × Int)) (M : Nat → Int) {E : Int} (n : Nat) (h : ∀ i, i < n → d i = nrm (M i) E ∧ nrm (M i) E ≠ none) : dinf d n = nrm (maxI M n) E ∧ nrm (maxI M n) E ≠ none := by
  induction n with
  | zero => exact ⟨rfl, by rw [show maxI M 0 = 0 from rfl, nrm_zero]; simp⟩
  | succ n ih =>
    obtain ⟨h1, h2⟩ := ih (fun i hi => h i (by omega))
    obtain ⟨h3, h4⟩ := h n (by omega)
    simp only [dinf, maxI]
    rw [h1, h3, dcmp_nrm _ _ _ h4 h2]
    by_cases hc : maxI M n < M n
    · rw [if_pos (cmpI_pos.2 hc), if_pos hc]; exact ⟨rfl, h4⟩
    · rw [if_neg (fun k => hc (cmpI_pos.1 k)), if_neg hc]; exact ⟨rfl, h2⟩
theorem dabs_nrm (M E : Int) (h : nrm M E ≠ none) : dabs (nrm M E) = nrm (M.natAbs : Int) E ∧ nrm (M.natAbs : Int) E ≠ none := by
  rcases Int.natAbs_eq M with h1 | h1
  · rw [← h1]
    refine ⟨?_, h⟩
    cases k : nrm M E with
    | none => exact absurd k h
    | some p =>
      obtain ⟨m, e⟩ := p
      show some ((m.natAbs : Int), e) = _
      have : 0 ≤ m := by
        by_cases h0 : M = 0
        · subst h0; rw [nrm_zero] at k; injection k with k; injection k with h2 h3; omega
        · obtain ⟨t, ht, _⟩ := nrm_some h0 k
          have := (mul_pow_neg m t).1; rw [← ht] at this; omega
      rw [show (m.natAbs : Int) = m by omega]
  · have e1 : (M.natAbs : Int) = -M := by omega
    rw [e1]
    refine ⟨?_, nrm_neg_valid h⟩
    rw [← dneg_nrm _ _ h]
    cases k : nrm M E with
    | none => exact absurd k h
    | some p =>
      obtain ⟨m, e⟩ := p
      show some ((m.natAbs : Int), e) = some (-m, e)
      have : m ≤ 0 := by
        by_cases h0 : M = 0
        · subst h0; rw [nrm_zero] at k; injection k with k; injection k with h2 h3; omega
        · obtain ⟨t, ht, _⟩ := nrm_some h0 k
          have := (mul_pow_neg m t).2; rw [← ht] at this; omega
      rw [show (m.natAbs : Int) = -m by omega]
def absL (X : Nat → Nat) (i : Nat) : Int := ((fz (X i)).natAbs : Int)
theorem ainf_val {X : Nat → Nat} {n : Nat} (hx : ∀ i, i < n → ffin (X i) = true) :
    dinf (fun i => dabs (fof (X i))) n = nrm (maxI (absL X) n) (-1074) ∧ nrm (maxI (absL X) n) (-1074) ≠ none :=
  dinf_nrm _ (absL X) n fun i hi => by
    show dabs (fof (X i)) = _ ∧ _
    rw [fof_fin (hx i hi)]; exact dabs_nrm _ _ (fof_some (hx i hi))
theorem aone_val {X : Nat → Nat} {n : Nat} (hn : n ≤ 15) (hx : ∀ i, i < n → ffin (X i) = true) :
    dsum (fun i => dabs (fof (X i))) n = nrm (sumI (absL X) n) (-1074) ∧ nrm (sumI (absL X) n) (-1074) ≠ none := by
  refine ⟨dsum_nrm _ (absL X) (by omega) n (fun i hi => by
    show dabs (fof (X i)) = _ ∧ _
    rw [fof_fin (hx i hi)]; exact dabs_nrm _ _ (fof_some (hx i hi))), ?_⟩
  have := sumI_blen (absL X) hn (P := 2098) (fun i hi => by unfold absL; rw [Int.natAbs_natCast]; exact blen_fz (hx i hi))
  exact nrm_valid (by omega) (by omega)

/-! ### AccumCauchy -/
theorem sq_nonneg (x : Int) : 0 ≤ x * x := by
  rcases Int.le_total 0 x with h | h
  · exact Int.mul_nonneg h h
  · have := Int.mul_nonneg (show 0 ≤ -x by omega) (show 0 ≤ -x by omega); rwa [Int.neg_mul_neg] at this
theorem sq_root_le {q s : Int} (hs : 0 ≤ s) (h : q * q ≤ s * s) : q ≤ s := by
  by_cases hc : q ≤ s
  · exact hc
  · exfalso
    have h1 : s * s ≤ s * q := Int.mul_le_mul_of_nonneg_left (by omega) hs
    have h2 : s * q < q * q := Int.mul_lt_mul_of_pos_right (by omega) (by omega)
    omega
theorem cs_step {A B C : Int} (x y : Int) (hB : 0 ≤ B) (hC : 0 ≤ C) (h : A * A ≤ B * C) : (A + x * y) * (A + x * y) ≤ (B + x * x) * (C + y * y) := by
  obtain ⟨u, hu⟩ : ∃ u, u = B * (y * y) := ⟨_, rfl⟩
  obtain ⟨v, hv⟩ : ∃ v, v = C * (x * x) := ⟨_, rfl⟩
  obtain ⟨q, hq⟩ : ∃ q, q = A * (x * y) := ⟨_, rfl⟩
  have h1 : A * A * (x * x * (y * y)) ≤ B * C * (x * x * (y * y)) := Int.mul_le_mul_of_nonneg_right h (Int.mul_nonneg (sq_nonneg x) (sq_nonneg y))
  have e1 : A * A * (x * x * (y * y)) = q * q := by rw [hq]; ac_rfl
  have e2 : B * C * (x * x * (y * y)) = u * v := by rw [hu, hv]; ac_rfl
  rw [e1, e2] at h1
  have hu0 : 0 ≤ u := by rw [hu]; exact Int.mul_nonneg hB (sq_nonneg y)
  have hv0 : 0 ≤ v := by rw [hv]; exact Int.mul_nonneg hC (sq_nonneg x)
  have h2 := sq_nonneg (u - v)
  have h3 : (2 * q) * (2 * q) ≤ (u + v) * (u + v) := by
    have e3 : (u - v) * (u - v) = u * u - 2 * (u * v) + v * v := by grind
    have e4 : (u + v) * (u + v) = u * u + 2 * (u * v) + v * v := by grind
    have e5 : (2 * q) * (2 * q) = 4 * (q * q) := by grind
    omega
  have h4 := sq_root_le (by omega) h3
  have e6 : (A + x * y) * (A + x * y) = A * A + 2 * q + x * x * (y * y) := by rw [hq]; grind
  have e7 : (B + x * x) * (C + y * y) = B * C + u + v + x * x * (y * y) := by rw [hu, hv]; grind
  omega
theorem sumI_sq_nonneg (X : Nat → Int) (n : Nat) : 0 ≤ sumI (fun i => X i * X i) n := by
  induction n with
  | zero => exact Int.le_refl _
  | succ n ih => simp only [sumI]; have := sq_nonneg (X n); omega
theorem cauchy (X Y : Nat → Int) (n : Nat) : sumI (fun i => X i * Y i) n * sumI (fun i => X i * Y i) n ≤ sumI (fun i => X i * X i) n * sumI (fun i => Y i * Y i) n := by
  induction n with
  | zero => exact Int.le_refl _
  | succ n ih => simp only [sumI]; exact cs_step _ _ (sumI_sq_nonneg X n) (sumI_sq_nonneg Y n) ih
theorem maxI_sum (M : Nat → Int) (h : ∀ i, 0 ≤ M i) (n : Nat) : maxI M n ≤ sumI M n ∧ 0 ≤ sumI M n := by
  induction n with
  | zero => exact ⟨Int.le_refl _, Int.le_refl _⟩
  | succ n ih => have := h n; simp only [maxI, sumI]; split <;> omega
theorem sum_abs (X : Nat → Int) (n : Nat) : ((sumI X n).natAbs : Int) ≤ sumI (fun i => ((X i).natAbs : Int)) n := by
  induction n with
  | zero => exact Int.le_refl _
  | succ n ih => simp only [sumI]; omega
theorem max_sq (X : Nat → Int) (n : Nat) : maxI (fun i => ((X i).natAbs : Int)) n * maxI (fun i => ((X i).natAbs : Int)) n ≤ sumI (fun i => X i * X i) n := by
  induction n with
  | zero => exact Int.le_refl _
  | succ n ih =>
    simp only [maxI, sumI]
    have h1 := sq_nonneg (X n)
    have h2 := sumI_sq_nonneg X n
    split
    · have : (((X n).natAbs : Int)) * ((X n).natAbs : Int) = X n * X n := Int.natAbs_mul_self
      omega
    · omega
theorem cauchy_law {X Y : Nat → Nat} {n : Nat} (hn : n ≤ 15) (hx : ∀ i, i < n → ffin (X i) = true) (hy : ∀ i, i < n → ffin (Y i) = true)
    {a b c inf one s : Option (Int × Int)} (ea : a = ddot X Y n) (eb : b = ddot X X n) (ec : c = ddot Y Y n) (ei : inf = dinf (fun i => dabs (fof (X i))) n) (eo : one = dsum (fun i => dabs (fof (X i))) n) (es : s = dsum (fun i => fof (X i)) n) :
    (dbad (dmul a a) = false ∧ dbad (dmul b c) = false ∧ dcmp (dmul a a) (dmul b c) ≤ 0) ∧ (dbad inf = false ∧ dbad one = false ∧ dcmp inf one ≤ 0) ∧ (dbad (dabs s) = false ∧ dcmp (dabs s) one ≤ 0) ∧ (dbad (dmul inf inf) = false ∧ dbad b = false ∧ dcmp (dmul inf inf) b ≤ 0) := by
  have v1 := adot_val hn hx hy
  have v2 := adot_val hn hx hx
  have v3 := adot_val hn hy hy
  have v4 := ainf_val hx
  have v5 := aone_val hn hx
  have v6 := asum_val hn hx
  have b1 := adot_blen hn hx hy
  have b2 := adot_blen hn hx hx
  have b3 := adot_blen hn hy hy
  rw [← ea] at v1; rw [← eb] at v2; rw [← ec] at v3; rw [← ei] at v4; rw [← eo] at v5; rw [← es] at v6
  have m1 : dmul a a = nrm (dotI X Y n * dotI X Y n) (-2148 + -2148) := by rw [v1.1]; exact dmul_nrm _ _ _ _ v1.2 v1.2
  have m2 : dmul b c = nrm (dotI X X n * dotI Y Y n) (-2148 + -2148) := by rw [v2.1, v3.1]; exact dmul_nrm _ _ _ _ v2.2 v3.2
  have m3 : dmul inf inf = nrm (maxI (absL X) n * maxI (absL X) n) (-1074 + -1074) := by rw [v4.1]; exact dmul_nrm _ _ _ _ v4.2 v4.2
  have w1 : nrm (dotI X Y n * dotI X Y n) (-2148 + -2148) ≠ none := nrm_valid (by omega) (by have := bl_mul (dotI X Y n) (dotI X Y n); omega)
  have w2 : nrm (dotI X X n * dotI Y Y n) (-2148 + -2148) ≠ none := nrm_valid (by omega) (by have := bl_mul (dotI X X n) (dotI Y Y n); omega)
  have k1 := cauchy (fun i => fz (X i)) (fun i => fz (Y i)) n
  have k2 := maxI_sum (absL X) (fun i => by unfold absL; omega) n
  have k3 := sum_abs (fun i => fz (X i)) n
  have k4 := max_sq (fun i => fz (X i)) n
  have w3 : nrm (maxI (absL X) n * maxI (absL X) n) (-1074 + -1074) ≠ none := by
    refine nrm_valid (by omega) ?_
    have h1 : (maxI (absL X) n * maxI (absL X) n).natAbs ≤ (dotI X X n).natAbs := by
      have h0 := sq_nonneg (maxI (absL X) n)
      have h2 : maxI (absL X) n * maxI (absL X) n ≤ dotI X X n := k4
      omega
    have := blen_mono h1
    omega
  have d6 := dabs_nrm _ _ v6.2
  refine ⟨⟨?_, ?_, ?_⟩, ⟨?_, ?_, ?_⟩, ⟨?_, ?_⟩, ?_, ?_, ?_⟩
  · rw [m1]; exact dbad_nn.2 w1
  · rw [m2]; exact dbad_nn.2 w2
  · rw [m1, m2, dcmp_nrm _ _ _ w1 w2]; exact cmpI_le.2 k1
  · rw [v4.1]; exact dbad_nn.2 v4.2
  · rw [v5.1]; exact dbad_nn.2 v5.2
  · rw [v4.1, v5.1, dcmp_nrm _ _ _ v4.2 v5.2]; exact cmpI_le.2 k2.1
  · rw [v6.1, d6.1]; exact dbad_nn.2 d6.2
  · rw [v6.1, d6.1, v5.1, dcmp_nrm _ _ _ d6.2 v5.2]; exact cmpI_le.2 k3
  · rw [m3]; exact dbad_nn.2 w3
  · rw [v2.1]; exact dbad_nn.2 v2.2
  · rw [m3, v2.1]
    rw [show (-1074 : Int) + -1074 = -2148 by decide] at w3 ⊢
    rw [dcmp_nrm _ _ _ w3 v2.2]; exact cmpI_le.2 k4

end Go.Proofs.YtmpcikkimcehnaaGreatDoor

namespace Go.Proofs.YtmpcikkimcehnaaGreatDoor
open Go.RowKit Sp

/-! ### the root of a dyad in units of 2^-2148 -/
def cxS (V : Nat) (j : Nat) : Int := cmpI ((4 * V : Nat) : Int) ((j * j : Nat) : Int)
theorem cxS_cx (V : Nat) : Cx (cxS V) := by
  refine ⟨fun j => cmpI_range _ _, fun j j' h h' => ?_⟩
  have h1 := cmpI_ge.1 h'
  refine cmpI_one.2 ?_
  have h2 := sq_lt h
  unfold cxS at *
  omega
theorem froot_gridS (z : Int) (mode : Int) (h0 : 0 < z) (h : nrm z (-2148) ≠ none) :
    ∃ c, IsLo (cxS z.natAbs) c ∧ froot (nrm z (-2148)) mode = fcut false (c + if awx false c (cxS z.natAbs) mode then 1 else 0) mode := by
  cases hd : nrm z (-2148) with
  | none => exact absurd hd h
  | some p =>
    obtain ⟨m, e⟩ := p
    obtain ⟨t, ht, he, hodd, _, _⟩ := nrm_some (by omega) hd
    have hm0 : 0 < m := by have := (mul_pow_neg m t).2; rw [← ht] at this; omega
    have hab : z.natAbs = m.natAbs * 2 ^ t := by rw [ht]; exact natAbs_mul_pow m t
    have hmp : 0 < m.natAbs := by omega
    show ∃ c, _ ∧ (if m < 0 then fNaN else if m = 0 then 0 else frnd false (isq (m.natAbs * 2 ^ rsh m e 56)) ((e - rsh m e 56) / 2) (decide (isq (m.natAbs * 2 ^ rsh m e 56) * isq (m.natAbs * 2 ^ rsh m e 56) ≠ m.natAbs * 2 ^ rsh m e 56)) mode) = _
    rw [if_neg (by omega), if_neg (by omega)]
    have he2 := rsh_even m e 56
    have hge := rsh_ge m e 56
    obtain ⟨n, hn⟩ : ∃ n, n = rsh m e 56 := ⟨_, rfl⟩
    rw [← hn] at he2 hge ⊢
    obtain ⟨V, hV⟩ : ∃ V, V = m.natAbs * 2 ^ n := ⟨_, rfl⟩
    have hVb : blen V = blen m.natAbs + n := by rw [hV]; exact blen_mul_pow hmp n
    have hVp : 0 < V := by rw [hV]; exact Nat.mul_pos hmp (two_pow_pos _)
    rw [← hV]
    have i1 := isq_le V
    have i2 := isq_lt V
    obtain ⟨X, hX⟩ : ∃ X, X = isq V := ⟨_, rfl⟩
    rw [← hX] at i1 i2 ⊢
    obtain ⟨E, hE⟩ : ∃ E : Int, E = (e - n) / 2 := ⟨_, rfl⟩
    have hE2 : e - n = 2 * E := by omega
    rw [← hE]
    have hXb : 58 ≤ blen X := by
      by_cases hb : blen X < 58
      · have h1 := lt_blen X
        have h2 : X + 1 ≤ 2 ^ 57 := Nat.le_trans h1 (Nat.pow_le_pow_right (by decide) (by omega))
        have h3 := sq_le h2
        have h4 := blen_le_self hVp
        have h5 : 2 ^ 117 ≤ 2 ^ (blen V - 1) := Nat.pow_le_pow_right (by decide) (by omega)
        have h6 : (2 : Nat) ^ 57 * 2 ^ 57 < 2 ^ 117 := by decide
        omega
      · omega
    have hcut : CutAt X E (decide (X * X ≠ V)) (cxS z.natAbs) := by
      intro j Y hj
      obtain ⟨a, ha⟩ : ∃ a : Nat, a = (-1075 - min E (-1075)).toNat := ⟨_, rfl⟩
      obtain ⟨b, hb⟩ : ∃ b : Nat, b = (E - min E (-1075)).toNat := ⟨_, rfl⟩
      rw [← ha, ← hb] at hj
      have h3 : cxS z.natAbs j = cmpI ((V : Nat) : Int) ((Y * Y : Nat) : Int) := by
        unfold cxS
        refine cmpI_scale (p := 2 ^ (a + a)) (q := 2 ^ (b + b)) (two_pow_pos _) (two_pow_pos _) ?_ ?_
        · have e1 : 4 * (m.natAbs * 2 ^ t) * 2 ^ (a + a) = m.natAbs * (2 ^ t * 2 ^ 2 * 2 ^ (a + a)) := by rw [show (4 : Nat) = 2 ^ 2 by decide]; ac_rfl
          rw [hab, hV, e1, ← Nat.pow_add, ← Nat.pow_add, Nat.mul_assoc, ← Nat.pow_add]
          exact congrArg (fun q => m.natAbs * 2 ^ q) (by omega)
        · have e1 : j * j * 2 ^ (a + a) = (j * 2 ^ a) * (j * 2 ^ a) := by rw [Nat.pow_add]; ac_rfl
          have e2 : Y * Y * 2 ^ (b + b) = (Y * 2 ^ b) * (Y * 2 ^ b) := by rw [Nat.pow_add]; ac_rfl
          rw [e1, e2, hj]
      rw [h3]
      by_cases hlt : X < Y
      · rw [if_pos hlt]; have := sq_le (show X + 1 ≤ Y by omega); exact cmpI_m1.2 (by omega)
      · rw [if_neg hlt]
        by_cases heq : X = Y
        · subst heq
          rw [if_pos rfl]
          by_cases hs : X * X = V
          · simp only [hs, ne_eq, not_true_eq_false, decide_false, Bool.false_eq_true, if_false]
            exact cmpI_eq0.2 (by omega)
          · simp only [ne_eq, hs, not_false_eq_true, decide_true, if_true]
            exact cmpI_one.2 (by omega)
        · rw [if_neg heq]; have := sq_lt (show Y < X by omega); exact cmpI_one.2 (by omega)
    have hXp : 0 < X := by
      rcases Nat.eq_zero_or_pos X with h | h
      · rw [h] at hXb; exact absurd hXb (by decide)
      · exact h
    obtain ⟨c, h1, h2⟩ := fcode_spec false hXp E _ mode (cxS_cx z.natAbs) hcut (fun _ => by unfold rlg; omega)
    exact ⟨c, h1, by unfold frnd; rw [h2]⟩

/-! ### AccumRoots -/
theorem dprod_val {x : Nat} (hx : ffin x = true) : dmul (fof x) (fof x) = nrm (fz x * fz x) (-2148) ∧ nrm (fz x * fz x) (-2148) ≠ none := fmul_val hx hx
/-- the rounded roots of a number in units of 2^-2148 -/
theorem roots_law {S : Int} (h0 : 0 ≤ S) (hv : nrm S (-2148) ≠ none) {lo hi : Nat} (el : lo = froot (nrm S (-2148)) 1) (eh : hi = froot (nrm S (-2148)) 2) :
    (ffin lo = true ∧ dbad (dmul (fof lo) (fof lo)) = false ∧ dcmp (dmul (fof lo) (fof lo)) (nrm S (-2148)) ≤ 0) ∧
    (hi = 9218868437227405312 ∨ (ffin hi = true ∧ dbad (dmul (fof hi) (fof hi)) = false ∧ dcmp (nrm S (-2148)) (dmul (fof hi) (fof hi)) ≤ 0)) := by
  by_cases hz : S = 0
  · subst hz
    have z0 : froot (nrm 0 (-2148)) 1 = 0 := by rw [nrm_zero]; rfl
    have z1 : froot (nrm 0 (-2148)) 2 = 0 := by rw [nrm_zero]; rfl
    rw [z0] at el; rw [z1] at eh
    subst el eh
    have f0 : ffin 0 = true := by decide
    have v := dprod_val f0
    have e0 : fz 0 * fz 0 = 0 := by decide
    rw [e0] at v
    rw [v.1, nrm_zero]
    exact ⟨⟨f0, by decide, by decide⟩, Or.inr ⟨f0, by decide, by decide⟩⟩
  · have hp : 0 < S := by omega
    obtain ⟨c, k1, k2⟩ := froot_gridS S 1 hp hv
    obtain ⟨c', k1', k2'⟩ := froot_gridS S 2 hp hv
    obtain rfl := IsLo.uniq (cxS_cx _) k1 k1'
    rw [← el] at k2
    rw [← eh] at k2'
    clear k1'
    rw [(awx_dir c _).1] at k2
    rw [(awx_dir c _).2] at k2'
    have q1 := cmpI_ge.1 k1.1
    have q2 := cmpI_m1.1 k1.2
    have sq : ∀ x : Nat, 2 * x * (2 * x) = 4 * (x * x) := by intro x; rw [Nat.mul_mul_mul_comm]
    have hzz : cxS S.natAbs (2 * fzN c) = 0 ↔ fzN c * fzN c = S.natAbs := by unfold cxS; rw [cmpI_eq0, sq]; omega
    have q3 : fzN c * fzN c ≤ S.natAbs := by rw [sq] at q1; omega
    have q4 : S.natAbs < fzN (c + 1) * fzN (c + 1) := by rw [sq] at q2; omega
    have hS : S = ((S.natAbs : Nat) : Int) := by omega
    refine ⟨?_, ?_⟩
    · have e : lo = min c 9218868437227405311 := by rw [k2]; exact (fcut_dir c).1
      rw [e]
      obtain ⟨fl, zl⟩ := fin_code (c := min c 9218868437227405311) (by omega)
      have v := dprod_val fl
      refine ⟨fl, by rw [v.1]; exact dbad_nn.2 v.2, ?_⟩
      rw [v.1, dcmp_nrm _ _ _ v.2 hv, zl, ← Int.natCast_mul]
      have := fzN_le_iff.2 (Nat.min_le_left c 9218868437227405311)
      have := Nat.mul_le_mul this this
      exact cmpI_le.2 (by omega)
    · have e := k2'
      rw [(fcut_dir _).2.1] at e
      by_cases hlt : c + (if (if cxS S.natAbs (2 * fzN c) = 0 then false else true) = true then 1 else 0) < 9218868437227405312
      · right
        rw [Nat.min_eq_left (Nat.le_of_lt hlt)] at e
        rw [e]
        obtain ⟨fl, zl⟩ := fin_code hlt
        have v := dprod_val fl
        refine ⟨fl, by rw [v.1]; exact dbad_nn.2 v.2, ?_⟩
        rw [v.1, dcmp_nrm _ _ _ hv v.2, zl, ← Int.natCast_mul]
        refine cmpI_le.2 ?_
        by_cases hh : cxS S.natAbs (2 * fzN c) = 0
        · simp only [hh, if_true, Bool.false_eq_true, if_false, Nat.add_zero]
          have := hzz.1 hh
          omega
        · simp only [hh, if_false, if_true]
          omega
      · left
        rw [e]; omega

/-! ### the rounding error of a sum is a float -/
theorem dcmp_same {a b : Option (Int × Int)} (ha : IsN a) (hb : IsN b) (h1 : dbad a = false) (h2 : dbad b = false) (h : dcmp a b = 0) : a = b := by
  cases a with
  | none => cases h1
  | some p =>
    cases b with
    | none => cases h2
    | some q =>
      obtain ⟨m, e⟩ := p
      obtain ⟨n, f⟩ := q
      have k := cmpI_eq0.1 (show cmpI (up m e (min e f)) (up n f (min e f)) = 0 from h)
      have e1 := nrm_up m e (min e f) (by omega)
      have e2 := nrm_up n f (min e f) (by omega)
      rw [nrm_self (ha m e rfl)] at e1
      rw [nrm_self (hb n f rfl)] at e2
      rw [← e1, ← e2, k]
theorem awx_near {s : Bool} {c : Nat} {Z : Nat} (h1 : fzN c ≤ Z) (h2 : Z < fzN (c + 1)) (c' : Nat) :
    (((fzN (c + if awx s c (cxQ Z 1) 0 then 1 else 0) : Nat) : Int) - Z).natAbs ≤ ((fzN c' : Int) - Z).natAbs := by
  have h3 : (((fzN (c + if awx s c (cxQ Z 1) 0 then 1 else 0) : Nat) : Int) - Z).natAbs ≤ Z - fzN c ∧ (((fzN (c + if awx s c (cxQ Z 1) 0 then 1 else 0) : Nat) : Int) - Z).natAbs ≤ fzN (c + 1) - Z := by
    unfold awx cxQ
    have m1 : ¬ (0 : Int) = 1 := by decide
    have m2 : ¬ (0 : Int) = 2 := by decide
    have m3 : ¬ (0 : Int) = 3 := by decide
    simp only [m1, m2, m3, if_false, Nat.mul_one]
    by_cases hz : cmpI ((2 * Z : Nat) : Int) ((2 * fzN c : Nat) : Int) = 0
    · have := cmpI_eq0.1 hz
      rw [if_pos hz]; simp; omega
    · rw [if_neg hz]
      rcases Int.lt_trichotomy ((2 * Z : Nat) : Int) ((fzN c + fzN (c + 1) : Nat) : Int) with h | h | h
      · rw [cmpI_lt h]; simp; omega
      · rw [cmpI_eq h]
        by_cases hp : c % 2 = 1
        · simp [hp]; omega
        · simp [hp]; omega
      · rw [cmpI_gt h]; simp; omega
  rcases Nat.lt_or_ge c c' with h | h
  · have := fzN_le_iff.2 (show c + 1 ≤ c' from h); omega
  · have := fzN_le_iff.2 h; omega
theorem code_mul (c k : Nat) : (∃ q, fzN c = q * 2 ^ k) ∨ fzN (c + 1) ≤ 4503599627370496 * 2 ^ k := by
  obtain ⟨k', n, hc, hn, hk⟩ := code_split c
  have e1 : fzN c = n * 2 ^ k' := by rw [hc]; exact fzN_code k' n (by omega) hk
  rcases Nat.lt_or_ge k' k with h | h
  · right
    have e2 : fzN (c + 1) = (n + 1) * 2 ^ k' := by rw [hc, Nat.add_assoc]; exact fzN_code k' (n + 1) (by omega) (by omega)
    rw [e2]
    obtain ⟨d, rfl⟩ : ∃ d, k = k' + 1 + d := ⟨k - k' - 1, by omega⟩
    have h3 : 1 ≤ 2 ^ d := Nat.pow_pos (by decide)
    have h4 : (n + 1) * 2 ^ k' ≤ 9007199254740992 * 2 ^ k' := Nat.mul_le_mul_right _ (by omega)
    have h5 : 9007199254740992 * 2 ^ k' * 1 ≤ 9007199254740992 * 2 ^ k' * 2 ^ d := Nat.mul_le_mul_left _ h3
    have h6 : 4503599627370496 * 2 ^ (k' + 1 + d) = 9007199254740992 * 2 ^ k' * 2 ^ d := by rw [Nat.pow_add, Nat.pow_succ]; generalize 2 ^ k' = p; generalize 2 ^ d = q; grind
    omega
  · left
    obtain ⟨d, rfl⟩ : ∃ d, k' = k + d := ⟨k' - k, by omega⟩
    exact ⟨n * 2 ^ d, by rw [e1, Nat.pow_add]; ac_rfl⟩
/-- the error of a sum of two codes (y the lesser), rounded to nearest, is a code -/
theorem err_code {x y Z c : Nat} {s : Bool} (hxy : y ≤ x) (hZ : Z = fzN x + fzN y ∨ Z = fzN x - fzN y) (h1 : fzN c ≤ Z) (h2 : Z < fzN (c + 1)) :
    ∃ r, r ≤ y ∧ fzN r = (((fzN (c + if awx s c (cxQ Z 1) 0 then 1 else 0) : Nat) : Int) - Z).natAbs := by
  have hxy' := fzN_le_iff.2 hxy
  have hnear := awx_near (s := s) h1 h2 x
  have hd : ((fzN x : Int) - Z).natAbs = fzN y := by omega
  rw [hd] at hnear
  obtain ⟨k, n, hy, hn, hk⟩ := code_split y
  obtain ⟨k', n', hx, hn', hk'⟩ := code_split x
  have hkk : k ≤ k' := by omega
  obtain ⟨d, rfl⟩ : ∃ d, k' = k + d := ⟨k' - k, by omega⟩
  have e1 : fzN y = n * 2 ^ k := by rw [hy]; exact fzN_code k n (by omega) hk
  have e2 : fzN x = n' * 2 ^ d * 2 ^ k := by rw [hx, fzN_code (k + d) n' (by omega) hk', Nat.pow_add]; ac_rfl
  have hp := two_pow_pos k
  have hZ2 : ∃ z, Z = z * 2 ^ k := by
    rcases hZ with h | h
    · exact ⟨n' * 2 ^ d + n, by rw [h, e1, e2, Nat.add_mul]⟩
    · exact ⟨n' * 2 ^ d - n, by rw [h, e1, e2, Nat.sub_mul]⟩
  obtain ⟨z, hz⟩ := hZ2
  have key : ∃ r', (((fzN (c + if awx s c (cxQ Z 1) 0 then 1 else 0) : Nat) : Int) - Z).natAbs = r' * 2 ^ k := by
    rcases code_mul c k with ⟨q, hq⟩ | hsm
    · rcases code_mul (c + 1) k with ⟨q', hq'⟩ | hsm'
      · cases awx s c (cxQ Z 1) 0
        · refine ⟨z - q, ?_⟩
          simp only [Bool.false_eq_true, if_false, Nat.add_zero]
          rw [Nat.sub_mul, ← hz, ← hq]; omega
        · refine ⟨q' - z, ?_⟩
          simp only [if_true]
          rw [Nat.sub_mul, ← hz, ← hq']; omega
      · -- then the sum itself is a code
        have hzs : z < 4503599627370496 := by
          refine Nat.lt_of_mul_lt_mul_right (a := 2 ^ k) ?_
          rw [← hz]
          have := fzN_lt_succ (c + 1); omega
        obtain ⟨c0, hc0⟩ := fzN_repr k z (by omega)
        rw [← hz] at hc0
        have hn0 := awx_near (s := s) h1 h2 c0
        exact ⟨0, by rw [Nat.zero_mul]; omega⟩
    · have hzs : z < 4503599627370496 := by
        refine Nat.lt_of_mul_lt_mul_right (a := 2 ^ k) ?_
        rw [← hz]; omega
      obtain ⟨c0, hc0⟩ := fzN_repr k z (by omega)
      rw [← hz] at hc0
      have hn0 := awx_near (s := s) h1 h2 c0
      exact ⟨0, by rw [Nat.zero_mul]; omega⟩
  obtain ⟨r', hr'⟩ := key
  have hrn : r' ≤ n := by
    refine Nat.le_of_mul_le_mul_right (c := 2 ^ k) ?_ hp
    rw [← hr', ← e1]; exact hnear
  obtain ⟨r, hr⟩ := fzN_repr k r' (by omega)
  refine ⟨r, ?_, by rw [hr, hr']⟩
  exact fzN_le_iff.1 (by rw [hr, e1]; exact Nat.mul_le_mul_right _ hrn)

/-- a number whose absolute value is a code's, rounded, is itself -/
theorem fround_code {R : Int} {r : Nat} (hr : fzN r = R.natAbs) (hl : r < 9218868437227405312) (mode : Int) :
    ffin (fround (nrm R (-1074)) mode) = true ∧ fz (fround (nrm R (-1074)) mode) = R := by
  by_cases h0 : R = 0
  · subst h0; rw [fround_zero]; exact ⟨by decide, by decide⟩
  · rw [fround_exact h0 hr.symm hl]
    have h5 := fof_fsgn (s := decide (R < 0)) hl
    exact ⟨h5.1, by rw [h5.2, hr, sgn_self]⟩
theorem fsum_err {a b : Nat} (ha : ffin a = true) (hb : ffin b = true) (hs : ffin (fadd a b 0) = true) :
    ∃ r, r < 9218868437227405312 ∧ fzN r = (fz a + fz b - fz (fadd a b 0)).natAbs := by
  have la : fM a < 9218868437227405312 := by unfold ffin at ha; simpa using ha
  have lb : fM b < 9218868437227405312 := by unfold ffin at hb; simpa using hb
  have hzero : ∀ s, fz a + fz b - s = 0 → ∃ r, r < 9218868437227405312 ∧ fzN r = (fz a + fz b - s).natAbs := fun s h => ⟨0, by decide, by rw [h]; rfl⟩
  rw [fadd_fin ha hb] at hs ⊢
  by_cases k1 : (fzero a && decide (a = b)) = true
  · rw [if_pos k1]
    simp only [Bool.and_eq_true, decide_eq_true_eq] at k1
    have hA : fM a = 0 := by have := k1.1; unfold fzero at this; simpa using this
    have e0 := fz_zero.2 hA
    refine hzero _ ?_
    rw [← k1.2, e0]; rfl
  · rw [if_neg k1] at hs ⊢
    by_cases k2 : fz a + fz b = 0
    · rw [if_pos k2]
      refine hzero _ ?_
      rw [k2]; unfold fnothing; decide
    · rw [if_neg k2] at hs ⊢
      have hv := (fadd_val ha hb).2
      rw [g0] at hv
      obtain ⟨c, h1, h2⟩ := fround_grid (fz a + fz b) 0 0 k2 hv
      rw [← g0, Nat.pow_zero] at h2
      rw [Nat.pow_zero] at h1
      rw [h2] at hs ⊢
      have q1 := cmpI_ge.1 h1.1
      have q2 := cmpI_m1.1 h1.2
      rw [Nat.mul_one] at q1 q2
      have p1 : fzN c ≤ (fz a + fz b).natAbs := by omega
      have p2 : (fz a + fz b).natAbs < fzN (c + 1) := by omega
      obtain ⟨S, hS⟩ : ∃ S, S = decide (fz a + fz b < 0) := ⟨_, rfl⟩
      rw [← hS] at h2 hs ⊢
      obtain ⟨N, hN⟩ : ∃ N, N = c + (if awx S c (cxQ (fz a + fz b).natAbs 1) 0 then 1 else 0) := ⟨_, rfl⟩
      rw [← hN] at hs ⊢
      have hlt : N < 9218868437227405312 := by
        by_cases h : N < 9218868437227405312
        · exact h
        · exfalso
          unfold fcut at hs; rw [if_pos (by unfold fInf; omega)] at hs
          unfold fover at hs
          rw [if_neg (by simp)] at hs
          revert hs; cases S <;> decide
      rw [fcut_small hlt, (fof_fsgn hlt).2]
      have hab := fz_abs a
      have hbb := fz_abs b
      have main : ∀ x y : Nat, y ≤ x → y < 9218868437227405312 → ((fz a + fz b).natAbs = fzN x + fzN y ∨ (fz a + fz b).natAbs = fzN x - fzN y) → ∃ r, r < 9218868437227405312 ∧ fzN r = (fz a + fz b - sgn S (fzN N)).natAbs := by
        intro x y hxy hy hZ
        obtain ⟨r, hr1, hr2⟩ := err_code (s := S) hxy hZ p1 p2
        rw [← hN] at hr2
        refine ⟨r, by omega, ?_⟩
        rw [hr2]
        have e3 := sgn_self (fz a + fz b)
        rw [← hS] at e3
        generalize (fz a + fz b).natAbs = Q at *
        rw [← e3]
        unfold sgn; cases S <;> simp <;> omega
      rcases Nat.le_total (fM b) (fM a) with h | h
      · have := fzN_le_iff.2 h
        refine main (fM a) (fM b) h lb ?_
        omega
      · have := fzN_le_iff.2 h
        refine main (fM b) (fM a) h la ?_
        omega

/-- what rest returns: the float of the remainder, and whether it is exact -/
def frest (s : Nat) (x : Option (Int × Int)) : Nat := fround (dadd x (dneg (fof s))) 0
def frestok (s : Nat) (x : Option (Int × Int)) : Bool := (!dbad (fof (frest s x)) && !dbad (dadd x (dneg (fof s)))) && decide (dcmp (fof (frest s x)) (dadd x (dneg (fof s))) = 0)
theorem isN_rest (s : Nat) (x : Option (Int × Int)) : IsN (dadd x (dneg (fof s))) := isN_add _ _
theorem frestok_eq {s : Nat} {x : Option (Int × Int)} (h : frestok s x = true) : fof (frest s x) = dadd x (dneg (fof s)) ∧ dbad (fof (frest s x)) = false := by
  unfold frestok at h
  simp only [Bool.and_eq_true, Bool.not_eq_true', decide_eq_true_eq] at h
  exact ⟨dcmp_same (isN_fof _) (isN_rest _ _) h.1.1 h.1.2 h.2, h.1.1⟩
theorem frestok_bad {s : Nat} {x : Option (Int × Int)} (h : ffin s = false) : frestok s x = false := by
  have : dadd x (dneg (fof s)) = none := by rw [fof_not h]; exact dadd_none x
  unfold frestok
  rw [this]; simp [dbad]
theorem free_sum {a b : Nat} (ha : ffin a = true) (hb : ffin b = true) :
    frestok (fadd a b 0) (dadd (fof a) (fof b)) = ffin (fadd a b 0) ∧
    (ffin (fadd a b 0) = true → dadd (fof (fadd a b 0)) (fof (frest (fadd a b 0) (dadd (fof a) (fof b)))) = dadd (fof a) (fof b)) := by
  cases hs : ffin (fadd a b 0) with
  | false => exact ⟨frestok_bad hs, fun h => by cases h⟩
  | true =>
    obtain ⟨r, hr1, hr2⟩ := fsum_err ha hb hs
    have v := fadd_val ha hb
    have w : nrm (fz a + fz b - fz (fadd a b 0)) (-1074) ≠ none := nrm_valid (by omega) (by rw [← hr2]; have := blen_fzN hr1; omega)
    have e1 : dadd (dadd (fof a) (fof b)) (dneg (fof (fadd a b 0))) = nrm (fz a + fz b - fz (fadd a b 0)) (-1074) := by
      rw [v.1, fof_fin hs]; exact dsub_nrm _ _ _ v.2 (fof_some hs) (nrm_neg_valid (fof_some hs))
    have c := fround_code hr2 hr1 0
    have e2 : fof (frest (fadd a b 0) (dadd (fof a) (fof b))) = nrm (fz a + fz b - fz (fadd a b 0)) (-1074) := by
      unfold frest; rw [e1, fof_fin c.1, c.2]
    refine ⟨?_, fun _ => ?_⟩
    · unfold frestok
      rw [e2, e1, dbad_nn.2 w, dcmp_nrm _ _ _ w w, cmpI_eq0.2 rfl]; rfl
    · rw [e2, fof_fin hs, dadd_nrm _ _ _ (fof_some hs) w, v.1]
      congr 1; omega
theorem free_mul {a b : Nat} (ha : ffin a = true) (hb : ffin b = true) (h : frestok (fmul a b 0) (dmul (fof a) (fof b)) = true) :
    dadd (fof (fmul a b 0)) (fof (frest (fmul a b 0) (dmul (fof a) (fof b)))) = dmul (fof a) (fof b) := by
  cases hs : ffin (fmul a b 0) with
  | false => rw [frestok_bad hs] at h; cases h
  | true =>
    obtain ⟨h1, h2⟩ := frestok_eq h
    have v := fmul_val ha hb
    have v2 := dval2 hs
    have hb1 := blen_fz_mul ha hb
    have hb2 := blen_val2 hs
    have w : nrm (fz a * fz b - fz (fmul a b 0) * 2 ^ 1074) (-2148) ≠ none := by
      have h1 := bl_add (fz a * fz b) (-(fz (fmul a b 0) * 2 ^ 1074))
      rw [Int.natAbs_neg] at h1
      rw [Int.sub_eq_add_neg]
      exact nrm_valid (by omega) (by omega)
    rw [h1, v.1, v2.1, dsub_nrm _ _ _ v.2 v2.2 (nrm_neg_valid v2.2), dadd_nrm _ _ _ v2.2 w]
    congr 1; omega

/-! ### awake -/
def fBig : Nat := 4877398396442247168
theorem big_val : ffin fBig = true ∧ fz fBig = 2 ^ 1134 := by
  refine ⟨by decide, ?_⟩
  have h := fzN_code 1082 4503599627370496 (by omega) (by omega)
  have e : 1082 * 4503599627370496 + 4503599627370496 = fBig := by decide
  rw [e] at h
  rw [fz_fsgn0 (by decide), h, p52 1082 1134 (by decide)]; exact pow2_nat 1134
theorem pow60 (a b : Nat) (h : 60 + b = a) : (2 : Int) ^ a = 1152921504606846976 * 2 ^ b := by subst h; rw [Int.pow_add]; rfl
theorem big_round : fround (nrm 1152921504606846976 0) 0 = fBig := by
  have h1 : nrm 1152921504606846976 0 = fof fBig := by
    rw [fof_fin big_val.1, big_val.2]
    have e : (2 : Int) ^ 1134 = 1152921504606846976 * 2 ^ 1074 := pow60 1134 1074 (by decide)
    rw [e, nrm_scale]; rfl
  rw [h1]; exact fround_of (by decide) (by decide) (by decide) 0
theorem pow8 (a b : Nat) (h : 8 + b = a) : 2 ^ a = 256 * 2 ^ b := by subst h; rw [Nat.pow_add]
theorem big_add : fadd fBig fOne 0 = fBig := by
  have hz : fz fBig + fz fOne = 2 ^ 1134 + 2 ^ 1074 := by rw [big_val.2, fz_one]
  have hab : (fz fBig + fz fOne).natAbs = 2 ^ 1134 + 2 ^ 1074 := by
    rw [hz, ← pow2_nat, ← pow2_nat, ← Int.natCast_add, Int.natAbs_natCast]
  have p1 : (0 : Int) < 2 ^ 1134 := Int.pow_pos (by decide)
  have p2 : (0 : Int) < 2 ^ 1074 := Int.pow_pos (by decide)
  have hne : fz fBig + fz fOne ≠ 0 := by rw [hz]; omega
  have hsg : decide (fz fBig + fz fOne < 0) = false := by rw [hz]; simp only [decide_eq_false_iff_not]; omega
  rw [fadd_fin big_val.1 fin_one, if_neg (by decide), if_neg hne]
  have hv := (fadd_val big_val.1 fin_one).2
  rw [g0] at hv
  obtain ⟨c, h1, h2⟩ := fround_grid (fz fBig + fz fOne) 0 0 hne hv
  rw [← g0, Nat.pow_zero, hsg, hab] at h2
  rw [Nat.pow_zero, hab] at h1
  have b0 : fzN fBig = 2 ^ 1134 := by
    have h := fzN_code 1082 4503599627370496 (by omega) (by omega)
    have e : 1082 * 4503599627370496 + 4503599627370496 = fBig := by decide
    rw [e, p52 1082 1134 (by decide)] at h; exact h
  have b1 : fzN (fBig + 1) = 2 ^ 1134 + 2 ^ 1082 := by
    have h := @fzN_succ 1082 4503599627370496 (by omega) (by omega)
    have e : 1082 * 4503599627370496 + 4503599627370496 = fBig := by decide
    rw [e, b0] at h; exact h
  have hp : 2 ^ 1082 = 256 * 2 ^ 1074 := pow8 1082 1074 (by decide)
  have hpos : 0 < 2 ^ 1074 := two_pow_pos 1074
  rw [hp] at b1
  generalize (2 : Nat) ^ 1134 = P at *
  generalize (2 : Nat) ^ 1074 = Q at *
  have hlo : IsLo (cxQ (P + Q) 1) fBig := by
    refine ⟨cmpI_ge.2 ?_, cmpI_m1.2 ?_⟩
    · rw [b0]; omega
    · rw [b1]; omega
  have hdc : c = fBig := IsLo.uniq (cxQ_cx _ (by decide)) h1 hlo
  subst hdc
  have hw : awx false fBig (cxQ (P + Q) 1) 0 = false := by
    unfold awx cxQ
    rw [b0, b1, Nat.mul_one, Nat.mul_one]
    rw [if_neg (by rw [cmpI_eq0]; omega), if_neg (by decide), if_neg (by decide), if_neg (by decide), cmpI_lt (by omega)]
    rfl
  rw [h2, hw]
  exact fcut_small (by decide)
theorem big_rest : frest fBig (dadd (fof fBig) (fof fOne)) = fOne ∧ frestok fBig (dadd (fof fBig) (fof fOne)) = true := by
  have h := free_sum big_val.1 fin_one
  rw [big_add] at h
  refine ⟨?_, by rw [h.1]; exact big_val.1⟩
  have v := fadd_val big_val.1 fin_one
  have hv := fof_some big_val.1
  unfold frest
  rw [v.1, fof_fin big_val.1, dsub_nrm _ _ _ v.2 hv (nrm_neg_valid hv), show fz fBig + fz fOne - fz fBig = fz fOne by omega, ← fof_fin fin_one]
  exact fround_of (by decide) (by decide) (by decide) 0

end Go.Proofs.YtmpcikkimcehnaaGreatDoor

