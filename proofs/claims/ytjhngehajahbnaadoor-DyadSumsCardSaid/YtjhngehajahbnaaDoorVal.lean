/-
  Plain law: dyads as pairs of an integer and an exponent: their normal form, the operations on them, rounding. No program in sight.
-/
import Derived.Test.YtjhngehajahbnaaDoorDy
namespace Go.Proofs.YtjhngehajahbnaaDoor
open Go.RowKit Sp

theorem nl_le_blen (x : Nat) : nl x ≤ blen x := by unfold nl blen; split <;> omega
/-! ### normal dyads -/
/-- a pair that is its own normal form -/
def Okd (m e : Int) : Prop := (m = 0 ∧ e = 0) ∨ (m % 2 = 1 ∧ -65536 ≤ e ∧ e + blen m.natAbs ≤ 65536)

theorem pow2_pos (k : Nat) : (0 : Int) < 2 ^ k := Int.pow_pos (by decide)
theorem pow2_nat (k : Nat) : ((2 ^ k : Nat) : Int) = (2 : Int) ^ k := by simp
theorem natAbs_mul_pow (m : Int) (k : Nat) : (m * 2 ^ k).natAbs = m.natAbs * 2 ^ k := by
  rw [Int.natAbs_mul, Int.natAbs_pow]; rfl
theorem pow2_dvd_of_natAbs {m : Int} {t : Nat} (h : 2 ^ t ∣ m.natAbs) : ((2 : Int) ^ t) ∣ m := by
  rw [← pow2_nat]; exact Int.ofNat_dvd_left.2 h
/-- a number that is not zero is an odd one times a power of two -/
theorem int_split {m : Int} (h : m ≠ 0) : ∃ y : Int, m = y * 2 ^ tz m.natAbs ∧ y % 2 = 1 ∧ m / 2 ^ tz m.natAbs = y := by
  have hp : 0 < m.natAbs := Int.natAbs_pos.2 h
  obtain ⟨y, hy⟩ := pow2_dvd_of_natAbs (tz_dvd hp)
  have hy' : m = y * 2 ^ tz m.natAbs := by rw [Int.mul_comm]; exact hy
  have hdiv : m / 2 ^ tz m.natAbs = y := by
    conv => lhs; lhs; rw [hy']
    exact Int.mul_ediv_cancel _ (Int.ne_of_gt (pow2_pos _))
  refine ⟨y, hy', ?_, hdiv⟩
  have hn : m.natAbs = y.natAbs * 2 ^ tz m.natAbs := by conv => lhs; rw [hy', natAbs_mul_pow]
  have ho := odd_div hp
  have : m.natAbs / 2 ^ tz m.natAbs = y.natAbs := by
    conv => lhs; lhs; rw [hn]
    exact Nat.mul_div_cancel _ (Nat.pow_pos (by decide))
  rw [this] at ho
  omega
theorem tz_odd_int {m : Int} (h : m % 2 = 1) : tz m.natAbs = 0 := tz_odd (by omega)

theorem nrm_zero (e : Int) : nrm 0 e = some (0, 0) := rfl
theorem nrm_ok {m e m' e' : Int} (h : nrm m e = some (m', e')) : Okd m' e' := by
  unfold nrm at h
  split at h
  · injection h with h; injection h with h1 h2; subst h1 h2; exact Or.inl ⟨rfl, rfl⟩
  · rename_i h0
    split at h
    · cases h
    · rename_i hc
      obtain ⟨y, hy, hodd, hdiv⟩ := int_split h0
      injection h with h; injection h with h1 h2
      rw [hdiv] at h1; subst h1
      have hb : blen m.natAbs = blen y.natAbs + tz m.natAbs := by
        conv => lhs; rw [hy, natAbs_mul_pow]
        exact blen_mul_pow (Int.natAbs_pos.2 (by omega)) _
      exact Or.inr ⟨hodd, by omega, by omega⟩
theorem nrm_self {m e : Int} (h : Okd m e) : nrm m e = some (m, e) := by
  rcases h with ⟨rfl, rfl⟩ | ⟨h1, h2, h3⟩
  · rfl
  · have ht := tz_odd_int h1
    unfold nrm
    rw [if_neg (by omega), ht, if_neg (by omega)]
    simp
theorem nrm_scale (m e : Int) (k : Nat) : nrm (m * 2 ^ k) e = nrm m (e + k) := by
  by_cases h0 : m = 0
  · subst h0; rw [Int.zero_mul]; rfl
  · have hp := Int.natAbs_pos.2 h0
    have hk : m * 2 ^ k ≠ 0 := Int.mul_ne_zero h0 (Int.ne_of_gt (pow2_pos _))
    unfold nrm
    rw [if_neg h0, if_neg hk, natAbs_mul_pow, blen_mul_pow hp, tz_mul_pow hp]
    have hd : m * 2 ^ k / 2 ^ (tz m.natAbs + k) = m / 2 ^ tz m.natAbs := by
      rw [Int.pow_add, Int.mul_ediv_mul_of_pos_left _ _ (pow2_pos k)]
    rw [hd]
    have e1 : (e + k) + (tz m.natAbs : Int) = e + ((tz m.natAbs + k : Nat) : Int) := by omega
    rw [e1]
    by_cases hc : 65536 - (blen m.natAbs : Int) < e + k ∨ e + k < -65536 - (tz m.natAbs : Int)
    · rw [if_pos hc, if_pos (by omega)]
    · rw [if_neg hc, if_neg (by omega)]
/-- a normal form stands for the number -/
theorem nrm_some {m e m' e' : Int} (h0 : m ≠ 0) (h : nrm m e = some (m', e')) : ∃ t : Nat, m = m' * 2 ^ t ∧ e' = e + t ∧ m' % 2 = 1 ∧ -65536 ≤ e' ∧ e' + blen m'.natAbs ≤ 65536 := by
  have hk := nrm_ok h
  unfold nrm at h
  rw [if_neg h0] at h
  split at h
  · cases h
  · obtain ⟨y, hy, hodd, hdiv⟩ := int_split h0
    injection h with h; injection h with h1 h2
    rw [hdiv] at h1; subst h1
    rcases hk with ⟨rfl, _⟩ | hk
    · simp at hodd
    · exact ⟨_, hy, h2.symm, hk⟩
theorem nrm_none {m e : Int} : nrm m e = none ↔ m ≠ 0 ∧ (65536 - (blen m.natAbs : Int) < e ∨ e < -65536 - (tz m.natAbs : Int)) := by
  unfold nrm
  split
  · simp_all
  · rename_i h0
    split <;> simp_all

/-- what norm returns -/
def IsN (d : Option (Int × Int)) : Prop := ∀ m e, d = some (m, e) → Okd m e
theorem isN_none : IsN none := fun _ _ h => by cases h
theorem isN_nrm (m e : Int) : IsN (nrm m e) := fun _ _ h => nrm_ok h
theorem isN_nrmB (b : Bool) (m e : Int) : IsN (nrmB b m e) := by
  cases b
  · exact isN_nrm m e
  · exact isN_none
theorem isN_some {m e : Int} (h : Okd m e) : IsN (some (m, e)) := fun _ _ h' => by injection h' with h'; injection h' with h1 h2; subst h1 h2; exact h
theorem blen_nz {m : Int} (h : m ≠ 0) : 1 ≤ blen m.natAbs := blen_pos (Int.natAbs_pos.2 h)
theorem okd_bounds {m e : Int} (h : Okd m e) : blen m.natAbs ≤ 131072 ∧ -65536 ≤ e ∧ e ≤ 65536 ∧ e + blen m.natAbs ≤ 65536 := by
  rcases h with ⟨rfl, rfl⟩ | ⟨h1, h2, h3⟩
  · decide
  · omega
theorem isN_bounds {d : Option (Int × Int)} (h : IsN d) : blen (dman d).natAbs ≤ 131072 ∧ -65536 ≤ dexp d ∧ dexp d ≤ 65536 := by
  cases d with
  | none => decide
  | some p => obtain ⟨m, e⟩ := p; have := okd_bounds (h m e rfl); exact ⟨this.1, this.2.1, this.2.2.1⟩
theorem isN_self {d : Option (Int × Int)} (h : IsN d) : nrmB (dbad d) (dman d) (dexp d) = d := by
  cases d with
  | none => rfl
  | some p => obtain ⟨m, e⟩ := p; exact nrm_self (h m e rfl)

/-! ### the operations -/
/-- an integer in units of 2^E -/
def up (m e E : Int) : Int := m * 2 ^ (e - E).toNat
def dcmp : Option (Int × Int) → Option (Int × Int) → Int
  | some (m, e), some (m', e') => cmpI (up m e (min e e')) (up m' e' (min e e'))
  | _, _ => 0
def dadd : Option (Int × Int) → Option (Int × Int) → Option (Int × Int)
  | some (m, e), some (m', e') => nrm (up m e (min e e') + up m' e' (min e e')) (min e e')
  | _, _ => none
def dmul : Option (Int × Int) → Option (Int × Int) → Option (Int × Int)
  | some (m, e), some (m', e') => nrm (m * m') (e + e')
  | _, _ => none
def dneg : Option (Int × Int) → Option (Int × Int)
  | some (m, e) => some (-m, e)
  | none => none
def dabs : Option (Int × Int) → Option (Int × Int)
  | some (m, e) => some ((m.natAbs : Int), e)
  | none => none
def dsub (a b : Option (Int × Int)) : Option (Int × Int) := dadd a (dneg b)
def dscale : Option (Int × Int) → Int → Option (Int × Int)
  | some (m, e), n => nrm m (e + max (min n 262144) (-262144))
  | none, _ => none
def dfloor : Option (Int × Int) → Int
  | some (m, e) => shl m e
  | none => 0
def dlog : Option (Int × Int) → Int
  | some (m, e) => if m = 0 then 0 else e + blen m.natAbs - 1
  | none => 0

theorem okd_neg {m e : Int} (h : Okd m e) : Okd (-m) e := by
  rcases h with ⟨rfl, rfl⟩ | ⟨h1, h2, h3⟩
  · exact Or.inl ⟨rfl, rfl⟩
  · exact Or.inr ⟨by omega, h2, by rw [Int.natAbs_neg]; exact h3⟩
theorem okd_abs {m e : Int} (h : Okd m e) : Okd (m.natAbs : Int) e := by
  rcases Int.natAbs_eq m with h1 | h1
  · rwa [← h1]
  · have := okd_neg h
    rwa [show -m = (m.natAbs : Int) by omega] at this
theorem isN_neg {d : Option (Int × Int)} (h : IsN d) : IsN (dneg d) := by
  cases d with
  | none => exact isN_none
  | some p => obtain ⟨m, e⟩ := p; exact isN_some (okd_neg (h m e rfl))
theorem isN_abs {d : Option (Int × Int)} (h : IsN d) : IsN (dabs d) := by
  cases d with
  | none => exact isN_none
  | some p => obtain ⟨m, e⟩ := p; exact isN_some (okd_abs (h m e rfl))
theorem isN_add (a b : Option (Int × Int)) : IsN (dadd a b) := by
  unfold dadd; split
  · exact isN_nrm _ _
  · exact isN_none
theorem isN_mul (a b : Option (Int × Int)) : IsN (dmul a b) := by
  unfold dmul; split
  · exact isN_nrm _ _
  · exact isN_none

theorem up_self (m e : Int) : up m e e = m := by unfold up; simp
theorem up_nat (m e : Int) (k : Nat) : up m (e + k) e = m * 2 ^ k := by unfold up; congr 2; omega
theorem up_add (m m' e E : Int) : up (m + m') e E = up m e E + up m' e E := by unfold up; rw [Int.add_mul]
theorem up_neg (m e E : Int) : up (-m) e E = -up m e E := by unfold up; rw [Int.neg_mul]
theorem up_zero (e E : Int) : up 0 e E = 0 := by unfold up; simp
theorem blen_up {m e E : Int} (h : E ≤ e) (hm : m ≠ 0) : (blen (up m e E).natAbs : Int) = blen m.natAbs + (e - E) := by
  unfold up; rw [natAbs_mul_pow, blen_mul_pow (Int.natAbs_pos.2 hm)]; omega
theorem blen_up_le {m e E : Int} {k : Nat} (h : E ≤ e) (hk : (blen m.natAbs : Int) + (e - E) ≤ k) : blen (up m e E).natAbs ≤ k := by
  by_cases h0 : m = 0
  · subst h0; rw [up_zero]; exact Nat.zero_le _
  · have := blen_up h h0; omega
/-- numbers in units of 2^E: the sum -/
theorem nrm_up (m e E : Int) (h : E ≤ e) : nrm (up m e E) E = nrm m e := by
  unfold up; rw [nrm_scale]; congr 1; omega
theorem up_up (m : Int) {e F E : Int} (h1 : E ≤ F) (h2 : F ≤ e) : up (up m e F) F E = up m e E := by
  unfold up; rw [Int.mul_assoc, ← Int.pow_add]; congr 2; omega

theorem dadd_nrm (M N E : Int) (hM : nrm M E ≠ none) (hN : nrm N E ≠ none) : dadd (nrm M E) (nrm N E) = nrm (M + N) E := by
  by_cases h0 : M = 0
  · subst h0
    rw [nrm_zero, Int.zero_add]
    cases h : nrm N E with
    | none => exact absurd h hN
    | some p =>
      obtain ⟨m, e⟩ := p
      show nrm (up 0 0 _ + up m e (min 0 e)) (min 0 e) = _
      rw [up_zero, Int.zero_add, nrm_up _ _ _ (by omega), nrm_self (nrm_ok h)]
  · by_cases h1 : N = 0
    · subst h1
      rw [nrm_zero, Int.add_zero]
      cases h : nrm M E with
      | none => exact absurd h hM
      | some p =>
        obtain ⟨m, e⟩ := p
        show nrm (up m e (min e 0) + up 0 0 _) (min e 0) = _
        rw [up_zero, Int.add_zero, nrm_up _ _ _ (by omega), nrm_self (nrm_ok h)]
    · cases h : nrm M E with
      | none => exact absurd h hM
      | some p =>
        cases k : nrm N E with
        | none => exact absurd k hN
        | some q =>
          obtain ⟨m, e⟩ := p
          obtain ⟨n, f⟩ := q
          obtain ⟨t, ht, he, _⟩ := nrm_some h0 h
          obtain ⟨u, hu, hf, _⟩ := nrm_some h1 k
          show nrm (up m e (min e f) + up n f (min e f)) (min e f) = _
          rw [← nrm_up _ (min e f) E (by omega), up_add, up_up _ (by omega) (by omega), up_up _ (by omega) (by omega)]
          subst he hf
          rw [up_nat, up_nat, ← ht, ← hu]
theorem dmul_nrm (M N E F : Int) (hM : nrm M E ≠ none) (hN : nrm N F ≠ none) : dmul (nrm M E) (nrm N F) = nrm (M * N) (E + F) := by
  cases h : nrm M E with
  | none => exact absurd h hM
  | some p =>
    cases k : nrm N F with
    | none => exact absurd k hN
    | some q =>
      obtain ⟨m, e⟩ := p
      obtain ⟨n, f⟩ := q
      show nrm (m * n) (e + f) = _
      by_cases h0 : M = 0
      · subst h0; rw [nrm_zero] at h; injection h with h; injection h with h1 h2; subst h1 h2; simp [nrm_zero]
      · by_cases h1 : N = 0
        · subst h1; rw [nrm_zero] at k; injection k with k; injection k with h1 h2; subst h1 h2; simp [nrm_zero]
        · obtain ⟨t, ht, he, _⟩ := nrm_some h0 h
          obtain ⟨u, hu, hf, _⟩ := nrm_some h1 k
          have e1 : M * N = (m * n) * 2 ^ (t + u) := by rw [ht, hu, Int.pow_add]; grind
          rw [e1, nrm_scale]; congr 1; omega
theorem cmpI_mul {m n : Int} {p : Int} (hp : 0 < p) : cmpI (m * p) (n * p) = cmpI m n := by
  unfold cmpI
  have h1 : m * p < n * p ↔ m < n := Int.mul_lt_mul_right hp
  have h2 : n * p < m * p ↔ n < m := Int.mul_lt_mul_right hp
  simp only [h1, h2]
theorem cmpI_up (m n e f E : Int) (h : E ≤ min e f) : cmpI (up m e (min e f)) (up n f (min e f)) = cmpI (up m e E) (up n f E) := by
  rw [← up_up m h (by omega), ← up_up n h (by omega)]
  exact (cmpI_mul (pow2_pos _)).symm
theorem cmpI_sign {m n : Int} (h1 : m < 0 ↔ n < 0) (h2 : 0 < m ↔ 0 < n) : cmpI m 0 = cmpI n 0 ∧ cmpI 0 m = cmpI 0 n := by
  unfold cmpI; simp only [h1, h2]; exact ⟨trivial, trivial⟩
theorem mul_pow_neg (m : Int) (k : Nat) : (m * 2 ^ k < 0 ↔ m < 0) ∧ (0 < m * 2 ^ k ↔ 0 < m) := by
  have hp := pow2_pos k
  have h1 : m * 2 ^ k < 0 * 2 ^ k ↔ m < 0 := Int.mul_lt_mul_right hp
  have h2 : 0 * 2 ^ k < m * 2 ^ k ↔ 0 < m := Int.mul_lt_mul_right hp
  rw [Int.zero_mul] at h1 h2
  exact ⟨h1, h2⟩
theorem dcmp_nrm (M N E : Int) (hM : nrm M E ≠ none) (hN : nrm N E ≠ none) : dcmp (nrm M E) (nrm N E) = cmpI M N := by
  cases h : nrm M E with
  | none => exact absurd h hM
  | some p =>
    cases k : nrm N E with
    | none => exact absurd k hN
    | some q =>
      obtain ⟨m, e⟩ := p
      obtain ⟨n, f⟩ := q
      show cmpI (up m e (min e f)) (up n f (min e f)) = _
      by_cases h0 : M = 0
      · subst h0; rw [nrm_zero] at h; injection h with h; injection h with h1 h2; subst h1 h2
        rw [up_zero]
        by_cases h1 : N = 0
        · subst h1; rw [nrm_zero] at k; injection k with k; injection k with h1 h2; subst h1 h2; rw [up_zero]
        · obtain ⟨u, hu, hf, _⟩ := nrm_some h1 k
          have a1 := mul_pow_neg n (f - min 0 f).toNat
          have a2 := mul_pow_neg n u
          rw [← hu] at a2
          exact (cmpI_sign (a1.1.trans a2.1.symm) (a1.2.trans a2.2.symm)).2
      · by_cases h1 : N = 0
        · subst h1; rw [nrm_zero] at k; injection k with k; injection k with h1 h2; subst h1 h2
          rw [up_zero]
          obtain ⟨u, hu, hf, _⟩ := nrm_some h0 h
          have a1 := mul_pow_neg m (e - min e 0).toNat
          have a2 := mul_pow_neg m u
          rw [← hu] at a2
          exact (cmpI_sign (a1.1.trans a2.1.symm) (a1.2.trans a2.2.symm)).1
        · obtain ⟨t, ht, he, _⟩ := nrm_some h0 h
          obtain ⟨u, hu, hf, _⟩ := nrm_some h1 k
          rw [cmpI_up m n e f E (by omega)]
          subst he hf
          rw [up_nat, up_nat, ← ht, ← hu]
/-! ### a real number x (and a little more, if more) in units of 2^E, rounded to multiples of 2^q -/
def rdn (x : Nat) (E q : Int) : Nat := if q ≤ E then x * 2 ^ (E - q).toNat else x / 2 ^ (q - E).toNat
def rex (x : Nat) (more : Bool) (k : Nat) : Bool := decide (x % 2 ^ k = 0) && !more
def rcm (x : Nat) (more : Bool) (k : Nat) : Int :=
  if cmpI ((x % 2 ^ k : Nat) : Int) ((2 ^ (k - 1) : Nat) : Int) = 0 ∧ more = true then 1 else cmpI ((x % 2 ^ k : Nat) : Int) ((2 ^ (k - 1) : Nat) : Int)
/-- is the magnitude rounded away from zero -/
def raw (s : Bool) (n : Nat) (c : Int) (ex : Bool) (mode : Int) : Bool :=
  if ex then false else if mode = 1 then s else if mode = 2 then !s else if mode = 3 then false else decide (0 < c) || (decide (c = 0) && decide (n % 2 = 1))
def rax (s : Bool) (x : Nat) (E : Int) (more : Bool) (q mode : Int) : Bool :=
  if q ≤ E then false else raw s (rdn x E q) (rcm x more (q - E).toNat) (rex x more (q - E).toNat) mode
def rmag (s : Bool) (x : Nat) (E : Int) (more : Bool) (q mode : Int) : Nat := rdn x E q + if rax s x E more q mode then 1 else 0
def rlg (x : Nat) (E : Int) : Int := E + blen x - 1
def dfix (s : Bool) (x : Nat) (E : Int) (more : Bool) (prec mode : Int) : Option (Int × Int) :=
  nrm (sgn s (rmag s x E more (rlg x E + 1 - prec) mode)) (rlg x E + 1 - prec)
def prc (prec : Int) : Bool := decide (1 ≤ prec) && decide (prec ≤ 4096)
def dround : Option (Int × Int) → Int → Int → Option (Int × Int)
  | some (m, e), prec, mode => if prc prec = false then none else if m = 0 then some (0, 0) else dfix (decide (m < 0)) m.natAbs e false prec mode
  | none, _, _ => none
def qsh (a b : Int) (prec : Int) : Nat := (max 0 (prec + 3 + blen b.natAbs - blen a.natAbs)).toNat
def dquo : Option (Int × Int) → Option (Int × Int) → Int → Int → Option (Int × Int)
  | some (a, e), some (b, f), prec, mode =>
    if prc prec = false then none else if b = 0 then none else if a = 0 then some (0, 0) else
    dfix (decide (a < 0) != decide (b < 0)) (a.natAbs * 2 ^ qsh a b prec / b.natAbs) (e - qsh a b prec - f) (decide (a.natAbs * 2 ^ qsh a b prec % b.natAbs ≠ 0)) prec mode
  | _, _, _, _ => none

end Go.Proofs.YtjhngehajahbnaaDoor
