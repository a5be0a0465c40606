/-
  Plain law: floats of 64 bits as numbers: kinds, values on the grid of 2^-1074, rounding. No program in sight.
  Plain law: how a real number is rounded to a float. No program in sight.
  Plain law: roundings of dyads, quotients and roots to floats, by comparisons. No program in sight.
  Plain law: roundings to floats keep the order, enclose, and are exact where they can. No program in sight.
  Plain law: the statements about floats, of numbers. No program in sight.
  Plain law: the statements about floats (Special, Neighbours, Commutes, Mirrors), of numbers. No program in sight.
  Plain law: the statements about floats (Sterbenz, Halves), of numbers. No program in sight.
  Plain law: the bits of a float of 64 bits, in the machine's words. No program in sight.
  Plain law: a rounded number depends on the number alone, not on how many bits of it are given. No program in sight.
-/
import Derived.Test.YtkpglfloddkclaaGreatDoorBL
namespace Go.Proofs.YtkpglfloddkclaaGreatDoor
open Go.RowKit Sp

/-! ### the parts of a float -/
def fS (f : Nat) : Bool := decide (9223372036854775808 ≤ f)
def fM (f : Nat) : Nat := f % 9223372036854775808
def fE (f : Nat) : Nat := f / 4503599627370496 % 2048
def fR (f : Nat) : Nat := f % 4503599627370496
def fnan (f : Nat) : Bool := decide (9218868437227405312 < fM f)
def finf (f : Nat) : Bool := decide (fM f = 9218868437227405312)
def fzero (f : Nat) : Bool := decide (fM f = 0)
def ffin (f : Nat) : Bool := decide (fM f < 9218868437227405312)
def fNaN : Nat := 9221120237041090560
def fInf : Nat := 9218868437227405312
def fMax : Nat := 9218868437227405311
def fkind (f : Nat) : Int := if fnan f then 3 else if finf f then 2 else if fzero f then 0 else 1
def fsgn (s : Bool) (c : Nat) : Nat := if s then c + 9223372036854775808 else c
def fneg (f : Nat) : Nat := if fnan f then fNaN else fsgn (!fS f) (fM f)
def fabs (f : Nat) : Nat := if fnan f then fNaN else fM f

theorem fM_lt (f : Nat) : fM f < 9223372036854775808 := Nat.mod_lt _ (by decide)
theorem fsgn_lt {s : Bool} {c : Nat} (h : c < 9223372036854775808) : fsgn s c < 18446744073709551616 := by unfold fsgn; split <;> omega
theorem fS_fsgn {s : Bool} {c : Nat} (h : c < 9223372036854775808) : fS (fsgn s c) = s := by
  unfold fsgn fS; cases s <;> simp <;> omega
theorem fM_fsgn {s : Bool} {c : Nat} (h : c < 9223372036854775808) : fM (fsgn s c) = c := by
  unfold fsgn fM; cases s <;> simp <;> omega
theorem fsgn_self {f : Nat} (h : f < 18446744073709551616) : fsgn (fS f) (fM f) = f := by
  unfold fsgn fS fM; by_cases hs : 9223372036854775808 ≤ f <;> simp [hs] <;> omega
theorem fM_eq (f : Nat) : fM f = fE f * 4503599627370496 + fR f := by unfold fM fE fR; omega
theorem fR_lt (f : Nat) : fR f < 4503599627370496 := Nat.mod_lt _ (by decide)
theorem fE_lt (f : Nat) : fE f < 2048 := Nat.mod_lt _ (by decide)
theorem ffin_E (f : Nat) : ffin f = decide (fE f ≠ 2047) := by
  have := fM_eq f; have := fR_lt f; have := fE_lt f
  unfold ffin; exact decide_eq_decide.2 (by omega)
theorem fnan_E (f : Nat) : fnan f = decide (fE f = 2047 ∧ fR f ≠ 0) := by
  have := fM_eq f; have := fR_lt f; have := fE_lt f
  unfold fnan; exact decide_eq_decide.2 (by omega)
theorem finf_E (f : Nat) : finf f = decide (fE f = 2047 ∧ fR f = 0) := by
  have := fM_eq f; have := fR_lt f; have := fE_lt f
  unfold finf; exact decide_eq_decide.2 (by omega)
theorem fzero_E (f : Nat) : fzero f = decide (fE f = 0 ∧ fR f = 0) := by
  have := fM_eq f; have := fR_lt f; have := fE_lt f
  unfold fzero; exact decide_eq_decide.2 (by omega)

/-! ### values, in units of 2^-1074; the codes go on without end -/
def fzN (c : Nat) : Nat := if c < 4503599627370496 then c else (c % 4503599627370496 + 4503599627370496) * 2 ^ (c / 4503599627370496 - 1)
def fz (f : Nat) : Int := sgn (fS f) (fzN (fM f))
def fof (f : Nat) : Option (Int × Int) := if ffin f then nrm (fz f) (-1074) else none

theorem fzN_code (k n : Nat) (hn : n ≤ 9007199254740992) (h : 4503599627370496 ≤ n ∨ k = 0) : fzN (k * 4503599627370496 + n) = n * 2 ^ k := by
  unfold fzN
  rcases Nat.lt_or_ge n 4503599627370496 with h1 | h1
  · have hk : k = 0 := by omega
    subst hk; simp; omega
  · rw [if_neg (by omega)]
    rcases Nat.lt_or_ge n 9007199254740992 with h2 | h2
    · have e1 : (k * 4503599627370496 + n) % 4503599627370496 = n - 4503599627370496 := by omega
      have e2 : (k * 4503599627370496 + n) / 4503599627370496 - 1 = k := by omega
      rw [e1, e2]; congr 1; omega
    · have hn2 : n = 9007199254740992 := by omega
      subst hn2
      have e1 : (k * 4503599627370496 + 9007199254740992) % 4503599627370496 = 0 := by omega
      have e2 : (k * 4503599627370496 + 9007199254740992) / 4503599627370496 - 1 = k + 1 := by omega
      rw [e1, e2, Nat.pow_succ]; omega
theorem code_split (c : Nat) : ∃ k n, c = k * 4503599627370496 + n ∧ n < 9007199254740992 ∧ (4503599627370496 ≤ n ∨ k = 0) := by
  by_cases h : c < 4503599627370496
  · exact ⟨0, c, by omega, by omega, Or.inr rfl⟩
  · exact ⟨c / 4503599627370496 - 1, c % 4503599627370496 + 4503599627370496, by omega, by omega, Or.inl (by omega)⟩
theorem fzN_succ {k n : Nat} (hn : n < 9007199254740992) (h : 4503599627370496 ≤ n ∨ k = 0) : fzN (k * 4503599627370496 + n + 1) = fzN (k * 4503599627370496 + n) + 2 ^ k := by
  rw [fzN_code k n (by omega) h, Nat.add_assoc, fzN_code k (n + 1) (by omega) (by omega), Nat.add_mul, Nat.one_mul]
theorem fzN_lt_succ (c : Nat) : fzN c < fzN (c + 1) := by
  obtain ⟨k, n, rfl, hn, h⟩ := code_split c
  rw [fzN_succ hn h]
  have := Nat.pow_pos (n := k) (show 0 < 2 by omega); omega
theorem fzN_add (c : Nat) : ∀ d, fzN c + d ≤ fzN (c + d)
  | 0 => Nat.le_refl _
  | d + 1 => by have := fzN_add c d; have := fzN_lt_succ (c + d); show _ ≤ fzN (c + d + 1); omega
theorem fzN_lt {a b : Nat} (h : a < b) : fzN a < fzN b := by
  have := fzN_add (a + 1) (b - (a + 1))
  rw [show a + 1 + (b - (a + 1)) = b by omega] at this
  have := fzN_lt_succ a; omega
theorem fzN_lt_iff {a b : Nat} : fzN a < fzN b ↔ a < b := by
  constructor
  · intro h
    rcases Nat.lt_trichotomy a b with h1 | h1 | h1
    · exact h1
    · subst h1; omega
    · have := fzN_lt h1; omega
  · exact fzN_lt
theorem fzN_le_iff {a b : Nat} : fzN a ≤ fzN b ↔ a ≤ b := by
  constructor
  · intro h; by_cases h1 : b < a
    · have := fzN_lt h1; omega
    · omega
  · intro h; rcases Nat.lt_or_eq_of_le h with h | h
    · exact Nat.le_of_lt (fzN_lt h)
    · subst h; exact Nat.le_refl _
theorem fzN_inj {a b : Nat} (h : fzN a = fzN b) : a = b := by
  have h1 := fzN_le_iff.1 (Nat.le_of_eq h); have h2 := fzN_le_iff.1 (Nat.le_of_eq h.symm); omega
theorem fzN_zero : fzN 0 = 0 := rfl
theorem fzN_top : fzN 9218868437227405312 = 9007199254740992 * 2 ^ 2045 := by
  have := fzN_code 2045 9007199254740992 (by omega) (by omega)
  rwa [show 2045 * 4503599627370496 + 9007199254740992 = 9218868437227405312 by decide] at this
theorem p53 (k n : Nat) (h : 53 + k = n) : 9007199254740992 * 2 ^ k = 2 ^ n := by subst h; rw [Nat.pow_add]
theorem p52 (k n : Nat) (h : 52 + k = n) : 4503599627370496 * 2 ^ k = 2 ^ n := by subst h; rw [Nat.pow_add]
theorem blen_fzN {c : Nat} (h : c < 9218868437227405312) : blen (fzN c) ≤ 2098 := by
  refine blen_le ?_
  have := fzN_lt h
  rw [fzN_top, p53 2045 2098 (by decide)] at this
  exact this
theorem fz_abs (f : Nat) : (fz f).natAbs = fzN (fM f) := by unfold fz sgn; cases fS f <;> simp
theorem blen_fz {f : Nat} (h : ffin f = true) : blen (fz f).natAbs ≤ 2098 := by
  rw [fz_abs]; exact blen_fzN (by unfold ffin at h; simpa using h)
theorem fof_some {f : Nat} (h : ffin f = true) : nrm (fz f) (-1074) ≠ none := nrm_valid (by omega) (by have := blen_fz h; omega)
theorem fof_fin {f : Nat} (h : ffin f = true) : fof f = nrm (fz f) (-1074) := by unfold fof; rw [if_pos h]
theorem fof_not {f : Nat} (h : ffin f = false) : fof f = none := by unfold fof; rw [if_neg (by rw [h]; decide)]
theorem isN_fof (f : Nat) : IsN (fof f) := by
  unfold fof; split
  · exact isN_nrm _ _
  · exact isN_none
/-- as the program finds it -/
theorem fz_parts (f : Nat) : nrm (fz f) (-1074) = nrm (sgn (fS f) (if fE f = 0 then fR f else fR f + 4503599627370496)) (if fE f = 0 then -1074 else (fE f : Int) - 1075) := by
  have h1 := fM_eq f
  have h2 := fR_lt f
  unfold fz
  by_cases h : fE f = 0
  · rw [if_pos h, if_pos h]
    congr 2
    rw [h1, h]; unfold fzN; rw [if_pos (by omega)]; omega
  · rw [if_neg h, if_neg h]
    have e1 : fzN (fM f) = (fR f + 4503599627370496) * 2 ^ (fE f - 1) := by
      have := fzN_code (fE f - 1) (fR f + 4503599627370496) (by omega) (by omega)
      rw [← this]; refine congrArg fzN ?_; rw [h1]
      obtain ⟨j, hj⟩ : ∃ j, fE f = j + 1 := ⟨fE f - 1, by omega⟩
      rw [hj, Nat.add_sub_cancel]; omega
    have e2 : sgn (fS f) (fzN (fM f)) = sgn (fS f) (fR f + 4503599627370496) * 2 ^ (fE f - 1) := by
      rw [e1]; unfold sgn; cases fS f <;> simp [Int.neg_mul]
    rw [e2, nrm_scale]; congr 1; omega

/-! ### rounding -/
def fcode (s : Bool) (X : Nat) (E : Int) (more : Bool) (mode : Int) : Nat :=
  (max (rlg X E - 52) (-1074) + 1074).toNat * 4503599627370496 + rmag s X E more (max (rlg X E - 52) (-1074)) mode
def fover (s : Bool) (mode : Int) : Nat :=
  if mode = 3 ∨ mode = 1 ∧ s = false ∨ mode = 2 ∧ s = true then fsgn s fMax else fsgn s fInf
def fcut (s : Bool) (c : Nat) (mode : Int) : Nat := if fInf ≤ c then fover s mode else fsgn s c
def frnd (s : Bool) (X : Nat) (E : Int) (more : Bool) (mode : Int) : Nat := fcut s (fcode s X E more mode) mode
def fround (d : Option (Int × Int)) (mode : Int) : Nat :=
  match d with
  | none => fNaN
  | some (m, e) => if m = 0 then 0 else frnd (decide (m < 0)) m.natAbs e false mode
def fquo (d d' : Option (Int × Int)) (mode : Int) : Nat :=
  match d, d' with
  | some (a, e), some (b, f) =>
    if b = 0 then fNaN else if a = 0 then 0 else
    frnd (decide (a < 0) != decide (b < 0)) (a.natAbs * 2 ^ qsh a b 56 / b.natAbs) (e - qsh a b 56 - f) (decide (a.natAbs * 2 ^ qsh a b 56 % b.natAbs ≠ 0)) mode
  | _, _ => fNaN
noncomputable def froot (d : Option (Int × Int)) (mode : Int) : Nat :=
  match d with
  | none => fNaN
  | some (m, e) => if m < 0 then fNaN else if m = 0 then 0 else
    frnd false (isq (m.natAbs * 2 ^ rsh m e 56)) ((e - rsh m e 56) / 2) (decide (isq (m.natAbs * 2 ^ rsh m e 56) * isq (m.natAbs * 2 ^ rsh m e 56) ≠ m.natAbs * 2 ^ rsh m e 56)) mode

/-! ### the functions of two and three floats -/
def fnothing (mode : Int) : Nat := fsgn (decide (mode = 1)) 0
def fadd (a b : Nat) (mode : Int) : Nat :=
  if (fnan a || fnan b) || (finf a && finf b && decide (a ≠ b)) then fNaN
  else if finf a then a else if finf b then b
  else if fzero a && decide (a = b) then a
  else if dman (dadd (fof a) (fof b)) = 0 then fnothing mode else fround (dadd (fof a) (fof b)) mode
def fsub (a b : Nat) (mode : Int) : Nat := fadd a (fneg b) mode
def fmul (a b : Nat) (mode : Int) : Nat :=
  if (fnan a || fnan b) || (finf a && fzero b) || (fzero a && finf b) then fNaN
  else if finf a || finf b then fsgn (fS a != fS b) fInf
  else if fzero a || fzero b then fsgn (fS a != fS b) 0
  else fround (dmul (fof a) (fof b)) mode
def fdiv (a b : Nat) (mode : Int) : Nat :=
  if (fnan a || fnan b) || (finf a && finf b) || (fzero a && fzero b) then fNaN
  else if finf a || fzero b then fsgn (fS a != fS b) fInf
  else if fzero a || finf b then fsgn (fS a != fS b) 0
  else fquo (fof a) (fof b) mode
def ffma (a b c : Nat) (mode : Int) : Nat :=
  if (fnan a || fnan b || fnan c) || (finf a && fzero b) || (fzero a && finf b) then fNaN
  else if (finf a || finf b) && finf c && (fS c != (fS a != fS b)) then fNaN
  else if finf a || finf b then fsgn (fS a != fS b) fInf
  else if finf c then c
  else if dman (dadd (dmul (fof a) (fof b)) (fof c)) ≠ 0 then fround (dadd (dmul (fof a) (fof b)) (fof c)) mode
  else if fS c = (fS a != fS b) then fsgn (fS a != fS b) 0 else fnothing mode
noncomputable def fsqrt (f : Nat) (mode : Int) : Nat :=
  if fnan f then fNaN else if fzero f || decide (f = fInf) then f else if fS f then fNaN else froot (fof f) mode
def fplace (f : Nat) : Int := sgn (fS f) (fM f)
def fcmpv (a b : Nat) : Int := if fnan a || fnan b then 0 else cmpI (fplace a) (fplace b)
def fcmpok (a b : Nat) : Bool := !(fnan a || fnan b)
def fup (f : Nat) : Nat := if fnan f then fNaN else if f = fInf then f else if fzero f then 1 else if fS f then f - 1 else f + 1
def fdown (f : Nat) : Nat := fneg (fup (fneg f))

end Go.Proofs.YtkpglfloddkclaaGreatDoor

namespace Go.Proofs.YtkpglfloddkclaaGreatDoor
open Go.RowKit Sp

/-! ### a positive real number x by its comparisons: cx j compares x with j 2^-1075 -/
structure Cx (cx : Nat → Int) : Prop where
  range : ∀ j, cx j = -1 ∨ cx j = 0 ∨ cx j = 1
  strict : ∀ j j', j < j' → 0 ≤ cx j' → cx j = 1
def IsLo (cx : Nat → Int) (c : Nat) : Prop := 0 ≤ cx (2 * fzN c) ∧ cx (2 * fzN (c + 1)) = -1
def awx (s : Bool) (c : Nat) (cx : Nat → Int) (mode : Int) : Bool :=
  if cx (2 * fzN c) = 0 then false else if mode = 1 then s else if mode = 2 then !s else if mode = 3 then false else decide (0 < cx (fzN c + fzN (c + 1))) || (decide (cx (fzN c + fzN (c + 1)) = 0) && decide (c % 2 = 1))
/-- the number (X + t) 2^E, where t is 0 or, if more is true, between 0 and 1 -/
def CutAt (X : Nat) (E : Int) (more : Bool) (cx : Nat → Int) : Prop :=
  ∀ j Y : Nat, j * 2 ^ (-1075 - min E (-1075)).toNat = Y * 2 ^ (E - min E (-1075)).toNat → cx j = if X < Y then -1 else if X = Y then (if more then 1 else 0) else 1

theorem IsLo.uniq {cx : Nat → Int} (hc : Cx cx) {c d : Nat} (h : IsLo cx c) (k : IsLo cx d) : c = d := by
  rcases Nat.lt_trichotomy c d with h1 | h1 | h1
  · have h2 : fzN (c + 1) ≤ fzN d := fzN_le_iff.2 h1
    rcases Nat.lt_or_eq_of_le h2 with h3 | h3
    · have := hc.strict (2 * fzN (c + 1)) (2 * fzN d) (by omega) k.1; have := h.2; omega
    · have := h.2; have := k.1; rw [← h3] at this; omega
  · exact h1
  · have h2 : fzN (d + 1) ≤ fzN c := fzN_le_iff.2 h1
    rcases Nat.lt_or_eq_of_le h2 with h3 | h3
    · have := hc.strict (2 * fzN (d + 1)) (2 * fzN c) (by omega) h.1; have := k.2; omega
    · have := k.2; have := h.1; rw [← h3] at this; omega

theorem rdn_place {X : Nat} (hX : 0 < X) (E : Int) (q : Int) (hq : q = max (rlg X E - 52) (-1074)) :
    rdn X E q < 9007199254740992 ∧ (4503599627370496 ≤ rdn X E q ∨ (q + 1074).toNat = 0) := by
  have hb := blen_pos hX
  have hlt := lt_blen X
  have hge := blen_le_self hX
  unfold rdn
  by_cases h : q ≤ E
  · rw [if_pos h]
    have h1 := blen_mul_pow hX (E - q).toNat
    have hx1 : 0 < X * 2 ^ (E - q).toNat := Nat.mul_pos hX (Nat.pow_pos (by decide))
    have h2 := lt_blen (X * 2 ^ (E - q).toNat)
    have h3 := blen_le_self hx1
    generalize hW : X * 2 ^ (E - q).toNat = V at h1 h2 h3 ⊢
    have hle : blen V ≤ 53 := by unfold rlg at hq; omega
    refine ⟨Nat.lt_of_lt_of_le h2 (Nat.le_trans (Nat.pow_le_pow_right (by decide) hle) (by decide)), ?_⟩
    by_cases hk : (q + 1074).toNat = 0
    · exact Or.inr hk
    · have he : blen V = 53 := by unfold rlg at hq; omega
      rw [he] at h3; exact Or.inl h3
  · rw [if_neg h]
    have h0 := blen_div_pow X (q - E).toNat
    have h2 := lt_blen (X / 2 ^ (q - E).toNat)
    have hle : blen (X / 2 ^ (q - E).toNat) ≤ 53 := by unfold rlg at hq; omega
    refine ⟨Nat.lt_of_lt_of_le h2 (Nat.le_trans (Nat.pow_le_pow_right (by decide) hle) (by decide)), ?_⟩
    by_cases hk : (q + 1074).toNat = 0
    · exact Or.inr hk
    · refine Or.inl ?_
      have he : blen X - 1 = 52 + (q - E).toNat := by unfold rlg at hq; omega
      rw [he, Nat.pow_add] at hge
      exact (Nat.le_div_iff_mul_le (Nat.pow_pos (by decide))).2 hge

theorem pw {k p t r : Nat} (a : Nat) (h : k + p = t + r) : a * 2 ^ k * 2 ^ p = a * 2 ^ t * 2 ^ r := by
  rw [Nat.mul_assoc, Nat.mul_assoc, ← Nat.pow_add, ← Nat.pow_add, h]
theorem pw2 {k p t r : Nat} (a : Nat) (h : k + p + 1 = t + r) : 2 * (a * 2 ^ k) * 2 ^ p = a * 2 ^ t * 2 ^ r := by
  rw [← pw (k := k + 1) (p := p) a (by omega), Nat.pow_succ, Nat.mul_comm 2, Nat.mul_assoc a]
theorem pow_cancel {a b : Nat} {k m : Nat} (h : k = m) (hab : a = b) : a * 2 ^ k = b * 2 ^ m := by subst h hab; rfl

theorem fcode_spec (s : Bool) {X : Nat} (hX : 0 < X) (E : Int) (more : Bool) (mode : Int) {cx : Nat → Int} (hc : Cx cx) (hcut : CutAt X E more cx) (hm : more = true → E < max (rlg X E - 52) (-1074)) :
    ∃ c, IsLo cx c ∧ fcode s X E more mode = c + if awx s c cx mode then 1 else 0 := by
  obtain ⟨q, hq⟩ : ∃ q, q = max (rlg X E - 52) (-1074) := ⟨_, rfl⟩
  obtain ⟨k, hk⟩ : ∃ k : Nat, k = (q + 1074).toNat := ⟨_, rfl⟩
  have hp := rdn_place hX E q hq
  obtain ⟨n0, hn0⟩ : ∃ n0, n0 = rdn X E q := ⟨_, rfl⟩
  rw [← hn0, ← hk] at hp
  have hqk : q = (k : Int) - 1074 := by omega
  have e0 := fzN_code k n0 (by omega) hp.2
  have e1 := fzN_succ hp.1 hp.2
  have hpar : (k * 4503599627370496 + n0) % 2 = n0 % 2 := by omega
  rw [← hq] at hm
  obtain ⟨c, hcd⟩ : ∃ c, c = k * 4503599627370496 + n0 := ⟨_, rfl⟩
  rw [← hcd] at e0 e1 hpar
  refine ⟨c, ?_⟩
  unfold fcode rmag
  rw [← hq, ← hk, ← hn0, ← Nat.add_assoc, ← hcd]
  rw [e0] at e1
  by_cases h : q ≤ E
  · have hmf : more = false := by cases more with | false => rfl | true => exact absurd (hm rfl) (by omega)
    have hr : rdn X E q = X * 2 ^ (E - q).toNat := by unfold rdn; rw [if_pos h]
    have hz : cx (2 * fzN c) = 0 := by
      have := hcut (2 * fzN c) X (by
        rw [e0, hn0, hr, show min E (-1075) = -1075 by omega, show (-1075 - -1075 : Int).toNat = 0 by decide, Nat.pow_zero, Nat.mul_one, Nat.mul_assoc, ← Nat.pow_add, Nat.mul_comm 2, Nat.mul_assoc, ← Nat.pow_succ]
        exact pow_cancel (by omega) rfl)
      rw [this, if_neg (by omega), if_pos rfl, hmf]; rfl
    have hlt := fzN_lt_succ c
    refine ⟨⟨by omega, ?_⟩, ?_⟩
    · rcases hc.range (2 * fzN (c + 1)) with h1 | h1 | h1
      · exact h1
      · have := hc.strict (2 * fzN c) (2 * fzN (c + 1)) (by omega) (by omega); omega
      · have := hc.strict (2 * fzN c) (2 * fzN (c + 1)) (by omega) (by omega); omega
    · have hax : rax s X E more q mode = false := by unfold rax; rw [if_pos h]
      unfold awx; rw [hax, if_pos hz]
  · obtain ⟨t, ht⟩ : ∃ t : Nat, t = (q - E).toNat := ⟨_, rfl⟩
    have ht1 : 1 ≤ t := by omega
    have hr : rdn X E q = X / 2 ^ t := by unfold rdn; rw [if_neg h, ← ht]
    have hpt : 0 < 2 ^ t := Nat.pow_pos (by decide)
    have hdm := Nat.div_add_mod X (2 ^ t)
    have hmod := Nat.mod_lt X hpt
    rw [← hr, ← hn0] at hdm
    obtain ⟨r, hrr⟩ : ∃ r, r = X % 2 ^ t := ⟨_, rfl⟩
    rw [← hrr] at hdm hmod
    have hpt2 : 2 ^ t = 2 * 2 ^ (t - 1) := by obtain ⟨u, rfl⟩ : ∃ u, t = u + 1 := ⟨t - 1, by omega⟩; rw [Nat.add_sub_cancel, Nat.pow_succ, Nat.mul_comm]
    have hXe : X = n0 * 2 ^ t + r := by rw [Nat.mul_comm]; exact hdm.symm
    -- the three places that matter
    have g (a : Nat) : cx (2 * (a * 2 ^ k)) = if X < a * 2 ^ t then -1 else if X = a * 2 ^ t then (if more then 1 else 0) else 1 := by
      refine hcut _ _ ?_
      exact pw2 a (by omega)
    have gm (a : Nat) : cx (a * 2 ^ k) = if X < a * 2 ^ (t - 1) then -1 else if X = a * 2 ^ (t - 1) then (if more then 1 else 0) else 1 := by
      refine hcut _ _ ?_
      exact pw a (by omega)
    have c0 := g n0
    rw [← e0, if_neg (by omega)] at c0
    have c1 := g (n0 + 1)
    have e2 : fzN (c + 1) = (n0 + 1) * 2 ^ k := by rw [e1, Nat.add_mul, Nat.one_mul]
    rw [← e2, if_pos (by rw [Nat.add_mul, Nat.one_mul]; omega)] at c1
    have c2 := gm (2 * n0 + 1)
    have e3 : (2 * n0 + 1) * 2 ^ k = fzN c + fzN (c + 1) := by rw [e1, e0, Nat.add_mul, Nat.one_mul, Nat.mul_assoc]; omega
    have e4 : (2 * n0 + 1) * 2 ^ (t - 1) = n0 * 2 ^ t + 2 ^ (t - 1) := by rw [hpt2, Nat.add_mul, Nat.one_mul, Nat.mul_comm 2 n0, Nat.mul_assoc]
    rw [e3, e4, hXe] at c2
    refine ⟨⟨?_, c1⟩, ?_⟩
    · rw [c0]; split
      · split <;> omega
      · omega
    · have hax : rax s X E more q mode = awx s c cx mode := by
        unfold rax awx
        rw [if_neg h, ← hn0, ← ht]
        unfold raw rex rcm
        rw [← hrr, c0, c2, hpar]
        unfold cmpI
        have hp1 : 0 < 2 ^ (t - 1) := Nat.pow_pos (by decide)
        generalize 2 ^ (t - 1) = P at *
        cases more <;> cases s <;> by_cases m1 : mode = 1 <;> by_cases m2 : mode = 2 <;> by_cases m3 : mode = 3 <;> by_cases hr0 : r = 0 <;> simp [m1, m2, m3, hr0, hXe] <;> (repeat' split) <;> simp <;> omega
      rw [hax]

end Go.Proofs.YtkpglfloddkclaaGreatDoor

namespace Go.Proofs.YtkpglfloddkclaaGreatDoor
open Go.RowKit Sp

theorem cmpI_range (x y : Int) : cmpI x y = -1 ∨ cmpI x y = 0 ∨ cmpI x y = 1 := by unfold cmpI; split <;> (try split) <;> omega
theorem cmpI_ge {m n : Int} : 0 ≤ cmpI m n ↔ n ≤ m := by unfold cmpI; split <;> (try split) <;> constructor <;> intro h <;> omega
theorem cmpI_one {m n : Int} : cmpI m n = 1 ↔ n < m := by unfold cmpI; split <;> (try split) <;> constructor <;> intro h <;> omega
theorem cmpI_m1 {m n : Int} : cmpI m n = -1 ↔ m < n := by unfold cmpI; split <;> (try split) <;> constructor <;> intro h <;> omega
/-- the number A / D in units of 2^-1074, compared with j 2^-1075 -/
def cxQ (A D : Nat) (j : Nat) : Int := cmpI ((2 * A : Nat) : Int) ((j * D : Nat) : Int)
/-- the root of z in units of 2^-1074 -/
def cxR (z : Nat) (j : Nat) : Int := cmpI ((4 * z * 2 ^ 1074 : Nat) : Int) ((j * j : Nat) : Int)
theorem cxQ_cx (A : Nat) {D : Nat} (hD : 0 < D) : Cx (cxQ A D) := by
  refine ⟨fun j => cmpI_range _ _, fun j j' h h' => ?_⟩
  have h1 := cmpI_ge.1 h'
  refine cmpI_one.2 ?_
  have h2 : j * D + 1 * D ≤ j' * D := by rw [← Nat.add_mul]; exact Nat.mul_le_mul_right _ h
  omega
theorem cxR_cx (z : Nat) : Cx (cxR z) := by
  refine ⟨fun j => cmpI_range _ _, fun j j' h h' => ?_⟩
  have h1 := cmpI_ge.1 h'
  refine cmpI_one.2 ?_
  have h2 := sq_lt h
  unfold cxR at *
  omega
theorem cmp3 {P Q X Y : Nat} {more : Bool} (hQ : 0 < Q) (hX : X = P / Q) (hm : more = decide (P % Q ≠ 0)) :
    cmpI ((P : Nat) : Int) ((Y * Q : Nat) : Int) = if X < Y then -1 else if X = Y then (if more then 1 else 0) else 1 := by
  have h1 := Nat.div_add_mod P Q
  have h2 := Nat.mod_lt P hQ
  rw [← hX] at h1
  rw [Nat.mul_comm] at h1
  by_cases hlt : X < Y
  · rw [if_pos hlt]
    have := Nat.mul_le_mul_right Q (show X + 1 ≤ Y by omega)
    rw [Nat.add_mul, Nat.one_mul] at this
    exact cmpI_m1.2 (by omega)
  · rw [if_neg hlt]
    by_cases he : X = Y
    · subst he
      rw [if_pos rfl, hm]
      by_cases h0 : P % Q = 0
      · simp only [h0, ne_eq, not_true_eq_false, decide_false, Bool.false_eq_true, if_false]
        exact cmpI_eq0.2 (by omega)
      · simp only [ne_eq, h0, not_false_eq_true, decide_true, if_true]
        exact cmpI_one.2 (by omega)
    · rw [if_neg he]
      have := Nat.mul_le_mul_right Q (show Y + 1 ≤ X by omega)
      rw [Nat.add_mul, Nat.one_mul] at this
      exact cmpI_one.2 (by omega)
theorem cmpI_scale {x y x' y' : Nat} {p q : Nat} (hp : 0 < p) (hq : 0 < q) (h1 : x * p = x' * q) (h2 : y * p = y' * q) : cmpI (x : Int) (y : Int) = cmpI (x' : Int) (y' : Int) := by
  have e1 := cmpI_mul (m := (x : Int)) (n := (y : Int)) (p := (p : Int)) (by omega)
  have e2 := cmpI_mul (m := (x' : Int)) (n := (y' : Int)) (p := (q : Int)) (by omega)
  rw [← e1, ← e2, ← Int.natCast_mul, ← Int.natCast_mul, h1, h2, Int.natCast_mul, Int.natCast_mul]
theorem two_pow_pos (k : Nat) : 0 < 2 ^ k := Nat.pow_pos (by decide)

theorem pw3 {t g k b r : Nat} (a : Nat) (h : t + g + k + 1 = b + r) : 2 * (a * 2 ^ t * 2 ^ g) * 2 ^ k = a * 2 ^ b * 2 ^ r := by
  rw [Nat.mul_assoc a (2 ^ t), ← Nat.pow_add]; exact pw2 _ h
/-- a dyad, given on some grid, rounded -/
theorem fround_grid (M : Int) (g : Nat) (mode : Int) (h0 : M ≠ 0) (h : nrm M (-1074 - (g : Int)) ≠ none) :
    ∃ c, IsLo (cxQ M.natAbs (2 ^ g)) c ∧ fround (nrm M (-1074 - (g : Int))) mode = fcut (decide (M < 0)) (c + if awx (decide (M < 0)) c (cxQ M.natAbs (2 ^ g)) mode then 1 else 0) mode := by
  cases hd : nrm M (-1074 - (g : Int)) with
  | none => exact absurd hd h
  | some p =>
    obtain ⟨m, e⟩ := p
    obtain ⟨t, ht, he, hodd, _, _⟩ := nrm_some h0 hd
    have hm0 : m ≠ 0 := by omega
    have hsg : decide (m < 0) = decide (M < 0) := by rw [ht]; exact decide_eq_decide.2 (mul_pow_neg m t).1.symm
    have hab : M.natAbs = m.natAbs * 2 ^ t := by rw [ht]; exact natAbs_mul_pow m t
    have hmp : 0 < m.natAbs := by omega
    show ∃ c, _ ∧ (if m = 0 then 0 else frnd (decide (m < 0)) m.natAbs e false mode) = _
    rw [if_neg hm0, hsg]
    have hcut : CutAt m.natAbs e false (cxQ M.natAbs (2 ^ g)) := by
      intro j Y hj
      have h3 := cmp3 (P := m.natAbs) (Q := 1) (X := m.natAbs) (Y := Y) (more := false) (by decide) (by simp) (by simp [Nat.mod_one])
      rw [← h3]
      obtain ⟨a, ha⟩ : ∃ a : Nat, a = (-1075 - min e (-1075)).toNat := ⟨_, rfl⟩
      obtain ⟨b, hb⟩ : ∃ b : Nat, b = (e - min e (-1075)).toNat := ⟨_, rfl⟩
      rw [← ha, ← hb] at hj
      refine cmpI_scale (p := 2 ^ a) (q := 2 ^ (b + g)) (two_pow_pos _) (two_pow_pos _) ?_ ?_
      · rw [hab, pw2 _ (show t + a + 1 = (b + g) + 0 by omega)]; simp
      · rw [Nat.mul_assoc, Nat.mul_comm (2 ^ g), ← Nat.mul_assoc, hj, Nat.mul_one, Nat.pow_add, Nat.mul_assoc]
    obtain ⟨c, h1, h2⟩ := fcode_spec (decide (M < 0)) hmp e false mode (cxQ_cx M.natAbs (two_pow_pos g)) hcut (fun h => by cases h)
    exact ⟨c, h1, by unfold frnd; rw [h2]⟩

/-! ### the quotient of two floats' values -/
theorem qsh_ge {a b : Int} (h : b ≠ 0) (ha : a ≠ 0) : 58 ≤ blen (a.natAbs * 2 ^ qsh a b 56 / b.natAbs) := by
  have ha' : 0 < a.natAbs := by omega
  have hb' : 0 < b.natAbs := by omega
  have h1 := blen_mul_pow ha' (qsh a b 56)
  have h2 := blen_le_self (show 0 < a.natAbs * 2 ^ qsh a b 56 from Nat.mul_pos ha' (two_pow_pos _))
  have h3 := lt_blen b.natAbs
  have h4 : blen a.natAbs + qsh a b 56 ≥ 59 + blen b.natAbs := by unfold qsh; omega
  refine le_blen ((Nat.le_div_iff_mul_le hb').2 ?_)
  rw [h1] at h2
  refine Nat.le_trans ?_ h2
  refine Nat.le_trans (Nat.mul_le_mul_left _ (Nat.le_of_lt h3)) ?_
  rw [← Nat.pow_add]
  exact Nat.pow_le_pow_right (by decide) (by omega)
theorem fquo_grid (z z' : Int) (mode : Int) (h0 : z ≠ 0) (h0' : z' ≠ 0) (h : nrm z (-1074) ≠ none) (h' : nrm z' (-1074) ≠ none) :
    ∃ c, IsLo (cxQ (z.natAbs * 2 ^ 1074) z'.natAbs) c ∧ fquo (nrm z (-1074)) (nrm z' (-1074)) mode = fcut (decide (z < 0) != decide (z' < 0)) (c + if awx (decide (z < 0) != decide (z' < 0)) c (cxQ (z.natAbs * 2 ^ 1074) z'.natAbs) mode then 1 else 0) mode := by
  cases hd : nrm z (-1074) with
  | none => exact absurd hd h
  | some p =>
  cases hd' : nrm z' (-1074) with
  | none => exact absurd hd' h'
  | some p' =>
    obtain ⟨m, e⟩ := p
    obtain ⟨m', e'⟩ := p'
    obtain ⟨t, ht, he, hodd, _, _⟩ := nrm_some h0 hd
    obtain ⟨u, hu, he', hodd', _, _⟩ := nrm_some h0' hd'
    have hm0 : m ≠ 0 := by omega
    have hm0' : m' ≠ 0 := by omega
    have hsg : decide (m < 0) = decide (z < 0) := by rw [ht]; exact decide_eq_decide.2 (mul_pow_neg m t).1.symm
    have hsg' : decide (m' < 0) = decide (z' < 0) := by rw [hu]; exact decide_eq_decide.2 (mul_pow_neg m' u).1.symm
    have hab : z.natAbs = m.natAbs * 2 ^ t := by rw [ht]; exact natAbs_mul_pow m t
    have hab' : z'.natAbs = m'.natAbs * 2 ^ u := by rw [hu]; exact natAbs_mul_pow m' u
    have hmp : 0 < m.natAbs := by omega
    have hmp' : 0 < m'.natAbs := by omega
    show ∃ c, _ ∧ (if m' = 0 then fNaN else if m = 0 then 0 else frnd (decide (m < 0) != decide (m' < 0)) (m.natAbs * 2 ^ qsh m m' 56 / m'.natAbs) (e - qsh m m' 56 - e') (decide (m.natAbs * 2 ^ qsh m m' 56 % m'.natAbs ≠ 0)) mode) = _
    rw [if_neg hm0', if_neg hm0, hsg, hsg']
    have h58 := qsh_ge hm0' hm0
    obtain ⟨n, hn⟩ : ∃ n, n = qsh m m' 56 := ⟨_, rfl⟩
    rw [← hn] at h58 ⊢
    obtain ⟨E, hE⟩ : ∃ E : Int, E = e - n - e' := ⟨_, rfl⟩
    rw [← hE]
    have hD : 0 < z'.natAbs := by omega
    have hcut : CutAt (m.natAbs * 2 ^ n / m'.natAbs) E (decide (m.natAbs * 2 ^ n % m'.natAbs ≠ 0)) (cxQ (z.natAbs * 2 ^ 1074) z'.natAbs) := by
      intro j Y hj
      rw [← cmp3 (P := m.natAbs * 2 ^ n) (Q := m'.natAbs) (Y := Y) hmp' rfl rfl]
      obtain ⟨a, ha⟩ : ∃ a : Nat, a = (-1075 - min E (-1075)).toNat := ⟨_, rfl⟩
      obtain ⟨b, hb⟩ : ∃ b : Nat, b = (E - min E (-1075)).toNat := ⟨_, rfl⟩
      rw [← ha, ← hb] at hj
      unfold cxQ
      rw [hab, hab']
      refine cmpI_scale (p := 2 ^ (n + a)) (q := 2 ^ (b + u + n)) (two_pow_pos _) (two_pow_pos _) ?_ ?_
      · exact pw3 (t := t) (g := 1074) m.natAbs (by omega)
      · have e1 : j * (m'.natAbs * 2 ^ u) * 2 ^ (n + a) = (j * 2 ^ a) * (m'.natAbs * (2 ^ u * 2 ^ n)) := by rw [Nat.pow_add]; ac_rfl
        have e2 : Y * m'.natAbs * 2 ^ (b + u + n) = (Y * 2 ^ b) * (m'.natAbs * (2 ^ u * 2 ^ n)) := by rw [Nat.pow_add, Nat.pow_add]; ac_rfl
        rw [e1, e2, hj]
    have hXp : 0 < m.natAbs * 2 ^ n / m'.natAbs := by
      rcases Nat.eq_zero_or_pos (m.natAbs * 2 ^ n / m'.natAbs) with h | h
      · rw [h] at h58; exact absurd h58 (by decide)
      · exact h
    obtain ⟨c, h1, h2⟩ := fcode_spec (decide (z < 0) != decide (z' < 0)) hXp E _ mode (cxQ_cx (z.natAbs * 2 ^ 1074) hD) hcut (fun _ => by unfold rlg; omega)
    exact ⟨c, h1, by unfold frnd; rw [h2]⟩

/-! ### the root of a float's value -/
theorem froot_grid (z : Int) (mode : Int) (h0 : 0 < z) (h : nrm z (-1074) ≠ none) :
    ∃ c, IsLo (cxR z.natAbs) c ∧ froot (nrm z (-1074)) mode = fcut false (c + if awx false c (cxR z.natAbs) mode then 1 else 0) mode := by
  cases hd : nrm z (-1074) with
  | none => exact absurd hd h
  | some p =>
    obtain ⟨m, e⟩ := p
    obtain ⟨t, ht, he, hodd, _, _⟩ := nrm_some (by omega) hd
    have hm0 : 0 < m := by have := (mul_pow_neg m t).2; rw [← ht] at this; omega
    have hab : z.natAbs = m.natAbs * 2 ^ t := by rw [ht]; exact natAbs_mul_pow m t
    have hmp : 0 < m.natAbs := by omega
    show ∃ c, _ ∧ (if m < 0 then fNaN else if m = 0 then 0 else frnd false (isq (m.natAbs * 2 ^ rsh m e 56)) ((e - rsh m e 56) / 2) (decide (isq (m.natAbs * 2 ^ rsh m e 56) * isq (m.natAbs * 2 ^ rsh m e 56) ≠ m.natAbs * 2 ^ rsh m e 56)) mode) = _
    rw [if_neg (by omega), if_neg (by omega)]
    have he2 := rsh_even m e 56
    have hge := rsh_ge m e 56
    obtain ⟨n, hn⟩ : ∃ n, n = rsh m e 56 := ⟨_, rfl⟩
    rw [← hn] at he2 hge ⊢
    obtain ⟨V, hV⟩ : ∃ V, V = m.natAbs * 2 ^ n := ⟨_, rfl⟩
    have hVb : blen V = blen m.natAbs + n := by rw [hV]; exact blen_mul_pow hmp n
    have hVp : 0 < V := by rw [hV]; exact Nat.mul_pos hmp (two_pow_pos _)
    rw [← hV]
    have i1 := isq_le V
    have i2 := isq_lt V
    obtain ⟨X, hX⟩ : ∃ X, X = isq V := ⟨_, rfl⟩
    rw [← hX] at i1 i2 ⊢
    obtain ⟨E, hE⟩ : ∃ E : Int, E = (e - n) / 2 := ⟨_, rfl⟩
    have hE2 : e - n = 2 * E := by omega
    rw [← hE]
    have hXb : 58 ≤ blen X := by
      by_cases hb : blen X < 58
      · have h1 := lt_blen X
        have h2 : X + 1 ≤ 2 ^ 57 := Nat.le_trans h1 (Nat.pow_le_pow_right (by decide) (by omega))
        have h3 := sq_le h2
        have h4 := blen_le_self hVp
        have h5 : 2 ^ 117 ≤ 2 ^ (blen V - 1) := Nat.pow_le_pow_right (by decide) (by omega)
        have h6 : (2 : Nat) ^ 57 * 2 ^ 57 < 2 ^ 117 := by decide
        omega
      · omega
    have hcut : CutAt X E (decide (X * X ≠ V)) (cxR z.natAbs) := by
      intro j Y hj
      obtain ⟨a, ha⟩ : ∃ a : Nat, a = (-1075 - min E (-1075)).toNat := ⟨_, rfl⟩
      obtain ⟨b, hb⟩ : ∃ b : Nat, b = (E - min E (-1075)).toNat := ⟨_, rfl⟩
      rw [← ha, ← hb] at hj
      have h3 : cxR z.natAbs j = cmpI ((V : Nat) : Int) ((Y * Y : Nat) : Int) := by
        unfold cxR
        refine cmpI_scale (p := 2 ^ (a + a)) (q := 2 ^ (b + b)) (two_pow_pos _) (two_pow_pos _) ?_ ?_
        · rw [hab, hV, show (4 : Nat) = 2 ^ 2 by decide, ← pw (k := n) (p := b + b) (t := t + 1076 + (a + a)) (r := 0) m.natAbs (by omega) |>.symm]
          rw [Nat.pow_zero, Nat.mul_one, Nat.pow_add, show t + 1076 = t + 2 + 1074 by omega, Nat.pow_add, Nat.pow_add]
          generalize (2 : Nat) ^ 1074 = q
          rw [Nat.pow_add 2 t 2, Nat.pow_add 2 a a]
          ac_rfl
        · have e1 : j * j * 2 ^ (a + a) = (j * 2 ^ a) * (j * 2 ^ a) := by rw [Nat.pow_add]; ac_rfl
          have e2 : Y * Y * 2 ^ (b + b) = (Y * 2 ^ b) * (Y * 2 ^ b) := by rw [Nat.pow_add]; ac_rfl
          rw [e1, e2, hj]
      rw [h3]
      by_cases hlt : X < Y
      · rw [if_pos hlt]; have := sq_le (show X + 1 ≤ Y by omega); exact cmpI_m1.2 (by omega)
      · rw [if_neg hlt]
        by_cases heq : X = Y
        · subst heq
          rw [if_pos rfl]
          by_cases hs : X * X = V
          · simp only [hs, ne_eq, not_true_eq_false, decide_false, Bool.false_eq_true, if_false]
            exact cmpI_eq0.2 (by omega)
          · simp only [ne_eq, hs, not_false_eq_true, decide_true, if_true]
            exact cmpI_one.2 (by omega)
        · rw [if_neg heq]; have := sq_lt (show Y < X by omega); exact cmpI_one.2 (by omega)
    have hXp : 0 < X := by
      rcases Nat.eq_zero_or_pos X with h | h
      · rw [h] at hXb; exact absurd hXb (by decide)
      · exact h
    obtain ⟨c, h1, h2⟩ := fcode_spec false hXp E _ mode (cxR_cx z.natAbs) hcut (fun _ => by unfold rlg; omega)
    exact ⟨c, h1, by unfold frnd; rw [h2]⟩

end Go.Proofs.YtkpglfloddkclaaGreatDoor

namespace Go.Proofs.YtkpglfloddkclaaGreatDoor
open Go.RowKit Sp

/-! ### cutting at the greatest float -/
theorem fM_fover (s : Bool) (mode : Int) : fS (fover s mode) = s ∧ (fM (fover s mode) = fMax ∨ fM (fover s mode) = fInf) := by
  unfold fover
  split
  · exact ⟨fS_fsgn (by decide), Or.inl (fM_fsgn (by decide))⟩
  · exact ⟨fS_fsgn (by decide), Or.inr (fM_fsgn (by decide))⟩
theorem fcut_S (s : Bool) (c : Nat) (mode : Int) : fS (fcut s c mode) = s := by
  unfold fcut
  split
  · exact (fM_fover s mode).1
  · rename_i h; exact fS_fsgn (by unfold fInf at h; omega)
theorem fcut_small {s : Bool} {c : Nat} {mode : Int} (h : c < 9218868437227405312) : fcut s c mode = fsgn s c := by
  unfold fcut; rw [if_neg (by unfold fInf; omega)]
theorem fcut_M_small {s : Bool} {c : Nat} {mode : Int} (h : c < 9218868437227405312) : fM (fcut s c mode) = c := by
  rw [fcut_small h]; exact fM_fsgn (by omega)
theorem fcut_M_le (s : Bool) (c : Nat) (mode : Int) : fM (fcut s c mode) ≤ 9218868437227405312 := by
  by_cases h : c < 9218868437227405312
  · rw [fcut_M_small h]; omega
  · have := (fM_fover s mode).2
    unfold fcut; rw [if_pos (by unfold fInf; omega)]
    unfold fMax fInf at this; omega
theorem fcut_nan (s : Bool) (c : Nat) (mode : Int) : fnan (fcut s c mode) = false := by
  have := fcut_M_le s c mode
  unfold fnan; exact decide_eq_false (by omega)
theorem fcut_lt (s : Bool) (c : Nat) (mode : Int) : fcut s c mode < 18446744073709551616 := by
  unfold fcut fover
  split
  · split <;> exact fsgn_lt (by decide)
  · rename_i h; exact fsgn_lt (by unfold fInf at h; omega)
theorem fcut_mono (s : Bool) {c d : Nat} (mode : Int) (h : c ≤ d) : fM (fcut s c mode) ≤ fM (fcut s d mode) := by
  by_cases h1 : d < 9218868437227405312
  · rw [fcut_M_small h1, fcut_M_small (by omega)]; exact h
  · by_cases h2 : c < 9218868437227405312
    · have := (fM_fover s mode).2
      rw [fcut_M_small h2]
      unfold fcut; rw [if_pos (by unfold fInf; omega)]
      unfold fMax fInf at this; omega
    · unfold fcut; rw [if_pos (by unfold fInf; omega), if_pos (by unfold fInf; omega)]; exact Nat.le_refl _
theorem code_mono {cx cx' : Nat → Int} (hc' : Cx cx') (hle : ∀ j, cx j ≤ cx' j) {c c' : Nat} (h : IsLo cx c) (h' : IsLo cx' c') (s : Bool) (mode : Int) :
    (c + if awx s c cx mode then 1 else 0) ≤ (c' + if awx s c' cx' mode then 1 else 0) := by
  have h1 : c ≤ c' := by
    by_cases h2 : c ≤ c'
    · exact h2
    · have h3 : fzN (c' + 1) ≤ fzN c := fzN_le_iff.2 (by omega)
      have h4 := h.1; have h5 := hle (2 * fzN c); have h6 := h'.2
      rcases Nat.lt_or_eq_of_le h3 with h7 | h7
      · have := hc'.strict (2 * fzN (c' + 1)) (2 * fzN c) (by omega) (by omega); omega
      · rw [h7] at h6; omega
  rcases Nat.lt_or_eq_of_le h1 with h2 | h2
  · split <;> split <;> omega
  · subst h2
    have e1 := hle (2 * fzN c); have e2 := hle (fzN c + fzN (c + 1))
    have k1 := h.1; have k1' := h'.1
    have hi : awx s c cx mode = true → awx s c cx' mode = true := by
      unfold awx
      by_cases z : cx (2 * fzN c) = 0
      · rw [if_pos z]; intro h; cases h
      · have z' : ¬ cx' (2 * fzN c) = 0 := by omega
        rw [if_neg z, if_neg z']
        by_cases m1 : mode = 1
        · simp [m1]
        · by_cases m2 : mode = 2
          · simp [m2]
          · by_cases m3 : mode = 3
            · simp [m3]
            · simp only [m1, m2, m3, if_false, Bool.or_eq_true, Bool.and_eq_true, decide_eq_true_eq]
              omega
    cases ha : awx s c cx mode with
    | false => simp
    | true => rw [hi ha]; simp

/-! ### the order of floats -/
theorem fplace_eq (f : Nat) : fplace f = if fS f then -(fM f : Int) else (fM f : Int) := by unfold fplace sgn; cases fS f <;> rfl
theorem fround_zero (e mode : Int) : fround (nrm 0 e) mode = 0 := by rw [nrm_zero]; rfl
theorem fplace_zero : fplace 0 = 0 := by decide
theorem cxQ_le {A A' : Nat} (D : Nat) (h : A ≤ A') (j : Nat) : cxQ A D j ≤ cxQ A' D j := by
  unfold cxQ cmpI; split <;> split <;> (try split) <;> (try split) <;> omega
theorem fround_place (M : Int) (g : Nat) (mode : Int) (h : nrm M (-1074 - (g : Int)) ≠ none) :
    fnan (fround (nrm M (-1074 - (g : Int))) mode) = false ∧ (0 ≤ M → 0 ≤ fplace (fround (nrm M (-1074 - (g : Int))) mode)) ∧ (M ≤ 0 → fplace (fround (nrm M (-1074 - (g : Int))) mode) ≤ 0) := by
  by_cases h0 : M = 0
  · subst h0; rw [fround_zero]; decide
  · obtain ⟨c, h1, h2⟩ := fround_grid M g mode h0 h
    rw [h2]
    refine ⟨fcut_nan _ _ _, ?_, ?_⟩
    · intro h3; rw [fplace_eq, fcut_S, show decide (M < 0) = false by simp; omega]; simp
    · intro h3; rw [fplace_eq, fcut_S, show decide (M < 0) = true by simp; omega]; simp
theorem fround_mono (M N : Int) (g : Nat) (mode : Int) (hM : nrm M (-1074 - (g : Int)) ≠ none) (hN : nrm N (-1074 - (g : Int)) ≠ none) (h : M ≤ N) :
    fplace (fround (nrm M (-1074 - (g : Int))) mode) ≤ fplace (fround (nrm N (-1074 - (g : Int))) mode) := by
  have p1 := fround_place M g mode hM
  have p2 := fround_place N g mode hN
  by_cases h1 : M ≤ 0 ∧ 0 ≤ N
  · have := p1.2.2 h1.1; have := p2.2.1 h1.2; omega
  · have hM0 : M ≠ 0 := by omega
    have hN0 : N ≠ 0 := by omega
    obtain ⟨c, k1, k2⟩ := fround_grid M g mode hM0 hM
    obtain ⟨d, l1, l2⟩ := fround_grid N g mode hN0 hN
    rw [k2, l2, fplace_eq, fplace_eq, fcut_S, fcut_S]
    by_cases hs : M < 0
    · have e1 : decide (M < 0) = true := by simpa using hs
      have e2 : decide (N < 0) = true := by simp; omega
      rw [e1, e2]
      have := fcut_mono true mode (code_mono (cx := cxQ N.natAbs (2 ^ g)) (cx' := cxQ M.natAbs (2 ^ g)) (cxQ_cx M.natAbs (two_pow_pos g)) (fun j => cxQ_le (A := N.natAbs) (A' := M.natAbs) (2 ^ g) (by omega) j) l1 k1 true mode)
      simp only [if_true]; omega
    · have e1 : decide (M < 0) = false := by simpa using hs
      have e2 : decide (N < 0) = false := by simp; omega
      rw [e1, e2]
      have := fcut_mono false mode (code_mono (cx := cxQ M.natAbs (2 ^ g)) (cx' := cxQ N.natAbs (2 ^ g)) (cxQ_cx N.natAbs (two_pow_pos g)) (fun j => cxQ_le (A := M.natAbs) (A' := N.natAbs) (2 ^ g) (by omega) j) k1 l1 false mode)
      simp only [Bool.false_eq_true, if_false]; omega

/-! ### numbers that are floats -/
theorem g0 : (-1074 : Int) = -1074 - ((0 : Nat) : Int) := by decide
theorem fround_exact {M : Int} {c : Nat} (h0 : M ≠ 0) (h : M.natAbs = fzN c) (hc : c < 9218868437227405312) (mode : Int) : fround (nrm M (-1074)) mode = fsgn (decide (M < 0)) c := by
  have hn : nrm M (-1074 - ((0 : Nat) : Int)) ≠ none := by
    rw [← g0]; exact nrm_valid (by omega) (by rw [h]; have := blen_fzN hc; omega)
  obtain ⟨d, k1, k2⟩ := fround_grid M 0 mode h0 hn
  rw [← g0] at k2
  have hz : cxQ M.natAbs (2 ^ 0) (2 * fzN c) = 0 := by unfold cxQ; rw [h]; exact cmpI_eq0.2 (by simp)
  have hlt := fzN_lt_succ c
  have h1 : cxQ M.natAbs (2 ^ 0) (2 * fzN (c + 1)) = -1 := by unfold cxQ; rw [h]; exact cmpI_m1.2 (by simp; omega)
  have hdc : d = c := IsLo.uniq (cxQ_cx _ (two_pow_pos 0)) k1 ⟨by omega, h1⟩
  subst hdc
  have ha : awx (decide (M < 0)) d (cxQ M.natAbs (2 ^ 0)) mode = false := by unfold awx; rw [if_pos hz]
  rw [k2, ha]
  exact fcut_small hc
/-- every integer of at most 53 bits, times a power of two, is the value of a code -/
theorem fzN_repr : ∀ (k n : Nat), n ≤ 9007199254740992 → ∃ c, fzN c = n * 2 ^ k
  | 0, n, h => ⟨n, by have := fzN_code 0 n h (Or.inr rfl); simpa using this⟩
  | k + 1, n, h => by
    by_cases h1 : 4503599627370496 ≤ n
    · exact ⟨_, fzN_code (k + 1) n h (Or.inl h1)⟩
    · obtain ⟨c, hc⟩ := fzN_repr k (2 * n) (by omega)
      exact ⟨c, by rw [hc, Nat.pow_succ]; ac_rfl⟩
theorem fround_of {f : Nat} (hf : f < 18446744073709551616) (h : ffin f = true) (h0 : fM f ≠ 0) (mode : Int) : fround (fof f) mode = f := by
  have hlt : fM f < 9218868437227405312 := by unfold ffin at h; simpa using h
  have hab := fz_abs f
  have hne : fzN (fM f) ≠ 0 := by have := fzN_lt (show 0 < fM f by omega); rw [fzN_zero] at this; omega
  have hz : fz f ≠ 0 := by omega
  rw [fof_fin h, fround_exact hz hab hlt]
  have : decide (fz f < 0) = fS f := by
    unfold fz sgn at hz ⊢; cases fS f <;> simp at hz ⊢ <;> omega
  rw [this, fsgn_self hf]
theorem fof_fsgn {s : Bool} {c : Nat} (h : c < 9218868437227405312) : ffin (fsgn s c) = true ∧ fz (fsgn s c) = sgn s (fzN c) := by
  have h1 : fM (fsgn s c) = c := fM_fsgn (by omega)
  have h2 : fS (fsgn s c) = s := fS_fsgn (by omega)
  refine ⟨by unfold ffin; rw [h1]; simpa using h, by unfold fz; rw [h1, h2]⟩
theorem fz_zero {f : Nat} : fz f = 0 ↔ fM f = 0 := by
  have hab := fz_abs f
  constructor
  · intro h0
    rw [h0] at hab
    by_cases h1 : fM f = 0
    · exact h1
    · have := fzN_lt (show 0 < fM f by omega); rw [fzN_zero] at this; simp at hab; omega
  · intro h0; rw [h0, fzN_zero] at hab; omega
theorem fz_le {f g : Nat} : fz f ≤ fz g ↔ fplace f ≤ fplace g := by
  unfold fz fplace sgn
  have h1 := @fzN_le_iff (fM f) (fM g)
  have h2 := @fzN_le_iff (fM g) (fM f)
  have z1 := @fzN_le_iff (fM f) 0
  have z2 := @fzN_le_iff (fM g) 0
  rw [fzN_zero] at z1 z2
  cases fS f <;> cases fS g <;> simp <;> omega

/-! ### sums -/
theorem fz_fneg {f : Nat} (h : ffin f = true) : ffin (fneg f) = true ∧ fz (fneg f) = -fz f := by
  have hlt : fM f < 9218868437227405312 := by unfold ffin at h; simpa using h
  have hn : fnan f = false := by unfold fnan; simp; omega
  unfold fneg; rw [hn]
  have := fof_fsgn (s := !fS f) hlt
  refine ⟨this.1, ?_⟩
  rw [if_neg (by decide), this.2]; unfold fz; exact sgn_not _ _
theorem blen_fz_add {a b : Nat} (ha : ffin a = true) (hb : ffin b = true) : blen (fz a + fz b).natAbs ≤ 2099 := by
  have := bl_add (fz a) (fz b); have := blen_fz ha; have := blen_fz hb; omega
theorem fadd_val {a b : Nat} (ha : ffin a = true) (hb : ffin b = true) : dadd (fof a) (fof b) = nrm (fz a + fz b) (-1074) ∧ nrm (fz a + fz b) (-1074) ≠ none := by
  refine ⟨?_, nrm_valid (by omega) (by have := blen_fz_add ha hb; omega)⟩
  rw [fof_fin ha, fof_fin hb]
  exact dadd_nrm _ _ _ (fof_some ha) (fof_some hb)
theorem dman_zero {M E : Int} (h : nrm M E ≠ none) : dman (nrm M E) = 0 ↔ M = 0 := by
  cases hd : nrm M E with
  | none => exact absurd hd h
  | some p =>
    obtain ⟨m, e⟩ := p
    by_cases h0 : M = 0
    · subst h0; rw [nrm_zero] at hd; injection hd with hd; injection hd with h1 h2; subst h1; simp [dman]
    · obtain ⟨t, ht, _, hodd, _⟩ := nrm_some h0 hd
      constructor
      · intro h1; have : m = 0 := h1; omega
      · intro h1; exact absurd h1 h0
theorem fin_not {f : Nat} (h : ffin f = true) : fnan f = false ∧ finf f = false := by
  have hlt : fM f < 9218868437227405312 := by unfold ffin at h; simpa using h
  exact ⟨by unfold fnan; simp; omega, by unfold finf; simp; omega⟩
theorem fadd_fin {a b : Nat} (ha : ffin a = true) (hb : ffin b = true) (mode : Int) :
    fadd a b mode = if fzero a && decide (a = b) then a else if fz a + fz b = 0 then fnothing mode else fround (nrm (fz a + fz b) (-1074)) mode := by
  have h1 := fin_not ha; have h2 := fin_not hb
  have h3 := fadd_val ha hb
  unfold fadd
  rw [h1.1, h1.2, h2.1, h2.2, h3.1]
  simp only [Bool.or_self, Bool.false_and, Bool.false_eq_true, if_false, dman_zero h3.2]
theorem fadd_place {a b : Nat} (ha : ffin a = true) (hb : ffin b = true) (mode : Int) :
    fnan (fadd a b mode) = false ∧ fplace (fadd a b mode) = fplace (fround (nrm (fz a + fz b) (-1074)) mode) := by
  have h3 := fadd_val ha hb
  rw [fadd_fin ha hb]
  by_cases h1 : (fzero a && decide (a = b)) = true
  · rw [if_pos h1]
    simp only [Bool.and_eq_true, decide_eq_true_eq] at h1
    obtain ⟨hz, rfl⟩ := h1
    have hm : fM a = 0 := by unfold fzero at hz; simpa using hz
    have h0 := fz_zero.2 hm
    rw [h0, Int.add_zero, fround_zero, fplace_zero]
    refine ⟨(fin_not ha).1, ?_⟩
    unfold fplace sgn; rw [hm]; split <;> rfl
  · rw [if_neg h1]
    by_cases h0 : fz a + fz b = 0
    · rw [if_pos h0, h0, fround_zero, fplace_zero]
      unfold fnothing
      cases decide (mode = 1) <;> decide
    · rw [if_neg h0]
      refine ⟨?_, rfl⟩
      have := fround_place (fz a + fz b) 0 mode (by rw [← g0]; exact h3.2)
      rw [← g0] at this; exact this.1

end Go.Proofs.YtkpglfloddkclaaGreatDoor

namespace Go.Proofs.YtkpglfloddkclaaGreatDoor
open Go.RowKit Sp

/-- a valid dyad of the laws of floats -/
def Slim3 (m e : Int) : Prop := (m = 0 ∧ e = 0) ∨ (m % 2 = 1 ∧ blen m.natAbs ≤ 640 ∧ -3000 ≤ e ∧ e + blen m.natAbs ≤ 3640)
theorem g3 : (-3000 : Int) = -1074 - ((1926 : Nat) : Int) := by decide
theorem slim3_up {m e : Int} (h : Slim3 m e) : ∃ M : Int, nrm M (-3000) = some (m, e) ∧ blen M.natAbs ≤ 6640 := by
  rcases h with ⟨rfl, rfl⟩ | ⟨h1, h2, h3, h4⟩
  · exact ⟨0, nrm_zero _, by decide⟩
  · refine ⟨m * 2 ^ (e + 3000).toNat, ?_, ?_⟩
    · rw [nrm_scale, show -3000 + ((e + 3000).toNat : Int) = e by omega]
      exact nrm_self (Or.inr ⟨h1, by omega, by omega⟩)
    · rw [natAbs_mul_pow, blen_mul_pow (by omega)]; omega

/-! ### FloatMonotone -/
theorem cmpI_le0 {x y : Int} (h : x ≤ y) : cmpI x y ≤ 0 := cmpI_le.2 h
theorem fmono_round {m e n f : Int} (ha : Slim3 m e) (hb : Slim3 n f) (h : dcmp (some (m, e)) (some (n, f)) ≤ 0) (mode : Int) :
    fcmpok (fround (some (m, e)) mode) (fround (some (n, f)) mode) = true ∧ fcmpv (fround (some (m, e)) mode) (fround (some (n, f)) mode) ≤ 0 := by
  obtain ⟨M, hM, bM⟩ := slim3_up ha
  obtain ⟨N, hN, bN⟩ := slim3_up hb
  have vM : nrm M (-3000) ≠ none := by rw [hM]; simp
  have vN : nrm N (-3000) ≠ none := by rw [hN]; simp
  rw [← hM, ← hN] at h ⊢
  rw [dcmp_nrm M N (-3000) vM vN] at h
  have hle := cmpI_le.1 h
  rw [g3] at vM vN ⊢
  have p1 := (fround_place M 1926 mode vM).1
  have p2 := (fround_place N 1926 mode vN).1
  have p3 := fround_mono M N 1926 mode vM vN hle
  unfold fcmpok fcmpv
  rw [p1, p2]
  exact ⟨rfl, cmpI_le0 p3⟩

theorem f_cases (f : Nat) : fnan f = true ∨ (fnan f = false ∧ finf f = true ∧ ffin f = false ∧ fzero f = false) ∨ (fnan f = false ∧ finf f = false ∧ ffin f = true) := by
  unfold fnan finf ffin fzero
  by_cases h1 : 9218868437227405312 < fM f
  · left; simpa using h1
  · by_cases h2 : fM f = 9218868437227405312
    · right; left; simp; omega
    · right; right; simp; omega
theorem inf_place {f : Nat} (h : finf f = true) : fplace f = if fS f then -9218868437227405312 else 9218868437227405312 := by
  have : fM f = 9218868437227405312 := by unfold finf at h; simpa using h
  rw [fplace_eq, this]; rfl
theorem fin_place {f : Nat} (h : ffin f = true) : -9218868437227405312 < fplace f ∧ fplace f < 9218868437227405312 := by
  have : fM f < 9218868437227405312 := by unfold ffin at h; simpa using h
  rw [fplace_eq]; split <;> omega
theorem inf_eq {f g : Nat} (hf : f < 18446744073709551616) (hg : g < 18446744073709551616) (h1 : finf f = true) (h2 : finf g = true) (h : fS f = fS g) : f = g := by
  have e1 : fM f = 9218868437227405312 := by unfold finf at h1; simpa using h1
  have e2 : fM g = 9218868437227405312 := by unfold finf at h2; simpa using h2
  rw [← fsgn_self hf, ← fsgn_self hg, e1, e2, h]
theorem nan_place_le {f : Nat} (h : fnan f = false) : -9218868437227405312 ≤ fplace f ∧ fplace f ≤ 9218868437227405312 := by
  have : ¬ 9218868437227405312 < fM f := by unfold fnan at h; simpa using h
  rw [fplace_eq]; split <;> omega
theorem fnan_fNaN : fnan fNaN = true := by decide

theorem fadd_infl {a b : Nat} {mode : Int} (ha : finf a = true) (h : fnan (fadd a b mode) = false) : fadd a b mode = a := by
  unfold fadd at h ⊢
  split
  · rename_i h1; rw [if_pos h1, fnan_fNaN] at h; cases h
  · simp
theorem fadd_infr {a b : Nat} {mode : Int} (ha : finf a = false) (hb : finf b = true) (h : fnan (fadd a b mode) = false) : fadd a b mode = b := by
  unfold fadd at h ⊢
  split
  · rename_i h1; rw [if_pos h1, fnan_fNaN] at h; cases h
  · simp [ha]
theorem fadd_nan {a b : Nat} {mode : Int} (h : fnan (fadd a b mode) = false) : fnan a = false ∧ fnan b = false ∧ (finf a = true → finf b = true → a = b) := by
  unfold fadd at h
  split at h
  · rw [fnan_fNaN] at h; cases h
  · rename_i h1
    simp only [Bool.or_eq_true, Bool.and_eq_true, decide_eq_true_eq, not_or, not_and, Bool.not_eq_true] at h1
    exact ⟨h1.1.1, h1.1.2, fun h2 h3 => by have := h1.2 ⟨h2, h3⟩; omega⟩

theorem fmono_add {f g h : Nat} (mode : Int) (h1 : fcmpok f g = true) (h2 : fcmpv f g ≤ 0) :
    fcmpok (fadd f h mode) (fadd g h mode) = true → fcmpv (fadd f h mode) (fadd g h mode) ≤ 0 := by
  unfold fcmpok fcmpv at *
  simp only [Bool.not_eq_true', Bool.or_eq_false_iff] at h1 ⊢
  rw [h1.1, h1.2] at h2
  have hle := cmpI_le.1 (by simpa using h2)
  intro ⟨k1, k2⟩
  rw [k1, k2]
  refine cmpI_le0 ?_
  have n1 := fadd_nan k1
  have n2 := fadd_nan k2
  rcases f_cases f with c | ⟨_, c, _⟩ | ⟨_, c, c'⟩
  · rw [h1.1] at c; cases c
  · rw [fadd_infl c k1]
    rcases f_cases g with d | ⟨_, d, _⟩ | ⟨_, d, d'⟩
    · rw [h1.2] at d; cases d
    · rw [fadd_infl d k2]; exact hle
    · have q1 := inf_place c
      have q2 := fin_place d'
      have q3 := nan_place_le k2
      split at q1 <;> omega
  · rcases f_cases g with d | ⟨_, d, _⟩ | ⟨_, d, d'⟩
    · rw [h1.2] at d; cases d
    · rw [fadd_infl d k2]
      have q1 := inf_place d
      have q2 := fin_place c'
      have q3 := nan_place_le k1
      split at q1 <;> omega
    · rcases f_cases h with e | ⟨_, e, _⟩ | ⟨_, e, e'⟩
      · rw [n1.2.1] at e; cases e
      · rw [fadd_infr c e k1, fadd_infr d e k2]; exact Int.le_refl _
      · rw [(fadd_place c' e' mode).2, (fadd_place d' e' mode).2]
        have v1 := (fadd_val c' e').2
        have v2 := (fadd_val d' e').2
        rw [g0] at v1 v2 ⊢
        exact fround_mono _ _ 0 mode v1 v2 (by have := fz_le.2 hle; omega)

/-! ### FloatEnclose -/
theorem dcmp_fz {f : Nat} (h : ffin f = true) (M : Int) (vM : nrm M (-3000) ≠ none) : dcmp (fof f) (nrm M (-3000)) = cmpI (fz f * 2 ^ 1926) M ∧ dcmp (nrm M (-3000)) (fof f) = cmpI M (fz f * 2 ^ 1926) := by
  have e1 : fof f = nrm (fz f * 2 ^ 1926) (-3000) := by rw [nrm_scale, fof_fin h]; rfl
  have v1 : nrm (fz f * 2 ^ 1926) (-3000) ≠ none := by rw [← e1, fof_fin h]; exact fof_some h
  rw [e1]
  exact ⟨dcmp_nrm _ _ _ v1 vM, dcmp_nrm _ _ _ vM v1⟩
theorem fover_12 (s : Bool) : fover s 1 = (if s then fsgn true fInf else fMax) ∧ fover s 2 = (if s then fsgn true fMax else fInf) ∧ fover s 0 = fsgn s fInf := by cases s <;> decide
theorem sgn_mul_pow (s : Bool) (x : Nat) (k : Nat) : sgn s x * 2 ^ k = sgn s (x * 2 ^ k) := by cases s <;> simp [sgn, Int.neg_mul]
theorem fkind_nan {f : Nat} (h : fnan f = false) : fkind f ≠ 3 := by unfold fkind; rw [h]; simp; split <;> (try split) <;> omega
theorem fcut_dir (d : Nat) : fcut false d 1 = min d 9218868437227405311 ∧ fcut false d 2 = min d 9218868437227405312 ∧ fcut false d 0 = min d 9218868437227405312 ∧
    fcut true d 1 = fsgn true (min d 9218868437227405312) ∧ fcut true d 2 = fsgn true (min d 9218868437227405311) ∧ fcut true d 0 = fsgn true (min d 9218868437227405312) := by
  have e1 := fover_12 false
  have e2 := fover_12 true
  unfold fcut
  rw [e1.1, e1.2.1, e1.2.2, e2.1, e2.2.1, e2.2.2]
  unfold fMax fInf fsgn
  simp only [if_true, Bool.false_eq_true, if_false]
  refine ⟨?_, ?_, ?_, ?_, ?_, ?_⟩ <;> split <;> omega
theorem enc_core {A D c : Nat} {aw : Bool} (h1 : fzN c * D ≤ A) (h2 : A < fzN (c + 1) * D) (a0 : fzN c * D = A → aw = false) :
    ∃ L U N, L = min c 9218868437227405311 ∧ U = min (c + if fzN c * D = A then 0 else 1) 9218868437227405312 ∧ N = min (c + if aw then 1 else 0) 9218868437227405312 ∧
      L < 9218868437227405312 ∧ U ≤ 9218868437227405312 ∧ N ≤ 9218868437227405312 ∧ fzN L * D ≤ A ∧ (U < 9218868437227405312 → A ≤ fzN U * D) ∧
      ((fzN L * D = A ∨ (U < 9218868437227405312 ∧ fzN U * D = A)) → L = U ∧ N = L) ∧
      (¬ (fzN L * D = A ∨ (U < 9218868437227405312 ∧ fzN U * D = A)) → U = L + 1 ∧ (N = L ∨ N = U)) := by
  refine ⟨_, _, _, rfl, rfl, rfl, by omega, by omega, by omega, ?_, ?_, ?_, ?_⟩
  · exact Nat.le_trans (Nat.mul_le_mul_right D (fzN_le_iff.2 (by omega))) h1
  · intro h
    split at h
    · rename_i he; rw [if_pos he, Nat.min_eq_left (by omega)]; show A ≤ fzN c * D; omega
    · rename_i he; rw [if_neg he, Nat.min_eq_left (by omega)]; omega
  · by_cases hc : c < 9218868437227405312
    · rw [Nat.min_eq_left (show c ≤ 9218868437227405311 by omega)]
      by_cases he : fzN c * D = A
      · rw [if_pos he, a0 he]; intro _; simp; omega
      · rw [if_neg he]
        rintro (h | ⟨h, h'⟩)
        · exact absurd h he
        · rw [Nat.min_eq_left (by omega)] at h'; omega
    · have hlt : fzN (min c 9218868437227405311) * D < A := by
        have h3 := fzN_lt (show min c 9218868437227405311 < c by omega)
        have h4 := Nat.mul_le_mul_right D (show fzN (min c 9218868437227405311) + 1 ≤ fzN c from h3)
        rcases Nat.eq_zero_or_pos D with h5 | h5
        · subst h5; omega
        · rw [Nat.add_mul, Nat.one_mul] at h4; omega
      rintro (h | ⟨h, h'⟩)
      · omega
      · omega
  · by_cases hc : c < 9218868437227405312
    · rw [Nat.min_eq_left (show c ≤ 9218868437227405311 by omega)]
      by_cases he : fzN c * D = A
      · intro h; exact absurd (Or.inl he) h
      · rw [if_neg he]
        intro _
        refine ⟨by omega, ?_⟩
        cases aw <;> simp <;> omega
    · intro _
      refine ⟨by omega, ?_⟩
      split <;> omega

theorem fcmpv_self (f : Nat) : fcmpv f f = 0 := by
  unfold fcmpv; split
  · rfl
  · exact cmpI_eq0.2 rfl
set_option maxHeartbeats 1000000 in
theorem enc_neg (M : Int) (r : Int → Nat) (D c L U N : Nat) (aw : Bool) (Y : Option (Int × Int))
    (eL : L = min c 9218868437227405311) (eU : U = min (c + if fzN c * D = M.natAbs then 0 else 1) 9218868437227405312) (eN : N = min (c + if aw then 1 else 0) 9218868437227405312)
    (hL : L < 9218868437227405312) (hU : U ≤ 9218868437227405312) (_hN : N ≤ 9218868437227405312) (q1 : fzN L * D ≤ M.natAbs) (q2 : U < 9218868437227405312 → M.natAbs ≤ fzN U * D)
    (q3 : (fzN L * D = M.natAbs ∨ (U < 9218868437227405312 ∧ fzN U * D = M.natAbs)) → L = U ∧ N = L)
    (q4 : ¬ (fzN L * D = M.natAbs ∨ (U < 9218868437227405312 ∧ fzN U * D = M.natAbs)) → U = L + 1 ∧ (N = L ∨ N = U))
    (hcz : ∀ s d, d < 9218868437227405312 → ffin (fsgn s d) = true ∧ dcmp (fof (fsgn s d)) Y = cmpI (sgn s (fzN d * D)) M ∧ dcmp Y (fof (fsgn s d)) = cmpI M (sgn s (fzN d * D)))
    (k1 : r 1 = fcut (decide (M < 0)) (c + if (if fzN c * D = M.natAbs then false else decide (M < 0)) then 1 else 0) 1)
    (k2 : r 2 = fcut (decide (M < 0)) (c + if (if fzN c * D = M.natAbs then false else !decide (M < 0)) then 1 else 0) 2)
    (k0 : r 0 = fcut (decide (M < 0)) (c + if aw then 1 else 0) 0) (hs : M < 0) :
    (ffin (r 1) = true → dcmp (fof (r 1)) Y ≤ 0) ∧ (ffin (r 2) = true → dcmp Y (fof (r 2)) ≤ 0) ∧
      (ffin (r 1) = false → r 1 = 18442240474082181120) ∧ (ffin (r 2) = false → r 2 = 9218868437227405312) ∧
      (((ffin (r 1) = true ∧ dcmp (fof (r 1)) Y = 0) ∨ (ffin (r 2) = true ∧ dcmp Y (fof (r 2)) = 0)) → r 1 = r 2 ∧ r 0 = r 1) ∧
      (¬ ((ffin (r 1) = true ∧ dcmp (fof (r 1)) Y = 0) ∨ (ffin (r 2) = true ∧ dcmp Y (fof (r 2)) = 0)) → fcmpv (fup (r 1)) (r 2) = 0 ∧ (r 0 = r 1 ∨ r 0 = r 2)) := by
  have hfz : ∀ s d, ffin (fsgn s d) = true → d ≤ 9218868437227405312 → d < 9218868437227405312 := fun s d h hd => by
    unfold ffin at h; rw [fM_fsgn (by omega)] at h; simpa using h
  have hd : decide (M < 0) = true := by simpa using hs
  rw [hd] at k1 k2 k0
  have e1 : (c + if (if fzN c * D = M.natAbs then false else true) = true then 1 else 0) = c + if fzN c * D = M.natAbs then 0 else 1 := by split <;> simp_all
  have e2 : (c + if (if fzN c * D = M.natAbs then false else !true) = true then 1 else 0) = c := by split <;> simp_all
  rw [e1, (fcut_dir _).2.2.2.1, ← eU] at k1
  rw [e2, (fcut_dir _).2.2.2.2.1, ← eL] at k2
  rw [(fcut_dir _).2.2.2.2.2, ← eN] at k0
  rw [k1, k2, k0]
  have cL := hcz true L hL
  have cU := hcz true U
  have sg1 : ∀ x : Nat, sgn true x = -(x : Int) := fun x => rfl
  rw [sg1] at cL
  have hcU : ffin (fsgn true U) = true → dcmp (fof (fsgn true U)) Y = cmpI (-((fzN U * D : Nat) : Int)) M := fun h => (cU (hfz _ _ h hU)).2.1
  rw [cL.1, cL.2.2]
  have hE : ((ffin (fsgn true U) = true ∧ dcmp (fof (fsgn true U)) Y = 0) ∨ (true = true ∧ cmpI M (-((fzN L * D : Nat) : Int)) = 0)) ↔ (fzN L * D = M.natAbs ∨ (U < 9218868437227405312 ∧ fzN U * D = M.natAbs)) := by
    rw [cmpI_eq0]
    constructor
    · rintro (⟨h, h'⟩ | ⟨_, h⟩)
      · rw [hcU h, cmpI_eq0] at h'; exact Or.inr ⟨hfz _ _ h hU, by omega⟩
      · exact Or.inl (by omega)
    · rintro (h | ⟨h, h'⟩)
      · exact Or.inr ⟨rfl, by omega⟩
      · exact Or.inl ⟨(cU h).1, by rw [hcU (cU h).1, cmpI_eq0]; omega⟩
  refine ⟨?_, ?_, ?_, (fun h => by cases h), ?_, ?_⟩
  · intro h; rw [hcU h]; have := q2 (hfz _ _ h hU); exact cmpI_le.2 (by omega)
  · intro _; exact cmpI_le.2 (by omega)
  · intro h
    have : ¬ U < 9218868437227405312 := fun h' => by rw [(cU h').1] at h; cases h
    have : U = 9218868437227405312 := by omega
    rw [this]; unfold fsgn; simp
  · intro h; have := q3 (hE.1 h); rw [this.2, this.1]; exact ⟨rfl, rfl⟩
  · intro h
    have h4 := q4 (fun h' => h (hE.2 h'))
    have hup : fup (fsgn true U) = fsgn true L := by
      have m1 : fM (fsgn true U) = U := fM_fsgn (by omega)
      have m2 : fS (fsgn true U) = true := fS_fsgn (by omega)
      unfold fup fnan fzero
      rw [m1, m2, h4.1]
      have : ¬ fsgn true (L + 1) = fInf := by unfold fsgn fInf; rw [if_pos rfl]; omega
      simp only [if_neg this]
      have g1 : decide (9218868437227405312 < L + 1) = false := by simp; omega
      have g2 : decide (L + 1 = 0) = false := by simp
      rw [g1, g2]
      rw [if_neg (by decide), if_neg (by decide), if_pos trivial]
      unfold fsgn; rw [if_pos rfl, if_pos rfl]; omega
    rw [hup]
    refine ⟨fcmpv_self _, ?_⟩
    rcases h4.2 with h | h
    · right; rw [h]
    · left; rw [h]
set_option maxHeartbeats 1000000 in
theorem enc_pos (M : Int) (r : Int → Nat) (D c L U N : Nat) (aw : Bool) (Y : Option (Int × Int))
    (eL : L = min c 9218868437227405311) (eU : U = min (c + if fzN c * D = M.natAbs then 0 else 1) 9218868437227405312) (eN : N = min (c + if aw then 1 else 0) 9218868437227405312)
    (hL : L < 9218868437227405312) (hU : U ≤ 9218868437227405312) (_hN : N ≤ 9218868437227405312) (q1 : fzN L * D ≤ M.natAbs) (q2 : U < 9218868437227405312 → M.natAbs ≤ fzN U * D)
    (q3 : (fzN L * D = M.natAbs ∨ (U < 9218868437227405312 ∧ fzN U * D = M.natAbs)) → L = U ∧ N = L)
    (q4 : ¬ (fzN L * D = M.natAbs ∨ (U < 9218868437227405312 ∧ fzN U * D = M.natAbs)) → U = L + 1 ∧ (N = L ∨ N = U))
    (hcz : ∀ s d, d < 9218868437227405312 → ffin (fsgn s d) = true ∧ dcmp (fof (fsgn s d)) Y = cmpI (sgn s (fzN d * D)) M ∧ dcmp Y (fof (fsgn s d)) = cmpI M (sgn s (fzN d * D)))
    (k1 : r 1 = fcut (decide (M < 0)) (c + if (if fzN c * D = M.natAbs then false else decide (M < 0)) then 1 else 0) 1)
    (k2 : r 2 = fcut (decide (M < 0)) (c + if (if fzN c * D = M.natAbs then false else !decide (M < 0)) then 1 else 0) 2)
    (k0 : r 0 = fcut (decide (M < 0)) (c + if aw then 1 else 0) 0) (hs : ¬ M < 0) :
    (ffin (r 1) = true → dcmp (fof (r 1)) Y ≤ 0) ∧ (ffin (r 2) = true → dcmp Y (fof (r 2)) ≤ 0) ∧
      (ffin (r 1) = false → r 1 = 18442240474082181120) ∧ (ffin (r 2) = false → r 2 = 9218868437227405312) ∧
      (((ffin (r 1) = true ∧ dcmp (fof (r 1)) Y = 0) ∨ (ffin (r 2) = true ∧ dcmp Y (fof (r 2)) = 0)) → r 1 = r 2 ∧ r 0 = r 1) ∧
      (¬ ((ffin (r 1) = true ∧ dcmp (fof (r 1)) Y = 0) ∨ (ffin (r 2) = true ∧ dcmp Y (fof (r 2)) = 0)) → fcmpv (fup (r 1)) (r 2) = 0 ∧ (r 0 = r 1 ∨ r 0 = r 2)) := by
  have hfz : ∀ s d, ffin (fsgn s d) = true → d ≤ 9218868437227405312 → d < 9218868437227405312 := fun s d h hd => by
    unfold ffin at h; rw [fM_fsgn (by omega)] at h; simpa using h
  have hd : decide (M < 0) = false := by simpa using hs
  rw [hd] at k1 k2 k0
  have e1 : (c + if (if fzN c * D = M.natAbs then false else !false) = true then 1 else 0) = c + if fzN c * D = M.natAbs then 0 else 1 := by split <;> simp_all
  have e2 : (c + if (if fzN c * D = M.natAbs then false else false) = true then 1 else 0) = c := by split <;> simp_all
  rw [e2, (fcut_dir _).1, ← eL] at k1
  rw [e1, (fcut_dir _).2.1, ← eU] at k2
  rw [(fcut_dir _).2.2.1, ← eN] at k0
  rw [k1, k2, k0]
  have cL := hcz false L hL
  have cU := hcz false U
  have sf : ∀ x : Nat, fsgn false x = x := fun x => rfl
  have sg1 : ∀ x : Nat, sgn false x = (x : Int) := fun x => rfl
  rw [sg1, sf] at cL
  rw [sg1, sf] at cU
  have hfU : ffin U = true → U < 9218868437227405312 := fun h => hfz false U h hU
  have hcU : ffin U = true → dcmp Y (fof U) = cmpI M ((fzN U * D : Nat) : Int) := fun h => (cU (hfU h)).2.2
  rw [cL.1, cL.2.1]
  have hE : ((true = true ∧ cmpI ((fzN L * D : Nat) : Int) M = 0) ∨ (ffin U = true ∧ dcmp Y (fof U) = 0)) ↔ (fzN L * D = M.natAbs ∨ (U < 9218868437227405312 ∧ fzN U * D = M.natAbs)) := by
    rw [cmpI_eq0]
    constructor
    · rintro (⟨_, h⟩ | ⟨h, h'⟩)
      · exact Or.inl (by omega)
      · rw [hcU h, cmpI_eq0] at h'; exact Or.inr ⟨hfU h, by omega⟩
    · rintro (h | ⟨h, h'⟩)
      · exact Or.inl ⟨rfl, by omega⟩
      · exact Or.inr ⟨(cU h).1, by rw [hcU (cU h).1, cmpI_eq0]; omega⟩
  refine ⟨?_, ?_, (fun h => by cases h), ?_, ?_, ?_⟩
  · intro _; exact cmpI_le.2 (by omega)
  · intro h; rw [hcU h]; have := q2 (hfU h); exact cmpI_le.2 (by omega)
  · intro h
    have : ¬ U < 9218868437227405312 := fun h' => by rw [(cU h').1] at h; cases h
    omega
  · intro h; have := q3 (hE.1 h); rw [this.2, this.1]; exact ⟨rfl, rfl⟩
  · intro h
    have h4 := q4 (fun h' => h (hE.2 h'))
    have hup : fup L = U := by
      have m1 : fM L = L := Nat.mod_eq_of_lt (by omega)
      have m2 : fS L = false := by unfold fS; simp; omega
      unfold fup fnan fzero
      rw [m1, m2, h4.1]
      have : ¬ L = fInf := by unfold fInf; omega
      simp only [if_neg this]
      have g1 : decide (9218868437227405312 < L) = false := by simp; omega
      rw [g1]
      by_cases hl : L = 0
      · rw [hl]; simp
      · simp [hl]
    rw [hup]
    exact ⟨fcmpv_self _, h4.2⟩

set_option maxHeartbeats 2000000 in
theorem enclose_law {m e : Int} (hs : Slim3 m e) (h0 : m ≠ 0) :
    let lo := fround (some (m, e)) 1
    let hi := fround (some (m, e)) 2
    let near := fround (some (m, e)) 0
    fnan lo = false ∧ fnan hi = false ∧ (ffin lo = true → dcmp (fof lo) (some (m, e)) ≤ 0) ∧ (ffin hi = true → dcmp (some (m, e)) (fof hi) ≤ 0) ∧
    (ffin lo = false → lo = 18442240474082181120) ∧ (ffin hi = false → hi = 9218868437227405312) ∧
    (((ffin lo = true ∧ dcmp (fof lo) (some (m, e)) = 0) ∨ (ffin hi = true ∧ dcmp (some (m, e)) (fof hi) = 0)) → lo = hi ∧ near = lo) ∧
    (¬ ((ffin lo = true ∧ dcmp (fof lo) (some (m, e)) = 0) ∨ (ffin hi = true ∧ dcmp (some (m, e)) (fof hi) = 0)) → fcmpv (fup lo) hi = 0 ∧ (near = lo ∨ near = hi)) := by
  obtain ⟨M, hM, bM⟩ := slim3_up hs
  have vM : nrm M (-3000) ≠ none := by rw [hM]; simp
  have hM0 : M ≠ 0 := by rintro rfl; rw [nrm_zero] at hM; injection hM with hM; injection hM with h1 h2; exact h0 h1.symm
  rw [← hM]
  have vM' := vM
  rw [g3] at vM'
  obtain ⟨c, l1, k1⟩ := fround_grid M 1926 1 hM0 vM'
  obtain ⟨c2, l2, k2⟩ := fround_grid M 1926 2 hM0 vM'
  obtain ⟨c0, l0, k0⟩ := fround_grid M 1926 0 hM0 vM'
  have hcx := cxQ_cx M.natAbs (two_pow_pos 1926)
  obtain rfl := IsLo.uniq hcx l1 l2
  obtain rfl := IsLo.uniq hcx l1 l0
  rw [← g3] at k1 k2 k0
  have hlo := cmpI_ge.1 l1.1
  have hhi := cmpI_m1.1 l1.2
  generalize hDD : (2 : Nat) ^ 1926 = D at *
  have hz : cxQ M.natAbs D (2 * fzN c) = 0 ↔ fzN c * D = M.natAbs := by unfold cxQ; rw [cmpI_eq0, Nat.mul_assoc]; omega
  have a1 : awx (decide (M < 0)) c (cxQ M.natAbs D) 1 = if fzN c * D = M.natAbs then false else decide (M < 0) := by unfold awx; simp only [hz, if_true]
  have a2 : awx (decide (M < 0)) c (cxQ M.natAbs D) 2 = if fzN c * D = M.natAbs then false else !decide (M < 0) := by unfold awx; simp only [hz]; rfl
  have a0 : fzN c * D = M.natAbs → awx (decide (M < 0)) c (cxQ M.natAbs D) 0 = false := by intro h; unfold awx; rw [if_pos (hz.2 h)]
  generalize awx (decide (M < 0)) c (cxQ M.natAbs D) 0 = aw at k0 a0
  rw [a1] at k1
  rw [a2] at k2
  have hcz : ∀ s d, d < 9218868437227405312 → ffin (fsgn s d) = true ∧ dcmp (fof (fsgn s d)) (nrm M (-3000)) = cmpI (sgn s (fzN d * D)) M ∧ dcmp (nrm M (-3000)) (fof (fsgn s d)) = cmpI M (sgn s (fzN d * D)) := fun s d h => by
    have h1 := fof_fsgn (s := s) h
    have h2 := dcmp_fz h1.1 M vM
    rw [h1.2, sgn_mul_pow, hDD] at h2
    exact ⟨h1.1, h2⟩
  clear hDD vM' hM bM l1 l2 l0 hcx a1 a2
  have n1 : fnan (fround (nrm M (-3000)) 1) = false := by rw [k1]; exact fcut_nan _ _ _
  have n2 : fnan (fround (nrm M (-3000)) 2) = false := by rw [k2]; exact fcut_nan _ _ _
  obtain ⟨L, U, N, eL, eU, eN, hL, hU, hN, q1, q2, q3, q4⟩ := enc_core (A := M.natAbs) (D := D) (c := c) (aw := aw) (by rw [Nat.mul_assoc] at hlo; omega) (by rw [Nat.mul_assoc] at hhi; omega) a0
  show fnan (fround (nrm M (-3000)) 1) = false ∧ _
  refine ⟨n1, n2, ?_⟩
  by_cases hs : M < 0
  · exact enc_neg M (fun k => fround (nrm M (-3000)) k) D c L U N aw _ eL eU eN hL hU hN q1 q2 q3 q4 hcz k1 k2 k0 hs
  · exact enc_pos M (fun k => fround (nrm M (-3000)) k) D c L U N aw _ eL eU eN hL hU hN q1 q2 q3 q4 hcz k1 k2 k0 hs

end Go.Proofs.YtkpglfloddkclaaGreatDoor

namespace Go.Proofs.YtkpglfloddkclaaGreatDoor
open Go.RowKit Sp

def fOne : Nat := 4607182418800017408
def fTwo : Nat := 4611686018427387904
def fHalf : Nat := 4602678819172646912
def fNZ : Nat := 9223372036854775808
def fNInf : Nat := 18442240474082181120

/-! ### FloatNeighbours -/
theorem fplace_fneg {f : Nat} (h : fnan f = false) : fnan (fneg f) = false ∧ fplace (fneg f) = -fplace f := by
  have h1 : ¬ 9218868437227405312 < fM f := by unfold fnan at h; simpa using h
  have h2 := fM_lt f
  unfold fneg; rw [if_neg (by rw [h]; decide)]
  have e1 := fM_fsgn (s := !fS f) h2
  have e2 := fS_fsgn (s := !fS f) h2
  refine ⟨by unfold fnan; rw [e1]; simpa using h1, ?_⟩
  rw [fplace_eq, fplace_eq, e1, e2]; cases fS f <;> simp
theorem fneg_nan {f : Nat} (h : fnan f = true) : fneg f = fNaN := by unfold fneg; rw [if_pos h]
theorem fneg_lt (f : Nat) : fneg f < 18446744073709551616 := by
  unfold fneg; split
  · decide
  · exact fsgn_lt (fM_lt f)
theorem fup_lt {f : Nat} (h : f < 18446744073709551616) : fup f < 18446744073709551616 := by
  unfold fup
  split
  · decide
  · split
    · exact h
    · split
      · decide
      · split
        · omega
        · rename_i hs
          have : ¬ 9223372036854775808 ≤ f := by unfold fS at hs; simpa using hs
          omega
/-- the neighbour above is one place further -/
theorem fplace_fup {f : Nat} (hf : f < 18446744073709551616) (h : fnan f = false) (hi : f ≠ fInf) : fnan (fup f) = false ∧ fplace (fup f) = fplace f + 1 := by
  have h1 : ¬ 9218868437227405312 < fM f := by unfold fnan at h; simpa using h
  have h2 := fM_lt f
  have e := fsgn_self hf
  unfold fup
  rw [if_neg (by rw [h]; decide), if_neg hi]
  by_cases hz : fM f = 0
  · rw [if_pos (by unfold fzero; simpa using hz)]
    refine ⟨by decide, ?_⟩
    rw [fplace_eq f, hz]
    have : fplace 1 = 1 := by decide
    rw [this]; split <;> simp
  · rw [if_neg (by unfold fzero; simpa using hz)]
    cases hs : fS f with
    | true =>
      rw [hs] at e
      have e1 : f - 1 = fsgn true (fM f - 1) := by unfold fsgn at e ⊢; simp at e ⊢; omega
      rw [if_pos rfl, e1]
      have k1 := fM_fsgn (s := true) (c := fM f - 1) (by omega)
      have k2 := fS_fsgn (s := true) (c := fM f - 1) (by omega)
      refine ⟨by unfold fnan; rw [k1]; simp; omega, ?_⟩
      rw [fplace_eq, fplace_eq f, k1, k2, hs]; simp; omega
    | false =>
      rw [hs] at e
      have hne : fM f ≠ 9218868437227405312 := by intro h3; apply hi; rw [← e, h3]; rfl
      have e1 : f + 1 = fsgn false (fM f + 1) := by unfold fsgn at e ⊢; simp at e ⊢; omega
      rw [if_neg (by decide), e1]
      have k1 := fM_fsgn (s := false) (c := fM f + 1) (by omega)
      have k2 := fS_fsgn (s := false) (c := fM f + 1) (by omega)
      refine ⟨by unfold fnan; rw [k1]; simp; omega, ?_⟩
      rw [fplace_eq, fplace_eq f, k1, k2, hs]; simp
theorem fplace_fdown {f : Nat} (h : fnan f = false) (hi : fneg f ≠ fInf) : fnan (fdown f) = false ∧ fplace (fdown f) = fplace f - 1 := by
  have h1 := fplace_fneg h
  have h2 := fplace_fup (fneg_lt f) h1.1 hi
  have h3 := fplace_fneg h2.1
  refine ⟨h3.1, ?_⟩
  show fplace (fneg (fup (fneg f))) = _
  omega
theorem fneg_inf {f : Nat} (hf : f < 18446744073709551616) (h : fneg f = fInf) : f = fNInf := by
  cases hn : fnan f with
  | true => rw [fneg_nan hn] at h; exact absurd h (by decide)
  | false =>
    have e := fsgn_self hf
    have h2 := fM_lt f
    unfold fneg at h; rw [if_neg (by rw [hn]; decide)] at h
    have k1 := fM_fsgn (s := !fS f) h2
    have k2 := fS_fsgn (s := !fS f) h2
    rw [h] at k1 k2
    have k3 : fM fInf = 9218868437227405312 := by decide
    have k4 : fS fInf = false := by decide
    rw [k4] at k2
    have k5 : fS f = true := by cases hs : fS f <;> simp [hs] at k2 ⊢
    rw [← e, k5, ← k1, k3]; decide
theorem neigh_law {f g : Nat} (hf : f < 18446744073709551616) (h : fnan f = false) :
    (fcmpok f g = true → fcmpv f g < 0 → ¬ fcmpv g (fup f) < 0) ∧ (f = fInf → fup f = fInf ∧ fdown f = fMax) ∧ (f ≠ fInf → fcmpok f (fup f) = true ∧ fcmpv f (fup f) < 0 ∧ fcmpv (fdown (fup f)) f = 0) := by
  refine ⟨?_, ?_, ?_⟩
  · intro h1 h2 h3
    unfold fcmpok at h1
    have hg : fnan g = false := by simp at h1; exact h1.2
    unfold fcmpv at h2 h3
    rw [h, hg] at h2
    simp only [Bool.or_self, Bool.false_eq_true, if_false] at h2
    have h2 := cmpI_neg_iff.1 h2
    by_cases hi : f = fInf
    · subst hi
      have := nan_place_le hg
      have e : fplace fInf = 9218868437227405312 := by decide
      omega
    · obtain ⟨k1, k2⟩ := fplace_fup hf h hi
      rw [hg, k1] at h3
      simp only [Bool.or_self, Bool.false_eq_true, if_false] at h3
      have h3 := cmpI_neg_iff.1 h3
      omega
  · rintro rfl
    exact ⟨by decide, by decide⟩
  · intro hi
    obtain ⟨k1, k2⟩ := fplace_fup hf h hi
    have hu : fneg (fup f) ≠ fInf := by
      intro h3
      have h4 := fneg_inf (fup_lt hf) h3
      rw [h4] at k2
      have := (nan_place_le h).1
      have e : fplace fNInf = -9218868437227405312 := by decide
      omega
    obtain ⟨l1, l2⟩ := fplace_fdown k1 hu
    unfold fcmpok fcmpv
    rw [h, k1, l1]
    simp only [Bool.or_self, Bool.false_eq_true, if_false, Bool.not_false]
    exact ⟨trivial, cmpI_neg_iff.2 (by omega), cmpI_eq0.2 (by omega)⟩

/-! ### FloatCommutes -/
theorem fz_one : fz fOne = 2 ^ 1074 := by
  have h := fzN_code 1022 4503599627370496 (by omega) (by omega)
  have e : 1022 * 4503599627370496 + 4503599627370496 = fOne := by decide
  rw [e] at h
  have h1 : fM fOne = fOne := by decide
  have h2 : fS fOne = false := by decide
  unfold fz
  rw [h1, h2, h]
  rw [p52 1022 1074 (by decide), ← pow2_nat]; rfl
theorem fin_one : ffin fOne = true := by decide
theorem fof_one : fof fOne = some (1, 0) := by
  rw [fof_fin fin_one, fz_one]
  have := nrm_scale 1 (-1074) 1074
  rw [Int.one_mul] at this
  rw [this, show (-1074 : Int) + ((1074 : Nat) : Int) = 0 by decide]
  exact nrm_self (Or.inr ⟨by decide, by decide, by decide⟩)
theorem dmul_one {d : Option (Int × Int)} (h : IsN d) : dmul d (some (1, 0)) = d := by
  cases d with
  | none => rfl
  | some p =>
    obtain ⟨m, e⟩ := p
    show nrm (m * 1) (e + 0) = _
    rw [Int.mul_one, Int.add_zero]; exact nrm_self (h m e rfl)
theorem fadd_comm (a b : Nat) (mode : Int) : fadd a b mode = fadd b a mode := by
  unfold fadd
  rw [dadd_comm (fof b) (fof a), Bool.or_comm (fnan b), Bool.and_comm (finf b)]
  by_cases hab : a = b
  · subst hab; rfl
  · have hba : ¬ b = a := fun h => hab h.symm
    simp only [hab, hba, decide_false, Bool.and_false, Bool.false_eq_true, if_false]
    cases h1 : finf a <;> cases h2 : finf b <;> simp [hab, hba]
theorem fmul_comm (a b : Nat) (mode : Int) : fmul a b mode = fmul b a mode := by
  unfold fmul
  rw [dmul_comm (fof b) (fof a), Bool.or_comm (fnan b), Bool.or_comm (finf b) (finf a), Bool.or_comm (fzero b) (fzero a), Bool.and_comm (finf b), Bool.and_comm (fzero b)]
  have e : (fS b != fS a) = (fS a != fS b) := by cases fS a <;> cases fS b <;> rfl
  rw [e]
  have e2 : (fnan a || fnan b || fzero a && finf b || finf a && fzero b) = (fnan a || fnan b || finf a && fzero b || fzero a && finf b) := by
    cases fnan a <;> cases fnan b <;> cases fzero a <;> cases finf b <;> cases finf a <;> cases fzero b <;> rfl
  rw [e2]
theorem ffma_comm (a b c : Nat) (mode : Int) : ffma a b c mode = ffma b a c mode := by
  unfold ffma
  rw [dmul_comm (fof b) (fof a), Bool.or_comm (fnan b), Bool.or_comm (finf b) (finf a), Bool.and_comm (finf b) (fzero a), Bool.and_comm (fzero b)]
  have e : (fS b != fS a) = (fS a != fS b) := by cases fS a <;> cases fS b <;> rfl
  rw [e]
  have e2 : (fnan a || fnan b || fnan c || fzero a && finf b || finf a && fzero b) = (fnan a || fnan b || fnan c || finf a && fzero b || fzero a && finf b) := by
    cases fnan a <;> cases fnan b <;> cases fnan c <;> cases fzero a <;> cases finf b <;> cases finf a <;> cases fzero b <;> rfl
  rw [e2]
theorem one_kinds : fnan fOne = false ∧ finf fOne = false ∧ fzero fOne = false ∧ fS fOne = false := by decide
theorem fmul_one {a : Nat} (ha : a < 18446744073709551616) (mode : Int) : fmul a fOne mode = if fnan a then fNaN else a := by
  obtain ⟨o1, o2, o3, o4⟩ := one_kinds
  unfold fmul
  rw [o1, o2, o3, o4, fof_one, dmul_one (isN_fof a)]
  have e := fsgn_self ha
  cases h1 : fnan a with
  | true => simp
  | false =>
    simp only [Bool.or_false, Bool.and_false, Bool.false_eq_true, if_false, Bool.bne_false]
    rcases f_cases a with c | ⟨_, c, c', c3⟩ | ⟨_, c, c'⟩
    · rw [h1] at c; cases c
    · have : fM a = 9218868437227405312 := by unfold finf at c; simpa using c
      rw [if_pos c]; rw [this] at e; exact e
    · rw [if_neg (by rw [c]; decide)]
      by_cases hz : fM a = 0
      · rw [if_pos (by unfold fzero; simpa using hz)]; rw [hz] at e; exact e
      · rw [if_neg (by unfold fzero; simpa using hz)]; exact fround_of ha c' hz mode
theorem fdiv_one {a : Nat} (ha : a < 18446744073709551616) (mode : Int) : fdiv a fOne mode = if fnan a then fNaN else a := by
  obtain ⟨o1, o2, o3, o4⟩ := one_kinds
  unfold fdiv
  rw [o1, o2, o3, o4]
  have e := fsgn_self ha
  cases h1 : fnan a with
  | true => simp
  | false =>
    simp only [Bool.or_false, Bool.and_false, Bool.false_eq_true, if_false, Bool.bne_false]
    rcases f_cases a with c | ⟨_, c, c', c3⟩ | ⟨_, c, c'⟩
    · rw [h1] at c; cases c
    · have : fM a = 9218868437227405312 := by unfold finf at c; simpa using c
      rw [if_pos c]; rw [this] at e; exact e
    · rw [if_neg (by rw [c]; decide)]
      by_cases hz : fM a = 0
      · rw [if_pos (by unfold fzero; simpa using hz)]; rw [hz] at e; exact e
      · rw [if_neg (by unfold fzero; simpa using hz)]
        have hlt : fM a < 9218868437227405312 := by unfold ffin at c'; simpa using c'
        have h0 : fz a ≠ 0 := fun h => hz (fz_zero.1 h)
        have h0' : fz fOne ≠ 0 := fun h => absurd (fz_zero.1 h) (by decide)
        rw [fof_fin c', fof_fin fin_one]
        obtain ⟨d, k1, k2⟩ := fquo_grid (fz a) (fz fOne) mode h0 h0' (fof_some c') (fof_some fin_one)
        have hs : (decide (fz a < 0) != decide (fz fOne < 0)) = fS a := by
          have e1 : decide (fz fOne < 0) = false := by rw [fz_one]; simp only [decide_eq_false_iff_not]; exact Int.not_lt.2 (Int.le_of_lt (Int.pow_pos (by decide)))
          rw [e1, Bool.bne_false]
          have hN : fzN (fM a) ≠ 0 := by have := fz_abs a; omega
          unfold fz; rw [sgn_lt]; cases fS a <;> simp <;> omega
        have hA : (fz fOne).natAbs = 2 ^ 1074 := by rw [fz_one, ← pow2_nat]; rfl
        rw [k2, hs, hA]
        rw [hA, fz_abs] at k1
        rw [fz_abs]
        have hz2 : cxQ (fzN (fM a) * 2 ^ 1074) (2 ^ 1074) (2 * fzN (fM a)) = 0 := by unfold cxQ; exact cmpI_eq0.2 (by rw [Nat.mul_assoc])
        have hlt2 := fzN_lt_succ (fM a)
        have h3 : cxQ (fzN (fM a) * 2 ^ 1074) (2 ^ 1074) (2 * fzN (fM a + 1)) = -1 := by
          unfold cxQ; refine cmpI_m1.2 ?_
          have hp := two_pow_pos 1074
          generalize 2 ^ 1074 = D at hp ⊢
          have : fzN (fM a) * D < fzN (fM a + 1) * D := Nat.mul_lt_mul_of_pos_right hlt2 hp
          rw [Nat.mul_assoc]; omega
        have hdc : d = fM a := IsLo.uniq (cxQ_cx _ (two_pow_pos 1074)) k1 ⟨by omega, h3⟩
        subst hdc
        have hw : awx (fS a) (fM a) (cxQ (fzN (fM a) * 2 ^ 1074) (2 ^ 1074)) mode = false := by unfold awx; rw [if_pos hz2]
        rw [hw]
        show fcut (fS a) (fM a) mode = a
        rw [fcut_small hlt]; exact e
theorem fadd_negzero {a : Nat} (ha : a < 18446744073709551616) : fadd a fNZ 0 = if fnan a then fNaN else a := by
  cases h1 : fnan a with
  | true => unfold fadd; rw [h1]; rfl
  | false =>
    simp only [Bool.false_eq_true, if_false]
    rcases f_cases a with c | ⟨_, c, c', c3⟩ | ⟨_, c, c'⟩
    · rw [h1] at c; cases c
    · unfold fadd
      have o1 : fnan fNZ = false ∧ finf fNZ = false := by decide
      rw [h1, c, o1.1, o1.2]; rfl
    · have o : ffin fNZ = true := by decide
      rw [fadd_fin c' o]
      have oz : fz fNZ = 0 := fz_zero.2 (by decide)
      rw [oz, Int.add_zero]
      have e := fsgn_self ha
      by_cases hz : fM a = 0
      · have h2 := fz_zero.2 hz
        rw [if_pos h2]
        by_cases h3 : a = fNZ
        · rw [if_pos (by rw [show fzero a = true by unfold fzero; simpa using hz, decide_eq_true h3]; rfl)]
        · rw [if_neg (by simp [h3])]
          have : fS a = false := by
            cases hs : fS a with
            | true => rw [hs, hz] at e; exact absurd e.symm h3
            | false => rfl
          rw [this, hz] at e; rw [← e]; decide
      · have h2 : fz a ≠ 0 := fun h => hz (fz_zero.1 h)
        rw [if_neg h2, if_neg (by unfold fzero; simp [hz]), ← fof_fin c']
        exact fround_of ha c' hz 0
theorem ffma_one {a c : Nat} (ha : a < 18446744073709551616) (hc : c < 18446744073709551616) (mode : Int) : ffma a fOne c mode = fadd a c mode := by
  obtain ⟨o1, o2, o3, o4⟩ := one_kinds
  have ea := fsgn_self ha
  have ec := fsgn_self hc
  unfold ffma fadd
  rw [o1, o2, o3, o4, fof_one, dmul_one (isN_fof a)]
  simp only [Bool.or_false, Bool.and_false, Bool.bne_false]
  by_cases hn : (fnan a || fnan c) = true
  · rw [if_pos hn, if_pos (by rw [hn]; rfl)]
  · have hn' : (fnan a || fnan c) = false := by simpa using hn
    rw [if_neg hn, hn']
    simp only [Bool.false_or]
    simp only [Bool.or_eq_false_iff] at hn'
    rcases f_cases a with k | ⟨_, k, k', k3⟩ | ⟨_, k, k'⟩
    · rw [hn'.1] at k; cases k
    · have hM : fM a = 9218868437227405312 := by unfold finf at k; simpa using k
      rw [hM] at ea
      rw [k]
      simp only [Bool.true_and, if_true]
      cases h2 : finf c with
      | false => simp only [Bool.false_and, Bool.false_eq_true, if_false]; exact ea
      | true =>
        have hM2 : fM c = 9218868437227405312 := by unfold finf at h2; simpa using h2
        rw [hM2] at ec
        have e : (fS c != fS a) = decide (a ≠ c) := by
          by_cases hac : a = c
          · subst hac; simp
          · have : fS c ≠ fS a := fun h => hac (inf_eq ha hc k h2 h.symm)
            rw [decide_eq_true hac]; simpa using this
        rw [e]; simp only [Bool.true_and]
        by_cases hac : a = c
        · simp only [hac, ne_eq, not_true, decide_false, Bool.false_eq_true, if_false]; rw [← hac]; exact ea
        · simp [hac]
    · rw [k]
      simp only [Bool.false_and, Bool.false_eq_true, if_false]
      rcases f_cases c with l | ⟨_, l, l', l3⟩ | ⟨_, l, l'⟩
      · rw [hn'.2] at l; cases l
      · rw [l]; rfl
      · rw [l]
        simp only [Bool.false_eq_true, if_false]
        have v := fadd_val k' l'
        rw [v.1]
        have hd := dman_zero v.2
        by_cases h0 : dman (nrm (fz a + fz c) (-1074)) = 0
        · have hz0 := hd.1 h0
          rw [if_neg (by simp [h0]), if_pos h0]
          by_cases hs : fS c = fS a
          · rw [if_pos hs]
            have q1 := fz_abs a
            have q2 := fz_abs c
            have hza : fz a = 0 := by
              have : fz c = sgn (fS c) (fzN (fM c)) := rfl
              have h5 : fz a = sgn (fS a) (fzN (fM a)) := rfl
              rw [hs] at this; unfold sgn at this h5; split at h5 <;> simp_all <;> omega
            have hzc : fz c = 0 := by omega
            have m1 := fz_zero.1 hza
            have m2 := fz_zero.1 hzc
            have hac : a = c := by rw [← ea, ← ec, m1, m2, hs]
            rw [if_pos (by rw [show fzero a = true by unfold fzero; simpa using m1, decide_eq_true hac]; rfl)]
            rw [m1] at ea; exact ea
          · rw [if_neg hs, if_neg]
            intro h6; simp only [Bool.and_eq_true, decide_eq_true_eq] at h6
            exact hs (by rw [h6.2])
        · rw [if_pos h0, if_neg h0, if_neg]
          intro h6; simp only [Bool.and_eq_true, decide_eq_true_eq] at h6
          obtain ⟨h7, rfl⟩ := h6
          have m1 : fM a = 0 := by unfold fzero at h7; simpa using h7
          have := fz_zero.2 m1
          exact h0 (hd.2 (by omega))

/-! ### FloatMirrors -/
def fopp (mode : Int) : Int := if mode = 1 then 2 else if mode = 2 then 1 else mode
theorem raw_opp (s : Bool) (n : Nat) (c : Int) (ex : Bool) (mode : Int) : raw (!s) n c ex (fopp mode) = raw s n c ex mode := by
  unfold raw fopp
  by_cases h1 : mode = 1
  · subst h1; simp
  · by_cases h2 : mode = 2
    · subst h2; simp
    · simp [h1, h2]
theorem fcode_opp (s : Bool) (X : Nat) (E : Int) (more : Bool) (mode : Int) : fcode (!s) X E more (fopp mode) = fcode s X E more mode := by
  unfold fcode rmag rax; rw [raw_opp]
theorem fsgn_neg {s : Bool} {c : Nat} (h : c ≤ 9218868437227405312) : fneg (fsgn s c) = fsgn (!s) c := by
  have k1 := fM_fsgn (s := s) (c := c) (by omega)
  have k2 := fS_fsgn (s := s) (c := c) (by omega)
  have hn : fnan (fsgn s c) = false := by unfold fnan; rw [k1]; simp; omega
  unfold fneg; rw [if_neg (by rw [hn]; decide), k1, k2]
theorem fover_opp (s : Bool) (mode : Int) : fover (!s) (fopp mode) = fneg (fover s mode) := by
  unfold fover fopp
  by_cases h1 : mode = 1
  · subst h1; cases s <;> decide
  · by_cases h2 : mode = 2
    · subst h2; cases s <;> decide
    · simp only [h1, h2, if_false, false_and, or_false]
      by_cases h3 : mode = 3
      · rw [if_pos h3, if_pos h3]; cases s <;> decide
      · rw [if_neg h3, if_neg h3]; cases s <;> decide
theorem frnd_opp (s : Bool) (X : Nat) (E : Int) (more : Bool) (mode : Int) : frnd (!s) X E more (fopp mode) = fneg (frnd s X E more mode) := by
  unfold frnd
  rw [fcode_opp]
  generalize fcode s X E more mode = c
  unfold fcut
  by_cases h : fInf ≤ c
  · rw [if_pos h, if_pos h]; exact fover_opp s mode
  · rw [if_neg h, if_neg h, fsgn_neg (by unfold fInf at h; omega)]
theorem dec_neg {m : Int} (h : m ≠ 0) : decide (-m < 0) = !decide (m < 0) := by
  by_cases h1 : m < 0
  · simp [h1]; omega
  · simp [h1]; omega
theorem fround_opp {d : Option (Int × Int)} (h : dman d ≠ 0) (mode : Int) : fround (dneg d) (fopp mode) = fneg (fround d mode) := by
  cases d with
  | none => exact absurd rfl h
  | some p =>
    obtain ⟨m, e⟩ := p
    have h0 : m ≠ 0 := h
    show fround (some (-m, e)) _ = _
    unfold fround
    simp only
    rw [if_neg (by omega), if_neg h0, Int.natAbs_neg, dec_neg h0, frnd_opp]
theorem fquo_oppr {d d' : Option (Int × Int)} (h : dman d ≠ 0) (h' : dman d' ≠ 0) (mode : Int) : fquo d (dneg d') (fopp mode) = fneg (fquo d d' mode) := by
  cases d with
  | none => exact absurd rfl h
  | some p =>
  cases d' with
  | none => exact absurd rfl h'
  | some p' =>
    obtain ⟨a, e⟩ := p
    obtain ⟨b, f⟩ := p'
    have h0 : a ≠ 0 := h
    have h1 : b ≠ 0 := h'
    show fquo (some (a, e)) (some (-b, f)) _ = _
    unfold fquo
    simp only
    rw [if_neg (by omega), if_neg h0, if_neg h1, if_neg h0]
    have e1 : qsh a (-b) 56 = qsh a b 56 := by unfold qsh; rw [Int.natAbs_neg]
    rw [e1, Int.natAbs_neg, dec_neg h1]
    have e2 : (decide (a < 0) != !decide (b < 0)) = !(decide (a < 0) != decide (b < 0)) := by cases decide (a < 0) <;> cases decide (b < 0) <;> rfl
    rw [e2, frnd_opp]
theorem fneg_kinds (a : Nat) : fnan (fneg a) = fnan a ∧ (fnan a = false → finf (fneg a) = finf a ∧ fzero (fneg a) = fzero a ∧ ffin (fneg a) = ffin a ∧ fS (fneg a) = !fS a ∧ fM (fneg a) = fM a) := by
  have h2 := fM_lt a
  have k1 := fM_fsgn (s := !fS a) h2
  have k2 := fS_fsgn (s := !fS a) h2
  cases hn : fnan a with
  | true => rw [fneg_nan hn]; exact ⟨by decide, by simp⟩
  | false =>
    have e : fneg a = fsgn (!fS a) (fM a) := by unfold fneg; rw [if_neg (by rw [hn]; decide)]
    rw [e]
    refine ⟨by unfold fnan at hn ⊢; rw [k1]; exact hn, fun _ => ⟨?_, ?_, ?_, k2, k1⟩⟩
    · unfold finf; rw [k1]
    · unfold fzero; rw [k1]
    · unfold ffin; rw [k1]
theorem fof_fneg {a : Nat} (h : ffin a = true) : fof (fneg a) = dneg (fof a) := by
  have k := fz_fneg h
  rw [fof_fin k.1, fof_fin h, k.2, dneg_nrm _ _ (fof_some h)]
theorem dmul_neg {d d' : Option (Int × Int)} (h : dmul d d' ≠ none) : dmul (dneg d) d' = dneg (dmul d d') := by
  cases d with
  | none => rfl
  | some p =>
  cases d' with
  | none => rfl
  | some p' =>
    obtain ⟨a, e⟩ := p
    obtain ⟨b, f⟩ := p'
    show nrm (-a * b) (e + f) = dneg (nrm (a * b) (e + f))
    rw [dneg_nrm _ _ h, Int.neg_mul]
theorem fmul_val {a b : Nat} (ha : ffin a = true) (hb : ffin b = true) : dmul (fof a) (fof b) = nrm (fz a * fz b) (-2148) ∧ nrm (fz a * fz b) (-2148) ≠ none := by
  refine ⟨?_, nrm_valid (by omega) (by have := bl_mul (fz a) (fz b); have := blen_fz ha; have := blen_fz hb; omega)⟩
  rw [fof_fin ha, fof_fin hb]
  exact dmul_nrm _ _ _ _ (fof_some ha) (fof_some hb)
theorem dman_fof {a : Nat} (h : ffin a = true) : dman (fof a) = 0 ↔ fzero a = true := by
  rw [fof_fin h, dman_zero (fof_some h), fz_zero]; unfold fzero; simp
theorem mir_mul (a b : Nat) (mode : Int) : fmul (fneg a) b (fopp mode) = fneg (fmul a b mode) := by
  obtain ⟨n1, n2⟩ := fneg_kinds a
  unfold fmul
  cases hn : fnan a with
  | true => rw [n1, hn]; rfl
  | false =>
    obtain ⟨k1, k2, k3, k4, k5⟩ := n2 hn
    rw [n1, k1, k2, k4, hn]
    by_cases c1 : (false || fnan b || finf a && fzero b || fzero a && finf b) = true
    · rw [if_pos c1, if_pos c1]; rfl
    · rw [if_neg c1, if_neg c1]
      have e2 : ((!fS a) != fS b) = !(fS a != fS b) := by cases fS a <;> cases fS b <;> rfl
      by_cases c2 : (finf a || finf b) = true
      · rw [if_pos c2, if_pos c2, e2, fsgn_neg (by decide)]
      · rw [if_neg c2, if_neg c2]
        by_cases c3 : (fzero a || fzero b) = true
        · rw [if_pos c3, if_pos c3, e2, fsgn_neg (by decide)]
        · rw [if_neg c3, if_neg c3]
          simp only [Bool.not_eq_true, Bool.or_eq_false_iff] at c1 c2 c3
          have fa : ffin a = true := by rcases f_cases a with k | ⟨_, k, _⟩ | ⟨_, _, k⟩ <;> simp_all
          have fb : ffin b = true := by rcases f_cases b with k | ⟨_, k, _⟩ | ⟨_, _, k⟩ <;> simp_all
          have v := fmul_val fa fb
          have hd : dman (dmul (fof a) (fof b)) ≠ 0 := by
            rw [v.1]
            intro h0
            have h1 := (dman_zero v.2).1 h0
            rcases Int.mul_eq_zero.1 h1 with h2 | h2
            · have := fz_zero.1 h2; unfold fzero at c3; simp_all
            · have := fz_zero.1 h2; unfold fzero at c3; simp_all
          rw [fof_fneg fa, dmul_neg (by rw [v.1]; exact v.2), fround_opp hd]
theorem mir_div (a b : Nat) (mode : Int) : fdiv a (fneg b) (fopp mode) = fneg (fdiv a b mode) := by
  obtain ⟨n1, n2⟩ := fneg_kinds b
  unfold fdiv
  cases hn : fnan b with
  | true => rw [n1, hn]; simp only [Bool.or_true, Bool.true_or, if_true]; rfl
  | false =>
    obtain ⟨k1, k2, k3, k4, k5⟩ := n2 hn
    rw [n1, k1, k2, k4, hn]
    by_cases c1 : (fnan a || false || finf a && finf b || fzero a && fzero b) = true
    · rw [if_pos c1, if_pos c1]; rfl
    · rw [if_neg c1, if_neg c1]
      have e2 : (fS a != !fS b) = !(fS a != fS b) := by cases fS a <;> cases fS b <;> rfl
      by_cases c2 : (finf a || fzero b) = true
      · rw [if_pos c2, if_pos c2, e2, fsgn_neg (by decide)]
      · rw [if_neg c2, if_neg c2]
        by_cases c3 : (fzero a || finf b) = true
        · rw [if_pos c3, if_pos c3, e2, fsgn_neg (by decide)]
        · rw [if_neg c3, if_neg c3]
          simp only [Bool.not_eq_true, Bool.or_eq_false_iff] at c1 c2 c3
          have fa : ffin a = true := by rcases f_cases a with k | ⟨_, k, _⟩ | ⟨_, _, k⟩ <;> simp_all
          have fb : ffin b = true := by rcases f_cases b with k | ⟨_, k, _⟩ | ⟨_, _, k⟩ <;> simp_all
          have d1 : dman (fof a) ≠ 0 := fun h => by have := (dman_fof fa).1 h; rw [c3.1] at this; cases this
          have d2 : dman (fof b) ≠ 0 := fun h => by have := (dman_fof fb).1 h; rw [c2.2] at this; cases this
          rw [fof_fneg fb, fquo_oppr d1 d2]
theorem fkind_fsgn0 (s : Bool) : fkind (fsgn s 0) = 0 := by cases s <;> decide
theorem fkind_fneg (f : Nat) : fkind (fneg f) = fkind f := by
  obtain ⟨n1, n2⟩ := fneg_kinds f
  unfold fkind
  cases hn : fnan f with
  | true => rw [n1, hn]; rfl
  | false => obtain ⟨k1, k2, _⟩ := n2 hn; rw [n1, hn, k1, k2]
theorem fneg_lt_inj {a b : Nat} (ha : a < 18446744073709551616) (hb : b < 18446744073709551616) (na : fnan a = false) (nb : fnan b = false) : fneg a = fneg b ↔ a = b := by
  constructor
  · intro h
    have h1 := (fneg_kinds a).2 na
    have h2 := (fneg_kinds b).2 nb
    rw [h] at h1
    rw [← fsgn_self ha, ← fsgn_self hb, ← h1.2.2.2.2, h2.2.2.2.2]
    have : (!fS a) = !fS b := by rw [← h1.2.2.2.1, h2.2.2.2.1]
    have : fS a = fS b := by cases h7 : fS a <;> cases h8 : fS b <;> simp_all
    rw [this]
  · rintro rfl; rfl
theorem mir_add {a b : Nat} (ha : a < 18446744073709551616) (hb : b < 18446744073709551616) (mode : Int) :
    (fkind (fadd (fneg a) (fneg b) (fopp mode)) ≠ 0 → fadd (fneg a) (fneg b) (fopp mode) = fneg (fadd a b mode)) ∧ fkind (fadd (fneg a) (fneg b) (fopp mode)) = fkind (fneg (fadd a b mode)) := by
  obtain ⟨n1, n2⟩ := fneg_kinds a
  obtain ⟨m1, m2⟩ := fneg_kinds b
  have key : fadd (fneg a) (fneg b) (fopp mode) = fneg (fadd a b mode) ∨ (fkind (fadd (fneg a) (fneg b) (fopp mode)) = 0 ∧ fkind (fneg (fadd a b mode)) = 0) := by
    unfold fadd
    by_cases hn : (fnan a || fnan b) = true
    · left
      rw [if_pos (by rw [n1, m1, hn]; rfl), if_pos (by rw [hn]; rfl)]; rfl
    · have hn' : (fnan a || fnan b) = false := by simpa using hn
      have hh := hn'
      simp only [Bool.or_eq_false_iff] at hh
      obtain ⟨k1, k2, k3, k4, k5⟩ := n2 hh.1
      obtain ⟨l1, l2, l3, l4, l5⟩ := m2 hh.2
      have hi := fneg_lt_inj ha hb hh.1 hh.2
      have e1 : decide (fneg a ≠ fneg b) = decide (a ≠ b) := decide_eq_decide.2 (not_congr hi)
      have e2 : decide (fneg a = fneg b) = decide (a = b) := decide_eq_decide.2 hi
      rw [n1, m1, hn', k1, l1, e1, e2, k2]
      by_cases c1 : (false || finf a && finf b && decide (a ≠ b)) = true
      · left; rw [if_pos c1, if_pos c1]; rfl
      · rw [if_neg c1, if_neg c1]
        by_cases c2 : finf a = true
        · left; rw [if_pos c2, if_pos c2]
        · rw [if_neg c2, if_neg c2]
          by_cases c3 : finf b = true
          · left; rw [if_pos c3, if_pos c3]
          · rw [if_neg c3, if_neg c3]
            by_cases c4 : (fzero a && decide (a = b)) = true
            · left; rw [if_pos c4, if_pos c4]
            · rw [if_neg c4, if_neg c4]
              have fa : ffin a = true := by rcases f_cases a with k | ⟨_, k, _⟩ | ⟨_, _, k⟩ <;> simp_all
              have fb : ffin b = true := by rcases f_cases b with k | ⟨_, k, _⟩ | ⟨_, _, k⟩ <;> simp_all
              have v := fadd_val fa fb
              have z1 := fz_fneg fa
              have z2 := fz_fneg fb
              have v' := fadd_val z1.1 z2.1
              have es : fz (fneg a) + fz (fneg b) = -(fz a + fz b) := by rw [z1.2, z2.2]; omega
              have ed : dadd (fof (fneg a)) (fof (fneg b)) = dneg (dadd (fof a) (fof b)) := by rw [v'.1, es, v.1, dneg_nrm _ _ v.2]
              have e0 : dman (dadd (fof (fneg a)) (fof (fneg b))) = 0 ↔ dman (dadd (fof a) (fof b)) = 0 := by
                rw [v'.1, v.1, dman_zero v'.2, dman_zero v.2, es]; omega
              by_cases c5 : dman (dadd (fof a) (fof b)) = 0
              · right; rw [if_pos (e0.2 c5), if_pos c5, fkind_fneg]; unfold fnothing; exact ⟨fkind_fsgn0 _, fkind_fsgn0 _⟩
              · left; rw [if_neg (fun h => c5 (e0.1 h)), if_neg c5, ed, fround_opp c5]
  rcases key with h | ⟨h1, h2⟩
  · rw [h]; exact ⟨fun _ => rfl, rfl⟩
  · exact ⟨fun h3 => absurd h1 h3, by rw [h1, h2]⟩

/-! ### FloatSpecial -/
theorem spec_consts (mode : Int) : fmul fInf fNZ mode = fNaN ∧ fsub fInf fInf mode = fNaN ∧ fdiv 0 fNZ mode = fNaN ∧ fsqrt (fneg fOne) mode = fNaN ∧
    fdiv fOne fNZ mode = fNInf ∧ fdiv fOne fNInf mode = fNZ ∧ fsqrt fNZ mode = fNZ ∧ fadd fNZ fNZ mode = fNZ ∧ ffma fInf fOne fNInf mode = fNaN := by
  refine ⟨?_, ?_, ?_, ?_, ?_, ?_, ?_, ?_, ?_⟩
  · unfold fmul; rw [if_pos (by decide)]
  · unfold fsub fadd; rw [if_pos (by decide)]
  · unfold fdiv; rw [if_pos (by decide)]
  · unfold fsqrt; rw [if_neg (by decide), if_neg (by decide), if_pos (by decide)]
  · unfold fdiv; rw [if_neg (by decide), if_pos (by decide)]; decide
  · unfold fdiv; rw [if_neg (by decide), if_neg (by decide), if_pos (by decide)]; decide
  · unfold fsqrt; rw [if_neg (by decide), if_pos (by decide)]
  · unfold fadd; rw [if_neg (by decide), if_neg (by decide), if_neg (by decide), if_pos (by decide)]
  · unfold ffma; rw [if_neg (by decide), if_pos (by decide)]
theorem spec_nan {n : Nat} (h : fnan n = true) (mode : Int) : fadd n fOne mode = fNaN := by unfold fadd; rw [h]; rfl
theorem spec_empty (mode : Int) : fsub fOne fOne mode = fnothing mode ∧ fadd 0 fNZ mode = fnothing mode ∧ ffma fOne fOne (fneg fOne) mode = fnothing mode := by
  have h1 : fz fOne + fz (fneg fOne) = 0 := by rw [(fz_fneg fin_one).2]; omega
  have h2 : fsub fOne fOne mode = fnothing mode := by
    unfold fsub
    rw [fadd_fin fin_one (fz_fneg fin_one).1, if_neg (by decide), if_pos h1]
  refine ⟨h2, ?_, ?_⟩
  · rw [fadd_fin (by decide) (by decide), if_neg (by decide), if_pos]
    rw [fz_zero.2 (by decide), fz_zero.2 (by decide)]; rfl
  · rw [ffma_one (by decide) (fneg_lt _)]; exact h2

/-! ### what awake computes -/
theorem fz_fsgn0 {c : Nat} (h : c < 9223372036854775808) : fz c = (fzN c : Int) := by
  unfold fz
  have h1 : fS c = false := by unfold fS; simp; omega
  have h2 : fM c = c := by unfold fM; omega
  rw [h1, h2]; rfl
theorem fz_two : fz fTwo = 2 ^ 1075 := by
  have h := fzN_code 1023 4503599627370496 (by omega) (by omega)
  have e : 1023 * 4503599627370496 + 4503599627370496 = fTwo := by decide
  rw [e] at h
  rw [fz_fsgn0 (by decide), h]
  rw [p52 1023 1075 (by decide)]; exact pow2_nat 1075
theorem awake_add : fadd fOne fOne 0 = fTwo := by
  rw [fadd_fin fin_one fin_one, if_neg (by decide)]
  have h1 : fz fOne + fz fOne = fz fTwo := by rw [fz_one, fz_two, Int.pow_succ]; omega
  rw [h1, if_neg (fun h => absurd (fz_zero.1 h) (by decide)), ← fof_fin (by decide)]
  exact fround_of (by decide) (by decide) (by decide) 0
theorem awake_one : fround (some (1, 0)) 1 = fOne := by
  rw [← fof_one]; exact fround_of (by decide) (by decide) (by decide) 1
theorem p2mul (a b c d : Nat) (h : a + b = c + d) : 2 * (2 ^ a * 2 ^ b) = 2 * 2 ^ c * 2 ^ d := by rw [Nat.mul_assoc, ← Nat.pow_add, ← Nat.pow_add, h]
theorem awake_div : fdiv fOne fTwo 2 = fHalf := by
  unfold fdiv
  rw [if_neg (by decide), if_neg (by decide), if_neg (by decide), fof_fin fin_one, fof_fin (by decide)]
  have h0 : fz fOne ≠ 0 := fun h => absurd (fz_zero.1 h) (by decide)
  have h0' : fz fTwo ≠ 0 := fun h => absurd (fz_zero.1 h) (by decide)
  obtain ⟨d, k1, k2⟩ := fquo_grid (fz fOne) (fz fTwo) 2 h0 h0' (fof_some fin_one) (fof_some (by decide))
  have hA : (fz fOne).natAbs = 2 ^ 1074 := by rw [fz_one, ← pow2_nat]; rfl
  have hB : (fz fTwo).natAbs = 2 ^ 1075 := by rw [fz_two, ← pow2_nat]; rfl
  have hs : (decide (fz fOne < 0) != decide (fz fTwo < 0)) = false := by
    have p1 : (0 : Int) < 2 ^ 1074 := Int.pow_pos (by decide)
    have p2 : (0 : Int) < 2 ^ 1075 := Int.pow_pos (by decide)
    have e1 : decide (fz fOne < 0) = false := by rw [fz_one]; simp only [decide_eq_false_iff_not]; omega
    have e2 : decide (fz fTwo < 0) = false := by rw [fz_two]; simp only [decide_eq_false_iff_not]; omega
    rw [e1, e2]; rfl
  have hv : fzN fHalf = 2 ^ 1073 := by
    have h := fzN_code 1021 4503599627370496 (by omega) (by omega)
    have e : 1021 * 4503599627370496 + 4503599627370496 = fHalf := by decide
    rw [e] at h
    rw [h]; exact p52 1021 1073 (by decide)
  rw [hs, hA, hB] at k2
  rw [hA, hB] at k1
  have e4 : 2 * (2 ^ 1074 * 2 ^ 1074) = 2 * 2 ^ 1073 * 2 ^ 1075 := by
    exact p2mul 1074 1074 1073 1075 (by decide)
  have hz2 : cxQ (2 ^ 1074 * 2 ^ 1074) (2 ^ 1075) (2 * fzN fHalf) = 0 := by
    unfold cxQ; rw [hv]; exact cmpI_eq0.2 (congrArg _ e4)
  have hlt2 := fzN_lt_succ fHalf
  have h3 : cxQ (2 ^ 1074 * 2 ^ 1074) (2 ^ 1075) (2 * fzN (fHalf + 1)) = -1 := by
    unfold cxQ; refine cmpI_m1.2 ?_
    rw [hv] at hlt2
    rw [e4]
    have hp := two_pow_pos 1075
    generalize 2 ^ 1075 = D at hp ⊢
    generalize 2 ^ 1073 = Q at hlt2 ⊢
    generalize fzN (fHalf + 1) = R at hlt2 ⊢
    have : 2 * Q * D < 2 * R * D := Nat.mul_lt_mul_of_pos_right (by omega) hp
    omega
  have hdc : d = fHalf := IsLo.uniq (cxQ_cx _ (two_pow_pos 1075)) k1 ⟨by omega, h3⟩
  subst hdc
  have hw : awx false fHalf (cxQ (2 ^ 1074 * 2 ^ 1074) (2 ^ 1075)) 2 = false := by unfold awx; rw [if_pos hz2]
  rw [hw] at k2
  rw [k2]
  exact fcut_small (by decide)
theorem cxQ_zero (D : Nat) : cxQ 1 D (2 * fzN 0) = 1 := by unfold cxQ; rw [fzN_zero, Nat.mul_zero, Nat.zero_mul]; decide
theorem one_lt_pow (k : Nat) (h : k ≠ 0) : 1 < 2 ^ k := Nat.one_lt_two_pow h
theorem awake_mul : fmul 1 1 2 = 1 := by
  unfold fmul
  rw [if_neg (by decide), if_neg (by decide), if_neg (by decide)]
  have f1 : ffin 1 = true := by decide
  have v := fmul_val f1 f1
  have e1 : fz 1 = 1 := by decide
  rw [e1] at v
  rw [v.1]
  have v2 := v.2
  have eg : (-2148 : Int) = -1074 - ((1074 : Nat) : Int) := by decide
  rw [eg] at v2 ⊢
  obtain ⟨c, k1, k2⟩ := fround_grid (1 * 1) 1074 2 (by decide) v2
  rw [k2]
  have hA : ((1 : Int) * 1).natAbs = 1 := by decide
  rw [hA] at k1 ⊢
  have hp : 1 < 2 ^ 1074 := one_lt_pow 1074 (by decide)
  have z1 : fzN 1 = 1 := rfl
  have h0 : cxQ 1 (2 ^ 1074) (2 * fzN 0) = 1 := cxQ_zero _
  have h1 : cxQ 1 (2 ^ 1074) (2 * fzN (0 + 1)) = -1 := by
    unfold cxQ; refine cmpI_m1.2 ?_
    rw [Nat.zero_add, z1]
    generalize 2 ^ 1074 = D at hp ⊢; omega
  have hdc : c = 0 := IsLo.uniq (cxQ_cx _ (two_pow_pos 1074)) k1 ⟨by omega, h1⟩
  subst hdc
  have hw : awx (decide ((1 : Int) * 1 < 0)) 0 (cxQ 1 (2 ^ 1074)) 2 = true := by unfold awx; rw [h0]; decide
  rw [hw]; decide

end Go.Proofs.YtkpglfloddkclaaGreatDoor

namespace Go.Proofs.YtkpglfloddkclaaGreatDoor
open Go.RowKit Sp

/-! ### FloatSterbenz -/
theorem sterb_codes {x y : Nat} (hxy : y ≤ x) (h : fzN x ≤ 2 * fzN y) : ∃ c, fzN c = fzN x - fzN y := by
  obtain ⟨k, n, hy, hn, hk⟩ := code_split y
  obtain ⟨k', n', hx, hn', hk'⟩ := code_split x
  have hkk : k ≤ k' := by omega
  obtain ⟨d, rfl⟩ : ∃ d, k' = k + d := ⟨k' - k, by omega⟩
  have e1 : fzN y = n * 2 ^ k := by rw [hy]; exact fzN_code k n (by omega) hk
  have e2 : fzN x = n' * 2 ^ d * 2 ^ k := by rw [hx, fzN_code (k + d) n' (by omega) hk', Nat.pow_add]; ac_rfl
  have hp := two_pow_pos k
  rw [e1, e2] at h ⊢
  generalize n' * 2 ^ d = m at *
  have hm : m ≤ 2 * n := by
    refine Nat.le_of_mul_le_mul_right (c := 2 ^ k) ?_ hp
    rw [Nat.mul_assoc]; exact h
  obtain ⟨c, hc⟩ := fzN_repr k (m - n) (by omega)
  exact ⟨c, by rw [hc, Nat.sub_mul]⟩
theorem dscale_one {z E : Int} (h : nrm z E ≠ none) : dscale (nrm z E) 1 = nrm (z * 2) E := by
  cases hd : nrm z E with
  | none => exact absurd hd h
  | some p =>
    obtain ⟨m, e⟩ := p
    show nrm m (e + max (min 1 262144) (-262144)) = _
    rw [show max (min (1 : Int) 262144) (-262144) = 1 by decide]
    by_cases h0 : z = 0
    · subst h0; rw [nrm_zero] at hd; injection hd with hd; injection hd with h1 h2; subst h1; rw [Int.zero_mul, nrm_zero, nrm_zero]
    · obtain ⟨t, ht, he, _⟩ := nrm_some h0 hd
      have : z * 2 = m * 2 ^ (t + 1) := by rw [ht, Int.pow_succ, Int.mul_assoc]
      rw [this, nrm_scale, he]
      congr 1; omega
theorem dbad_none {d : Option (Int × Int)} : dbad d = false ↔ d ≠ none := by cases d <;> simp [dbad]
theorem fabs_fin {a : Nat} (h : dbad (fof (fabs a)) = false) : ffin (fabs a) = true ∧ fM (fabs a) = fabs a ∧ fS (fabs a) = false ∧ fz (fabs a) = (fzN (fabs a) : Int) ∧ fabs a < 9218868437227405312 := by
  have h1 : ffin (fabs a) = true := by
    cases hf : ffin (fabs a) with
    | true => rfl
    | false => rw [fof_not hf] at h; cases h
  have h2 : fabs a < 9223372036854775808 := by unfold fabs; split; decide; exact fM_lt a
  have e1 : fM (fabs a) = fabs a := by unfold fM; omega
  have e2 : fS (fabs a) = false := by unfold fS; simp; omega
  have h3 : fM (fabs a) < 9218868437227405312 := by unfold ffin at h1; simpa using h1
  exact ⟨h1, e1, e2, fz_fsgn0 h2, by omega⟩
theorem sterb_law (a b : Nat) (mode : Int)
    (h1 : dbad (fof (fabs a)) = false) (h2 : dbad (fof (fabs b)) = false) (h3 : ¬ dcmp (dscale (fof (fabs a)) 1) (fof (fabs b)) < 0) (h4 : ¬ 0 < dcmp (fof (fabs a)) (dscale (fof (fabs b)) 1)) :
    dbad (fof (fsub (fabs a) (fabs b) mode)) = false ∧ dbad (dadd (fof (fabs a)) (dneg (fof (fabs b)))) = false ∧ dcmp (fof (fsub (fabs a) (fabs b) mode)) (dadd (fof (fabs a)) (dneg (fof (fabs b)))) = 0 := by
  obtain ⟨f1, m1, s1, z1, l1⟩ := fabs_fin h1
  obtain ⟨f2, m2, s2, z2, l2⟩ := fabs_fin h2
  generalize fabs a = A at *
  generalize fabs b = B at *
  have v1 := fof_some f1
  have v2 := fof_some f2
  have w1 : nrm (fz A * 2) (-1074) ≠ none := nrm_valid (by omega) (by have := bl_mul (fz A) 2; have := blen_fz f1; have : blen (2 : Int).natAbs = 2 := by decide
                                                                      omega)
  have w2 : nrm (fz B * 2) (-1074) ≠ none := nrm_valid (by omega) (by have := bl_mul (fz B) 2; have := blen_fz f2; have : blen (2 : Int).natAbs = 2 := by decide
                                                                      omega)
  rw [fof_fin f1, fof_fin f2, dscale_one v1, dcmp_nrm _ _ _ w1 v2, z1, z2] at h3
  rw [fof_fin f1, fof_fin f2, dscale_one v2, dcmp_nrm _ _ _ v1 w2, z1, z2] at h4
  rw [cmpI_neg_iff] at h3
  rw [cmpI_pos_iff] at h4
  have n2 := fz_fneg f2
  have vs := fadd_val f1 n2.1
  rw [← fof_fneg f2, vs.1]
  have hz : fz A + fz (fneg B) = (fzN A : Int) - fzN B := by rw [n2.2, z1, z2]; omega
  have hc : ∃ c, fzN c = (fz A + fz (fneg B)).natAbs ∧ c < 9218868437227405312 := by
    rw [hz]
    rcases Nat.le_total B A with h | h
    · obtain ⟨c, hc⟩ := sterb_codes h (by omega)
      refine ⟨c, by have := fzN_le_iff.2 h; omega, ?_⟩
      have : c ≤ A := fzN_le_iff.1 (by omega)
      omega
    · obtain ⟨c, hc⟩ := sterb_codes h (by omega)
      refine ⟨c, by have := fzN_le_iff.2 h; omega, ?_⟩
      have : c ≤ B := fzN_le_iff.1 (by omega)
      omega
  have hS : ∃ S, fsub A B mode = S ∧ ffin S = true ∧ fz S = fz A + fz (fneg B) := by
    refine ⟨_, rfl, ?_⟩
    unfold fsub
    rw [fadd_fin f1 n2.1]
    by_cases k1 : (fzero A && decide (A = fneg B)) = true
    · rw [if_pos k1]
      simp only [Bool.and_eq_true, decide_eq_true_eq] at k1
      have hA : fM A = 0 := by have := k1.1; unfold fzero at this; simpa using this
      have e0 := fz_zero.2 hA
      refine ⟨f1, ?_⟩
      rw [← k1.2, e0]; rfl
    · rw [if_neg k1]
      by_cases k2 : fz A + fz (fneg B) = 0
      · rw [if_pos k2, k2]; unfold fnothing
        cases decide (mode = 1)
        · exact ⟨by decide, by decide⟩
        · exact ⟨by decide, by decide⟩
      · rw [if_neg k2]
        obtain ⟨c, hc1, hc2⟩ := hc
        rw [fround_exact k2 hc1.symm hc2]
        have h5 := fof_fsgn (s := decide (fz A + fz (fneg B) < 0)) hc2
        refine ⟨h5.1, ?_⟩
        rw [h5.2, hc1, sgn_self]
  obtain ⟨S, e1, e2, e3⟩ := hS
  rw [e1]
  have e4 : fof S = nrm (fz A + fz (fneg B)) (-1074) := by rw [fof_fin e2, e3]
  rw [e4]
  exact ⟨dbad_none.2 vs.2, dbad_none.2 vs.2, by rw [dcmp_nrm _ _ _ vs.2 vs.2]; exact cmpI_eq0.2 rfl⟩

/-! ### FloatHalves -/
theorem pmul (a b c : Nat) (h : a + b = c) : 2 ^ a * 2 ^ b = 2 ^ c := by subst h; rw [Nat.pow_add]
theorem dcmp_prod {a x y : Nat} (ha : ffin a = true) (hx : ffin x = true) (hy : ffin y = true) :
    dbad (dmul (fof x) (fof y)) = false ∧ dbad (fof a) = false ∧ dcmp (dmul (fof x) (fof y)) (fof a) = cmpI (fz x * fz y) (fz a * 2 ^ 1074) ∧ dcmp (fof a) (dmul (fof x) (fof y)) = cmpI (fz a * 2 ^ 1074) (fz x * fz y) := by
  have v := fmul_val hx hy
  have e1 : fof a = nrm (fz a * 2 ^ 1074) (-2148) := by rw [nrm_scale, fof_fin ha]; rfl
  have v1 : nrm (fz a * 2 ^ 1074) (-2148) ≠ none := by rw [← e1, fof_fin ha]; exact fof_some ha
  rw [v.1, e1]
  exact ⟨dbad_none.2 v.2, dbad_none.2 v1, dcmp_nrm _ _ _ v.2 v1, dcmp_nrm _ _ _ v1 v.2⟩
theorem fin_code {c : Nat} (h : c < 9218868437227405312) : ffin c = true ∧ fz c = (fzN c : Int) := by
  refine ⟨?_, fz_fsgn0 (by omega)⟩
  unfold ffin fM; simp; omega
theorem awx_dir (c : Nat) (cx : Nat → Int) : awx false c cx 1 = false ∧ awx false c cx 2 = if cx (2 * fzN c) = 0 then false else true := by
  unfold awx
  refine ⟨?_, ?_⟩
  · split <;> rfl
  · split <;> rfl
theorem ofNat_le {x y : Nat} (h : x ≤ y) : cmpI (x : Int) (y : Int) ≤ 0 := cmpI_le.2 (by omega)
theorem half_div {a b : Nat} (la : a < 9218868437227405312) (lb : b < 9218868437227405312) (ha : a ≠ 0) (hb : b ≠ 0) :
    (ffin (fdiv a b 1) = true ∧ dcmp (dmul (fof (fdiv a b 1)) (fof b)) (fof a) ≤ 0) ∧ (ffin (fdiv a b 2) = true → dcmp (fof a) (dmul (fof (fdiv a b 2)) (fof b)) ≤ 0) := by
  obtain ⟨fa, za⟩ := fin_code la
  obtain ⟨fb, zb⟩ := fin_code lb
  have ma : fM a = a := by unfold fM; omega
  have mb : fM b = b := by unfold fM; omega
  have hd : ∀ mode, fdiv a b mode = fquo (nrm (fz a) (-1074)) (nrm (fz b) (-1074)) mode := by
    intro mode
    have k1 := fin_not fa
    have k2 := fin_not fb
    have k3 : fzero a = false := by unfold fzero; rw [ma]; simpa using ha
    have k4 : fzero b = false := by unfold fzero; rw [mb]; simpa using hb
    unfold fdiv
    rw [k1.1, k1.2, k2.1, k2.2, k3, k4, fof_fin fa, fof_fin fb]; rfl
  have pa := fzN_lt (show 0 < a by omega)
  have pb := fzN_lt (show 0 < b by omega)
  rw [fzN_zero] at pa pb
  have h0 : fz a ≠ 0 := by omega
  have h0' : fz b ≠ 0 := by omega
  have hs : (decide (fz a < 0) != decide (fz b < 0)) = false := by
    have e1 : decide (fz a < 0) = false := by simp; omega
    have e2 : decide (fz b < 0) = false := by simp; omega
    rw [e1, e2]; rfl
  obtain ⟨c, k1, k2⟩ := fquo_grid (fz a) (fz b) 1 h0 h0' (fof_some fa) (fof_some fb)
  obtain ⟨c', k1', k2'⟩ := fquo_grid (fz a) (fz b) 2 h0 h0' (fof_some fa) (fof_some fb)
  have ea : (fz a).natAbs = fzN a := by omega
  have eb : (fz b).natAbs = fzN b := by omega
  rw [← hd, hs] at k2 k2'
  rw [ea, eb] at k1 k2 k1' k2'
  obtain rfl := IsLo.uniq (cxQ_cx _ pb) k1 k1'
  have P1 := fun x (hx : ffin x = true) => (dcmp_prod fa hx fb).2.2
  have hI := pow2_nat 1074
  generalize (2 : Int) ^ 1074 = DI at P1 hI
  generalize (2 : Nat) ^ 1074 = D at k1 k2 k2' hI
  subst hI
  clear k1'
  rw [(awx_dir c _).1] at k2
  rw [(awx_dir c _).2] at k2'
  have q1 := cmpI_ge.1 k1.1
  have q2 := cmpI_m1.1 k1.2
  have hz : cxQ (fzN a * D) (fzN b) (2 * fzN c) = 0 ↔ fzN c * fzN b = fzN a * D := by unfold cxQ; rw [cmpI_eq0, Nat.mul_assoc]; omega
  have q3 : fzN c * fzN b ≤ fzN a * D := by rw [Nat.mul_assoc] at q1; omega
  have q4 : fzN a * D < fzN (c + 1) * fzN b := by rw [Nat.mul_assoc] at q2; omega
  refine ⟨?_, ?_⟩
  · have e : fdiv a b 1 = min c 9218868437227405311 := by rw [k2]; exact (fcut_dir c).1
    rw [e]
    obtain ⟨fl, zl⟩ := fin_code (c := min c 9218868437227405311) (by omega)
    refine ⟨fl, ?_⟩
    rw [(P1 _ fl).1, zl, zb, za, ← Int.natCast_mul, ← Int.natCast_mul]
    refine ofNat_le (Nat.le_trans (Nat.mul_le_mul_right _ (fzN_le_iff.2 (Nat.min_le_left _ _))) q3)
  · intro hf
    have e := k2'
    rw [(fcut_dir _).2.1] at e
    rw [e] at hf ⊢
    have hlt : c + (if (if cxQ (fzN a * D) (fzN b) (2 * fzN c) = 0 then false else true) = true then 1 else 0) < 9218868437227405312 := by
      unfold ffin fM at hf; simp only [decide_eq_true_eq] at hf; omega
    rw [Nat.min_eq_left (Nat.le_of_lt hlt)]
    obtain ⟨fl, zl⟩ := fin_code hlt
    rw [(P1 _ fl).2, zl, zb, za, ← Int.natCast_mul, ← Int.natCast_mul]
    refine ofNat_le ?_
    by_cases hh : cxQ (fzN a * D) (fzN b) (2 * fzN c) = 0
    · simp only [hh, if_true, Bool.false_eq_true, if_false, Nat.add_zero]
      exact Nat.le_of_eq (hz.1 hh).symm
    · simp only [hh, if_false, if_true]
      exact Nat.le_of_lt q4
theorem root_code {a c : Nat} (la : a < 9218868437227405312) (k1 : IsLo (cxR (fzN a)) c) : c < 6913025428013711360 := by
  rcases Nat.lt_or_ge c 6913025428013711360 with h | h
  · exact h
  · exfalso
    have q1 := cmpI_ge.1 k1.1
    have h1 := fzN_le_iff.2 h
    have h2 := fzN_code 1534 4503599627370496 (by omega) (by omega)
    have e : 1534 * 4503599627370496 + 4503599627370496 = 6913025428013711360 := by decide
    rw [e, p52 1534 1586 (by decide)] at h2
    have h3 : fzN a < 2 ^ 2098 := by have := fzN_lt la; rw [fzN_top, p53 2045 2098 (by decide)] at this; exact this
    have h4 := Nat.mul_le_mul h1 h1
    rw [h2, pmul 1586 1586 3172 (by decide)] at h4
    have h5 := Nat.mul_lt_mul_of_pos_right h3 (two_pow_pos 1074)
    rw [pmul 2098 1074 3172 (by decide)] at h5
    generalize (2 : Nat) ^ 3172 = Z at h4 h5
    generalize (2 : Nat) ^ 1074 = D at q1 h5
    have sq : 2 * fzN c * (2 * fzN c) = 4 * (fzN c * fzN c) := by rw [Nat.mul_mul_mul_comm]
    rw [sq, Nat.mul_assoc] at q1
    omega
theorem half_root {a : Nat} (la : a < 9218868437227405312) (ha : a ≠ 0) :
    (ffin (fsqrt a 1) = true ∧ dcmp (dmul (fof (fsqrt a 1)) (fof (fsqrt a 1))) (fof a) ≤ 0) ∧ (ffin (fsqrt a 2) = true ∧ dcmp (fof a) (dmul (fof (fsqrt a 2)) (fof (fsqrt a 2))) ≤ 0) := by
  obtain ⟨fa, za⟩ := fin_code la
  have ma : fM a = a := by unfold fM; omega
  have hd : ∀ mode, fsqrt a mode = froot (nrm (fz a) (-1074)) mode := by
    intro mode
    have k1 := fin_not fa
    have k3 : fzero a = false := by unfold fzero; rw [ma]; simpa using ha
    have k4 : fS a = false := by unfold fS; simp; omega
    have k5 : decide (a = fInf) = false := by unfold fInf; simp; omega
    unfold fsqrt
    rw [k1.1, k3, k4, k5, fof_fin fa]; rfl
  have pa := fzN_lt (show 0 < a by omega)
  rw [fzN_zero] at pa
  have h0 : 0 < fz a := by omega
  obtain ⟨c, k1, k2⟩ := froot_grid (fz a) 1 h0 (fof_some fa)
  obtain ⟨c', k1', k2'⟩ := froot_grid (fz a) 2 h0 (fof_some fa)
  have ea : (fz a).natAbs = fzN a := by omega
  rw [← hd] at k2 k2'
  rw [ea] at k1 k2 k1' k2'
  obtain rfl := IsLo.uniq (cxR_cx _) k1 k1'
  have hcb := root_code la k1
  have P1 := fun x (hx : ffin x = true) => (dcmp_prod fa hx hx).2.2
  have hI := pow2_nat 1074
  have hX : ∀ j, cxR (fzN a) j = cmpI ((4 * fzN a * 2 ^ 1074 : Nat) : Int) ((j * j : Nat) : Int) := fun _ => rfl
  generalize (2 : Int) ^ 1074 = DI at P1 hI
  generalize (2 : Nat) ^ 1074 = D at hX hI
  subst hI
  have q1 := k1.1
  have q2 := k1.2
  rw [hX] at q1 q2
  have q1 := cmpI_ge.1 q1
  have q2 := cmpI_m1.1 q2
  clear k1'
  rw [(awx_dir c _).1] at k2
  rw [(awx_dir c _).2] at k2'
  have sq : ∀ x : Nat, 2 * x * (2 * x) = 4 * (x * x) := by intro x; rw [Nat.mul_mul_mul_comm]
  have hz : cxR (fzN a) (2 * fzN c) = 0 ↔ fzN c * fzN c = fzN a * D := by rw [hX, cmpI_eq0, sq, Nat.mul_assoc]; omega
  have q3 : fzN c * fzN c ≤ fzN a * D := by rw [sq, Nat.mul_assoc] at q1; omega
  have q4 : fzN a * D < fzN (c + 1) * fzN (c + 1) := by rw [sq, Nat.mul_assoc] at q2; omega
  refine ⟨?_, ?_⟩
  · have e : fsqrt a 1 = min c 9218868437227405311 := by rw [k2]; exact (fcut_dir c).1
    rw [e]
    obtain ⟨fl, zl⟩ := fin_code (c := min c 9218868437227405311) (by omega)
    refine ⟨fl, ?_⟩
    rw [(P1 _ fl).1, zl, za, ← Int.natCast_mul, ← Int.natCast_mul]
    have := fzN_le_iff.2 (Nat.min_le_left c 9218868437227405311)
    exact ofNat_le (Nat.le_trans (Nat.mul_le_mul this this) q3)
  · have e := k2'
    rw [(fcut_dir _).2.1] at e
    have hlt : c + (if (if cxR (fzN a) (2 * fzN c) = 0 then false else true) = true then 1 else 0) < 9218868437227405312 := Nat.lt_of_le_of_lt (Nat.add_le_add_left (show _ ≤ 1 by split <;> decide) c) (by omega)
    rw [e, Nat.min_eq_left (Nat.le_of_lt hlt)]
    obtain ⟨fl, zl⟩ := fin_code hlt
    refine ⟨fl, ?_⟩
    rw [(P1 _ fl).2, zl, za, ← Int.natCast_mul, ← Int.natCast_mul]
    refine ofNat_le ?_
    by_cases hh : cxR (fzN a) (2 * fzN c) = 0
    · simp only [hh, if_true, Bool.false_eq_true, if_false, Nat.add_zero]
      exact Nat.le_of_eq (hz.1 hh).symm
    · simp only [hh, if_false, if_true]
      exact Nat.le_of_lt q4

end Go.Proofs.YtkpglfloddkclaaGreatDoor

namespace Go.Proofs.YtkpglfloddkclaaGreatDoor
open Go.RowKit Sp

theorem and_m11 (n : Int) : Go.bits .and .u64 n 2047 = n % 2048 := by
  have h1 : (BitVec.ofInt 64 2047).toNat = 2047 := by decide
  have h2 : (BitVec.ofInt 64 n).toNat = (n % 18446744073709551616).toNat := by simp [BitVec.toNat_ofInt]
  have h3 : (n % 18446744073709551616).toNat &&& 2047 = (n % 18446744073709551616).toNat % 2048 := Nat.and_two_pow_sub_one_eq_mod _ 11
  show IntKind.u64.wrap ((BitVec.ofInt 64 n &&& BitVec.ofInt 64 2047).toNat : Int) = _
  rw [BitVec.toNat_and, h1, h2, h3, IntKind.wrap_u64]
  omega
theorem and_m52 (n : Int) : Go.bits .and .u64 n 4503599627370495 = n % 4503599627370496 := by
  have h1 : (BitVec.ofInt 64 4503599627370495).toNat = 4503599627370495 := by decide
  have h2 : (BitVec.ofInt 64 n).toNat = (n % 18446744073709551616).toNat := by simp [BitVec.toNat_ofInt]
  have h3 : (n % 18446744073709551616).toNat &&& 4503599627370495 = (n % 18446744073709551616).toNat % 4503599627370496 := Nat.and_two_pow_sub_one_eq_mod _ 52
  show IntKind.u64.wrap ((BitVec.ofInt 64 n &&& BitVec.ofInt 64 4503599627370495).toNat : Int) = _
  rw [BitVec.toNat_and, h1, h2, h3, IntKind.wrap_u64]
  omega
theorem bits_E (f : Nat) : Go.bits .and .u64 ((f : Int) / 4503599627370496) 2047 = ((fE f : Nat) : Int) := by rw [and_m11]; unfold fE; omega
theorem bits_R (f : Nat) : Go.bits .and .u64 (f : Int) 4503599627370495 = ((fR f : Nat) : Int) := by rw [and_m52]; unfold fR; omega
theorem nat_hi (f : Nat) (h : f < 18446744073709551616) : f &&& 9223372036854775808 = if fS f then 9223372036854775808 else 0 := by
  have e : (9223372036854775808 : Nat) = 2 ^ 63 := by decide
  by_cases hs : 9223372036854775808 ≤ f
  · have hS : fS f = true := by unfold fS; simpa using hs
    rw [hS, if_pos rfl, e]
    obtain ⟨g, rfl⟩ : ∃ g, f = 2 ^ 63 + g := ⟨f - 2 ^ 63, by omega⟩
    apply Nat.eq_of_testBit_eq
    intro i
    rw [Nat.testBit_and, Nat.testBit_two_pow]
    by_cases hi : 63 = i
    · subst hi; rw [Nat.testBit_two_pow_add_eq, Nat.testBit_lt_two_pow (show g < 2 ^ 63 by omega)]; rfl
    · simp [hi]
  · have hS : fS f = false := by unfold fS; simpa using hs
    rw [hS, if_neg (by decide), e]
    apply Nat.eq_of_testBit_eq
    intro i
    rw [Nat.testBit_and, Nat.testBit_two_pow, Nat.zero_testBit]
    by_cases hi : 63 = i
    · subst hi; rw [Nat.testBit_lt_two_pow (show f < 2 ^ 63 by omega)]; rfl
    · simp [hi]
theorem bits_sign {f : Nat} (h : f < 18446744073709551616) : Go.bits .and .u64 (f : Int) 9223372036854775808 = if fS f then 9223372036854775808 else 0 := by
  have := u64_and_nat f 9223372036854775808 h (by decide)
  rw [nat_hi f h] at this
  cases hs : fS f <;> (rw [hs] at this; exact this)
theorem nat_join63 {c : Nat} (h : c < 9223372036854775808) : c ^^^ 9223372036854775808 = c + 9223372036854775808 := by
  have e : (9223372036854775808 : Nat) = 2 ^ 63 := by decide
  rw [e, Nat.add_comm c]
  apply Nat.eq_of_testBit_eq
  intro i
  rw [Nat.testBit_xor, Nat.testBit_two_pow]
  rcases Nat.lt_trichotomy i 63 with hi | hi | hi
  · rw [Nat.testBit_two_pow_add_gt hi, decide_eq_false (by omega), Bool.xor_false]
  · subst hi; rw [Nat.testBit_two_pow_add_eq, decide_eq_true rfl, Bool.xor_true]
  · have h1 : 2 ^ 64 ≤ 2 ^ i := Nat.pow_le_pow_right (by decide) hi
    rw [Nat.testBit_lt_two_pow (show c < 2 ^ i by omega), Nat.testBit_lt_two_pow (show 2 ^ 63 + c < 2 ^ i by omega), decide_eq_false (by omega)]; rfl
theorem bits_or_sign {c : Nat} (h : c < 9223372036854775808) : Go.bits .or .u64 (c : Int) 9223372036854775808 = ((fsgn true c : Nat) : Int) := by
  have h1 := u64_or_nat c 9223372036854775808 (by omega) (by decide)
  have h2 : c ||| 9223372036854775808 = c + 9223372036854775808 := by
    have := or_add (p := 63) (z := c) (u := 9223372036854775808) h ⟨1, rfl⟩
    exact this
  rw [h2] at h1
  exact h1
theorem bits_xor_sign {f : Nat} (h : f < 18446744073709551616) : Go.bits .xor .u64 (f : Int) 9223372036854775808 = ((fsgn (!fS f) (fM f) : Nat) : Int) := by
  have h1 := u64_xor_nat f 9223372036854775808 h (by decide)
  refine Eq.trans h1 (congrArg _ ?_)
  have e := fsgn_self h
  have hM := fM_lt f
  generalize fM f = g at *
  cases hs : fS f with
  | false => rw [hs] at e; have e : g = f := e; rw [← e, nat_join63 hM]; rfl
  | true =>
    rw [hs] at e
    have e : g + 9223372036854775808 = f := e
    rw [← e, ← nat_join63 hM, Nat.xor_assoc, Nat.xor_self, Nat.xor_zero]; rfl
theorem bits_abs {f : Nat} (h : f < 18446744073709551616) : Go.bits .andNot .u64 (f : Int) 9223372036854775808 = ((fM f : Nat) : Int) := by
  have h1 := u64_andNot_nat f 9223372036854775808 h (by decide)
  refine Eq.trans h1 (congrArg _ ?_)
  exact Nat.and_two_pow_sub_one_eq_mod f 63
theorem bits_code {E m : Nat} (hE : E < 2048) (hm : m < 4503599627370496) : Go.bits .or .u64 ((E : Int) * 4503599627370496) (m : Int) = ((E * 4503599627370496 + m : Nat) : Int) := by
  have e : (E : Int) * 4503599627370496 = ((4503599627370496 * E : Nat) : Int) := by omega
  rw [e, u64_or_nat _ _ (by omega) (by omega), Nat.or_comm, or_add (p := 52) hm ⟨E, rfl⟩]
  congr 1; omega
theorem bits_hidden {m : Nat} (hm : m < 4503599627370496) : Go.bits .or .u64 (m : Int) 4503599627370496 = ((m + 4503599627370496 : Nat) : Int) := by
  have h1 := u64_or_nat m 4503599627370496 (by omega) (by decide)
  have h2 : m ||| 4503599627370496 = m + 4503599627370496 := or_add (p := 52) (z := m) (u := 4503599627370496) hm ⟨1, rfl⟩
  rw [h2] at h1
  exact h1
theorem bits_nan (f : Nat) (h : f < 18446744073709551616) : ∃ g : Nat, Go.bits .or .u64 (f : Int) 9218868437227405313 = (g : Int) ∧ g < 18446744073709551616 ∧ fnan g = true := by
  refine ⟨f ||| 9218868437227405313, u64_or_nat _ _ h (by decide), Nat.or_lt_two_pow (n := 64) h (by decide), ?_⟩
  have hE : fE (f ||| 9218868437227405313) = 2047 := by
    unfold fE
    have e1 : (f ||| 9218868437227405313) / 2 ^ 52 = f / 2 ^ 52 ||| 2047 := by
      rw [← Nat.shiftRight_eq_div_pow, ← Nat.shiftRight_eq_div_pow, Nat.shiftRight_or_distrib]; rfl
    have e2 : (f / 2 ^ 52 ||| 2047) % 2 ^ 11 = 2047 := by
      rw [← Nat.and_two_pow_sub_one_eq_mod]
      apply Nat.eq_of_testBit_eq
      intro i
      rw [Nat.testBit_and, Nat.testBit_or]
      have : (2 ^ 11 - 1 : Nat) = 2047 := by decide
      rw [this]
      cases Nat.testBit 2047 i <;> simp
    exact (congrArg (· % 2048) e1).trans e2
  have hR : fR (f ||| 9218868437227405313) ≠ 0 := by
    have e1 : (f ||| 9218868437227405313).testBit 0 = true := by rw [Nat.testBit_or]; simp
    have e2 : (f ||| 9218868437227405313) % 2 = 1 := by simp
    unfold fR; omega
  rw [fnan_E]; simp [hE, hR]

end Go.Proofs.YtkpglfloddkclaaGreatDoor

namespace Go.Proofs.YtkpglfloddkclaaGreatDoor
open Go.RowKit Sp

theorem blen_div_eq {x c : Nat} (h : 0 < blen (x / 2 ^ c)) : blen x = blen (x / 2 ^ c) + c := by
  have h1 := blen_div_pow x c
  have h2 : x < 2 ^ (blen (x / 2 ^ c) + c) := by
    rw [Nat.pow_add]
    exact (Nat.div_lt_iff_lt_mul (Nat.pow_pos (by decide))).1 (lt_blen (x / 2 ^ c))
  have h3 := blen_le h2
  generalize blen (x / 2 ^ c) = b at *
  generalize blen x = y at *
  omega
/-- (X and a little more) compared with j halves of 2^k -/
def cxX (X : Nat) (more : Bool) (k j : Nat) : Int := if X < j * 2 ^ (k - 1) then -1 else if X = j * 2 ^ (k - 1) then (if more then 1 else 0) else 1
def awc (s : Bool) (n : Nat) (cx : Nat → Int) (mode : Int) : Bool :=
  if cx (2 * n) = 0 then false else if mode = 1 then s else if mode = 2 then !s else if mode = 3 then false else decide (0 < cx (2 * n + 1)) || (decide (cx (2 * n + 1) = 0) && decide (n % 2 = 1))
theorem half_pow {k : Nat} (hk : 1 ≤ k) : 2 * 2 ^ (k - 1) = 2 ^ k := by
  obtain ⟨j, rfl⟩ : ∃ j, k = j + 1 := ⟨k - 1, by omega⟩
  rw [Nat.add_sub_cancel, Nat.pow_succ, Nat.mul_comm]
theorem two_halves {k : Nat} (hk : 1 ≤ k) (n : Nat) : 2 * n * 2 ^ (k - 1) = n * 2 ^ k := by
  rw [← half_pow hk]; ac_rfl
theorem raw_cx (s : Bool) (X : Nat) (more : Bool) {k : Nat} (hk : 1 ≤ k) (mode : Int) :
    raw s (X / 2 ^ k) (rcm X more k) (rex X more k) mode = awc s (X / 2 ^ k) (cxX X more k) mode := by
  have hd := Nat.div_add_mod X (2 ^ k)
  have hm := Nat.mod_lt X (Nat.pow_pos (n := k) (show 0 < 2 by decide))
  have hh := half_pow hk
  have e0 : 2 * (X / 2 ^ k) * 2 ^ (k - 1) = 2 ^ k * (X / 2 ^ k) := by rw [two_halves hk, Nat.mul_comm]
  have e1 : (2 * (X / 2 ^ k) + 1) * 2 ^ (k - 1) = 2 ^ k * (X / 2 ^ k) + 2 ^ (k - 1) := by rw [Nat.add_mul, e0, Nat.one_mul]
  have c0 : cxX X more k (2 * (X / 2 ^ k)) = 0 ↔ rex X more k = true := by
    unfold cxX rex
    rw [e0]
    cases more
    · simp only [Bool.not_false, Bool.and_true, decide_eq_true_eq]
      constructor
      · intro h; split at h
        · cases h
        · split at h
          · omega
          · cases h
      · intro h; rw [if_neg (by omega), if_pos (by omega)]; rfl
    · simp only [Bool.not_true, Bool.and_false, Bool.false_eq_true, iff_false]
      intro h; split at h
      · cases h
      · split at h <;> cases h
  have c1 : cxX X more k (2 * (X / 2 ^ k) + 1) = rcm X more k := by
    unfold cxX rcm
    rw [e1]
    rcases Nat.lt_trichotomy (X % 2 ^ k) (2 ^ (k - 1)) with h | h | h
    · have : cmpI ((X % 2 ^ k : Nat) : Int) ((2 ^ (k - 1) : Nat) : Int) = -1 := cmpI_lt (by omega)
      rw [this, if_pos (by omega), if_neg (by simp)]
    · have : cmpI ((X % 2 ^ k : Nat) : Int) ((2 ^ (k - 1) : Nat) : Int) = 0 := cmpI_eq (by omega)
      rw [this, if_neg (by omega), if_pos (by omega)]
      cases more <;> simp
    · have : cmpI ((X % 2 ^ k : Nat) : Int) ((2 ^ (k - 1) : Nat) : Int) = 1 := cmpI_gt (by omega)
      rw [this, if_neg (by omega), if_neg (by omega), if_neg (by simp)]
  unfold raw awc
  rw [c1]
  by_cases h : rex X more k = true
  · rw [if_pos h, if_pos (c0.2 h)]
  · rw [if_neg h, if_neg (fun h1 => h (c0.1 h1))]
theorem cx_lo (X : Nat) (more : Bool) {k : Nat} (hk : 1 ≤ k) : 0 ≤ cxX X more k (2 * (X / 2 ^ k)) ∧ cxX X more k (2 * (X / 2 ^ k + 1)) = -1 := by
  have hd := Nat.div_add_mod X (2 ^ k)
  have hm := Nat.mod_lt X (Nat.pow_pos (n := k) (show 0 < 2 by decide))
  unfold cxX
  rw [two_halves hk, two_halves hk, Nat.add_mul, Nat.one_mul, Nat.mul_comm]
  refine ⟨?_, by rw [if_pos (by omega)]⟩
  rw [if_neg (by omega)]
  split
  · cases more <;> decide
  · decide
theorem cx_anti {X : Nat} {more : Bool} {k i j : Nat} (h : i ≤ j) (hj : 0 ≤ cxX X more k j) : 0 ≤ cxX X more k i := by
  have hm : i * 2 ^ (k - 1) ≤ j * 2 ^ (k - 1) := Nat.mul_le_mul_right _ h
  unfold cxX at *
  split at hj
  · exact absurd hj (by decide)
  · rw [if_neg (by omega)]
    split
    · cases more <;> decide
    · decide
theorem mag_indep (s : Bool) {X X' : Nat} {more more' : Bool} {k k' : Nat} (hk : 1 ≤ k) (hk' : 1 ≤ k') (h : ∀ j, cxX X more k j = cxX X' more' k' j) (mode : Int) :
    X / 2 ^ k + (if raw s (X / 2 ^ k) (rcm X more k) (rex X more k) mode then 1 else 0) = X' / 2 ^ k' + (if raw s (X' / 2 ^ k') (rcm X' more' k') (rex X' more' k') mode then 1 else 0) := by
  have hc : cxX X more k = cxX X' more' k' := funext h
  rw [raw_cx s X more hk, raw_cx s X' more' hk', hc]
  have l1 := cx_lo X more hk
  have l2 := cx_lo X' more' hk'
  rw [hc] at l1
  have hn : X / 2 ^ k = X' / 2 ^ k' := by
    rcases Nat.lt_trichotomy (X / 2 ^ k) (X' / 2 ^ k') with h1 | h1 | h1
    · have := cx_anti (i := 2 * (X / 2 ^ k + 1)) (by omega) l2.1; omega
    · exact h1
    · have := cx_anti (i := 2 * (X' / 2 ^ k' + 1)) (by omega) l1.1; omega
  rw [hn]

theorem rmag_cut (s : Bool) (X : Nat) (E : Int) (more : Bool) (q : Int) (k : Nat) (hk : 1 ≤ k) (hq : q = E + k) (mode : Int) :
    rmag s X E more q mode = X / 2 ^ k + if raw s (X / 2 ^ k) (rcm X more k) (rex X more k) mode then 1 else 0 := by
  have e : (q - E).toNat = k := by omega
  have h1 : ¬ q ≤ E := by omega
  unfold rmag rax rdn
  simp only [if_neg h1, e]
theorem dfix_indep (s : Bool) {X X' : Nat} {E E' : Int} {more more' : Bool} (p : Nat) (mode : Int) (hb : p < blen X) (hb' : p < blen X') (hq : E + blen X = E' + blen X')
    (h : ∀ j, cxX X more (blen X - p) j = cxX X' more' (blen X' - p) j) : dfix s X E more p mode = dfix s X' E' more' p mode := by
  have e1 : rlg X E + 1 - (p : Int) = E + ((blen X - p : Nat) : Int) := by unfold rlg; omega
  have e2 : rlg X' E' + 1 - (p : Int) = E' + ((blen X' - p : Nat) : Int) := by unfold rlg; omega
  have e3 : E + ((blen X - p : Nat) : Int) = E' + ((blen X' - p : Nat) : Int) := by omega
  unfold dfix
  rw [e1, e2, rmag_cut s X E more _ (blen X - p) (by omega) rfl mode, rmag_cut s X' E' more' _ (blen X' - p) (by omega) rfl mode, mag_indep s (by omega) (by omega) h mode, e3]

/-! ### quotients -/
theorem cxX_quo {P Q X : Nat} {more : Bool} (hQ : 0 < Q) (hX : X = P / Q) (hm : more = decide (P % Q ≠ 0)) (k j : Nat) :
    cxX X more k j = cmpI (P : Int) ((j * 2 ^ (k - 1) * Q : Nat) : Int) := (cmp3 hQ hX hm).symm
theorem quo_grow {A B k i : Nat} : A * 2 ^ (k + i) / B / 2 ^ i = A * 2 ^ k / B := by
  rw [Nat.pow_add, ← Nat.mul_assoc, Nat.div_div_eq_div_mul, Nat.mul_div_mul_right _ _ (Nat.pow_pos (by decide))]
theorem quo_step (s : Bool) {A B k i : Nat} (E : Int) (p : Nat) (mode : Int) (hB : 0 < B) (hb : p < blen (A * 2 ^ k / B)) :
    dfix s (A * 2 ^ (k + i) / B) (E - ((k + i : Nat) : Int)) (decide (A * 2 ^ (k + i) % B ≠ 0)) p mode = dfix s (A * 2 ^ k / B) (E - (k : Nat)) (decide (A * 2 ^ k % B ≠ 0)) p mode := by
  have hg := @quo_grow A B k i
  have hl1 : blen (A * 2 ^ (k + i) / B) = blen (A * 2 ^ k / B) + i := by
    have hl := @blen_div_eq (A * 2 ^ (k + i) / B) i
    rw [hg] at hl; exact hl (by omega)
  refine dfix_indep s p mode (by rw [hl1]; omega) hb (by rw [hl1]; omega) fun j => ?_
  rw [cxX_quo hB rfl rfl, cxX_quo hB rfl rfl, hl1]
  refine cmpI_scale (p := 1) (q := 2 ^ i) (by decide) (Nat.pow_pos (by decide)) ?_ ?_
  · rw [Nat.mul_one, Nat.pow_add, Nat.mul_assoc]
  · have e : blen (A * 2 ^ k / B) + i - p - 1 = (blen (A * 2 ^ k / B) - p - 1) + i := by omega
    rw [e, Nat.pow_add]; simp only [Nat.mul_one]; ac_rfl
theorem quo_indep (s : Bool) {A B k k' : Nat} (E : Int) (p : Nat) (mode : Int) (hB : 0 < B) (hb : p < blen (A * 2 ^ k / B)) (hb' : p < blen (A * 2 ^ k' / B)) :
    dfix s (A * 2 ^ k / B) (E - (k : Nat)) (decide (A * 2 ^ k % B ≠ 0)) p mode = dfix s (A * 2 ^ k' / B) (E - (k' : Nat)) (decide (A * 2 ^ k' % B ≠ 0)) p mode := by
  rcases Nat.le_total k k' with h | h
  · obtain ⟨i, rfl⟩ : ∃ i, k' = k + i := ⟨k' - k, by omega⟩
    exact (quo_step s E p mode hB hb).symm
  · obtain ⟨i, rfl⟩ : ∃ i, k = k' + i := ⟨k - k', by omega⟩
    exact quo_step s E p mode hB hb'

/-! ### roots -/
theorem isq_uniq {M t : Nat} (h1 : t * t ≤ M) (h2 : M < (t + 1) * (t + 1)) : isq M = t := by
  have k1 := isq_le M
  have k2 := isq_lt M
  rcases Nat.lt_trichotomy (isq M) t with h | h | h
  · have := sq_le (show isq M + 1 ≤ t by omega); omega
  · exact h
  · have := sq_le (show t + 1 ≤ isq M by omega); omega
theorem cxX_root {M : Nat} (k j : Nat) : cxX (isq M) (decide (isq M * isq M ≠ M)) k j = cmpI (M : Int) ((j * 2 ^ (k - 1) * (j * 2 ^ (k - 1)) : Nat) : Int) := by
  have k1 := isq_le M
  have k2 := isq_lt M
  unfold cxX
  generalize j * 2 ^ (k - 1) = Y
  rcases Nat.lt_trichotomy (isq M) Y with h | h | h
  · have := sq_le (show isq M + 1 ≤ Y by omega)
    rw [if_pos h, cmpI_lt (by omega)]
  · subst h
    rw [if_neg (by omega), if_pos rfl]
    by_cases he : isq M * isq M = M
    · rw [cmpI_eq (by omega)]; simp [he]
    · rw [cmpI_gt (by omega)]; simp [he]
  · have := sq_lt h
    rw [if_neg (by omega), if_neg (by omega), cmpI_gt (by omega)]
theorem isq_grow (M i : Nat) : isq (M * 2 ^ (2 * i)) / 2 ^ i = isq M := by
  have k1 := isq_le (M * 2 ^ (2 * i))
  have k2 := isq_lt (M * 2 ^ (2 * i))
  have hp : 0 < 2 ^ i := Nat.pow_pos (by decide)
  have e : 2 ^ (2 * i) = 2 ^ i * 2 ^ i := by rw [← Nat.pow_add]; congr 1; omega
  rw [e] at k1 k2 ⊢
  have hd := Nat.div_add_mod (isq (M * (2 ^ i * 2 ^ i))) (2 ^ i)
  have hm := Nat.mod_lt (isq (M * (2 ^ i * 2 ^ i))) hp
  generalize isq (M * (2 ^ i * 2 ^ i)) = r at *
  generalize 2 ^ i = D at *
  refine (isq_uniq ?_ ?_).symm
  · refine Nat.le_of_mul_le_mul_right (c := D * D) ?_ (Nat.mul_pos hp hp)
    refine Nat.le_trans ?_ k1
    have := sq_le (show D * (r / D) ≤ r by omega)
    refine Nat.le_trans (Nat.le_of_eq ?_) this
    ac_rfl
  · refine Nat.lt_of_mul_lt_mul_right (a := D * D) ?_
    refine Nat.lt_of_lt_of_le k2 ?_
    have h3 : r + 1 ≤ D * (r / D + 1) := by rw [Nat.mul_add, Nat.mul_one]; omega
    have := sq_le h3
    refine Nat.le_trans this (Nat.le_of_eq ?_)
    ac_rfl
theorem root_step (M i : Nat) (E : Int) (p : Nat) (mode : Int) (hb : p < blen (isq M)) :
    dfix false (isq (M * 2 ^ (2 * i))) (E - (i : Nat)) (decide (isq (M * 2 ^ (2 * i)) * isq (M * 2 ^ (2 * i)) ≠ M * 2 ^ (2 * i))) p mode = dfix false (isq M) E (decide (isq M * isq M ≠ M)) p mode := by
  have hg := isq_grow M i
  have hl1 : blen (isq (M * 2 ^ (2 * i))) = blen (isq M) + i := by
    have hl := @blen_div_eq (isq (M * 2 ^ (2 * i))) i
    rw [hg] at hl; exact hl (by omega)
  refine dfix_indep false p mode (by omega) hb (by omega) fun j => ?_
  rw [cxX_root, cxX_root]
  refine cmpI_scale (p := 1) (q := 2 ^ (2 * i)) (by decide) (Nat.pow_pos (by decide)) (by rw [Nat.mul_one]) ?_
  have e : blen (isq (M * 2 ^ (2 * i))) - p - 1 = (blen (isq M) - p - 1) + i := by omega
  have e2 : 2 ^ (2 * i) = 2 ^ i * 2 ^ i := by rw [← Nat.pow_add]; congr 1; omega
  rw [e, Nat.pow_add, e2]; simp only [Nat.mul_one]; ac_rfl
theorem root_indep {m k k' : Nat} (e : Int) (p : Nat) (mode : Int) (h1 : (e - (k : Nat)) % 2 = 0) (h2 : (e - (k' : Nat)) % 2 = 0) (hb : p < blen (isq (m * 2 ^ k))) (hb' : p < blen (isq (m * 2 ^ k'))) :
    dfix false (isq (m * 2 ^ k)) ((e - (k : Nat)) / 2) (decide (isq (m * 2 ^ k) * isq (m * 2 ^ k) ≠ m * 2 ^ k)) p mode = dfix false (isq (m * 2 ^ k')) ((e - (k' : Nat)) / 2) (decide (isq (m * 2 ^ k') * isq (m * 2 ^ k') ≠ m * 2 ^ k')) p mode := by
  have key : ∀ (a b : Nat), a ≤ b → (e - (a : Nat)) % 2 = 0 → (e - (b : Nat)) % 2 = 0 → p < blen (isq (m * 2 ^ a)) →
      dfix false (isq (m * 2 ^ b)) ((e - (b : Nat)) / 2) (decide (isq (m * 2 ^ b) * isq (m * 2 ^ b) ≠ m * 2 ^ b)) p mode = dfix false (isq (m * 2 ^ a)) ((e - (a : Nat)) / 2) (decide (isq (m * 2 ^ a) * isq (m * 2 ^ a) ≠ m * 2 ^ a)) p mode := by
    intro a b hab ha hb' hbl
    obtain ⟨i, rfl⟩ : ∃ i, b = a + 2 * i := ⟨(b - a) / 2, by omega⟩
    have h := root_step (m * 2 ^ a) i ((e - (a : Nat)) / 2) p mode hbl
    have e1 : m * 2 ^ (a + 2 * i) = m * 2 ^ a * 2 ^ (2 * i) := by rw [Nat.pow_add, Nat.mul_assoc]
    have e2 : (e - ((a + 2 * i : Nat) : Int)) / 2 = (e - (a : Nat)) / 2 - (i : Nat) := by omega
    rw [e1, e2]; exact h
  rcases Nat.le_total k k' with h | h
  · exact (key k k' h h1 h2 hb).symm
  · exact key k' k h h2 h1 hb'

/-! ### floats -/
theorem frnd_indep (s : Bool) {X X' : Nat} {E E' : Int} {more more' : Bool} (mode : Int) (hb : 53 < blen X) (hb' : 53 < blen X') (hq : E + blen X = E' + blen X')
    (h : ∀ k k' j : Nat, 1 ≤ k → 1 ≤ k' → E + (k : Int) = E' + (k' : Int) → cxX X more k j = cxX X' more' k' j) : frnd s X E more mode = frnd s X' E' more' mode := by
  have hr : rlg X E = rlg X' E' := by unfold rlg; omega
  obtain ⟨q, hqq⟩ : ∃ q, q = max (rlg X' E' - 52) (-1074) := ⟨_, rfl⟩
  have h1 : E + 1 ≤ q := by rw [hqq, ← hr]; unfold rlg; omega
  have h2 : E' + 1 ≤ q := by rw [hqq]; unfold rlg; omega
  have k1 : 1 ≤ (q - E).toNat := by omega
  have k2 : 1 ≤ (q - E').toNat := by omega
  have k3 : q = E + ((q - E).toNat : Int) := by omega
  have k4 : q = E' + ((q - E').toNat : Int) := by omega
  unfold frnd fcode
  rw [hr, ← hqq, rmag_cut s X E more q (q - E).toNat k1 k3 mode, rmag_cut s X' E' more' q (q - E').toNat k2 k4 mode,
    mag_indep s k1 k2 (fun j => h _ _ j k1 k2 (by omega)) mode]
theorem fquo_step (s : Bool) {A B k i : Nat} (E : Int) (mode : Int) (hB : 0 < B) (hb : 53 < blen (A * 2 ^ k / B)) :
    frnd s (A * 2 ^ (k + i) / B) (E - ((k + i : Nat) : Int)) (decide (A * 2 ^ (k + i) % B ≠ 0)) mode = frnd s (A * 2 ^ k / B) (E - (k : Nat)) (decide (A * 2 ^ k % B ≠ 0)) mode := by
  have hg := @quo_grow A B k i
  have hl1 : blen (A * 2 ^ (k + i) / B) = blen (A * 2 ^ k / B) + i := by
    have hl := @blen_div_eq (A * 2 ^ (k + i) / B) i
    rw [hg] at hl; exact hl (by omega)
  refine frnd_indep s mode (by rw [hl1]; omega) hb (by rw [hl1]; omega) fun a b j ha hb2 hab => ?_
  rw [cxX_quo hB rfl rfl, cxX_quo hB rfl rfl]
  refine cmpI_scale (p := 1) (q := 2 ^ i) (by decide) (Nat.pow_pos (by decide)) ?_ ?_
  · rw [Nat.mul_one, Nat.pow_add, Nat.mul_assoc]
  · have e : a - 1 = (b - 1) + i := by omega
    rw [e, Nat.pow_add]; simp only [Nat.mul_one]; ac_rfl
theorem fquo_indep (s : Bool) {A B k k' : Nat} (E : Int) (mode : Int) (hB : 0 < B) (hb : 53 < blen (A * 2 ^ k / B)) (hb' : 53 < blen (A * 2 ^ k' / B)) :
    frnd s (A * 2 ^ k / B) (E - (k : Nat)) (decide (A * 2 ^ k % B ≠ 0)) mode = frnd s (A * 2 ^ k' / B) (E - (k' : Nat)) (decide (A * 2 ^ k' % B ≠ 0)) mode := by
  rcases Nat.le_total k k' with h | h
  · obtain ⟨i, rfl⟩ : ∃ i, k' = k + i := ⟨k' - k, by omega⟩
    exact (fquo_step s E mode hB hb).symm
  · obtain ⟨i, rfl⟩ : ∃ i, k = k' + i := ⟨k - k', by omega⟩
    exact fquo_step s E mode hB hb'
theorem froot_step (M i : Nat) (E : Int) (mode : Int) (hb : 53 < blen (isq M)) :
    frnd false (isq (M * 2 ^ (2 * i))) (E - (i : Nat)) (decide (isq (M * 2 ^ (2 * i)) * isq (M * 2 ^ (2 * i)) ≠ M * 2 ^ (2 * i))) mode = frnd false (isq M) E (decide (isq M * isq M ≠ M)) mode := by
  have hg := isq_grow M i
  have hl1 : blen (isq (M * 2 ^ (2 * i))) = blen (isq M) + i := by
    have hl := @blen_div_eq (isq (M * 2 ^ (2 * i))) i
    rw [hg] at hl; exact hl (by omega)
  refine frnd_indep false mode (by omega) hb (by omega) fun a b j ha hb2 hab => ?_
  rw [cxX_root, cxX_root]
  refine cmpI_scale (p := 1) (q := 2 ^ (2 * i)) (by decide) (Nat.pow_pos (by decide)) (by rw [Nat.mul_one]) ?_
  have e : a - 1 = (b - 1) + i := by omega
  have e2 : 2 ^ (2 * i) = 2 ^ i * 2 ^ i := by rw [← Nat.pow_add]; congr 1; omega
  rw [e, Nat.pow_add, e2]; simp only [Nat.mul_one]; ac_rfl
theorem froot_indep {m k k' : Nat} (e : Int) (mode : Int) (h1 : (e - (k : Nat)) % 2 = 0) (h2 : (e - (k' : Nat)) % 2 = 0) (hb : 53 < blen (isq (m * 2 ^ k))) (hb' : 53 < blen (isq (m * 2 ^ k'))) :
    frnd false (isq (m * 2 ^ k)) ((e - (k : Nat)) / 2) (decide (isq (m * 2 ^ k) * isq (m * 2 ^ k) ≠ m * 2 ^ k)) mode = frnd false (isq (m * 2 ^ k')) ((e - (k' : Nat)) / 2) (decide (isq (m * 2 ^ k') * isq (m * 2 ^ k') ≠ m * 2 ^ k')) mode := by
  have key : ∀ (a b : Nat), a ≤ b → (e - (a : Nat)) % 2 = 0 → (e - (b : Nat)) % 2 = 0 → 53 < blen (isq (m * 2 ^ a)) →
      frnd false (isq (m * 2 ^ b)) ((e - (b : Nat)) / 2) (decide (isq (m * 2 ^ b) * isq (m * 2 ^ b) ≠ m * 2 ^ b)) mode = frnd false (isq (m * 2 ^ a)) ((e - (a : Nat)) / 2) (decide (isq (m * 2 ^ a) * isq (m * 2 ^ a) ≠ m * 2 ^ a)) mode := by
    intro a b hab ha hb' hbl
    obtain ⟨i, rfl⟩ : ∃ i, b = a + 2 * i := ⟨(b - a) / 2, by omega⟩
    have h := froot_step (m * 2 ^ a) i ((e - (a : Nat)) / 2) mode hbl
    have e1 : m * 2 ^ (a + 2 * i) = m * 2 ^ a * 2 ^ (2 * i) := by rw [Nat.pow_add, Nat.mul_assoc]
    have e2 : (e - ((a + 2 * i : Nat) : Int)) / 2 = (e - (a : Nat)) / 2 - (i : Nat) := by omega
    rw [e1, e2]; exact h
  rcases Nat.le_total k k' with h | h
  · exact (key k k' h h1 h2 hb).symm
  · exact key k' k h h2 h1 hb'

end Go.Proofs.YtkpglfloddkclaaGreatDoor

