/-
  Plain law: floats of 64 bits as numbers: kinds, values on the grid of 2^-1074, rounding. No program in sight.
  Plain law: how a real number is rounded to a float. No program in sight.
  Plain law: roundings of dyads, quotients and roots to floats, by comparisons. No program in sight.
  Plain law: roundings to floats keep the order, enclose, and are exact where they can. No program in sight.
  Plain law: the statements about floats, of numbers. No program in sight.
  Plain law: the statements about floats (Special, Neighbours, Commutes, Mirrors), of numbers. No program in sight.
  Plain law: the statements about floats (Sterbenz, Halves), of numbers. No program in sight.
  Plain law: the bits of a float of 64 bits, in the machine's words. No program in sight.
  Plain law: a rounded number depends on the number alone, not on how many bits of it are given. No program in sight.
-/
import Derived.Test.YtablcbgeeeboeaaGreatDoorZdBL
namespace Go.Proofs.YtablcbgeeeboeaaGreatDoor
open Go.RowKit Sp
def fS (f : Nat) : Bool := decide (9223372036854775808 ≤ f)
def fM (f : Nat) : Nat := f % 9223372036854775808
def fE (f : Nat) : Nat := f / 4503599627370496 % 2048
def fR (f : Nat) : Nat := f % 4503599627370496
def fnan (f : Nat) : Bool := decide (9218868437227405312 < fM f)
def finf (f : Nat) : Bool := decide (fM f = 9218868437227405312)
def fzero (f : Nat) : Bool := decide (fM f = 0)
def ffin (f : Nat) : Bool := decide (fM f < 9218868437227405312)
def fNaN : Nat := 9221120237041090560
def fInf : Nat := 9218868437227405312
def fMax : Nat := 9218868437227405311
def fkind (f : Nat) : Int := if fnan f then 3 else if finf f then 2 else if fzero f then 0 else 1
def fsgn (s : Bool) (c : Nat) : Nat := if s then c + 9223372036854775808 else c
theorem fsgn_lt {s : Bool} {c : Nat} (h : c < 9223372036854775808) : fsgn s c < 18446744073709551616 := by unfold fsgn; split <;> omega
theorem fS_fsgn {s : Bool} {c : Nat} (h : c < 9223372036854775808) : fS (fsgn s c) = s := by
 unfold fsgn fS; cases s <;> simp <;> omega
theorem fM_fsgn {s : Bool} {c : Nat} (h : c < 9223372036854775808) : fM (fsgn s c) = c := by
 unfold fsgn fM; cases s <;> simp <;> omega
theorem fM_eq (f : Nat) : fM f = fE f * 4503599627370496 + fR f := by unfold fM fE fR; omega
theorem fR_lt (f : Nat) : fR f < 4503599627370496 := Nat.mod_lt _ (by decide)
theorem fE_lt (f : Nat) : fE f < 2048 := Nat.mod_lt _ (by decide)
theorem ffin_E (f : Nat) : ffin f = decide (fE f ≠ 2047) := by
 have := fM_eq f; have := fR_lt f; have := fE_lt f
 unfold ffin; exact decide_eq_decide.2 (by omega)
theorem fnan_E (f : Nat) : fnan f = decide (fE f = 2047 ∧ fR f ≠ 0) := by
 have := fM_eq f; have := fR_lt f; have := fE_lt f
 unfold fnan; exact decide_eq_decide.2 (by omega)
theorem finf_E (f : Nat) : finf f = decide (fE f = 2047 ∧ fR f = 0) := by
 have := fM_eq f; have := fR_lt f; have := fE_lt f
 unfold finf; exact decide_eq_decide.2 (by omega)
theorem fzero_E (f : Nat) : fzero f = decide (fE f = 0 ∧ fR f = 0) := by
 have := fM_eq f; have := fR_lt f; have := fE_lt f
 unfold fzero; exact decide_eq_decide.2 (by omega)
def fzN (c : Nat) : Nat := if c < 4503599627370496 then c else (c % 4503599627370496 + 4503599627370496) * 2 ^ (c / 4503599627370496 - 1)
def fz (f : Nat) : Int := sgn (fS f) (fzN (fM f))
def fof (f : Nat) : Option (Int × Int) := if ffin f then nrm (fz f) (-1074) else none
theorem fzN_code (k n : Nat) (hn : n ≤ 9007199254740992) (h : 4503599627370496 ≤ n ∨ k = 0) : fzN (k * 4503599627370496 + n) = n * 2 ^ k := by
 unfold fzN
 rcases Nat.lt_or_ge n 4503599627370496 with h1 | h1
 · have hk : k = 0 := by omega
   subst hk; simp; omega
 · rw [if_neg (by omega)]
   rcases Nat.lt_or_ge n 9007199254740992 with h2 | h2
   · have e1 : (k * 4503599627370496 + n) % 4503599627370496 = n - 4503599627370496 := by omega
     have e2 : (k * 4503599627370496 + n) / 4503599627370496 - 1 = k := by omega
     rw [e1, e2]; congr 1; omega
   · have hn2 : n = 9007199254740992 := by omega
     subst hn2
     have e1 : (k * 4503599627370496 + 9007199254740992) % 4503599627370496 = 0 := by omega
     have e2 : (k * 4503599627370496 + 9007199254740992) / 4503599627370496 - 1 = k + 1 := by omega
     rw [e1, e2, Nat.pow_succ]; omega
theorem code_split (c : Nat) : ∃ k n, c = k * 4503599627370496 + n ∧ n < 9007199254740992 ∧ (4503599627370496 ≤ n ∨ k = 0) := by
 by_cases h : c < 4503599627370496
 · exact ⟨0, c, by omega, by omega, Or.inr rfl⟩
 · exact ⟨c / 4503599627370496 - 1, c % 4503599627370496 + 4503599627370496, by omega, by omega, Or.inl (by omega)⟩
theorem fzN_succ {k n : Nat} (hn : n < 9007199254740992) (h : 4503599627370496 ≤ n ∨ k = 0) : fzN (k * 4503599627370496 + n + 1) = fzN (k * 4503599627370496 + n) + 2 ^ k := by
 rw [fzN_code k n (by omega) h, Nat.add_assoc, fzN_code k (n + 1) (by omega) (by omega), Nat.add_mul, Nat.one_mul]
theorem fzN_lt_succ (c : Nat) : fzN c < fzN (c + 1) := by
 obtain ⟨k, n, rfl, hn, h⟩ := code_split c
 rw [fzN_succ hn h]
 have := Nat.pow_pos (n := k) (show 0 < 2 by omega); omega
theorem fzN_add (c : Nat) : ∀ d, fzN c + d ≤ fzN (c + d)
 | 0 => Nat.le_refl _
 | d + 1 => by have := fzN_add c d; have := fzN_lt_succ (c + d); show _ ≤ fzN (c + d + 1); omega
theorem fzN_lt {a b : Nat} (h : a < b) : fzN a < fzN b := by
 have := fzN_add (a + 1) (b - (a + 1))
 rw [show a + 1 + (b - (a + 1)) = b by omega] at this
 have := fzN_lt_succ a; omega
theorem fzN_le_iff {a b : Nat} : fzN a ≤ fzN b ↔ a ≤ b := by
 constructor
 · intro h; by_cases h1 : b < a
   · have := fzN_lt h1; omega
   · omega
 · intro h; rcases Nat.lt_or_eq_of_le h with h | h
   · exact Nat.le_of_lt (fzN_lt h)
   · subst h; exact Nat.le_refl _
theorem fzN_top : fzN 9218868437227405312 = 9007199254740992 * 2 ^ 2045 := by
 have := fzN_code 2045 9007199254740992 (by omega) (by omega)
 rwa [show 2045 * 4503599627370496 + 9007199254740992 = 9218868437227405312 by decide] at this
theorem p53 (k n : Nat) (h : 53 + k = n) : 9007199254740992 * 2 ^ k = 2 ^ n := by subst h; rw [Nat.pow_add]
theorem p52 (k n : Nat) (h : 52 + k = n) : 4503599627370496 * 2 ^ k = 2 ^ n := by subst h; rw [Nat.pow_add]
theorem blen_fzN {c : Nat} (h : c < 9218868437227405312) : blen (fzN c) ≤ 2098 := by
 refine blen_le ?_
 have := fzN_lt h
 rw [fzN_top, p53 2045 2098 (by decide)] at this
 exact this
theorem fz_abs (f : Nat) : (fz f).natAbs = fzN (fM f) := by unfold fz sgn; cases fS f <;> simp
theorem blen_fz {f : Nat} (h : ffin f = true) : blen (fz f).natAbs ≤ 2098 := by
 rw [fz_abs]; exact blen_fzN (by unfold ffin at h; simpa using h)
theorem fof_some {f : Nat} (h : ffin f = true) : nrm (fz f) (-1074) ≠ none := nrm_valid (by omega) (by have := blen_fz h; omega)
theorem fof_fin {f : Nat} (h : ffin f = true) : fof f = nrm (fz f) (-1074) := by unfold fof; rw [if_pos h]
theorem fof_not {f : Nat} (h : ffin f = false) : fof f = none := by unfold fof; rw [if_neg (by rw [h]; decide)]
theorem isN_fof (f : Nat) : IsN (fof f) := by
 unfold fof; split
 · exact isN_nrm _ _
 · exact isN_none
theorem fz_parts (f : Nat) : nrm (fz f) (-1074) = nrm (sgn (fS f) (if fE f = 0 then fR f else fR f + 4503599627370496)) (if fE f = 0 then -1074 else (fE f : Int) - 1075) := by
 have h1 := fM_eq f
 have h2 := fR_lt f
 unfold fz
 by_cases h : fE f = 0
 · rw [if_pos h, if_pos h]
   congr 2
   rw [h1, h]; unfold fzN; rw [if_pos (by omega)]; omega
 · rw [if_neg h, if_neg h]
   have e1 : fzN (fM f) = (fR f + 4503599627370496) * 2 ^ (fE f - 1) := by
    have := fzN_code (fE f - 1) (fR f + 4503599627370496) (by omega) (by omega)
    rw [← this]; refine congrArg fzN ?_; rw [h1]
    obtain ⟨j, hj⟩ : ∃ j, fE f = j + 1 := ⟨fE f - 1, by omega⟩
    rw [hj, Nat.add_sub_cancel]; omega
   have e2 : sgn (fS f) (fzN (fM f)) = sgn (fS f) (fR f + 4503599627370496) * 2 ^ (fE f - 1) := by
    rw [e1]; unfold sgn; cases fS f <;> simp [Int.neg_mul]
   rw [e2, nrm_scale]; congr 1; omega
def fcode (s : Bool) (X : Nat) (E : Int) (more : Bool) (mode : Int) : Nat :=
 (max (rlg X E - 52) (-1074) + 1074).toNat * 4503599627370496 + rmag s X E more (max (rlg X E - 52) (-1074)) mode
def fover (s : Bool) (mode : Int) : Nat :=
 if mode = 3 ∨ mode = 1 ∧ s = false ∨ mode = 2 ∧ s = true then fsgn s fMax else fsgn s fInf
def fcut (s : Bool) (c : Nat) (mode : Int) : Nat := if fInf ≤ c then fover s mode else fsgn s c
def frnd (s : Bool) (X : Nat) (E : Int) (more : Bool) (mode : Int) : Nat := fcut s (fcode s X E more mode) mode
def fround (d : Option (Int × Int)) (mode : Int) : Nat :=
 match d with
 | none => fNaN
 | some (m, e) => if m = 0 then 0 else frnd (decide (m < 0)) m.natAbs e false mode
def fquo (d d' : Option (Int × Int)) (mode : Int) : Nat :=
 match d, d' with
 | some (a, e), some (b, f) =>
  if b = 0 then fNaN else if a = 0 then 0 else
  frnd (decide (a < 0) != decide (b < 0)) (a.natAbs * 2 ^ qsh a b 56 / b.natAbs) (e - qsh a b 56 - f) (decide (a.natAbs * 2 ^ qsh a b 56 % b.natAbs ≠ 0)) mode
 | _, _ => fNaN
noncomputable def froot (d : Option (Int × Int)) (mode : Int) : Nat :=
 match d with
 | none => fNaN
 | some (m, e) => if m < 0 then fNaN else if m = 0 then 0 else
  frnd false (isq (m.natAbs * 2 ^ rsh m e 56)) ((e - rsh m e 56) / 2) (decide (isq (m.natAbs * 2 ^ rsh m e 56) * isq (m.natAbs * 2 ^ rsh m e 56) ≠ m.natAbs * 2 ^ rsh m e 56)) mode
def fplace (f : Nat) : Int := sgn (fS f) (fM f)
structure Cx (cx : Nat → Int) : Prop where
 range : ∀ j, cx j = -1 ∨ cx j = 0 ∨ cx j = 1
 strict : ∀ j j', j < j' → 0 ≤ cx j' → cx j = 1
def IsLo (cx : Nat → Int) (c : Nat) : Prop := 0 ≤ cx (2 * fzN c) ∧ cx (2 * fzN (c + 1)) = -1
def awx (s : Bool) (c : Nat) (cx : Nat → Int) (mode : Int) : Bool :=
 if cx (2 * fzN c) = 0 then false else if mode = 1 then s else if mode = 2 then !s else if mode = 3 then false else decide (0 < cx (fzN c + fzN (c + 1))) || (decide (cx (fzN c + fzN (c + 1)) = 0) && decide (c % 2 = 1))
def CutAt (X : Nat) (E : Int) (more : Bool) (cx : Nat → Int) : Prop :=
 ∀ j Y : Nat, j * 2 ^ (-1075 - min E (-1075)).toNat = Y * 2 ^ (E - min E (-1075)).toNat → cx j = if X < Y then -1 else if X = Y then (if more then 1 else 0) else 1
theorem IsLo.uniq {cx : Nat → Int} (hc : Cx cx) {c d : Nat} (h : IsLo cx c) (k : IsLo cx d) : c = d := by
 rcases Nat.lt_trichotomy c d with h1 | h1 | h1
 · have h2 : fzN (c + 1) ≤ fzN d := fzN_le_iff.2 h1
   rcases Nat.lt_or_eq_of_le h2 with h3 | h3
   · have := hc.strict (2 * fzN (c + 1)) (2 * fzN d) (by omega) k.1; have := h.2; omega
   · have := h.2; have := k.1; rw [← h3] at this; omega
 · exact h1
 · have h2 : fzN (d + 1) ≤ fzN c := fzN_le_iff.2 h1
   rcases Nat.lt_or_eq_of_le h2 with h3 | h3
   · have := hc.strict (2 * fzN (d + 1)) (2 * fzN c) (by omega) h.1; have := k.2; omega
   · have := k.2; have := h.1; rw [← h3] at this; omega
theorem rdn_place {X : Nat} (hX : 0 < X) (E : Int) (q : Int) (hq : q = max (rlg X E - 52) (-1074)) :
 rdn X E q < 9007199254740992 ∧ (4503599627370496 ≤ rdn X E q ∨ (q + 1074).toNat = 0) := by
 have hb := blen_pos hX
 have hlt := lt_blen X
 have hge := blen_le_self hX
 unfold rdn
 by_cases h : q ≤ E
 · rw [if_pos h]
   have h1 := blen_mul_pow hX (E - q).toNat
   have hx1 : 0 < X * 2 ^ (E - q).toNat := Nat.mul_pos hX (Nat.pow_pos (by decide))
   have h2 := lt_blen (X * 2 ^ (E - q).toNat)
   have h3 := blen_le_self hx1
   generalize hW : X * 2 ^ (E - q).toNat = V at h1 h2 h3 ⊢
   have hle : blen V ≤ 53 := by unfold rlg at hq; omega
   refine ⟨Nat.lt_of_lt_of_le h2 (Nat.le_trans (Nat.pow_le_pow_right (by decide) hle) (by decide)), ?_⟩
   by_cases hk : (q + 1074).toNat = 0
   · exact Or.inr hk
   · have he : blen V = 53 := by unfold rlg at hq; omega
     rw [he] at h3; exact Or.inl h3
 · rw [if_neg h]
   have h0 := blen_div_pow X (q - E).toNat
   have h2 := lt_blen (X / 2 ^ (q - E).toNat)
   have hle : blen (X / 2 ^ (q - E).toNat) ≤ 53 := by unfold rlg at hq; omega
   refine ⟨Nat.lt_of_lt_of_le h2 (Nat.le_trans (Nat.pow_le_pow_right (by decide) hle) (by decide)), ?_⟩
   by_cases hk : (q + 1074).toNat = 0
   · exact Or.inr hk
   · refine Or.inl ?_
     have he : blen X - 1 = 52 + (q - E).toNat := by unfold rlg at hq; omega
     rw [he, Nat.pow_add] at hge
     exact (Nat.le_div_iff_mul_le (Nat.pow_pos (by decide))).2 hge
theorem pw {k p t r : Nat} (a : Nat) (h : k + p = t + r) : a * 2 ^ k * 2 ^ p = a * 2 ^ t * 2 ^ r := by
 rw [Nat.mul_assoc, Nat.mul_assoc, ← Nat.pow_add, ← Nat.pow_add, h]
theorem pw2 {k p t r : Nat} (a : Nat) (h : k + p + 1 = t + r) : 2 * (a * 2 ^ k) * 2 ^ p = a * 2 ^ t * 2 ^ r := by
 rw [← pw (k := k + 1) (p := p) a (by omega), Nat.pow_succ, Nat.mul_comm 2, Nat.mul_assoc a]
theorem pow_cancel {a b : Nat} {k m : Nat} (h : k = m) (hab : a = b) : a * 2 ^ k = b * 2 ^ m := by subst h hab; rfl
theorem fcode_spec (s : Bool) {X : Nat} (hX : 0 < X) (E : Int) (more : Bool) (mode : Int) {cx : Nat → Int} (hc : Cx cx) (hcut : CutAt X E more cx) (hm : more = true → E < max (rlg X E - 52) (-1074)) :
 ∃ c, IsLo cx c ∧ fcode s X E more mode = c + if awx s c cx mode then 1 else 0 := by
 obtain ⟨q, hq⟩ : ∃ q, q = max (rlg X E - 52) (-1074) := ⟨_, rfl⟩
 obtain ⟨k, hk⟩ : ∃ k : Nat, k = (q + 1074).toNat := ⟨_, rfl⟩
 have hp := rdn_place hX E q hq
 obtain ⟨n0, hn0⟩ : ∃ n0, n0 = rdn X E q := ⟨_, rfl⟩
 rw [← hn0, ← hk] at hp
 have hqk : q = (k : Int) - 1074 := by omega
 have e0 := fzN_code k n0 (by omega) hp.2
 have e1 := fzN_succ hp.1 hp.2
 have hpar : (k * 4503599627370496 + n0) % 2 = n0 % 2 := by omega
 rw [← hq] at hm
 obtain ⟨c, hcd⟩ : ∃ c, c = k * 4503599627370496 + n0 := ⟨_, rfl⟩
 rw [← hcd] at e0 e1 hpar
 refine ⟨c, ?_⟩
 unfold fcode rmag
 rw [← hq, ← hk, ← hn0, ← Nat.add_assoc, ← hcd]
 rw [e0] at e1
 by_cases h : q ≤ E
 · have hmf : more = false := by cases more with | false => rfl | true => exact absurd (hm rfl) (by omega)
   have hr : rdn X E q = X * 2 ^ (E - q).toNat := by unfold rdn; rw [if_pos h]
   have hz : cx (2 * fzN c) = 0 := by
    have := hcut (2 * fzN c) X (by
     rw [e0, hn0, hr, show min E (-1075) = -1075 by omega, show (-1075 - -1075 : Int).toNat = 0 by decide, Nat.pow_zero, Nat.mul_one, Nat.mul_assoc, ← Nat.pow_add, Nat.mul_comm 2, Nat.mul_assoc, ← Nat.pow_succ]
     exact pow_cancel (by omega) rfl)
    rw [this, if_neg (by omega), if_pos rfl, hmf]; rfl
   have hlt := fzN_lt_succ c
   refine ⟨⟨by omega, ?_⟩, ?_⟩
   · rcases hc.range (2 * fzN (c + 1)) with h1 | h1 | h1
     · exact h1
     · have := hc.strict (2 * fzN c) (2 * fzN (c + 1)) (by omega) (by omega); omega
     · have := hc.strict (2 * fzN c) (2 * fzN (c + 1)) (by omega) (by omega); omega
   · have hax : rax s X E more q mode = false := by unfold rax; rw [if_pos h]
     unfold awx; rw [hax, if_pos hz]
 · obtain ⟨t, ht⟩ : ∃ t : Nat, t = (q - E).toNat := ⟨_, rfl⟩
   have ht1 : 1 ≤ t := by omega
   have hr : rdn X E q = X / 2 ^ t := by unfold rdn; rw [if_neg h, ← ht]
   have hpt : 0 < 2 ^ t := Nat.pow_pos (by decide)
   have hdm := Nat.div_add_mod X (2 ^ t)
   have hmod := Nat.mod_lt X hpt
   rw [← hr, ← hn0] at hdm
   obtain ⟨r, hrr⟩ : ∃ r, r = X % 2 ^ t := ⟨_, rfl⟩
   rw [← hrr] at hdm hmod
   have hpt2 : 2 ^ t = 2 * 2 ^ (t - 1) := by obtain ⟨u, rfl⟩ : ∃ u, t = u + 1 := ⟨t - 1, by omega⟩; rw [Nat.add_sub_cancel, Nat.pow_succ, Nat.mul_comm]
   have hXe : X = n0 * 2 ^ t + r := by rw [Nat.mul_comm]; exact hdm.symm
   -- the three places that matter
   have g (a : Nat) : cx (2 * (a * 2 ^ k)) = if X < a * 2 ^ t then -1 else if X = a * 2 ^ t then (if more then 1 else 0) else 1 := by
    refine hcut _ _ ?_
    exact pw2 a (by omega)
   have gm (a : Nat) : cx (a * 2 ^ k) = if X < a * 2 ^ (t - 1) then -1 else if X = a * 2 ^ (t - 1) then (if more then 1 else 0) else 1 := by
    refine hcut _ _ ?_
    exact pw a (by omega)
   have c0 := g n0
   rw [← e0, if_neg (by omega)] at c0
   have c1 := g (n0 + 1)
   have e2 : fzN (c + 1) = (n0 + 1) * 2 ^ k := by rw [e1, Nat.add_mul, Nat.one_mul]
   rw [← e2, if_pos (by rw [Nat.add_mul, Nat.one_mul]; omega)] at c1
   have c2 := gm (2 * n0 + 1)
   have e3 : (2 * n0 + 1) * 2 ^ k = fzN c + fzN (c + 1) := by rw [e1, e0, Nat.add_mul, Nat.one_mul, Nat.mul_assoc]; omega
   have e4 : (2 * n0 + 1) * 2 ^ (t - 1) = n0 * 2 ^ t + 2 ^ (t - 1) := by rw [hpt2, Nat.add_mul, Nat.one_mul, Nat.mul_comm 2 n0, Nat.mul_assoc]
   rw [e3, e4, hXe] at c2
   refine ⟨⟨?_, c1⟩, ?_⟩
   · rw [c0]; split
     · split <;> omega
     · omega
   · have hax : rax s X E more q mode = awx s c cx mode := by
      unfold rax awx
      rw [if_neg h, ← hn0, ← ht]
      unfold raw rex rcm
      rw [← hrr, c0, c2, hpar]
      unfold cmpI
      have hp1 : 0 < 2 ^ (t - 1) := Nat.pow_pos (by decide)
      generalize 2 ^ (t - 1) = P at *
      cases more <;> cases s <;> by_cases m1 : mode = 1 <;> by_cases m2 : mode = 2 <;> by_cases m3 : mode = 3 <;> by_cases hr0 : r = 0 <;> simp [m1, m2, m3, hr0, hXe] <;> (repeat' split) <;> simp <;> omega
     rw [hax]
theorem cmpI_range (x y : Int) : cmpI x y = -1 ∨ cmpI x y = 0 ∨ cmpI x y = 1 := by unfold cmpI; split <;> (try split) <;> omega
theorem cmpI_ge {m n : Int} : 0 ≤ cmpI m n ↔ n ≤ m := by unfold cmpI; split <;> (try split) <;> constructor <;> intro h <;> omega
theorem cmpI_one {m n : Int} : cmpI m n = 1 ↔ n < m := by unfold cmpI; split <;> (try split) <;> constructor <;> intro h <;> omega
theorem cmpI_m1 {m n : Int} : cmpI m n = -1 ↔ m < n := by unfold cmpI; split <;> (try split) <;> constructor <;> intro h <;> omega
def cxQ (A D : Nat) (j : Nat) : Int := cmpI ((2 * A : Nat) : Int) ((j * D : Nat) : Int)
theorem cxQ_cx (A : Nat) {D : Nat} (hD : 0 < D) : Cx (cxQ A D) := by
 refine ⟨fun j => cmpI_range _ _, fun j j' h h' => ?_⟩
 have h1 := cmpI_ge.1 h'
 refine cmpI_one.2 ?_
 have h2 : j * D + 1 * D ≤ j' * D := by rw [← Nat.add_mul]; exact Nat.mul_le_mul_right _ h
 omega
theorem cmp3 {P Q X Y : Nat} {more : Bool} (hQ : 0 < Q) (hX : X = P / Q) (hm : more = decide (P % Q ≠ 0)) :
 cmpI ((P : Nat) : Int) ((Y * Q : Nat) : Int) = if X < Y then -1 else if X = Y then (if more then 1 else 0) else 1 := by
 have h1 := Nat.div_add_mod P Q
 have h2 := Nat.mod_lt P hQ
 rw [← hX] at h1
 rw [Nat.mul_comm] at h1
 by_cases hlt : X < Y
 · rw [if_pos hlt]
   have := Nat.mul_le_mul_right Q (show X + 1 ≤ Y by omega)
   rw [Nat.add_mul, Nat.one_mul] at this
   exact cmpI_m1.2 (by omega)
 · rw [if_neg hlt]
   by_cases he : X = Y
   · subst he
     rw [if_pos rfl, hm]
     by_cases h0 : P % Q = 0
     · simp only [h0, ne_eq, not_true_eq_false, decide_false, Bool.false_eq_true, if_false]
       exact cmpI_eq0.2 (by omega)
     · simp only [ne_eq, h0, not_false_eq_true, decide_true, if_true]
       exact cmpI_one.2 (by omega)
   · rw [if_neg he]
     have := Nat.mul_le_mul_right Q (show Y + 1 ≤ X by omega)
     rw [Nat.add_mul, Nat.one_mul] at this
     exact cmpI_one.2 (by omega)
theorem cmpI_scale {x y x' y' : Nat} {p q : Nat} (hp : 0 < p) (hq : 0 < q) (h1 : x * p = x' * q) (h2 : y * p = y' * q) : cmpI (x : Int) (y : Int) = cmpI (x' : Int) (y' : Int) := by
 have e1 := cmpI_mul (m := (x : Int)) (n := (y : Int)) (p := (p : Int)) (by omega)
 have e2 := cmpI_mul (m := (x' : Int)) (n := (y' : Int)) (p := (q : Int)) (by omega)
 rw [← e1, ← e2, ← Int.natCast_mul, ← Int.natCast_mul, h1, h2, Int.natCast_mul, Int.natCast_mul]
theorem two_pow_pos (k : Nat) : 0 < 2 ^ k := Nat.pow_pos (by decide)
theorem fround_grid (M : Int) (g : Nat) (mode : Int) (h0 : M ≠ 0) (h : nrm M (-1074 - (g : Int)) ≠ none) :
 ∃ c, IsLo (cxQ M.natAbs (2 ^ g)) c ∧ fround (nrm M (-1074 - (g : Int))) mode = fcut (decide (M < 0)) (c + if awx (decide (M < 0)) c (cxQ M.natAbs (2 ^ g)) mode then 1 else 0) mode := by
 cases hd : nrm M (-1074 - (g : Int)) with
 | none => exact absurd hd h
 | some p =>
  obtain ⟨m, e⟩ := p
  obtain ⟨t, ht, he, hodd, _, _⟩ := nrm_some h0 hd
  have hm0 : m ≠ 0 := by omega
  have hsg : decide (m < 0) = decide (M < 0) := by rw [ht]; exact decide_eq_decide.2 (mul_pow_neg m t).1.symm
  have hab : M.natAbs = m.natAbs * 2 ^ t := by rw [ht]; exact natAbs_mul_pow m t
  have hmp : 0 < m.natAbs := by omega
  show ∃ c, _ ∧ (if m = 0 then 0 else frnd (decide (m < 0)) m.natAbs e false mode) = _
  rw [if_neg hm0, hsg]
  have hcut : CutAt m.natAbs e false (cxQ M.natAbs (2 ^ g)) := by
   intro j Y hj
   have h3 := cmp3 (P := m.natAbs) (Q := 1) (X := m.natAbs) (Y := Y) (more := false) (by decide) (by simp) (by simp [Nat.mod_one])
   rw [← h3]
   obtain ⟨a, ha⟩ : ∃ a : Nat, a = (-1075 - min e (-1075)).toNat := ⟨_, rfl⟩
   obtain ⟨b, hb⟩ : ∃ b : Nat, b = (e - min e (-1075)).toNat := ⟨_, rfl⟩
   rw [← ha, ← hb] at hj
   refine cmpI_scale (p := 2 ^ a) (q := 2 ^ (b + g)) (two_pow_pos _) (two_pow_pos _) ?_ ?_
   · rw [hab, pw2 _ (show t + a + 1 = (b + g) + 0 by omega)]; simp
   · rw [Nat.mul_assoc, Nat.mul_comm (2 ^ g), ← Nat.mul_assoc, hj, Nat.mul_one, Nat.pow_add, Nat.mul_assoc]
  obtain ⟨c, h1, h2⟩ := fcode_spec (decide (M < 0)) hmp e false mode (cxQ_cx M.natAbs (two_pow_pos g)) hcut (fun h => by cases h)
  exact ⟨c, h1, by unfold frnd; rw [h2]⟩
theorem qsh_ge {a b : Int} (h : b ≠ 0) (ha : a ≠ 0) : 58 ≤ blen (a.natAbs * 2 ^ qsh a b 56 / b.natAbs) := by
 have ha' : 0 < a.natAbs := by omega
 have hb' : 0 < b.natAbs := by omega
 have h1 := blen_mul_pow ha' (qsh a b 56)
 have h2 := blen_le_self (show 0 < a.natAbs * 2 ^ qsh a b 56 from Nat.mul_pos ha' (two_pow_pos _))
 have h3 := lt_blen b.natAbs
 have h4 : blen a.natAbs + qsh a b 56 ≥ 59 + blen b.natAbs := by unfold qsh; omega
 refine le_blen ((Nat.le_div_iff_mul_le hb').2 ?_)
 rw [h1] at h2
 refine Nat.le_trans ?_ h2
 refine Nat.le_trans (Nat.mul_le_mul_left _ (Nat.le_of_lt h3)) ?_
 rw [← Nat.pow_add]
 exact Nat.pow_le_pow_right (by decide) (by omega)
theorem fM_fover (s : Bool) (mode : Int) : fS (fover s mode) = s ∧ (fM (fover s mode) = fMax ∨ fM (fover s mode) = fInf) := by
 unfold fover
 split
 · exact ⟨fS_fsgn (by decide), Or.inl (fM_fsgn (by decide))⟩
 · exact ⟨fS_fsgn (by decide), Or.inr (fM_fsgn (by decide))⟩
theorem fcut_S (s : Bool) (c : Nat) (mode : Int) : fS (fcut s c mode) = s := by
 unfold fcut
 split
 · exact (fM_fover s mode).1
 · rename_i h; exact fS_fsgn (by unfold fInf at h; omega)
theorem fcut_small {s : Bool} {c : Nat} {mode : Int} (h : c < 9218868437227405312) : fcut s c mode = fsgn s c := by
 unfold fcut; rw [if_neg (by unfold fInf; omega)]
theorem fcut_M_small {s : Bool} {c : Nat} {mode : Int} (h : c < 9218868437227405312) : fM (fcut s c mode) = c := by
 rw [fcut_small h]; exact fM_fsgn (by omega)
theorem fcut_M_le (s : Bool) (c : Nat) (mode : Int) : fM (fcut s c mode) ≤ 9218868437227405312 := by
 by_cases h : c < 9218868437227405312
 · rw [fcut_M_small h]; omega
 · have := (fM_fover s mode).2
   unfold fcut; rw [if_pos (by unfold fInf; omega)]
   unfold fMax fInf at this; omega
theorem fcut_nan (s : Bool) (c : Nat) (mode : Int) : fnan (fcut s c mode) = false := by
 have := fcut_M_le s c mode
 unfold fnan; exact decide_eq_false (by omega)
theorem fcut_lt (s : Bool) (c : Nat) (mode : Int) : fcut s c mode < 18446744073709551616 := by
 unfold fcut fover
 split
 · split <;> exact fsgn_lt (by decide)
 · rename_i h; exact fsgn_lt (by unfold fInf at h; omega)
theorem fcut_mono (s : Bool) {c d : Nat} (mode : Int) (h : c ≤ d) : fM (fcut s c mode) ≤ fM (fcut s d mode) := by
 by_cases h1 : d < 9218868437227405312
 · rw [fcut_M_small h1, fcut_M_small (by omega)]; exact h
 · by_cases h2 : c < 9218868437227405312
   · have := (fM_fover s mode).2
     rw [fcut_M_small h2]
     unfold fcut; rw [if_pos (by unfold fInf; omega)]
     unfold fMax fInf at this; omega
   · unfold fcut; rw [if_pos (by unfold fInf; omega), if_pos (by unfold fInf; omega)]; exact Nat.le_refl _
theorem code_mono {cx cx' : Nat → Int} (hc' : Cx cx') (hle : ∀ j, cx j ≤ cx' j) {c c' : Nat} (h : IsLo cx c) (h' : IsLo cx' c') (s : Bool) (mode : Int) :
 (c + if awx s c cx mode then 1 else 0) ≤ (c' + if awx s c' cx' mode then 1 else 0) := by
 have h1 : c ≤ c' := by
  by_cases h2 : c ≤ c'
  · exact h2
  · have h3 : fzN (c' + 1) ≤ fzN c := fzN_le_iff.2 (by omega)
    have h4 := h.1; have h5 := hle (2 * fzN c); have h6 := h'.2
    rcases Nat.lt_or_eq_of_le h3 with h7 | h7
    · have := hc'.strict (2 * fzN (c' + 1)) (2 * fzN c) (by omega) (by omega); omega
    · rw [h7] at h6; omega
 rcases Nat.lt_or_eq_of_le h1 with h2 | h2
 · split <;> split <;> omega
 · subst h2
   have e1 := hle (2 * fzN c); have e2 := hle (fzN c + fzN (c + 1))
   have k1 := h.1; have k1' := h'.1
   have hi : awx s c cx mode = true → awx s c cx' mode = true := by
    unfold awx
    by_cases z : cx (2 * fzN c) = 0
    · rw [if_pos z]; intro h; cases h
    · have z' : ¬ cx' (2 * fzN c) = 0 := by omega
      rw [if_neg z, if_neg z']
      by_cases m1 : mode = 1
      · simp [m1]
      · by_cases m2 : mode = 2
        · simp [m2]
        · by_cases m3 : mode = 3
          · simp [m3]
          · simp only [m1, m2, m3, if_false, Bool.or_eq_true, Bool.and_eq_true, decide_eq_true_eq]
            omega
   cases ha : awx s c cx mode with
   | false => simp
   | true => rw [hi ha]; simp
theorem fplace_eq (f : Nat) : fplace f = if fS f then -(fM f : Int) else (fM f : Int) := by unfold fplace sgn; cases fS f <;> rfl
theorem fround_zero (e mode : Int) : fround (nrm 0 e) mode = 0 := by rw [nrm_zero]; rfl
theorem cxQ_le {A A' : Nat} (D : Nat) (h : A ≤ A') (j : Nat) : cxQ A D j ≤ cxQ A' D j := by
 unfold cxQ cmpI; split <;> split <;> (try split) <;> (try split) <;> omega
theorem fround_place (M : Int) (g : Nat) (mode : Int) (h : nrm M (-1074 - (g : Int)) ≠ none) :
 fnan (fround (nrm M (-1074 - (g : Int))) mode) = false ∧ (0 ≤ M → 0 ≤ fplace (fround (nrm M (-1074 - (g : Int))) mode)) ∧ (M ≤ 0 → fplace (fround (nrm M (-1074 - (g : Int))) mode) ≤ 0) := by
 by_cases h0 : M = 0
 · subst h0; rw [fround_zero]; decide
 · obtain ⟨c, h1, h2⟩ := fround_grid M g mode h0 h
   rw [h2]
   refine ⟨fcut_nan _ _ _, ?_, ?_⟩
   · intro h3; rw [fplace_eq, fcut_S, show decide (M < 0) = false by simp; omega]; simp
   · intro h3; rw [fplace_eq, fcut_S, show decide (M < 0) = true by simp; omega]; simp
theorem fround_mono (M N : Int) (g : Nat) (mode : Int) (hM : nrm M (-1074 - (g : Int)) ≠ none) (hN : nrm N (-1074 - (g : Int)) ≠ none) (h : M ≤ N) :
 fplace (fround (nrm M (-1074 - (g : Int))) mode) ≤ fplace (fround (nrm N (-1074 - (g : Int))) mode) := by
 have p1 := fround_place M g mode hM
 have p2 := fround_place N g mode hN
 by_cases h1 : M ≤ 0 ∧ 0 ≤ N
 · have := p1.2.2 h1.1; have := p2.2.1 h1.2; omega
 · have hM0 : M ≠ 0 := by omega
   have hN0 : N ≠ 0 := by omega
   obtain ⟨c, k1, k2⟩ := fround_grid M g mode hM0 hM
   obtain ⟨d, l1, l2⟩ := fround_grid N g mode hN0 hN
   rw [k2, l2, fplace_eq, fplace_eq, fcut_S, fcut_S]
   by_cases hs : M < 0
   · have e1 : decide (M < 0) = true := by simpa using hs
     have e2 : decide (N < 0) = true := by simp; omega
     rw [e1, e2]
     have := fcut_mono true mode (code_mono (cx := cxQ N.natAbs (2 ^ g)) (cx' := cxQ M.natAbs (2 ^ g)) (cxQ_cx M.natAbs (two_pow_pos g)) (fun j => cxQ_le (A := N.natAbs) (A' := M.natAbs) (2 ^ g) (by omega) j) l1 k1 true mode)
     simp only [if_true]; omega
   · have e1 : decide (M < 0) = false := by simpa using hs
     have e2 : decide (N < 0) = false := by simp; omega
     rw [e1, e2]
     have := fcut_mono false mode (code_mono (cx := cxQ M.natAbs (2 ^ g)) (cx' := cxQ N.natAbs (2 ^ g)) (cxQ_cx N.natAbs (two_pow_pos g)) (fun j => cxQ_le (A := M.natAbs) (A' := N.natAbs) (2 ^ g) (by omega) j) k1 l1 false mode)
     simp only [Bool.false_eq_true, if_false]; omega
theorem g0 : (-1074 : Int) = -1074 - ((0 : Nat) : Int) := by decide
theorem fround_exact {M : Int} {c : Nat} (h0 : M ≠ 0) (h : M.natAbs = fzN c) (hc : c < 9218868437227405312) (mode : Int) : fround (nrm M (-1074)) mode = fsgn (decide (M < 0)) c := by
 have hn : nrm M (-1074 - ((0 : Nat) : Int)) ≠ none := by
  rw [← g0]; exact nrm_valid (by omega) (by rw [h]; have := blen_fzN hc; omega)
 obtain ⟨d, k1, k2⟩ := fround_grid M 0 mode h0 hn
 rw [← g0] at k2
 have hz : cxQ M.natAbs (2 ^ 0) (2 * fzN c) = 0 := by unfold cxQ; rw [h]; exact cmpI_eq0.2 (by simp)
 have hlt := fzN_lt_succ c
 have h1 : cxQ M.natAbs (2 ^ 0) (2 * fzN (c + 1)) = -1 := by unfold cxQ; rw [h]; exact cmpI_m1.2 (by simp; omega)
 have hdc : d = c := IsLo.uniq (cxQ_cx _ (two_pow_pos 0)) k1 ⟨by omega, h1⟩
 subst hdc
 have ha : awx (decide (M < 0)) d (cxQ M.natAbs (2 ^ 0)) mode = false := by unfold awx; rw [if_pos hz]
 rw [k2, ha]
 exact fcut_small hc
theorem fof_fsgn {s : Bool} {c : Nat} (h : c < 9218868437227405312) : ffin (fsgn s c) = true ∧ fz (fsgn s c) = sgn s (fzN c) := by
 have h1 : fM (fsgn s c) = c := fM_fsgn (by omega)
 have h2 : fS (fsgn s c) = s := fS_fsgn (by omega)
 refine ⟨by unfold ffin; rw [h1]; simpa using h, by unfold fz; rw [h1, h2]⟩
theorem fin_not {f : Nat} (h : ffin f = true) : fnan f = false ∧ finf f = false := by
 have hlt : fM f < 9218868437227405312 := by unfold ffin at h; simpa using h
 exact ⟨by unfold fnan; simp; omega, by unfold finf; simp; omega⟩
theorem g3 : (-3000 : Int) = -1074 - ((1926 : Nat) : Int) := by decide
theorem dbad_nn {d : Option (Int × Int)} : dbad d = false ↔ d ≠ none := by cases d <;> simp [dbad]
theorem ofNat_le {x y : Nat} (h : x ≤ y) : cmpI (x : Int) (y : Int) ≤ 0 := cmpI_le.2 (by omega)
theorem and_m11 (n : Int) : Go.bits .and .u64 n 2047 = n % 2048 := by
 have h1 : (BitVec.ofInt 64 2047).toNat = 2047 := by decide
 have h2 : (BitVec.ofInt 64 n).toNat = (n % 18446744073709551616).toNat := by simp [BitVec.toNat_ofInt]
 have h3 : (n % 18446744073709551616).toNat &&& 2047 = (n % 18446744073709551616).toNat % 2048 := Nat.and_two_pow_sub_one_eq_mod _ 11
 show IntKind.u64.wrap ((BitVec.ofInt 64 n &&& BitVec.ofInt 64 2047).toNat : Int) = _
 rw [BitVec.toNat_and, h1, h2, h3, IntKind.wrap_u64]
 omega
theorem and_m52 (n : Int) : Go.bits .and .u64 n 4503599627370495 = n % 4503599627370496 := by
 have h1 : (BitVec.ofInt 64 4503599627370495).toNat = 4503599627370495 := by decide
 have h2 : (BitVec.ofInt 64 n).toNat = (n % 18446744073709551616).toNat := by simp [BitVec.toNat_ofInt]
 have h3 : (n % 18446744073709551616).toNat &&& 4503599627370495 = (n % 18446744073709551616).toNat % 4503599627370496 := Nat.and_two_pow_sub_one_eq_mod _ 52
 show IntKind.u64.wrap ((BitVec.ofInt 64 n &&& BitVec.ofInt 64 4503599627370495).toNat : Int) = _
 rw [BitVec.toNat_and, h1, h2, h3, IntKind.wrap_u64]
 omega
theorem bits_E (f : Nat) : Go.bits .and .u64 ((f : Int) / 4503599627370496) 2047 = ((fE f : Nat) : Int) := by rw [and_m11]; unfold fE; omega
theorem bits_R (f : Nat) : Go.bits .and .u64 (f : Int) 4503599627370495 = ((fR f : Nat) : Int) := by rw [and_m52]; unfold fR; omega
theorem nat_hi (f : Nat) (h : f < 18446744073709551616) : f &&& 9223372036854775808 = if fS f then 9223372036854775808 else 0 := by
 have e : (9223372036854775808 : Nat) = 2 ^ 63 := by decide
 by_cases hs : 9223372036854775808 ≤ f
 · have hS : fS f = true := by unfold fS; simpa using hs
   rw [hS, if_pos rfl, e]
   obtain ⟨g, rfl⟩ : ∃ g, f = 2 ^ 63 + g := ⟨f - 2 ^ 63, by omega⟩
   apply Nat.eq_of_testBit_eq
   intro i
   rw [Nat.testBit_and, Nat.testBit_two_pow]
   by_cases hi : 63 = i
   · subst hi; rw [Nat.testBit_two_pow_add_eq, Nat.testBit_lt_two_pow (show g < 2 ^ 63 by omega)]; rfl
   · simp [hi]
 · have hS : fS f = false := by unfold fS; simpa using hs
   rw [hS, if_neg (by decide), e]
   apply Nat.eq_of_testBit_eq
   intro i
   rw [Nat.testBit_and, Nat.testBit_two_pow, Nat.zero_testBit]
   by_cases hi : 63 = i
   · subst hi; rw [Nat.testBit_lt_two_pow (show f < 2 ^ 63 by omega)]; rfl
   · simp [hi]
theorem bits_sign {f : Nat} (h : f < 18446744073709551616) : Go.bits .and .u64 (f : Int) 9223372036854775808 = if fS f then 9223372036854775808 else 0 := by
 have := u64_and_nat f 9223372036854775808 h (by decide)
 rw [nat_hi f h] at this
 cases hs : fS f <;> (rw [hs] at this; exact this)
theorem bits_or_sign {c : Nat} (h : c < 9223372036854775808) : Go.bits .or .u64 (c : Int) 9223372036854775808 = ((fsgn true c : Nat) : Int) := by
 have h1 := u64_or_nat c 9223372036854775808 (by omega) (by decide)
 have h2 : c ||| 9223372036854775808 = c + 9223372036854775808 := by
  have := or_add (p := 63) (z := c) (u := 9223372036854775808) h ⟨1, rfl⟩
  exact this
 rw [h2] at h1
 exact h1
theorem bits_code {E m : Nat} (hE : E < 2048) (hm : m < 4503599627370496) : Go.bits .or .u64 ((E : Int) * 4503599627370496) (m : Int) = ((E * 4503599627370496 + m : Nat) : Int) := by
 have e : (E : Int) * 4503599627370496 = ((4503599627370496 * E : Nat) : Int) := by omega
 rw [e, u64_or_nat _ _ (by omega) (by omega), Nat.or_comm, or_add (p := 52) hm ⟨E, rfl⟩]
 congr 1; omega
theorem bits_hidden {m : Nat} (hm : m < 4503599627370496) : Go.bits .or .u64 (m : Int) 4503599627370496 = ((m + 4503599627370496 : Nat) : Int) := by
 have h1 := u64_or_nat m 4503599627370496 (by omega) (by decide)
 have h2 : m ||| 4503599627370496 = m + 4503599627370496 := or_add (p := 52) (z := m) (u := 4503599627370496) hm ⟨1, rfl⟩
 rw [h2] at h1
 exact h1
theorem blen_div_eq {x c : Nat} (h : 0 < blen (x / 2 ^ c)) : blen x = blen (x / 2 ^ c) + c := by
 have h1 := blen_div_pow x c
 have h2 : x < 2 ^ (blen (x / 2 ^ c) + c) := by
  rw [Nat.pow_add]
  exact (Nat.div_lt_iff_lt_mul (Nat.pow_pos (by decide))).1 (lt_blen (x / 2 ^ c))
 have h3 := blen_le h2
 generalize blen (x / 2 ^ c) = b at *
 generalize blen x = y at *
 omega
def cxX (X : Nat) (more : Bool) (k j : Nat) : Int := if X < j * 2 ^ (k - 1) then -1 else if X = j * 2 ^ (k - 1) then (if more then 1 else 0) else 1
def awc (s : Bool) (n : Nat) (cx : Nat → Int) (mode : Int) : Bool :=
 if cx (2 * n) = 0 then false else if mode = 1 then s else if mode = 2 then !s else if mode = 3 then false else decide (0 < cx (2 * n + 1)) || (decide (cx (2 * n + 1) = 0) && decide (n % 2 = 1))
theorem half_pow {k : Nat} (hk : 1 ≤ k) : 2 * 2 ^ (k - 1) = 2 ^ k := by
 obtain ⟨j, rfl⟩ : ∃ j, k = j + 1 := ⟨k - 1, by omega⟩
 rw [Nat.add_sub_cancel, Nat.pow_succ, Nat.mul_comm]
theorem two_halves {k : Nat} (hk : 1 ≤ k) (n : Nat) : 2 * n * 2 ^ (k - 1) = n * 2 ^ k := by
 rw [← half_pow hk]; ac_rfl
theorem raw_cx (s : Bool) (X : Nat) (more : Bool) {k : Nat} (hk : 1 ≤ k) (mode : Int) :
 raw s (X / 2 ^ k) (rcm X more k) (rex X more k) mode = awc s (X / 2 ^ k) (cxX X more k) mode := by
 have hd := Nat.div_add_mod X (2 ^ k)
 have hm := Nat.mod_lt X (Nat.pow_pos (n := k) (show 0 < 2 by decide))
 have hh := half_pow hk
 have e0 : 2 * (X / 2 ^ k) * 2 ^ (k - 1) = 2 ^ k * (X / 2 ^ k) := by rw [two_halves hk, Nat.mul_comm]
 have e1 : (2 * (X / 2 ^ k) + 1) * 2 ^ (k - 1) = 2 ^ k * (X / 2 ^ k) + 2 ^ (k - 1) := by rw [Nat.add_mul, e0, Nat.one_mul]
 have c0 : cxX X more k (2 * (X / 2 ^ k)) = 0 ↔ rex X more k = true := by
  unfold cxX rex
  rw [e0]
  cases more
  · simp only [Bool.not_false, Bool.and_true, decide_eq_true_eq]
    constructor
    · intro h; split at h
      · cases h
      · split at h
        · omega
        · cases h
    · intro h; rw [if_neg (by omega), if_pos (by omega)]; rfl
  · simp only [Bool.not_true, Bool.and_false, Bool.false_eq_true, iff_false]
    intro h; split at h
    · cases h
    · split at h <;> cases h
 have c1 : cxX X more k (2 * (X / 2 ^ k) + 1) = rcm X more k := by
  unfold cxX rcm
  rw [e1]
  rcases Nat.lt_trichotomy (X % 2 ^ k) (2 ^ (k - 1)) with h | h | h
  · have : cmpI ((X % 2 ^ k : Nat) : Int) ((2 ^ (k - 1) : Nat) : Int) = -1 := cmpI_lt (by omega)
    rw [this, if_pos (by omega), if_neg (by simp)]
  · have : cmpI ((X % 2 ^ k : Nat) : Int) ((2 ^ (k - 1) : Nat) : Int) = 0 := cmpI_eq (by omega)
    rw [this, if_neg (by omega), if_pos (by omega)]
    cases more <;> simp
  · have : cmpI ((X % 2 ^ k : Nat) : Int) ((2 ^ (k - 1) : Nat) : Int) = 1 := cmpI_gt (by omega)
    rw [this, if_neg (by omega), if_neg (by omega), if_neg (by simp)]
 unfold raw awc
 rw [c1]
 by_cases h : rex X more k = true
 · rw [if_pos h, if_pos (c0.2 h)]
 · rw [if_neg h, if_neg (fun h1 => h (c0.1 h1))]
theorem cx_lo (X : Nat) (more : Bool) {k : Nat} (hk : 1 ≤ k) : 0 ≤ cxX X more k (2 * (X / 2 ^ k)) ∧ cxX X more k (2 * (X / 2 ^ k + 1)) = -1 := by
 have hd := Nat.div_add_mod X (2 ^ k)
 have hm := Nat.mod_lt X (Nat.pow_pos (n := k) (show 0 < 2 by decide))
 unfold cxX
 rw [two_halves hk, two_halves hk, Nat.add_mul, Nat.one_mul, Nat.mul_comm]
 refine ⟨?_, by rw [if_pos (by omega)]⟩
 rw [if_neg (by omega)]
 split
 · cases more <;> decide
 · decide
theorem cx_anti {X : Nat} {more : Bool} {k i j : Nat} (h : i ≤ j) (hj : 0 ≤ cxX X more k j) : 0 ≤ cxX X more k i := by
 have hm : i * 2 ^ (k - 1) ≤ j * 2 ^ (k - 1) := Nat.mul_le_mul_right _ h
 unfold cxX at *
 split at hj
 · exact absurd hj (by decide)
 · rw [if_neg (by omega)]
   split
   · cases more <;> decide
   · decide
theorem mag_indep (s : Bool) {X X' : Nat} {more more' : Bool} {k k' : Nat} (hk : 1 ≤ k) (hk' : 1 ≤ k') (h : ∀ j, cxX X more k j = cxX X' more' k' j) (mode : Int) :
 X / 2 ^ k + (if raw s (X / 2 ^ k) (rcm X more k) (rex X more k) mode then 1 else 0) = X' / 2 ^ k' + (if raw s (X' / 2 ^ k') (rcm X' more' k') (rex X' more' k') mode then 1 else 0) := by
 have hc : cxX X more k = cxX X' more' k' := funext h
 rw [raw_cx s X more hk, raw_cx s X' more' hk', hc]
 have l1 := cx_lo X more hk
 have l2 := cx_lo X' more' hk'
 rw [hc] at l1
 have hn : X / 2 ^ k = X' / 2 ^ k' := by
  rcases Nat.lt_trichotomy (X / 2 ^ k) (X' / 2 ^ k') with h1 | h1 | h1
  · have := cx_anti (i := 2 * (X / 2 ^ k + 1)) (by omega) l2.1; omega
  · exact h1
  · have := cx_anti (i := 2 * (X' / 2 ^ k' + 1)) (by omega) l1.1; omega
 rw [hn]
theorem rmag_cut (s : Bool) (X : Nat) (E : Int) (more : Bool) (q : Int) (k : Nat) (hk : 1 ≤ k) (hq : q = E + k) (mode : Int) :
 rmag s X E more q mode = X / 2 ^ k + if raw s (X / 2 ^ k) (rcm X more k) (rex X more k) mode then 1 else 0 := by
 have e : (q - E).toNat = k := by omega
 have h1 : ¬ q ≤ E := by omega
 unfold rmag rax rdn
 simp only [if_neg h1, e]
theorem cxX_quo {P Q X : Nat} {more : Bool} (hQ : 0 < Q) (hX : X = P / Q) (hm : more = decide (P % Q ≠ 0)) (k j : Nat) :
 cxX X more k j = cmpI (P : Int) ((j * 2 ^ (k - 1) * Q : Nat) : Int) := (cmp3 hQ hX hm).symm
theorem quo_grow {A B k i : Nat} : A * 2 ^ (k + i) / B / 2 ^ i = A * 2 ^ k / B := by
 rw [Nat.pow_add, ← Nat.mul_assoc, Nat.div_div_eq_div_mul, Nat.mul_div_mul_right _ _ (Nat.pow_pos (by decide))]
theorem isq_uniq {M t : Nat} (h1 : t * t ≤ M) (h2 : M < (t + 1) * (t + 1)) : isq M = t := by
 have k1 := isq_le M
 have k2 := isq_lt M
 rcases Nat.lt_trichotomy (isq M) t with h | h | h
 · have := sq_le (show isq M + 1 ≤ t by omega); omega
 · exact h
 · have := sq_le (show t + 1 ≤ isq M by omega); omega
theorem cxX_root {M : Nat} (k j : Nat) : cxX (isq M) (decide (isq M * isq M ≠ M)) k j = cmpI (M : Int) ((j * 2 ^ (k - 1) * (j * 2 ^ (k - 1)) : Nat) : Int) := by
 have k1 := isq_le M
 have k2 := isq_lt M
 unfold cxX
 generalize j * 2 ^ (k - 1) = Y
 rcases Nat.lt_trichotomy (isq M) Y with h | h | h
 · have := sq_le (show isq M + 1 ≤ Y by omega)
   rw [if_pos h, cmpI_lt (by omega)]
 · subst h
   rw [if_neg (by omega), if_pos rfl]
   by_cases he : isq M * isq M = M
   · rw [cmpI_eq (by omega)]; simp [he]
   · rw [cmpI_gt (by omega)]; simp [he]
 · have := sq_lt h
   rw [if_neg (by omega), if_neg (by omega), cmpI_gt (by omega)]
theorem isq_grow (M i : Nat) : isq (M * 2 ^ (2 * i)) / 2 ^ i = isq M := by
 have k1 := isq_le (M * 2 ^ (2 * i))
 have k2 := isq_lt (M * 2 ^ (2 * i))
 have hp : 0 < 2 ^ i := Nat.pow_pos (by decide)
 have e : 2 ^ (2 * i) = 2 ^ i * 2 ^ i := by rw [← Nat.pow_add]; congr 1; omega
 rw [e] at k1 k2 ⊢
 have hd := Nat.div_add_mod (isq (M * (2 ^ i * 2 ^ i))) (2 ^ i)
 have hm := Nat.mod_lt (isq (M * (2 ^ i * 2 ^ i))) hp
 generalize isq (M * (2 ^ i * 2 ^ i)) = r at *
 generalize 2 ^ i = D at *
 refine (isq_uniq ?_ ?_).symm
 · refine Nat.le_of_mul_le_mul_right (c := D * D) ?_ (Nat.mul_pos hp hp)
   refine Nat.le_trans ?_ k1
   have := sq_le (show D * (r / D) ≤ r by omega)
   refine Nat.le_trans (Nat.le_of_eq ?_) this
   ac_rfl
 · refine Nat.lt_of_mul_lt_mul_right (a := D * D) ?_
   refine Nat.lt_of_lt_of_le k2 ?_
   have h3 : r + 1 ≤ D * (r / D + 1) := by rw [Nat.mul_add, Nat.mul_one]; omega
   have := sq_le h3
   refine Nat.le_trans this (Nat.le_of_eq ?_)
   ac_rfl
theorem frnd_indep (s : Bool) {X X' : Nat} {E E' : Int} {more more' : Bool} (mode : Int) (hb : 53 < blen X) (hb' : 53 < blen X') (hq : E + blen X = E' + blen X')
 (h : ∀ k k' j : Nat, 1 ≤ k → 1 ≤ k' → E + (k : Int) = E' + (k' : Int) → cxX X more k j = cxX X' more' k' j) : frnd s X E more mode = frnd s X' E' more' mode := by
 have hr : rlg X E = rlg X' E' := by unfold rlg; omega
 obtain ⟨q, hqq⟩ : ∃ q, q = max (rlg X' E' - 52) (-1074) := ⟨_, rfl⟩
 have h1 : E + 1 ≤ q := by rw [hqq, ← hr]; unfold rlg; omega
 have h2 : E' + 1 ≤ q := by rw [hqq]; unfold rlg; omega
 have k1 : 1 ≤ (q - E).toNat := by omega
 have k2 : 1 ≤ (q - E').toNat := by omega
 have k3 : q = E + ((q - E).toNat : Int) := by omega
 have k4 : q = E' + ((q - E').toNat : Int) := by omega
 unfold frnd fcode
 rw [hr, ← hqq, rmag_cut s X E more q (q - E).toNat k1 k3 mode, rmag_cut s X' E' more' q (q - E').toNat k2 k4 mode,
  mag_indep s k1 k2 (fun j => h _ _ j k1 k2 (by omega)) mode]
theorem fquo_step (s : Bool) {A B k i : Nat} (E : Int) (mode : Int) (hB : 0 < B) (hb : 53 < blen (A * 2 ^ k / B)) :
 frnd s (A * 2 ^ (k + i) / B) (E - ((k + i : Nat) : Int)) (decide (A * 2 ^ (k + i) % B ≠ 0)) mode = frnd s (A * 2 ^ k / B) (E - (k : Nat)) (decide (A * 2 ^ k % B ≠ 0)) mode := by
 have hg := @quo_grow A B k i
 have hl1 : blen (A * 2 ^ (k + i) / B) = blen (A * 2 ^ k / B) + i := by
  have hl := @blen_div_eq (A * 2 ^ (k + i) / B) i
  rw [hg] at hl; exact hl (by omega)
 refine frnd_indep s mode (by rw [hl1]; omega) hb (by rw [hl1]; omega) fun a b j ha hb2 hab => ?_
 rw [cxX_quo hB rfl rfl, cxX_quo hB rfl rfl]
 refine cmpI_scale (p := 1) (q := 2 ^ i) (by decide) (Nat.pow_pos (by decide)) ?_ ?_
 · rw [Nat.mul_one, Nat.pow_add, Nat.mul_assoc]
 · have e : a - 1 = (b - 1) + i := by omega
   rw [e, Nat.pow_add]; simp only [Nat.mul_one]; ac_rfl
theorem fquo_indep (s : Bool) {A B k k' : Nat} (E : Int) (mode : Int) (hB : 0 < B) (hb : 53 < blen (A * 2 ^ k / B)) (hb' : 53 < blen (A * 2 ^ k' / B)) :
 frnd s (A * 2 ^ k / B) (E - (k : Nat)) (decide (A * 2 ^ k % B ≠ 0)) mode = frnd s (A * 2 ^ k' / B) (E - (k' : Nat)) (decide (A * 2 ^ k' % B ≠ 0)) mode := by
 rcases Nat.le_total k k' with h | h
 · obtain ⟨i, rfl⟩ : ∃ i, k' = k + i := ⟨k' - k, by omega⟩
   exact (fquo_step s E mode hB hb).symm
 · obtain ⟨i, rfl⟩ : ∃ i, k = k' + i := ⟨k - k', by omega⟩
   exact fquo_step s E mode hB hb'
theorem froot_step (M i : Nat) (E : Int) (mode : Int) (hb : 53 < blen (isq M)) :
 frnd false (isq (M * 2 ^ (2 * i))) (E - (i : Nat)) (decide (isq (M * 2 ^ (2 * i)) * isq (M * 2 ^ (2 * i)) ≠ M * 2 ^ (2 * i))) mode = frnd false (isq M) E (decide (isq M * isq M ≠ M)) mode := by
 have hg := isq_grow M i
 have hl1 : blen (isq (M * 2 ^ (2 * i))) = blen (isq M) + i := by
  have hl := @blen_div_eq (isq (M * 2 ^ (2 * i))) i
  rw [hg] at hl; exact hl (by omega)
 refine frnd_indep false mode (by omega) hb (by omega) fun a b j ha hb2 hab => ?_
 rw [cxX_root, cxX_root]
 refine cmpI_scale (p := 1) (q := 2 ^ (2 * i)) (by decide) (Nat.pow_pos (by decide)) (by rw [Nat.mul_one]) ?_
 have e : a - 1 = (b - 1) + i := by omega
 have e2 : 2 ^ (2 * i) = 2 ^ i * 2 ^ i := by rw [← Nat.pow_add]; congr 1; omega
 rw [e, Nat.pow_add, e2]; simp only [Nat.mul_one]; ac_rfl
theorem froot_indep {m k k' : Nat} (e : Int) (mode : Int) (h1 : (e - (k : Nat)) % 2 = 0) (h2 : (e - (k' : Nat)) % 2 = 0) (hb : 53 < blen (isq (m * 2 ^ k))) (hb' : 53 < blen (isq (m * 2 ^ k'))) :
 frnd false (isq (m * 2 ^ k)) ((e - (k : Nat)) / 2) (decide (isq (m * 2 ^ k) * isq (m * 2 ^ k) ≠ m * 2 ^ k)) mode = frnd false (isq (m * 2 ^ k')) ((e - (k' : Nat)) / 2) (decide (isq (m * 2 ^ k') * isq (m * 2 ^ k') ≠ m * 2 ^ k')) mode := by
 have key : ∀ (a b : Nat), a ≤ b → (e - (a : Nat)) % 2 = 0 → (e - (b : Nat)) % 2 = 0 → 53 < blen (isq (m * 2 ^ a)) →
  frnd false (isq (m * 2 ^ b)) ((e - (b : Nat)) / 2) (decide (isq (m * 2 ^ b) * isq (m * 2 ^ b) ≠ m * 2 ^ b)) mode = frnd false (isq (m * 2 ^ a)) ((e - (a : Nat)) / 2) (decide (isq (m * 2 ^ a) * isq (m * 2 ^ a) ≠ m * 2 ^ a)) mode := by
  intro a b hab ha hb' hbl
  obtain ⟨i, rfl⟩ : ∃ i, b = a + 2 * i := ⟨(b - a) / 2, by omega⟩
  have h := froot_step (m * 2 ^ a) i ((e - (a : Nat)) / 2) mode hbl
  have e1 : m * 2 ^ (a + 2 * i) = m * 2 ^ a * 2 ^ (2 * i) := by rw [Nat.pow_add, Nat.mul_assoc]
  have e2 : (e - ((a + 2 * i : Nat) : Int)) / 2 = (e - (a : Nat)) / 2 - (i : Nat) := by omega
  rw [e1, e2]; exact h
 rcases Nat.le_total k k' with h | h
 · exact (key k k' h h1 h2 hb).symm
 · exact key k' k h h2 h1 hb'
end Go.Proofs.YtablcbgeeeboeaaGreatDoor
