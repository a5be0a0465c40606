/-
  Plain law: the quotients rounded down and up enclose the exact one. No program in sight.
  Plain laws: slim dyads form a ring; scaling, Log2, Floor; rounding; square roots. No program in sight.
-/
import Derived.Test.YtablcbgeeeboeaaGreatDoorZfBe
namespace Go.Proofs.YtablcbgeeeboeaaGreatDoor
open Go.RowKit Sp
theorem nrm_valid {m e : Int} (h1 : -65536 ≤ e) (h2 : e + blen m.natAbs ≤ 65536) : nrm m e ≠ none := by
 intro h; have := nrm_none.1 h; omega
theorem blen_mul_le (x y : Nat) : blen (x * y) ≤ blen x + blen y := by
 refine blen_le ?_
 rw [Nat.pow_add]
 exact Nat.mul_lt_mul'' (lt_blen x) (lt_blen y)
theorem blen_add_le (x y : Nat) : blen (x + y) ≤ max (blen x) (blen y) + 1 := by
 refine blen_le ?_
 rw [Nat.pow_succ]
 have h1 := Nat.lt_of_lt_of_le (lt_blen x) (Nat.pow_le_pow_right (n := 2) (by omega) (Nat.le_max_left (blen x) (blen y)))
 have h2 := Nat.lt_of_lt_of_le (lt_blen y) (Nat.pow_le_pow_right (n := 2) (by omega) (Nat.le_max_right (blen x) (blen y)))
 omega
theorem blen_div_pow (x c : Nat) : blen (x / 2 ^ c) ≤ blen x - c := by
 by_cases h : c ≤ blen x
 · refine blen_le ?_
   rw [Nat.div_lt_iff_lt_mul (Nat.pow_pos (by decide)), ← Nat.pow_add, show blen x - c + c = blen x by omega]
   exact lt_blen x
 · have : x / 2 ^ c = 0 := Nat.div_eq_of_lt (Nat.lt_of_lt_of_le (lt_blen x) (Nat.pow_le_pow_right (by decide) (by omega)))
   rw [this]; exact Nat.zero_le _
theorem sgn_true (x : Nat) : sgn true x = -(x : Int) := rfl
theorem sgn_false (x : Nat) : sgn false x = (x : Int) := rfl
theorem cmpI_le {m n : Int} : cmpI m n ≤ 0 ↔ m ≤ n := by unfold cmpI; split <;> (try split) <;> omega
theorem cmpI_eq0 {m n : Int} : cmpI m n = 0 ↔ m = n := by unfold cmpI; split <;> (try split) <;> omega
theorem bl_add (M N : Int) : blen (M + N).natAbs ≤ max (blen M.natAbs) (blen N.natAbs) + 1 :=
 Nat.le_trans (blen_mono (Int.natAbs_add_le M N)) (blen_add_le _ _)
theorem bl_mul (M N : Int) : blen (M * N).natAbs ≤ blen M.natAbs + blen N.natAbs := by
 rw [Int.natAbs_mul]; exact blen_mul_le _ _
theorem dneg_nrm (M E : Int) (h : nrm M E ≠ none) : dneg (nrm M E) = nrm (-M) E := by
 cases k : nrm M E with
 | none => exact absurd k h
 | some p =>
  obtain ⟨m, e⟩ := p
  show some (-m, e) = _
  by_cases h0 : M = 0
  · subst h0; rw [nrm_zero] at k; injection k with k; injection k with h1 h2; subst h1 h2; rfl
  · obtain ⟨t, ht, he, _⟩ := nrm_some h0 k
    rw [ht, ← Int.neg_mul, nrm_scale, ← he]
    exact (nrm_self (okd_neg (nrm_ok k))).symm
theorem isq_ex (x : Nat) : ∃ r, r * r ≤ x ∧ x < (r + 1) * (r + 1) := by
 induction x with
 | zero => exact ⟨0, by decide⟩
 | succ n ih =>
  obtain ⟨r, h1, h2⟩ := ih
  by_cases h : n + 1 < (r + 1) * (r + 1)
  · exact ⟨r, by omega, h⟩
  · refine ⟨r + 1, by omega, ?_⟩
    have h3 : (r + 1 + 1) * (r + 1 + 1) = (r + 1) * (r + 1) + 2 * r + 3 := by grind
    omega
noncomputable def isq (x : Nat) : Nat := Classical.choose (isq_ex x)
theorem isq_le (x : Nat) : isq x * isq x ≤ x := (Classical.choose_spec (isq_ex x)).1
theorem isq_lt (x : Nat) : x < (isq x + 1) * (isq x + 1) := (Classical.choose_spec (isq_ex x)).2
theorem sq_lt {a b : Nat} (h : a < b) : a * a < b * b := Nat.mul_self_lt_mul_self h
theorem sq_le {a b : Nat} (h : a ≤ b) : a * a ≤ b * b := Nat.mul_self_le_mul_self h
theorem isq_sq (k : Nat) : isq (k * k) = k := by
 have h1 := isq_le (k * k)
 have h2 := isq_lt (k * k)
 rcases Nat.lt_trichotomy (isq (k * k)) k with h | h | h
 · have := sq_le (show isq (k * k) + 1 ≤ k by omega); omega
 · exact h
 · have := sq_lt h; omega
def rsh (m e p : Int) : Nat :=
 if (e - (max 0 (2 * (p + 3) - blen m.natAbs)).toNat) % 2 ≠ 0 then (max 0 (2 * (p + 3) - blen m.natAbs)).toNat + 1 else (max 0 (2 * (p + 3) - blen m.natAbs)).toNat
theorem rsh_even (m e p : Int) : (e - rsh m e p) % 2 = 0 := by unfold rsh; split <;> omega
theorem rsh_ge (m e p : Int) : 2 * (p + 3) ≤ blen m.natAbs + rsh m e p := by unfold rsh; split <;> omega
theorem rsh_le (m e p : Int) (hp : 0 ≤ p) : (rsh m e p : Int) ≤ 2 * (p + 3) + 1 := by unfold rsh; split <;> omega
end Go.Proofs.YtablcbgeeeboeaaGreatDoor
namespace Go.Proofs.YtablcbgeeeboeaaGreatDoor
open Go.RowKit Sp
def fS (f : Nat) : Bool := decide (9223372036854775808 ≤ f)
def fM (f : Nat) : Nat := f % 9223372036854775808
def fE (f : Nat) : Nat := f / 4503599627370496 % 2048
def fR (f : Nat) : Nat := f % 4503599627370496
def fnan (f : Nat) : Bool := decide (9218868437227405312 < fM f)
def finf (f : Nat) : Bool := decide (fM f = 9218868437227405312)
def fzero (f : Nat) : Bool := decide (fM f = 0)
def ffin (f : Nat) : Bool := decide (fM f < 9218868437227405312)
def fNaN : Nat := 9221120237041090560
def fInf : Nat := 9218868437227405312
def fMax : Nat := 9218868437227405311
def fkind (f : Nat) : Int := if fnan f then 3 else if finf f then 2 else if fzero f then 0 else 1
def fsgn (s : Bool) (c : Nat) : Nat := if s then c + 9223372036854775808 else c
def fabs (f : Nat) : Nat := if fnan f then fNaN else fM f
theorem fM_lt (f : Nat) : fM f < 9223372036854775808 := Nat.mod_lt _ (by decide)
theorem fsgn_lt {s : Bool} {c : Nat} (h : c < 9223372036854775808) : fsgn s c < 18446744073709551616 := by unfold fsgn; split <;> omega
theorem fM_eq (f : Nat) : fM f = fE f * 4503599627370496 + fR f := by unfold fM fE fR; omega
theorem fR_lt (f : Nat) : fR f < 4503599627370496 := Nat.mod_lt _ (by decide)
theorem fE_lt (f : Nat) : fE f < 2048 := Nat.mod_lt _ (by decide)
theorem ffin_E (f : Nat) : ffin f = decide (fE f ≠ 2047) := by
 have := fM_eq f; have := fR_lt f; have := fE_lt f
 unfold ffin; exact decide_eq_decide.2 (by omega)
theorem fnan_E (f : Nat) : fnan f = decide (fE f = 2047 ∧ fR f ≠ 0) := by
 have := fM_eq f; have := fR_lt f; have := fE_lt f
 unfold fnan; exact decide_eq_decide.2 (by omega)
theorem finf_E (f : Nat) : finf f = decide (fE f = 2047 ∧ fR f = 0) := by
 have := fM_eq f; have := fR_lt f; have := fE_lt f
 unfold finf; exact decide_eq_decide.2 (by omega)
theorem fzero_E (f : Nat) : fzero f = decide (fE f = 0 ∧ fR f = 0) := by
 have := fM_eq f; have := fR_lt f; have := fE_lt f
 unfold fzero; exact decide_eq_decide.2 (by omega)
def fzN (c : Nat) : Nat := if c < 4503599627370496 then c else (c % 4503599627370496 + 4503599627370496) * 2 ^ (c / 4503599627370496 - 1)
def fz (f : Nat) : Int := sgn (fS f) (fzN (fM f))
def fof (f : Nat) : Option (Int × Int) := if ffin f then nrm (fz f) (-1074) else none
theorem fzN_code (k n : Nat) (hn : n ≤ 9007199254740992) (h : 4503599627370496 ≤ n ∨ k = 0) : fzN (k * 4503599627370496 + n) = n * 2 ^ k := by
 unfold fzN
 rcases Nat.lt_or_ge n 4503599627370496 with h1 | h1
 · have hk : k = 0 := by omega
   subst hk; simp; omega
 · rw [if_neg (by omega)]
   rcases Nat.lt_or_ge n 9007199254740992 with h2 | h2
   · have e1 : (k * 4503599627370496 + n) % 4503599627370496 = n - 4503599627370496 := by omega
     have e2 : (k * 4503599627370496 + n) / 4503599627370496 - 1 = k := by omega
     rw [e1, e2]; congr 1; omega
   · have hn2 : n = 9007199254740992 := by omega
     subst hn2
     have e1 : (k * 4503599627370496 + 9007199254740992) % 4503599627370496 = 0 := by omega
     have e2 : (k * 4503599627370496 + 9007199254740992) / 4503599627370496 - 1 = k + 1 := by omega
     rw [e1, e2, Nat.pow_succ]; omega
theorem code_split (c : Nat) : ∃ k n, c = k * 4503599627370496 + n ∧ n < 9007199254740992 ∧ (4503599627370496 ≤ n ∨ k = 0) := by
 by_cases h : c < 4503599627370496
 · exact ⟨0, c, by omega, by omega, Or.inr rfl⟩
 · exact ⟨c / 4503599627370496 - 1, c % 4503599627370496 + 4503599627370496, by omega, by omega, Or.inl (by omega)⟩
theorem fzN_succ {k n : Nat} (hn : n < 9007199254740992) (h : 4503599627370496 ≤ n ∨ k = 0) : fzN (k * 4503599627370496 + n + 1) = fzN (k * 4503599627370496 + n) + 2 ^ k := by
 rw [fzN_code k n (by omega) h, Nat.add_assoc, fzN_code k (n + 1) (by omega) (by omega), Nat.add_mul, Nat.one_mul]
theorem fzN_lt_succ (c : Nat) : fzN c < fzN (c + 1) := by
 obtain ⟨k, n, rfl, hn, h⟩ := code_split c
 rw [fzN_succ hn h]
 have := Nat.pow_pos (n := k) (show 0 < 2 by omega); omega
theorem fzN_add (c : Nat) : ∀ d, fzN c + d ≤ fzN (c + d)
 | 0 => Nat.le_refl _
 | d + 1 => by have := fzN_add c d; have := fzN_lt_succ (c + d); show _ ≤ fzN (c + d + 1); omega
theorem fzN_lt {a b : Nat} (h : a < b) : fzN a < fzN b := by
 have := fzN_add (a + 1) (b - (a + 1))
 rw [show a + 1 + (b - (a + 1)) = b by omega] at this
 have := fzN_lt_succ a; omega
theorem fzN_top : fzN 9218868437227405312 = 9007199254740992 * 2 ^ 2045 := by
 have := fzN_code 2045 9007199254740992 (by omega) (by omega)
 rwa [show 2045 * 4503599627370496 + 9007199254740992 = 9218868437227405312 by decide] at this
theorem p53 (k n : Nat) (h : 53 + k = n) : 9007199254740992 * 2 ^ k = 2 ^ n := by subst h; rw [Nat.pow_add]
theorem blen_fzN {c : Nat} (h : c < 9218868437227405312) : blen (fzN c) ≤ 2098 := by
 refine blen_le ?_
 have := fzN_lt h
 rw [fzN_top, p53 2045 2098 (by decide)] at this
 exact this
theorem fz_abs (f : Nat) : (fz f).natAbs = fzN (fM f) := by unfold fz sgn; cases fS f <;> simp
theorem blen_fz {f : Nat} (h : ffin f = true) : blen (fz f).natAbs ≤ 2098 := by
 rw [fz_abs]; exact blen_fzN (by unfold ffin at h; simpa using h)
theorem fof_some {f : Nat} (h : ffin f = true) : nrm (fz f) (-1074) ≠ none := nrm_valid (by omega) (by have := blen_fz h; omega)
theorem fof_fin {f : Nat} (h : ffin f = true) : fof f = nrm (fz f) (-1074) := by unfold fof; rw [if_pos h]
theorem fof_not {f : Nat} (h : ffin f = false) : fof f = none := by unfold fof; rw [if_neg (by rw [h]; decide)]
theorem isN_fof (f : Nat) : IsN (fof f) := by
 unfold fof; split
 · exact isN_nrm _ _
 · exact isN_none
theorem fz_parts (f : Nat) : nrm (fz f) (-1074) = nrm (sgn (fS f) (if fE f = 0 then fR f else fR f + 4503599627370496)) (if fE f = 0 then -1074 else (fE f : Int) - 1075) := by
 have h1 := fM_eq f
 have h2 := fR_lt f
 unfold fz
 by_cases h : fE f = 0
 · rw [if_pos h, if_pos h]
   congr 2
   rw [h1, h]; unfold fzN; rw [if_pos (by omega)]; omega
 · rw [if_neg h, if_neg h]
   have e1 : fzN (fM f) = (fR f + 4503599627370496) * 2 ^ (fE f - 1) := by
    have := fzN_code (fE f - 1) (fR f + 4503599627370496) (by omega) (by omega)
    rw [← this]; refine congrArg fzN ?_; rw [h1]
    obtain ⟨j, hj⟩ : ∃ j, fE f = j + 1 := ⟨fE f - 1, by omega⟩
    rw [hj, Nat.add_sub_cancel]; omega
   have e2 : sgn (fS f) (fzN (fM f)) = sgn (fS f) (fR f + 4503599627370496) * 2 ^ (fE f - 1) := by
    rw [e1]; unfold sgn; cases fS f <;> simp [Int.neg_mul]
   rw [e2, nrm_scale]; congr 1; omega
def fcode (s : Bool) (X : Nat) (E : Int) (more : Bool) (mode : Int) : Nat :=
 (max (rlg X E - 52) (-1074) + 1074).toNat * 4503599627370496 + rmag s X E more (max (rlg X E - 52) (-1074)) mode
def fover (s : Bool) (mode : Int) : Nat :=
 if mode = 3 ∨ mode = 1 ∧ s = false ∨ mode = 2 ∧ s = true then fsgn s fMax else fsgn s fInf
def fcut (s : Bool) (c : Nat) (mode : Int) : Nat := if fInf ≤ c then fover s mode else fsgn s c
def frnd (s : Bool) (X : Nat) (E : Int) (more : Bool) (mode : Int) : Nat := fcut s (fcode s X E more mode) mode
def fround (d : Option (Int × Int)) (mode : Int) : Nat :=
 match d with
 | none => fNaN
 | some (m, e) => if m = 0 then 0 else frnd (decide (m < 0)) m.natAbs e false mode
def fquo (d d' : Option (Int × Int)) (mode : Int) : Nat :=
 match d, d' with
 | some (a, e), some (b, f) =>
  if b = 0 then fNaN else if a = 0 then 0 else
  frnd (decide (a < 0) != decide (b < 0)) (a.natAbs * 2 ^ qsh a b 56 / b.natAbs) (e - qsh a b 56 - f) (decide (a.natAbs * 2 ^ qsh a b 56 % b.natAbs ≠ 0)) mode
 | _, _ => fNaN
noncomputable def froot (d : Option (Int × Int)) (mode : Int) : Nat :=
 match d with
 | none => fNaN
 | some (m, e) => if m < 0 then fNaN else if m = 0 then 0 else
  frnd false (isq (m.natAbs * 2 ^ rsh m e 56)) ((e - rsh m e 56) / 2) (decide (isq (m.natAbs * 2 ^ rsh m e 56) * isq (m.natAbs * 2 ^ rsh m e 56) ≠ m.natAbs * 2 ^ rsh m e 56)) mode
theorem rdn_place {X : Nat} (hX : 0 < X) (E : Int) (q : Int) (hq : q = max (rlg X E - 52) (-1074)) :
 rdn X E q < 9007199254740992 ∧ (4503599627370496 ≤ rdn X E q ∨ (q + 1074).toNat = 0) := by
 have hb := blen_pos hX
 have hlt := lt_blen X
 have hge := blen_le_self hX
 unfold rdn
 by_cases h : q ≤ E
 · rw [if_pos h]
   have h1 := blen_mul_pow hX (E - q).toNat
   have hx1 : 0 < X * 2 ^ (E - q).toNat := Nat.mul_pos hX (Nat.pow_pos (by decide))
   have h2 := lt_blen (X * 2 ^ (E - q).toNat)
   have h3 := blen_le_self hx1
   generalize hW : X * 2 ^ (E - q).toNat = V at h1 h2 h3 ⊢
   have hle : blen V ≤ 53 := by unfold rlg at hq; omega
   refine ⟨Nat.lt_of_lt_of_le h2 (Nat.le_trans (Nat.pow_le_pow_right (by decide) hle) (by decide)), ?_⟩
   by_cases hk : (q + 1074).toNat = 0
   · exact Or.inr hk
   · have he : blen V = 53 := by unfold rlg at hq; omega
     rw [he] at h3; exact Or.inl h3
 · rw [if_neg h]
   have h0 := blen_div_pow X (q - E).toNat
   have h2 := lt_blen (X / 2 ^ (q - E).toNat)
   have hle : blen (X / 2 ^ (q - E).toNat) ≤ 53 := by unfold rlg at hq; omega
   refine ⟨Nat.lt_of_lt_of_le h2 (Nat.le_trans (Nat.pow_le_pow_right (by decide) hle) (by decide)), ?_⟩
   by_cases hk : (q + 1074).toNat = 0
   · exact Or.inr hk
   · refine Or.inl ?_
     have he : blen X - 1 = 52 + (q - E).toNat := by unfold rlg at hq; omega
     rw [he, Nat.pow_add] at hge
     exact (Nat.le_div_iff_mul_le (Nat.pow_pos (by decide))).2 hge
theorem two_pow_pos (k : Nat) : 0 < 2 ^ k := Nat.pow_pos (by decide)
theorem qsh_ge {a b : Int} (h : b ≠ 0) (ha : a ≠ 0) : 58 ≤ blen (a.natAbs * 2 ^ qsh a b 56 / b.natAbs) := by
 have ha' : 0 < a.natAbs := by omega
 have hb' : 0 < b.natAbs := by omega
 have h1 := blen_mul_pow ha' (qsh a b 56)
 have h2 := blen_le_self (show 0 < a.natAbs * 2 ^ qsh a b 56 from Nat.mul_pos ha' (two_pow_pos _))
 have h3 := lt_blen b.natAbs
 have h4 : blen a.natAbs + qsh a b 56 ≥ 59 + blen b.natAbs := by unfold qsh; omega
 refine le_blen ((Nat.le_div_iff_mul_le hb').2 ?_)
 rw [h1] at h2
 refine Nat.le_trans ?_ h2
 refine Nat.le_trans (Nat.mul_le_mul_left _ (Nat.le_of_lt h3)) ?_
 rw [← Nat.pow_add]
 exact Nat.pow_le_pow_right (by decide) (by omega)
theorem fcut_lt (s : Bool) (c : Nat) (mode : Int) : fcut s c mode < 18446744073709551616 := by
 unfold fcut fover
 split
 · split <;> exact fsgn_lt (by decide)
 · rename_i h; exact fsgn_lt (by unfold fInf at h; omega)
theorem g0 : (-1074 : Int) = -1074 - ((0 : Nat) : Int) := by decide
theorem g3 : (-3000 : Int) = -1074 - ((1926 : Nat) : Int) := by decide
theorem fmul_val {a b : Nat} (ha : ffin a = true) (hb : ffin b = true) : dmul (fof a) (fof b) = nrm (fz a * fz b) (-2148) ∧ nrm (fz a * fz b) (-2148) ≠ none := by
 refine ⟨?_, nrm_valid (by omega) (by have := bl_mul (fz a) (fz b); have := blen_fz ha; have := blen_fz hb; omega)⟩
 rw [fof_fin ha, fof_fin hb]
 exact dmul_nrm _ _ _ _ (fof_some ha) (fof_some hb)
theorem dbad_nn {d : Option (Int × Int)} : dbad d = false ↔ d ≠ none := by cases d <;> simp [dbad]
theorem ofNat_le {x y : Nat} (h : x ≤ y) : cmpI (x : Int) (y : Int) ≤ 0 := cmpI_le.2 (by omega)
theorem and_m11 (n : Int) : Go.bits .and .u64 n 2047 = n % 2048 := by
 have h1 : (BitVec.ofInt 64 2047).toNat = 2047 := by decide
 have h2 : (BitVec.ofInt 64 n).toNat = (n % 18446744073709551616).toNat := by simp [BitVec.toNat_ofInt]
 have h3 : (n % 18446744073709551616).toNat &&& 2047 = (n % 18446744073709551616).toNat % 2048 := Nat.and_two_pow_sub_one_eq_mod _ 11
 show IntKind.u64.wrap ((BitVec.ofInt 64 n &&& BitVec.ofInt 64 2047).toNat : Int) = _
 rw [BitVec.toNat_and, h1, h2, h3, IntKind.wrap_u64]
 omega
theorem and_m52 (n : Int) : Go.bits .and .u64 n 4503599627370495 = n % 4503599627370496 := by
 have h1 : (BitVec.ofInt 64 4503599627370495).toNat = 4503599627370495 := by decide
 have h2 : (BitVec.ofInt 64 n).toNat = (n % 18446744073709551616).toNat := by simp [BitVec.toNat_ofInt]
 have h3 : (n % 18446744073709551616).toNat &&& 4503599627370495 = (n % 18446744073709551616).toNat % 4503599627370496 := Nat.and_two_pow_sub_one_eq_mod _ 52
 show IntKind.u64.wrap ((BitVec.ofInt 64 n &&& BitVec.ofInt 64 4503599627370495).toNat : Int) = _
 rw [BitVec.toNat_and, h1, h2, h3, IntKind.wrap_u64]
 omega
theorem bits_E (f : Nat) : Go.bits .and .u64 ((f : Int) / 4503599627370496) 2047 = ((fE f : Nat) : Int) := by rw [and_m11]; unfold fE; omega
theorem bits_R (f : Nat) : Go.bits .and .u64 (f : Int) 4503599627370495 = ((fR f : Nat) : Int) := by rw [and_m52]; unfold fR; omega
theorem nat_hi (f : Nat) (h : f < 18446744073709551616) : f &&& 9223372036854775808 = if fS f then 9223372036854775808 else 0 := by
 have e : (9223372036854775808 : Nat) = 2 ^ 63 := by decide
 by_cases hs : 9223372036854775808 ≤ f
 · have hS : fS f = true := by unfold fS; simpa using hs
   rw [hS, if_pos rfl, e]
   obtain ⟨g, rfl⟩ : ∃ g, f = 2 ^ 63 + g := ⟨f - 2 ^ 63, by omega⟩
   apply Nat.eq_of_testBit_eq
   intro i
   rw [Nat.testBit_and, Nat.testBit_two_pow]
   by_cases hi : 63 = i
   · subst hi; rw [Nat.testBit_two_pow_add_eq, Nat.testBit_lt_two_pow (show g < 2 ^ 63 by omega)]; rfl
   · simp [hi]
 · have hS : fS f = false := by unfold fS; simpa using hs
   rw [hS, if_neg (by decide), e]
   apply Nat.eq_of_testBit_eq
   intro i
   rw [Nat.testBit_and, Nat.testBit_two_pow, Nat.zero_testBit]
   by_cases hi : 63 = i
   · subst hi; rw [Nat.testBit_lt_two_pow (show f < 2 ^ 63 by omega)]; rfl
   · simp [hi]
theorem bits_sign {f : Nat} (h : f < 18446744073709551616) : Go.bits .and .u64 (f : Int) 9223372036854775808 = if fS f then 9223372036854775808 else 0 := by
 have := u64_and_nat f 9223372036854775808 h (by decide)
 rw [nat_hi f h] at this
 cases hs : fS f <;> (rw [hs] at this; exact this)
theorem bits_or_sign {c : Nat} (h : c < 9223372036854775808) : Go.bits .or .u64 (c : Int) 9223372036854775808 = ((fsgn true c : Nat) : Int) := by
 have h1 := u64_or_nat c 9223372036854775808 (by omega) (by decide)
 have h2 : c ||| 9223372036854775808 = c + 9223372036854775808 := by
  have := or_add (p := 63) (z := c) (u := 9223372036854775808) h ⟨1, rfl⟩
  exact this
 rw [h2] at h1
 exact h1
theorem bits_abs {f : Nat} (h : f < 18446744073709551616) : Go.bits .andNot .u64 (f : Int) 9223372036854775808 = ((fM f : Nat) : Int) := by
 have h1 := u64_andNot_nat f 9223372036854775808 h (by decide)
 refine Eq.trans h1 (congrArg _ ?_)
 exact Nat.and_two_pow_sub_one_eq_mod f 63
theorem bits_code {E m : Nat} (hE : E < 2048) (hm : m < 4503599627370496) : Go.bits .or .u64 ((E : Int) * 4503599627370496) (m : Int) = ((E * 4503599627370496 + m : Nat) : Int) := by
 have e : (E : Int) * 4503599627370496 = ((4503599627370496 * E : Nat) : Int) := by omega
 rw [e, u64_or_nat _ _ (by omega) (by omega), Nat.or_comm, or_add (p := 52) hm ⟨E, rfl⟩]
 congr 1; omega
theorem bits_hidden {m : Nat} (hm : m < 4503599627370496) : Go.bits .or .u64 (m : Int) 4503599627370496 = ((m + 4503599627370496 : Nat) : Int) := by
 have h1 := u64_or_nat m 4503599627370496 (by omega) (by decide)
 have h2 : m ||| 4503599627370496 = m + 4503599627370496 := or_add (p := 52) (z := m) (u := 4503599627370496) hm ⟨1, rfl⟩
 rw [h2] at h1
 exact h1
end Go.Proofs.YtablcbgeeeboeaaGreatDoor
