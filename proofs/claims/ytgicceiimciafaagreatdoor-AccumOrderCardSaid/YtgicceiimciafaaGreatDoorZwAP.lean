/-
  Plain law: exact sums of floats (the statements about accumulation). No program in sight.
  Plain law: roots of sums of squares; the rounding error of a sum (the statements about accumulation). No program in sight.
-/
import Derived.Test.YtgicceiimciafaaGreatDoorZwFP
import Derived.Test.YtgicceiimciafaaGreatDoorZwSU
namespace Go.Proofs.YtgicceiimciafaaGreatDoor
open Go.RowKit Sp
def sumI (M : Nat → Int) : Nat → Int
 | 0 => 0
 | k + 1 => sumI M k + M k
theorem up_nrm {M E m e : Int} (h : nrm M E = some (m, e)) (hE : E ≤ 0) : E ≤ e ∧ up m e E = M := by
 by_cases h0 : M = 0
 · subst h0; rw [nrm_zero] at h; injection h with h; injection h with h1 h2; subst h1 h2; exact ⟨hE, up_zero _ _⟩
 · obtain ⟨t, ht, he, _⟩ := nrm_some h0 h
   subst he
   exact ⟨by omega, by rw [up_nat]; exact ht.symm⟩
theorem dsum_nrm (d : Nat → Option (Int × Int)) (M : Nat → Int) {E : Int} (hE : E ≤ 0) (n : Nat) (h : ∀ i, i < n → d i = nrm (M i) E ∧ nrm (M i) E ≠ none) : dsum d n = nrm (sumI M n) E := by
 have hb : anyBad d n = false := by
  cases hc : anyBad d n with
  | false => rfl
  | true =>
   obtain ⟨i, hi, hd⟩ := (anyBad_iff d n).1 hc
   have h1 := h i hi
   rw [h1.1] at hd
   exact absurd (dbad_nn.2 h1.2) (by rw [hd]; decide)
 have hu : ∀ i, i < n → E ≤ dexp (d i) ∧ up (dman (d i)) (dexp (d i)) E = M i := fun i hi => by
  obtain ⟨h1, h2⟩ := h i hi
  cases hd : nrm (M i) E with
  | none => exact absurd hd h2
  | some p => obtain ⟨m, e⟩ := p; rw [h1, hd]; exact up_nrm hd hE
 rw [dsum_unit d hb (fun i hi => (hu i hi).1) hE]
 congr 1
 clear hb h
 induction n with
 | zero => rfl
 | succ n ih => simp only [smE, sumI]; rw [ih (fun i hi => hu i (by omega)), (hu n (by omega)).2]
theorem sumI_abs (M : Nat → Int) (P n : Nat) (h : ∀ i, i < n → blen (M i).natAbs ≤ P) : (sumI M n).natAbs ≤ n * 2 ^ P := by
 induction n with
 | zero => simp [sumI]
 | succ n ih =>
  have h1 := ih (fun i hi => h i (by omega))
  have h2 := abs_lt_pow (h n (by omega))
  simp only [sumI]
  have h3 := Int.natAbs_add_le (sumI M n) (M n)
  rw [Nat.add_mul, Nat.one_mul]
  omega
theorem sumI_blen (M : Nat → Int) {P n : Nat} (hn : n ≤ 15) (h : ∀ i, i < n → blen (M i).natAbs ≤ P) : blen (sumI M n).natAbs ≤ 4 + P := by
 refine blen_le (Nat.lt_of_le_of_lt (sumI_abs M P n h) ?_)
 rw [Nat.pow_add]
 exact Nat.mul_lt_mul_of_pos_right (by omega) (Nat.pow_pos (by decide))
theorem asum_val {L : Nat → Nat} {n : Nat} (hn : n ≤ 15) (h : ∀ i, i < n → ffin (L i) = true) :
 dsum (fun i => fof (L i)) n = nrm (sumI (fun i => fz (L i)) n) (-1074) ∧ nrm (sumI (fun i => fz (L i)) n) (-1074) ≠ none := by
 refine ⟨dsum_nrm _ (fun i => fz (L i)) (by omega) n (fun i hi => ⟨fof_fin (h i hi), fof_some (h i hi)⟩), ?_⟩
 have := sumI_blen (fun i => fz (L i)) hn (P := 2098) (fun i hi => blen_fz (h i hi))
 exact nrm_valid (by omega) (by omega)
theorem blen_fz_mul {a b : Nat} (ha : ffin a = true) (hb : ffin b = true) : blen (fz a * fz b).natAbs ≤ 4196 := by
 have := bl_mul (fz a) (fz b); have := blen_fz ha; have := blen_fz hb; omega
def dotI (X Y : Nat → Nat) (n : Nat) : Int := sumI (fun i => fz (X i) * fz (Y i)) n
def ddot (X Y : Nat → Nat) (n : Nat) : Option (Int × Int) := dsum (fun i => dmul (fof (X i)) (fof (Y i))) n
theorem adot_blen {X Y : Nat → Nat} {n : Nat} (hn : n ≤ 15) (hx : ∀ i, i < n → ffin (X i) = true) (hy : ∀ i, i < n → ffin (Y i) = true) : blen (dotI X Y n).natAbs ≤ 4200 :=
 sumI_blen (fun i => fz (X i) * fz (Y i)) hn (P := 4196) (fun i hi => blen_fz_mul (hx i hi) (hy i hi))
theorem adot_val {X Y : Nat → Nat} {n : Nat} (hn : n ≤ 15) (hx : ∀ i, i < n → ffin (X i) = true) (hy : ∀ i, i < n → ffin (Y i) = true) :
 ddot X Y n = nrm (dotI X Y n) (-2148) ∧ nrm (dotI X Y n) (-2148) ≠ none := by
 refine ⟨dsum_nrm _ (fun i => fz (X i) * fz (Y i)) (by omega) n (fun i hi => fmul_val (hx i hi) (hy i hi)), ?_⟩
 have := adot_blen hn hx hy
 exact nrm_valid (by omega) (by omega)
theorem dsub_nrm (M N E : Int) (hM : nrm M E ≠ none) (hN : nrm N E ≠ none) (hN' : nrm (-N) E ≠ none) : dadd (nrm M E) (dneg (nrm N E)) = nrm (M - N) E := by
 rw [dneg_nrm _ _ hN, dadd_nrm _ _ _ hM hN', Int.sub_eq_add_neg]
theorem nrm_neg_valid {M E : Int} (h : nrm M E ≠ none) : nrm (-M) E ≠ none := by
 rw [← dneg_nrm _ _ h]
 cases k : nrm M E with
 | none => exact absurd k h
 | some p => obtain ⟨m, e⟩ := p; exact fun h' => by cases h'
theorem awx_near {s : Bool} {c : Nat} {Z : Nat} (h1 : fzN c ≤ Z) (h2 : Z < fzN (c + 1)) (c' : Nat) :
 (((fzN (c + if awx s c (cxQ Z 1) 0 then 1 else 0) : Nat) : Int) - Z).natAbs ≤ ((fzN c' : Int) - Z).natAbs := by
 have h3 : (((fzN (c + if awx s c (cxQ Z 1) 0 then 1 else 0) : Nat) : Int) - Z).natAbs ≤ Z - fzN c ∧ (((fzN (c + if awx s c (cxQ Z 1) 0 then 1 else 0) : Nat) : Int) - Z).natAbs ≤ fzN (c + 1) - Z := by
  unfold awx cxQ
  have m1 : ¬ (0 : Int) = 1 := by decide
  have m2 : ¬ (0 : Int) = 2 := by decide
  have m3 : ¬ (0 : Int) = 3 := by decide
  simp only [m1, m2, m3, if_false, Nat.mul_one]
  by_cases hz : cmpI ((2 * Z : Nat) : Int) ((2 * fzN c : Nat) : Int) = 0
  · have := cmpI_eq0.1 hz
    rw [if_pos hz]; simp; omega
  · rw [if_neg hz]
    rcases Int.lt_trichotomy ((2 * Z : Nat) : Int) ((fzN c + fzN (c + 1) : Nat) : Int) with h | h | h
    · rw [cmpI_lt h]; simp; omega
    · rw [cmpI_eq h]
      by_cases hp : c % 2 = 1
      · simp [hp]; omega
      · simp [hp]; omega
    · rw [cmpI_gt h]; simp; omega
 rcases Nat.lt_or_ge c c' with h | h
 · have := fzN_le_iff.2 (show c + 1 ≤ c' from h); omega
 · have := fzN_le_iff.2 h; omega
theorem code_mul (c k : Nat) : (∃ q, fzN c = q * 2 ^ k) ∨ fzN (c + 1) ≤ 4503599627370496 * 2 ^ k := by
 obtain ⟨k', n, hc, hn, hk⟩ := code_split c
 have e1 : fzN c = n * 2 ^ k' := by rw [hc]; exact fzN_code k' n (by omega) hk
 rcases Nat.lt_or_ge k' k with h | h
 · right
   have e2 : fzN (c + 1) = (n + 1) * 2 ^ k' := by rw [hc, Nat.add_assoc]; exact fzN_code k' (n + 1) (by omega) (by omega)
   rw [e2]
   obtain ⟨d, rfl⟩ : ∃ d, k = k' + 1 + d := ⟨k - k' - 1, by omega⟩
   have h3 : 1 ≤ 2 ^ d := Nat.pow_pos (by decide)
   have h4 : (n + 1) * 2 ^ k' ≤ 9007199254740992 * 2 ^ k' := Nat.mul_le_mul_right _ (by omega)
   have h5 : 9007199254740992 * 2 ^ k' * 1 ≤ 9007199254740992 * 2 ^ k' * 2 ^ d := Nat.mul_le_mul_left _ h3
   have h6 : 4503599627370496 * 2 ^ (k' + 1 + d) = 9007199254740992 * 2 ^ k' * 2 ^ d := by rw [Nat.pow_add, Nat.pow_succ]; generalize 2 ^ k' = p; generalize 2 ^ d = q; grind
   omega
 · left
   obtain ⟨d, rfl⟩ : ∃ d, k' = k + d := ⟨k' - k, by omega⟩
   exact ⟨n * 2 ^ d, by rw [e1, Nat.pow_add]; ac_rfl⟩
theorem err_code {x y Z c : Nat} {s : Bool} (hxy : y ≤ x) (hZ : Z = fzN x + fzN y ∨ Z = fzN x - fzN y) (h1 : fzN c ≤ Z) (h2 : Z < fzN (c + 1)) :
 ∃ r, r ≤ y ∧ fzN r = (((fzN (c + if awx s c (cxQ Z 1) 0 then 1 else 0) : Nat) : Int) - Z).natAbs := by
 have hxy' := fzN_le_iff.2 hxy
 have hnear := awx_near (s := s) h1 h2 x
 have hd : ((fzN x : Int) - Z).natAbs = fzN y := by omega
 rw [hd] at hnear
 obtain ⟨k, n, hy, hn, hk⟩ := code_split y
 obtain ⟨k', n', hx, hn', hk'⟩ := code_split x
 have hkk : k ≤ k' := by omega
 obtain ⟨d, rfl⟩ : ∃ d, k' = k + d := ⟨k' - k, by omega⟩
 have e1 : fzN y = n * 2 ^ k := by rw [hy]; exact fzN_code k n (by omega) hk
 have e2 : fzN x = n' * 2 ^ d * 2 ^ k := by rw [hx, fzN_code (k + d) n' (by omega) hk', Nat.pow_add]; ac_rfl
 have hp := two_pow_pos k
 have hZ2 : ∃ z, Z = z * 2 ^ k := by
  rcases hZ with h | h
  · exact ⟨n' * 2 ^ d + n, by rw [h, e1, e2, Nat.add_mul]⟩
  · exact ⟨n' * 2 ^ d - n, by rw [h, e1, e2, Nat.sub_mul]⟩
 obtain ⟨z, hz⟩ := hZ2
 have key : ∃ r', (((fzN (c + if awx s c (cxQ Z 1) 0 then 1 else 0) : Nat) : Int) - Z).natAbs = r' * 2 ^ k := by
  rcases code_mul c k with ⟨q, hq⟩ | hsm
  · rcases code_mul (c + 1) k with ⟨q', hq'⟩ | hsm'
    · cases awx s c (cxQ Z 1) 0
      · refine ⟨z - q, ?_⟩
        simp only [Bool.false_eq_true, if_false, Nat.add_zero]
        rw [Nat.sub_mul, ← hz, ← hq]; omega
      · refine ⟨q' - z, ?_⟩
        simp only [if_true]
        rw [Nat.sub_mul, ← hz, ← hq']; omega
    · -- then the sum itself is a code
      have hzs : z < 4503599627370496 := by
       refine Nat.lt_of_mul_lt_mul_right (a := 2 ^ k) ?_
       rw [← hz]
       have := fzN_lt_succ (c + 1); omega
      obtain ⟨c0, hc0⟩ := fzN_repr k z (by omega)
      rw [← hz] at hc0
      have hn0 := awx_near (s := s) h1 h2 c0
      exact ⟨0, by rw [Nat.zero_mul]; omega⟩
  · have hzs : z < 4503599627370496 := by
     refine Nat.lt_of_mul_lt_mul_right (a := 2 ^ k) ?_
     rw [← hz]; omega
    obtain ⟨c0, hc0⟩ := fzN_repr k z (by omega)
    rw [← hz] at hc0
    have hn0 := awx_near (s := s) h1 h2 c0
    exact ⟨0, by rw [Nat.zero_mul]; omega⟩
 obtain ⟨r', hr'⟩ := key
 have hrn : r' ≤ n := by
  refine Nat.le_of_mul_le_mul_right (c := 2 ^ k) ?_ hp
  rw [← hr', ← e1]; exact hnear
 obtain ⟨r, hr⟩ := fzN_repr k r' (by omega)
 refine ⟨r, ?_, by rw [hr, hr']⟩
 exact fzN_le_iff.1 (by rw [hr, e1]; exact Nat.mul_le_mul_right _ hrn)
theorem fround_code {R : Int} {r : Nat} (hr : fzN r = R.natAbs) (hl : r < 9218868437227405312) (mode : Int) :
 ffin (fround (nrm R (-1074)) mode) = true ∧ fz (fround (nrm R (-1074)) mode) = R := by
 by_cases h0 : R = 0
 · subst h0; rw [fround_zero]; exact ⟨by decide, by decide⟩
 · rw [fround_exact h0 hr.symm hl]
   have h5 := fof_fsgn (s := decide (R < 0)) hl
   exact ⟨h5.1, by rw [h5.2, hr, sgn_self]⟩
theorem fsum_err {a b : Nat} (ha : ffin a = true) (hb : ffin b = true) (hs : ffin (fadd a b 0) = true) :
 ∃ r, r < 9218868437227405312 ∧ fzN r = (fz a + fz b - fz (fadd a b 0)).natAbs := by
 have la : fM a < 9218868437227405312 := by unfold ffin at ha; simpa using ha
 have lb : fM b < 9218868437227405312 := by unfold ffin at hb; simpa using hb
 have hzero : ∀ s, fz a + fz b - s = 0 → ∃ r, r < 9218868437227405312 ∧ fzN r = (fz a + fz b - s).natAbs := fun s h => ⟨0, by decide, by rw [h]; rfl⟩
 rw [fadd_fin ha hb] at hs ⊢
 by_cases k1 : (fzero a && decide (a = b)) = true
 · rw [if_pos k1]
   simp only [Bool.and_eq_true, decide_eq_true_eq] at k1
   have hA : fM a = 0 := by have := k1.1; unfold fzero at this; simpa using this
   have e0 := fz_zero.2 hA
   refine hzero _ ?_
   rw [← k1.2, e0]; rfl
 · rw [if_neg k1] at hs ⊢
   by_cases k2 : fz a + fz b = 0
   · rw [if_pos k2]
     refine hzero _ ?_
     rw [k2]; unfold fnothing; decide
   · rw [if_neg k2] at hs ⊢
     have hv := (fadd_val ha hb).2
     rw [g0] at hv
     obtain ⟨c, h1, h2⟩ := fround_grid (fz a + fz b) 0 0 k2 hv
     rw [← g0, Nat.pow_zero] at h2
     rw [Nat.pow_zero] at h1
     rw [h2] at hs ⊢
     have q1 := cmpI_ge.1 h1.1
     have q2 := cmpI_m1.1 h1.2
     rw [Nat.mul_one] at q1 q2
     have p1 : fzN c ≤ (fz a + fz b).natAbs := by omega
     have p2 : (fz a + fz b).natAbs < fzN (c + 1) := by omega
     obtain ⟨S, hS⟩ : ∃ S, S = decide (fz a + fz b < 0) := ⟨_, rfl⟩
     rw [← hS] at h2 hs ⊢
     obtain ⟨N, hN⟩ : ∃ N, N = c + (if awx S c (cxQ (fz a + fz b).natAbs 1) 0 then 1 else 0) := ⟨_, rfl⟩
     rw [← hN] at hs ⊢
     have hlt : N < 9218868437227405312 := by
      by_cases h : N < 9218868437227405312
      · exact h
      · exfalso
        unfold fcut at hs; rw [if_pos (by unfold fInf; omega)] at hs
        unfold fover at hs
        rw [if_neg (by simp)] at hs
        revert hs; cases S <;> decide
     rw [fcut_small hlt, (fof_fsgn hlt).2]
     have hab := fz_abs a
     have hbb := fz_abs b
     have main : ∀ x y : Nat, y ≤ x → y < 9218868437227405312 → ((fz a + fz b).natAbs = fzN x + fzN y ∨ (fz a + fz b).natAbs = fzN x - fzN y) → ∃ r, r < 9218868437227405312 ∧ fzN r = (fz a + fz b - sgn S (fzN N)).natAbs := by
      intro x y hxy hy hZ
      obtain ⟨r, hr1, hr2⟩ := err_code (s := S) hxy hZ p1 p2
      rw [← hN] at hr2
      refine ⟨r, by omega, ?_⟩
      rw [hr2]
      have e3 := sgn_self (fz a + fz b)
      rw [← hS] at e3
      generalize (fz a + fz b).natAbs = Q at *
      rw [← e3]
      unfold sgn; cases S <;> simp <;> omega
     rcases Nat.le_total (fM b) (fM a) with h | h
     · have := fzN_le_iff.2 h
       refine main (fM a) (fM b) h lb ?_
       omega
     · have := fzN_le_iff.2 h
       refine main (fM b) (fM a) h la ?_
       omega
def frest (s : Nat) (x : Option (Int × Int)) : Nat := fround (dadd x (dneg (fof s))) 0
def frestok (s : Nat) (x : Option (Int × Int)) : Bool := (!dbad (fof (frest s x)) && !dbad (dadd x (dneg (fof s)))) && decide (dcmp (fof (frest s x)) (dadd x (dneg (fof s))) = 0)
theorem isN_rest (s : Nat) (x : Option (Int × Int)) : IsN (dadd x (dneg (fof s))) := isN_add _ _
theorem frestok_bad {s : Nat} {x : Option (Int × Int)} (h : ffin s = false) : frestok s x = false := by
 have : dadd x (dneg (fof s)) = none := by rw [fof_not h]; exact dadd_none x
 unfold frestok
 rw [this]; simp [dbad]
theorem free_sum {a b : Nat} (ha : ffin a = true) (hb : ffin b = true) :
 frestok (fadd a b 0) (dadd (fof a) (fof b)) = ffin (fadd a b 0) ∧
 (ffin (fadd a b 0) = true → dadd (fof (fadd a b 0)) (fof (frest (fadd a b 0) (dadd (fof a) (fof b)))) = dadd (fof a) (fof b)) := by
 cases hs : ffin (fadd a b 0) with
 | false => exact ⟨frestok_bad hs, fun h => by cases h⟩
 | true =>
  obtain ⟨r, hr1, hr2⟩ := fsum_err ha hb hs
  have v := fadd_val ha hb
  have w : nrm (fz a + fz b - fz (fadd a b 0)) (-1074) ≠ none := nrm_valid (by omega) (by rw [← hr2]; have := blen_fzN hr1; omega)
  have e1 : dadd (dadd (fof a) (fof b)) (dneg (fof (fadd a b 0))) = nrm (fz a + fz b - fz (fadd a b 0)) (-1074) := by
   rw [v.1, fof_fin hs]; exact dsub_nrm _ _ _ v.2 (fof_some hs) (nrm_neg_valid (fof_some hs))
  have c := fround_code hr2 hr1 0
  have e2 : fof (frest (fadd a b 0) (dadd (fof a) (fof b))) = nrm (fz a + fz b - fz (fadd a b 0)) (-1074) := by
   unfold frest; rw [e1, fof_fin c.1, c.2]
  refine ⟨?_, fun _ => ?_⟩
  · unfold frestok
    rw [e2, e1, dbad_nn.2 w, dcmp_nrm _ _ _ w w, cmpI_eq0.2 rfl]; rfl
  · rw [e2, fof_fin hs, dadd_nrm _ _ _ (fof_some hs) w, v.1]
    congr 1; omega
def fBig : Nat := 4877398396442247168
theorem big_val : ffin fBig = true ∧ fz fBig = 2 ^ 1134 := by
 refine ⟨by decide, ?_⟩
 have h := fzN_code 1082 4503599627370496 (by omega) (by omega)
 have e : 1082 * 4503599627370496 + 4503599627370496 = fBig := by decide
 rw [e] at h
 rw [fz_fsgn0 (by decide), h, p52 1082 1134 (by decide)]; exact pow2_nat 1134
theorem pow60 (a b : Nat) (h : 60 + b = a) : (2 : Int) ^ a = 1152921504606846976 * 2 ^ b := by subst h; rw [Int.pow_add]; rfl
theorem big_round : fround (nrm 1152921504606846976 0) 0 = fBig := by
 have h1 : nrm 1152921504606846976 0 = fof fBig := by
  rw [fof_fin big_val.1, big_val.2]
  have e : (2 : Int) ^ 1134 = 1152921504606846976 * 2 ^ 1074 := pow60 1134 1074 (by decide)
  rw [e, nrm_scale]; rfl
 rw [h1]; exact fround_of (by decide) (by decide) (by decide) 0
theorem pow8 (a b : Nat) (h : 8 + b = a) : 2 ^ a = 256 * 2 ^ b := by subst h; rw [Nat.pow_add]
theorem big_add : fadd fBig fOne 0 = fBig := by
 have hz : fz fBig + fz fOne = 2 ^ 1134 + 2 ^ 1074 := by rw [big_val.2, fz_one]
 have hab : (fz fBig + fz fOne).natAbs = 2 ^ 1134 + 2 ^ 1074 := by
  rw [hz, ← pow2_nat, ← pow2_nat, ← Int.natCast_add, Int.natAbs_natCast]
 have p1 : (0 : Int) < 2 ^ 1134 := Int.pow_pos (by decide)
 have p2 : (0 : Int) < 2 ^ 1074 := Int.pow_pos (by decide)
 have hne : fz fBig + fz fOne ≠ 0 := by rw [hz]; omega
 have hsg : decide (fz fBig + fz fOne < 0) = false := by rw [hz]; simp only [decide_eq_false_iff_not]; omega
 rw [fadd_fin big_val.1 fin_one, if_neg (by decide), if_neg hne]
 have hv := (fadd_val big_val.1 fin_one).2
 rw [g0] at hv
 obtain ⟨c, h1, h2⟩ := fround_grid (fz fBig + fz fOne) 0 0 hne hv
 rw [← g0, Nat.pow_zero, hsg, hab] at h2
 rw [Nat.pow_zero, hab] at h1
 have b0 : fzN fBig = 2 ^ 1134 := by
  have h := fzN_code 1082 4503599627370496 (by omega) (by omega)
  have e : 1082 * 4503599627370496 + 4503599627370496 = fBig := by decide
  rw [e, p52 1082 1134 (by decide)] at h; exact h
 have b1 : fzN (fBig + 1) = 2 ^ 1134 + 2 ^ 1082 := by
  have h := @fzN_succ 1082 4503599627370496 (by omega) (by omega)
  have e : 1082 * 4503599627370496 + 4503599627370496 = fBig := by decide
  rw [e, b0] at h; exact h
 have hp : 2 ^ 1082 = 256 * 2 ^ 1074 := pow8 1082 1074 (by decide)
 have hpos : 0 < 2 ^ 1074 := two_pow_pos 1074
 rw [hp] at b1
 generalize (2 : Nat) ^ 1134 = P at *
 generalize (2 : Nat) ^ 1074 = Q at *
 have hlo : IsLo (cxQ (P + Q) 1) fBig := by
  refine ⟨cmpI_ge.2 ?_, cmpI_m1.2 ?_⟩
  · rw [b0]; omega
  · rw [b1]; omega
 have hdc : c = fBig := IsLo.uniq (cxQ_cx _ (by decide)) h1 hlo
 subst hdc
 have hw : awx false fBig (cxQ (P + Q) 1) 0 = false := by
  unfold awx cxQ
  rw [b0, b1, Nat.mul_one, Nat.mul_one]
  rw [if_neg (by rw [cmpI_eq0]; omega), if_neg (by decide), if_neg (by decide), if_neg (by decide), cmpI_lt (by omega)]
  rfl
 rw [h2, hw]
 exact fcut_small (by decide)
theorem big_rest : frest fBig (dadd (fof fBig) (fof fOne)) = fOne ∧ frestok fBig (dadd (fof fBig) (fof fOne)) = true := by
 have h := free_sum big_val.1 fin_one
 rw [big_add] at h
 refine ⟨?_, by rw [h.1]; exact big_val.1⟩
 have v := fadd_val big_val.1 fin_one
 have hv := fof_some big_val.1
 unfold frest
 rw [v.1, fof_fin big_val.1, dsub_nrm _ _ _ v.2 hv (nrm_neg_valid hv), show fz fBig + fz fOne - fz fBig = fz fOne by omega, ← fof_fin fin_one]
 exact fround_of (by decide) (by decide) (by decide) 0
end Go.Proofs.YtgicceiimciafaaGreatDoor
