/-
  Plain law: the quotients rounded down and up enclose the exact one. No program in sight.
-/
import Derived.Test.YtjhngehajahbnaaDoorVal
namespace Go.Proofs.YtjhngehajahbnaaDoor
open Go.RowKit Sp

theorem nrm_valid {m e : Int} (h1 : -65536 ≤ e) (h2 : e + blen m.natAbs ≤ 65536) : nrm m e ≠ none := by
  intro h; have := nrm_none.1 h; omega
theorem blen_mul_le (x y : Nat) : blen (x * y) ≤ blen x + blen y := by
  refine blen_le ?_
  rw [Nat.pow_add]
  exact Nat.mul_lt_mul'' (lt_blen x) (lt_blen y)
theorem blen_add_le (x y : Nat) : blen (x + y) ≤ max (blen x) (blen y) + 1 := by
  refine blen_le ?_
  rw [Nat.pow_succ]
  have h1 := Nat.lt_of_lt_of_le (lt_blen x) (Nat.pow_le_pow_right (n := 2) (by omega) (Nat.le_max_left (blen x) (blen y)))
  have h2 := Nat.lt_of_lt_of_le (lt_blen y) (Nat.pow_le_pow_right (n := 2) (by omega) (Nat.le_max_right (blen x) (blen y)))
  omega
theorem blen_div_pow (x c : Nat) : blen (x / 2 ^ c) ≤ blen x - c := by
  by_cases h : c ≤ blen x
  · refine blen_le ?_
    rw [Nat.div_lt_iff_lt_mul (Nat.pow_pos (by decide)), ← Nat.pow_add, show blen x - c + c = blen x by omega]
    exact lt_blen x
  · have : x / 2 ^ c = 0 := Nat.div_eq_of_lt (Nat.lt_of_lt_of_le (lt_blen x) (Nat.pow_le_pow_right (by decide) (by omega)))
    rw [this]; exact Nat.zero_le _
/-- the directed roundings, where something is cut off -/
theorem dfix_dir (s : Bool) (x : Nat) (E : Int) (more : Bool) (prec : Int) (c : Nat) (hc : (blen x : Int) = prec + c) (hc1 : 1 ≤ c) :
    dfix s x E more prec 1 = nrm (sgn s (x / 2 ^ c + if rex x more c = false ∧ s = true then 1 else 0)) (E + c) ∧
    dfix s x E more prec 2 = nrm (sgn s (x / 2 ^ c + if rex x more c = false ∧ s = false then 1 else 0)) (E + c) := by
  have hq : rlg x E + 1 - prec = E + c := by unfold rlg; omega
  have hn : ¬ E + (c : Int) ≤ E := by omega
  unfold dfix rmag rax rdn
  simp only [hq, if_neg hn, show (E + c - E).toNat = c by omega]
  unfold raw
  constructor <;> cases rex x more c <;> cases s <;> simp
theorem sgn_true (x : Nat) : sgn true x = -(x : Int) := rfl
theorem sgn_false (x : Nat) : sgn false x = (x : Int) := rfl
theorem sgn_abs (m : Int) : sgn (decide (m < 0)) m.natAbs = m := by
  by_cases h : m < 0
  · rw [show decide (m < 0) = true by simpa using h, sgn_true]; omega
  · rw [show decide (m < 0) = false by simpa using h, sgn_false]; omega

/-- a valid dyad of the laws: at most 640 bits, its exponent within 2000 before it was normalized -/
def Slim (m e : Int) : Prop := (m = 0 ∧ e = 0) ∨ (m % 2 = 1 ∧ blen m.natAbs ≤ 640 ∧ -2000 ≤ e ∧ e + blen m.natAbs ≤ 2640)
theorem Slim.okd {m e : Int} (h : Slim m e) : Okd m e := by
  rcases h with h | ⟨h1, h2, h3, h4⟩
  · exact Or.inl h
  · exact Or.inr ⟨h1, by omega, by omega⟩
theorem Slim.bounds {m e : Int} (h : Slim m e) : blen m.natAbs ≤ 640 ∧ -2000 ≤ e ∧ e ≤ 2640 ∧ e + blen m.natAbs ≤ 2640 := by
  rcases h with ⟨rfl, rfl⟩ | ⟨h1, h2, h3, h4⟩
  · decide
  · omega

/-- the parts of a quotient, cut at c bits -/
theorem quo_parts (P Q c : Nat) (hQ : 0 < Q) : (rex (P / Q) (decide (P % Q ≠ 0)) c = true ↔ P % (Q * 2 ^ c) = 0) ∧ P / Q / 2 ^ c = P / (Q * 2 ^ c) := by
  refine ⟨?_, Nat.div_div_eq_div_mul ..⟩
  unfold rex
  have hp : 0 < 2 ^ c := Nat.pow_pos (by decide)
  have h1 : P % (Q * 2 ^ c) = P % Q + Q * (P / Q % 2 ^ c) := Nat.mod_mul
  rw [h1]
  generalize P % Q = r
  generalize P / Q % 2 ^ c = t
  simp
  constructor
  · rintro ⟨h2, h3⟩; subst h2 h3; simp
  · rintro ⟨h2, h3⟩
    refine ⟨?_, h2⟩
    rcases Nat.mul_eq_zero.1 h3 with h | h <;> omega
theorem cmpI_le {m n : Int} : cmpI m n ≤ 0 ↔ m ≤ n := by unfold cmpI; split <;> (try split) <;> omega
theorem cmpI_eq0 {m n : Int} : cmpI m n = 0 ↔ m = n := by unfold cmpI; split <;> (try split) <;> omega
theorem sgn_eq_zero {s : Bool} {x : Nat} : sgn s x = 0 ↔ x = 0 := by cases s <;> simp [sgn]
theorem blen_le_pow {x n : Nat} (h : x ≤ 2 ^ n) : blen x ≤ n + 1 := blen_le (by rw [Nat.pow_succ]; have := Nat.pow_pos (n := n) (show 0 < 2 by omega); omega)
/-- at most prec bits, or a power of two -/
theorem nrm_bits {m e : Int} {p : Nat} (h : m.natAbs ≤ 2 ^ p) (hp : 1 ≤ p) {m' e' : Int} (hn : nrm m e = some (m', e')) : blen m'.natAbs ≤ p := by
  by_cases h0 : m = 0
  · subst h0; rw [nrm_zero] at hn; injection hn with hn; injection hn with h1 h2; subst h1; exact Nat.zero_le _
  · obtain ⟨t, ht, _, hodd, _⟩ := nrm_some h0 hn
    have hm : m.natAbs = m'.natAbs * 2 ^ t := by rw [ht, natAbs_mul_pow]
    rcases Nat.lt_or_ge m.natAbs (2 ^ p) with h1 | h1
    · have : m'.natAbs ≤ m.natAbs := by rw [hm]; exact Nat.le_mul_of_pos_right _ (Nat.pow_pos (by decide))
      exact blen_le (by omega)
    · have he : m'.natAbs * 2 ^ t = 2 ^ p * (2 * 0 + 1) := by omega
      have ho : m'.natAbs % 2 = 1 := by omega
      have h5 : m'.natAbs * 2 ^ t = 2 ^ t * (2 * (m'.natAbs / 2) + 1) := by
        rw [Nat.mul_comm]; congr 1; omega
      have h2 : t = p := odd_uniq _ _ _ _ (h5.symm.trans he)
      subst h2
      have h3 : m'.natAbs = 1 := by
        have := Nat.pow_pos (n := t) (show 0 < 2 by omega)
        rw [Nat.mul_zero, Nat.zero_add, Nat.mul_one] at he
        exact Nat.eq_of_mul_eq_mul_right this (by omega)
      rw [h3]; exact hp

theorem nrm_inj {M N E : Int} (hM : nrm M E ≠ none) (hN : nrm N E ≠ none) : nrm M E = nrm N E ↔ M = N := by
  constructor
  · intro h
    have h1 := dcmp_nrm M N E hM hN
    rw [← h] at h1
    have h2 := dcmp_nrm M M E hM hM
    rw [h1] at h2
    rw [cmpI_eq0.2 rfl] at h2
    exact cmpI_eq0.1 h2
  · intro h; rw [h]

/-- The quotients of the law: rounded down and up. -/
theorem quo_law (a e b f : Int) (p : Nat) (ha : Slim a e) (hb : Slim b f) (hb0 : 0 < b) (hp : 1 ≤ p) (hp1 : p ≤ 80) :
    ∃ l k h j, dquo (some (a, e)) (some (b, f)) p 1 = some (l, k) ∧ dquo (some (a, e)) (some (b, f)) p 2 = some (h, j) ∧ blen l.natAbs ≤ p ∧ blen h.natAbs ≤ p ∧
      dcmp (dmul (some (l, k)) (some (b, f))) (some (a, e)) ≤ 0 ∧ dcmp (some (a, e)) (dmul (some (h, j)) (some (b, f))) ≤ 0 ∧
      (((l, k) = (h, j)) ↔ dcmp (dmul (some (l, k)) (some (b, f))) (some (a, e)) = 0) ∧ (dcmp (dmul (some (l, k)) (some (b, f))) (some (a, e)) = 0 ↔ dcmp (some (a, e)) (dmul (some (h, j)) (some (b, f))) = 0) ∧
      dmul (some (l, k)) (some (b, f)) ≠ none ∧ dmul (some (h, j)) (some (b, f)) ≠ none := by
  have hprc : prc (p : Int) = true := by unfold prc; simp; omega
  have nb : ¬ b = 0 := by omega
  by_cases ha0 : a = 0
  · have he : e = 0 := by rcases ha with h | h <;> omega
    subst ha0 he
    refine ⟨0, 0, 0, 0, by simp [dquo, hprc, nb], by simp [dquo, hprc, nb], Nat.zero_le _, Nat.zero_le _, ?_⟩
    have : dmul (some (0, 0)) (some (b, f)) = some (0, 0) := by simp [dmul, nrm_zero]
    rw [this]
    simp [dcmp, up_zero, cmpI]
  · obtain ⟨hA, hE0, hE1, hE2⟩ := ha.bounds
    obtain ⟨hB, hF0, hF1, hF2⟩ := hb.bounds
    have hbA := blen_nz ha0
    have hbB := blen_nz nb
    have ea := nrm_self ha.okd
    have eb := nrm_self hb.okd
    simp only [dquo, hprc, if_neg nb, if_neg ha0, Bool.true_eq_false, if_false]
    have hs0 : decide (b < 0) = false := by simp; omega
    rw [hs0, Bool.bne_false]
    obtain ⟨n, hn⟩ : ∃ n, n = qsh a b p := ⟨_, rfl⟩
    rw [← hn]
    have hn1 : (p : Int) + 3 + blen b.natAbs ≤ blen a.natAbs + n := by rw [hn]; unfold qsh; omega
    have hn2 : (n : Int) ≤ 83 + blen b.natAbs := by rw [hn]; unfold qsh; omega
    clear hn
    obtain ⟨s, hs⟩ : ∃ s, s = decide (a < 0) := ⟨_, rfl⟩
    have hsa : sgn s a.natAbs = a := by rw [hs, sgn_abs]
    rw [← hs]
    clear hs
    obtain ⟨A, hAA⟩ : ∃ A, A = a.natAbs := ⟨_, rfl⟩
    obtain ⟨Q, hQQ⟩ : ∃ Q, Q = b.natAbs := ⟨_, rfl⟩
    rw [← hAA] at hsa hA hbA hn1
    rw [← hQQ] at hn1 hn2 hB hbB
    rw [← hAA, ← hQQ]
    have hQ0 : 0 < Q := by omega
    have hA0 : 0 < A := by omega
    have hbQ : b = (Q : Int) := by omega
    obtain ⟨P, hP⟩ : ∃ P, P = A * 2 ^ n := ⟨_, rfl⟩
    have hbP : blen P = blen A + n := by rw [hP]; exact blen_mul_pow hA0 n
    have hP0 : 0 < P := by rw [hP]; exact Nat.mul_pos hA0 (Nat.pow_pos (by decide))
    rw [← hP]
    -- the quotient has more bits than asked for
    have hx1 : p + 3 ≤ blen (P / Q) := by
      refine le_blen ?_
      rw [Nat.le_div_iff_mul_le hQ0]
      refine Nat.le_trans (Nat.le_of_lt (Nat.mul_lt_mul_of_pos_left (lt_blen Q) (Nat.pow_pos (by decide)))) ?_
      rw [← Nat.pow_add]
      exact Nat.le_trans (Nat.pow_le_pow_right (by omega) (by omega)) (blen_le_self hP0)
    have hx2 : blen (P / Q) ≤ blen P := blen_mono (Nat.div_le_self _ _)
    obtain ⟨c, hc⟩ : ∃ c, blen (P / Q) = p + c := ⟨blen (P / Q) - p, by omega⟩
    obtain ⟨hd, hu⟩ := dfix_dir s (P / Q) (e - n - f) (decide (P % Q ≠ 0)) p c (by omega) (by omega)
    rw [hd, hu]
    clear hd hu
    obtain ⟨hex, hdd⟩ := quo_parts P Q c hQ0
    rw [hdd]
    have hlt : P / (Q * 2 ^ c) < 2 ^ p := by
      rw [← hdd, Nat.div_lt_iff_lt_mul (Nat.pow_pos (by decide)), ← Nat.pow_add, ← hc]
      exact lt_blen _
    have hdm := Nat.div_add_mod P (Q * 2 ^ c)
    have hml := Nat.mod_lt P (Nat.mul_pos hQ0 (Nat.pow_pos (n := c) (show 0 < 2 by omega)))
    obtain ⟨N, hN⟩ : ∃ N, N = P / (Q * 2 ^ c) := ⟨_, rfl⟩
    rw [← hN] at hlt hdm ⊢
    obtain ⟨x, hx⟩ : ∃ x, x = rex (P / Q) (decide (P % Q ≠ 0)) c := ⟨_, rfl⟩
    rw [← hx] at hex ⊢
    obtain ⟨R, hR⟩ : ∃ R, R = P % (Q * 2 ^ c) := ⟨_, rfl⟩
    rw [← hR] at hex hdm hml
    clear hR hx hN hdd
    -- all in units of 2^(e - n)
    have key : ∀ L : Nat, L ≤ 2 ^ p → ∃ l k, nrm (sgn s L) (e - n - f + c) = some (l, k) ∧ blen l.natAbs ≤ p ∧ dcmp (dmul (some (l, k)) (some (b, f))) (some (a, e)) = cmpI (sgn s (L * Q * 2 ^ c)) (sgn s P) ∧
        dcmp (some (a, e)) (dmul (some (l, k)) (some (b, f))) = cmpI (sgn s P) (sgn s (L * Q * 2 ^ c)) ∧ dmul (some (l, k)) (some (b, f)) ≠ none := by
      intro L hL
      have hbl := blen_le_pow hL
      have hv : nrm (sgn s L) (e - n - f + c) ≠ none := nrm_valid (by omega) (by rw [sgn_natAbs]; omega)
      cases hl : nrm (sgn s L) (e - n - f + c) with
      | none => exact absurd hl hv
      | some q =>
        obtain ⟨l, k⟩ := q
        refine ⟨l, k, rfl, nrm_bits (by rw [sgn_natAbs]; exact hL) hp hl, ?_⟩
        have hm : dmul (some (l, k)) (some (b, f)) = nrm (sgn s (L * Q * 2 ^ c)) (e - n) := by
          rw [← hl, ← eb, dmul_nrm _ _ _ _ hv (by rw [eb]; simp)]
          have e1 : sgn s (L * Q * 2 ^ c) = (sgn s L * b) * 2 ^ c := by
            rw [hbQ]; cases s <;> simp [sgn, Int.neg_mul]
          rw [e1, nrm_scale]
          congr 1; omega
        have hv2 : nrm (sgn s (L * Q * 2 ^ c)) (e - n) ≠ none := by
          refine nrm_valid (by omega) ?_
          rw [sgn_natAbs]
          have h1 := blen_mul_le (L * Q) (2 ^ c)
          have h2 := blen_mul_le L Q
          have h3 := blen_le_pow (x := 2 ^ c) (n := c) (Nat.le_refl _)
          omega
        have h3 : some (a, e) = nrm (sgn s P) (e - n) := by
          have e1 : sgn s P = a * 2 ^ n := by
            rw [hP, ← hsa]; cases s <;> simp [sgn, Int.neg_mul]
          rw [e1, nrm_scale, show e - (n : Int) + n = e by omega, ea]
        have hv3 : nrm (sgn s P) (e - n) ≠ none := by rw [← h3]; simp
        rw [hm, h3]
        exact ⟨dcmp_nrm _ _ _ hv2 hv3, dcmp_nrm _ _ _ hv3 hv2, hv2⟩
    have e2 : Q * 2 ^ c * N = N * Q * 2 ^ c := by rw [Nat.mul_comm, Nat.mul_assoc]
    have e3 : (N + 1) * Q * 2 ^ c = N * Q * 2 ^ c + Q * 2 ^ c := by rw [Nat.add_mul, Nat.add_mul, Nat.one_mul]
    rw [e2] at hdm
    have inj : ∀ L L' : Nat, L ≤ 2 ^ p → L' ≤ 2 ^ p → ∀ l k h j, nrm (sgn s L) (e - n - f + c) = some (l, k) → nrm (sgn s L') (e - n - f + c) = some (h, j) → ((l, k) = (h, j) ↔ L = L') := by
      intro L L' _ _ l k h j h1 h2
      have h3 := @nrm_inj (sgn s L) (sgn s L') (e - n - f + c) (by rw [h1]; simp) (by rw [h2]; simp)
      rw [h1, h2] at h3
      have h4 : sgn s L = sgn s L' ↔ L = L' := by cases s <;> simp [sgn] <;> omega
      rw [← h4, ← h3]; simp
    obtain ⟨l1, k1, g1, g2, g3, g4, g5⟩ := key N (by omega)
    obtain ⟨l2, k2, i1, i2, i3, i4, i5⟩ := key (N + 1) (by omega)
    have hij := inj N (N + 1) (by omega) (by omega) _ _ _ _ g1 i1
    have hne : ¬ N = N + 1 := by omega
    generalize N * Q * 2 ^ c = U at *
    generalize (N + 1) * Q * 2 ^ c = V at *
    generalize Q * 2 ^ c = W at *
    cases x with
    | true =>
      have hR0 := hex.1 rfl
      refine ⟨l1, k1, l1, k1, ?_, ?_, g2, g2, ?_⟩
      · simpa using g1
      · simpa using g1
      · rw [g3, g4]
        have : U = P := by omega
        subst this
        simp [cmpI, g5]
    | false =>
      have hR0 : R ≠ 0 := fun h => by have := hex.2 h; cases this
      cases s with
      | false =>
        refine ⟨l1, k1, l2, k2, by simpa using g1, by simpa using i1, g2, i2, ?_⟩
        rw [g3, i4, cmpI_le, cmpI_le, cmpI_eq0, cmpI_eq0, hij]
        simp only [sgn_false]
        refine ⟨by omega, by omega, by constructor <;> intro h <;> omega, by constructor <;> intro h <;> omega, g5, i5⟩
      | true =>
        refine ⟨l2, k2, l1, k1, by simpa using i1, by simpa using g1, i2, g2, ?_⟩
        rw [i3, g4, cmpI_le, cmpI_le, cmpI_eq0, cmpI_eq0]
        have hji : (l2, k2) = (l1, k1) ↔ N = N + 1 := by rw [← hij]; exact eq_comm
        rw [hji]
        simp only [sgn_true]
        refine ⟨by omega, by omega, by constructor <;> intro h <;> omega, by constructor <;> intro h <;> omega, i5, g5⟩

end Go.Proofs.YtjhngehajahbnaaDoor
