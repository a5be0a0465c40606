/-
  Plain law: the quotients rounded down and up enclose the exact one. No program in sight.
  Plain laws: slim dyads form a ring; scaling, Log2, Floor; rounding; square roots. No program in sight.
-/
import Derived.Test.YtjhngehajahbnaaGreatDoorBe
namespace Go.Proofs.YtjhngehajahbnaaGreatDoor
open Go.RowKit Sp

theorem nrm_valid {m e : Int} (h1 : -65536 ≤ e) (h2 : e + blen m.natAbs ≤ 65536) : nrm m e ≠ none := by
  intro h; have := nrm_none.1 h; omega
theorem blen_mul_le (x y : Nat) : blen (x * y) ≤ blen x + blen y := by
  refine blen_le ?_
  rw [Nat.pow_add]
  exact Nat.mul_lt_mul'' (lt_blen x) (lt_blen y)
theorem blen_add_le (x y : Nat) : blen (x + y) ≤ max (blen x) (blen y) + 1 := by
  refine blen_le ?_
  rw [Nat.pow_succ]
  have h1 := Nat.lt_of_lt_of_le (lt_blen x) (Nat.pow_le_pow_right (n := 2) (by omega) (Nat.le_max_left (blen x) (blen y)))
  have h2 := Nat.lt_of_lt_of_le (lt_blen y) (Nat.pow_le_pow_right (n := 2) (by omega) (Nat.le_max_right (blen x) (blen y)))
  omega
theorem blen_div_pow (x c : Nat) : blen (x / 2 ^ c) ≤ blen x - c := by
  by_cases h : c ≤ blen x
  · refine blen_le ?_
    rw [Nat.div_lt_iff_lt_mul (Nat.pow_pos (by decide)), ← Nat.pow_add, show blen x - c + c = blen x by omega]
    exact lt_blen x
  · have : x / 2 ^ c = 0 := Nat.div_eq_of_lt (Nat.lt_of_lt_of_le (lt_blen x) (Nat.pow_le_pow_right (by decide) (by omega)))
    rw [this]; exact Nat.zero_le _
/-- the directed roundings, where something is cut off -/
theorem dfix_dir (s : Bool) (x : Nat) (E : Int) (more : Bool) (prec : Int) (c : Nat) (hc : (blen x : Int) = prec + c) (hc1 : 1 ≤ c) :
    dfix s x E more prec 1 = nrm (sgn s (x / 2 ^ c + if rex x more c = false ∧ s = true then 1 else 0)) (E + c) ∧
    dfix s x E more prec 2 = nrm (sgn s (x / 2 ^ c + if rex x more c = false ∧ s = false then 1 else 0)) (E + c) := by
  have hq : rlg x E + 1 - prec = E + c := by unfold rlg; omega
  have hn : ¬ E + (c : Int) ≤ E := by omega
  unfold dfix rmag rax rdn
  simp only [hq, if_neg hn, show (E + c - E).toNat = c by omega]
  unfold raw
  constructor <;> cases rex x more c <;> cases s <;> simp
theorem sgn_true (x : Nat) : sgn true x = -(x : Int) := rfl
theorem sgn_false (x : Nat) : sgn false x = (x : Int) := rfl
theorem sgn_abs (m : Int) : sgn (decide (m < 0)) m.natAbs = m := by
  by_cases h : m < 0
  · rw [show decide (m < 0) = true by simpa using h, sgn_true]; omega
  · rw [show decide (m < 0) = false by simpa using h, sgn_false]; omega

/-- a valid dyad of the laws: at most 640 bits, its exponent within 2000 before it was normalized -/
def Slim (m e : Int) : Prop := (m = 0 ∧ e = 0) ∨ (m % 2 = 1 ∧ blen m.natAbs ≤ 640 ∧ -2000 ≤ e ∧ e + blen m.natAbs ≤ 2640)
theorem Slim.okd {m e : Int} (h : Slim m e) : Okd m e := by
  rcases h with h | ⟨h1, h2, h3, h4⟩
  · exact Or.inl h
  · exact Or.inr ⟨h1, by omega, by omega⟩
theorem Slim.bounds {m e : Int} (h : Slim m e) : blen m.natAbs ≤ 640 ∧ -2000 ≤ e ∧ e ≤ 2640 ∧ e + blen m.natAbs ≤ 2640 := by
  rcases h with ⟨rfl, rfl⟩ | ⟨h1, h2, h3, h4⟩
  · decide
  · omega

/-- the parts of a quotient, cut at c bits -/
theorem quo_parts (P Q c : Nat) (hQ : 0 < Q) : (rex (P / Q) (decide (P % Q ≠ 0)) c = true ↔ P % (Q * 2 ^ c) = 0) ∧ P / Q / 2 ^ c = P / (Q * 2 ^ c) := by
  refine ⟨?_, Nat.div_div_eq_div_mul ..⟩
  unfold rex
  have hp : 0 < 2 ^ c := Nat.pow_pos (by decide)
  have h1 : P % (Q * 2 ^ c) = P % Q + Q * (P / Q % 2 ^ c) := Nat.mod_mul
  rw [h1]
  generalize P % Q = r
  generalize P / Q % 2 ^ c = t
  simp
  constructor
  · rintro ⟨h2, h3⟩; subst h2 h3; simp
  · rintro ⟨h2, h3⟩
    refine ⟨?_, h2⟩
    rcases Nat.mul_eq_zero.1 h3 with h | h <;> omega
theorem cmpI_le {m n : Int} : cmpI m n ≤ 0 ↔ m ≤ n := by unfold cmpI; split <;> (try split) <;> omega
theorem cmpI_eq0 {m n : Int} : cmpI m n = 0 ↔ m = n := by unfold cmpI; split <;> (try split) <;> omega
theorem sgn_eq_zero {s : Bool} {x : Nat} : sgn s x = 0 ↔ x = 0 := by cases s <;> simp [sgn]
theorem blen_le_pow {x n : Nat} (h : x ≤ 2 ^ n) : blen x ≤ n + 1 := blen_le (by rw [Nat.pow_succ]; have := Nat.pow_pos (n := n) (show 0 < 2 by omega); omega)
/-- at most prec bits, or a power of two -/
theorem nrm_bits {m e : Int} {p : Nat} (h : m.natAbs ≤ 2 ^ p) (hp : 1 ≤ p) {m' e' : Int} (hn : nrm m e = some (m', e')) : blen m'.natAbs ≤ p := by
  by_cases h0 : m = 0
  · subst h0; rw [nrm_zero] at hn; injection hn with hn; injection hn with h1 h2; subst h1; exact Nat.zero_le _
  · obtain ⟨t, ht, _, hodd, _⟩ := nrm_some h0 hn
    have hm : m.natAbs = m'.natAbs * 2 ^ t := by rw [ht, natAbs_mul_pow]
    rcases Nat.lt_or_ge m.natAbs (2 ^ p) with h1 | h1
    · have : m'.natAbs ≤ m.natAbs := by rw [hm]; exact Nat.le_mul_of_pos_right _ (Nat.pow_pos (by decide))
      exact blen_le (by omega)
    · have he : m'.natAbs * 2 ^ t = 2 ^ p * (2 * 0 + 1) := by omega
      have ho : m'.natAbs % 2 = 1 := by omega
      have h5 : m'.natAbs * 2 ^ t = 2 ^ t * (2 * (m'.natAbs / 2) + 1) := by
        rw [Nat.mul_comm]; congr 1; omega
      have h2 : t = p := odd_uniq _ _ _ _ (h5.symm.trans he)
      subst h2
      have h3 : m'.natAbs = 1 := by
        have := Nat.pow_pos (n := t) (show 0 < 2 by omega)
        rw [Nat.mul_zero, Nat.zero_add, Nat.mul_one] at he
        exact Nat.eq_of_mul_eq_mul_right this (by omega)
      rw [h3]; exact hp

theorem nrm_inj {M N E : Int} (hM : nrm M E ≠ none) (hN : nrm N E ≠ none) : nrm M E = nrm N E ↔ M = N := by
  constructor
  · intro h
    have h1 := dcmp_nrm M N E hM hN
    rw [← h] at h1
    have h2 := dcmp_nrm M M E hM hM
    rw [h1] at h2
    rw [cmpI_eq0.2 rfl] at h2
    exact cmpI_eq0.1 h2
  · intro h; rw [h]

/-- The quotients of the law: rounded down and up. -/
theorem quo_law (a e b f : Int) (p : Nat) (ha : Slim a e) (hb : Slim b f) (hb0 : 0 < b) (hp : 1 ≤ p) (hp1 : p ≤ 80) :
    ∃ l k h j, dquo (some (a, e)) (some (b, f)) p 1 = some (l, k) ∧ dquo (some (a, e)) (some (b, f)) p 2 = some (h, j) ∧ blen l.natAbs ≤ p ∧ blen h.natAbs ≤ p ∧
      dcmp (dmul (some (l, k)) (some (b, f))) (some (a, e)) ≤ 0 ∧ dcmp (some (a, e)) (dmul (some (h, j)) (some (b, f))) ≤ 0 ∧
      (((l, k) = (h, j)) ↔ dcmp (dmul (some (l, k)) (some (b, f))) (some (a, e)) = 0) ∧ (dcmp (dmul (some (l, k)) (some (b, f))) (some (a, e)) = 0 ↔ dcmp (some (a, e)) (dmul (some (h, j)) (some (b, f))) = 0) ∧
      dmul (some (l, k)) (some (b, f)) ≠ none ∧ dmul (some (h, j)) (some (b, f)) ≠ none := by
  have hprc : prc (p : Int) = true := by unfold prc; simp; omega
  have nb : ¬ b = 0 := by omega
  by_cases ha0 : a = 0
  · have he : e = 0 := by rcases ha with h | h <;> omega
    subst ha0 he
    refine ⟨0, 0, 0, 0, by simp [dquo, hprc, nb], by simp [dquo, hprc, nb], Nat.zero_le _, Nat.zero_le _, ?_⟩
    have : dmul (some (0, 0)) (some (b, f)) = some (0, 0) := by simp [dmul, nrm_zero]
    rw [this]
    simp [dcmp, up_zero, cmpI]
  · obtain ⟨hA, hE0, hE1, hE2⟩ := ha.bounds
    obtain ⟨hB, hF0, hF1, hF2⟩ := hb.bounds
    have hbA := blen_nz ha0
    have hbB := blen_nz nb
    have ea := nrm_self ha.okd
    have eb := nrm_self hb.okd
    simp only [dquo, hprc, if_neg nb, if_neg ha0, Bool.true_eq_false, if_false]
    have hs0 : decide (b < 0) = false := by simp; omega
    rw [hs0, Bool.bne_false]
    obtain ⟨n, hn⟩ : ∃ n, n = qsh a b p := ⟨_, rfl⟩
    rw [← hn]
    have hn1 : (p : Int) + 3 + blen b.natAbs ≤ blen a.natAbs + n := by rw [hn]; unfold qsh; omega
    have hn2 : (n : Int) ≤ 83 + blen b.natAbs := by rw [hn]; unfold qsh; omega
    clear hn
    obtain ⟨s, hs⟩ : ∃ s, s = decide (a < 0) := ⟨_, rfl⟩
    have hsa : sgn s a.natAbs = a := by rw [hs, sgn_abs]
    rw [← hs]
    clear hs
    obtain ⟨A, hAA⟩ : ∃ A, A = a.natAbs := ⟨_, rfl⟩
    obtain ⟨Q, hQQ⟩ : ∃ Q, Q = b.natAbs := ⟨_, rfl⟩
    rw [← hAA] at hsa hA hbA hn1
    rw [← hQQ] at hn1 hn2 hB hbB
    rw [← hAA, ← hQQ]
    have hQ0 : 0 < Q := by omega
    have hA0 : 0 < A := by omega
    have hbQ : b = (Q : Int) := by omega
    obtain ⟨P, hP⟩ : ∃ P, P = A * 2 ^ n := ⟨_, rfl⟩
    have hbP : blen P = blen A + n := by rw [hP]; exact blen_mul_pow hA0 n
    have hP0 : 0 < P := by rw [hP]; exact Nat.mul_pos hA0 (Nat.pow_pos (by decide))
    rw [← hP]
    -- the quotient has more bits than asked for
    have hx1 : p + 3 ≤ blen (P / Q) := by
      refine le_blen ?_
      rw [Nat.le_div_iff_mul_le hQ0]
      refine Nat.le_trans (Nat.le_of_lt (Nat.mul_lt_mul_of_pos_left (lt_blen Q) (Nat.pow_pos (by decide)))) ?_
      rw [← Nat.pow_add]
      exact Nat.le_trans (Nat.pow_le_pow_right (by omega) (by omega)) (blen_le_self hP0)
    have hx2 : blen (P / Q) ≤ blen P := blen_mono (Nat.div_le_self _ _)
    obtain ⟨c, hc⟩ : ∃ c, blen (P / Q) = p + c := ⟨blen (P / Q) - p, by omega⟩
    obtain ⟨hd, hu⟩ := dfix_dir s (P / Q) (e - n - f) (decide (P % Q ≠ 0)) p c (by omega) (by omega)
    rw [hd, hu]
    clear hd hu
    obtain ⟨hex, hdd⟩ := quo_parts P Q c hQ0
    rw [hdd]
    have hlt : P / (Q * 2 ^ c) < 2 ^ p := by
      rw [← hdd, Nat.div_lt_iff_lt_mul (Nat.pow_pos (by decide)), ← Nat.pow_add, ← hc]
      exact lt_blen _
    have hdm := Nat.div_add_mod P (Q * 2 ^ c)
    have hml := Nat.mod_lt P (Nat.mul_pos hQ0 (Nat.pow_pos (n := c) (show 0 < 2 by omega)))
    obtain ⟨N, hN⟩ : ∃ N, N = P / (Q * 2 ^ c) := ⟨_, rfl⟩
    rw [← hN] at hlt hdm ⊢
    obtain ⟨x, hx⟩ : ∃ x, x = rex (P / Q) (decide (P % Q ≠ 0)) c := ⟨_, rfl⟩
    rw [← hx] at hex ⊢
    obtain ⟨R, hR⟩ : ∃ R, R = P % (Q * 2 ^ c) := ⟨_, rfl⟩
    rw [← hR] at hex hdm hml
    clear hR hx hN hdd
    -- all in units of 2^(e - n)
    have key : ∀ L : Nat, L ≤ 2 ^ p → ∃ l k, nrm (sgn s L) (e - n - f + c) = some (l, k) ∧ blen l.natAbs ≤ p ∧ dcmp (dmul (some (l, k)) (some (b, f))) (some (a, e)) = cmpI (sgn s (L * Q * 2 ^ c)) (sgn s P) ∧
        dcmp (some (a, e)) (dmul (some (l, k)) (some (b, f))) = cmpI (sgn s P) (sgn s (L * Q * 2 ^ c)) ∧ dmul (some (l, k)) (some (b, f)) ≠ none := by
      intro L hL
      have hbl := blen_le_pow hL
      have hv : nrm (sgn s L) (e - n - f + c) ≠ none := nrm_valid (by omega) (by rw [sgn_natAbs]; omega)
      cases hl : nrm (sgn s L) (e - n - f + c) with
      | none => exact absurd hl hv
      | some q =>
        obtain ⟨l, k⟩ := q
        refine ⟨l, k, rfl, nrm_bits (by rw [sgn_natAbs]; exact hL) hp hl, ?_⟩
        have hm : dmul (some (l, k)) (some (b, f)) = nrm (sgn s (L * Q * 2 ^ c)) (e - n) := by
          rw [← hl, ← eb, dmul_nrm _ _ _ _ hv (by rw [eb]; simp)]
          have e1 : sgn s (L * Q * 2 ^ c) = (sgn s L * b) * 2 ^ c := by
            rw [hbQ]; cases s <;> simp [sgn, Int.neg_mul]
          rw [e1, nrm_scale]
          congr 1; omega
        have hv2 : nrm (sgn s (L * Q * 2 ^ c)) (e - n) ≠ none := by
          refine nrm_valid (by omega) ?_
          rw [sgn_natAbs]
          have h1 := blen_mul_le (L * Q) (2 ^ c)
          have h2 := blen_mul_le L Q
          have h3 := blen_le_pow (x := 2 ^ c) (n := c) (Nat.le_refl _)
          omega
        have h3 : some (a, e) = nrm (sgn s P) (e - n) := by
          have e1 : sgn s P = a * 2 ^ n := by
            rw [hP, ← hsa]; cases s <;> simp [sgn, Int.neg_mul]
          rw [e1, nrm_scale, show e - (n : Int) + n = e by omega, ea]
        have hv3 : nrm (sgn s P) (e - n) ≠ none := by rw [← h3]; simp
        rw [hm, h3]
        exact ⟨dcmp_nrm _ _ _ hv2 hv3, dcmp_nrm _ _ _ hv3 hv2, hv2⟩
    have e2 : Q * 2 ^ c * N = N * Q * 2 ^ c := by rw [Nat.mul_comm, Nat.mul_assoc]
    have e3 : (N + 1) * Q * 2 ^ c = N * Q * 2 ^ c + Q * 2 ^ c := by rw [Nat.add_mul, Nat.add_mul, Nat.one_mul]
    rw [e2] at hdm
    have inj : ∀ L L' : Nat, L ≤ 2 ^ p → L' ≤ 2 ^ p → ∀ l k h j, nrm (sgn s L) (e - n - f + c) = some (l, k) → nrm (sgn s L') (e - n - f + c) = some (h, j) → ((l, k) = (h, j) ↔ L = L') := by
      intro L L' _ _ l k h j h1 h2
      have h3 := @nrm_inj (sgn s L) (sgn s L') (e - n - f + c) (by rw [h1]; simp) (by rw [h2]; simp)
      rw [h1, h2] at h3
      have h4 : sgn s L = sgn s L' ↔ L = L' := by cases s <;> simp [sgn] <;> omega
      rw [← h4, ← h3]; simp
    obtain ⟨l1, k1, g1, g2, g3, g4, g5⟩ := key N (by omega)
    obtain ⟨l2, k2, i1, i2, i3, i4, i5⟩ := key (N + 1) (by omega)
    have hij := inj N (N + 1) (by omega) (by omega) _ _ _ _ g1 i1
    have hne : ¬ N = N + 1 := by omega
    generalize N * Q * 2 ^ c = U at *
    generalize (N + 1) * Q * 2 ^ c = V at *
    generalize Q * 2 ^ c = W at *
    cases x with
    | true =>
      have hR0 := hex.1 rfl
      refine ⟨l1, k1, l1, k1, ?_, ?_, g2, g2, ?_⟩
      · simpa using g1
      · simpa using g1
      · rw [g3, g4]
        have : U = P := by omega
        subst this
        simp [cmpI, g5]
    | false =>
      have hR0 : R ≠ 0 := fun h => by have := hex.2 h; cases this
      cases s with
      | false =>
        refine ⟨l1, k1, l2, k2, by simpa using g1, by simpa using i1, g2, i2, ?_⟩
        rw [g3, i4, cmpI_le, cmpI_le, cmpI_eq0, cmpI_eq0, hij]
        simp only [sgn_false]
        refine ⟨by omega, by omega, by constructor <;> intro h <;> omega, by constructor <;> intro h <;> omega, g5, i5⟩
      | true =>
        refine ⟨l2, k2, l1, k1, by simpa using i1, by simpa using g1, i2, g2, ?_⟩
        rw [i3, g4, cmpI_le, cmpI_le, cmpI_eq0, cmpI_eq0]
        have hji : (l2, k2) = (l1, k1) ↔ N = N + 1 := by rw [← hij]; exact eq_comm
        rw [hji]
        simp only [sgn_true]
        refine ⟨by omega, by omega, by constructor <;> intro h <;> omega, by constructor <;> intro h <;> omega, i5, g5⟩

end Go.Proofs.YtjhngehajahbnaaGreatDoor

namespace Go.Proofs.YtjhngehajahbnaaGreatDoor
open Go.RowKit Sp

/-! ### slim dyads in units of 2^-2000 -/
theorem slim_up {m e : Int} (h : Slim m e) : ∃ M : Int, nrm M (-2000) = some (m, e) ∧ blen M.natAbs ≤ 4640 := by
  refine ⟨up m e (-2000), ?_, ?_⟩
  · by_cases h0 : m = 0
    · have : e = 0 := by rcases h with h | h <;> omega
      subst h0 this; rw [up_zero]; rfl
    · rw [nrm_up _ _ _ (h.bounds.2.1)]; exact nrm_self h.okd
  · by_cases h0 : m = 0
    · subst h0; rw [up_zero]; decide
    · have h1 := blen_up h.bounds.2.1 h0
      have h2 := h.bounds
      omega
theorem nv {M E : Int} {k : Nat} (h : blen M.natAbs ≤ k) (h1 : -65536 ≤ E) (h2 : E + k ≤ 65536) : nrm M E ≠ none := nrm_valid h1 (by omega)
theorem bl_add (M N : Int) : blen (M + N).natAbs ≤ max (blen M.natAbs) (blen N.natAbs) + 1 :=
  Nat.le_trans (blen_mono (Int.natAbs_add_le M N)) (blen_add_le _ _)
theorem bl_mul (M N : Int) : blen (M * N).natAbs ≤ blen M.natAbs + blen N.natAbs := by
  rw [Int.natAbs_mul]; exact blen_mul_le _ _
theorem dneg_nrm (M E : Int) (h : nrm M E ≠ none) : dneg (nrm M E) = nrm (-M) E := by
  cases k : nrm M E with
  | none => exact absurd k h
  | some p =>
    obtain ⟨m, e⟩ := p
    show some (-m, e) = _
    by_cases h0 : M = 0
    · subst h0; rw [nrm_zero] at k; injection k with k; injection k with h1 h2; subst h1 h2; rfl
    · obtain ⟨t, ht, he, _⟩ := nrm_some h0 k
      rw [ht, ← Int.neg_mul, nrm_scale, ← he]
      exact (nrm_self (okd_neg (nrm_ok k))).symm
theorem dadd_comm (a b : Option (Int × Int)) : dadd a b = dadd b a := by
  unfold dadd
  cases a <;> cases b <;> try rfl
  rename_i p q
  obtain ⟨m, e⟩ := p
  obtain ⟨n, f⟩ := q
  show nrm _ (min e f) = nrm _ (min f e)
  rw [Int.min_comm f e, Int.add_comm]
theorem dmul_comm (a b : Option (Int × Int)) : dmul a b = dmul b a := by
  unfold dmul
  cases a <;> cases b <;> try rfl
  rename_i p q
  obtain ⟨m, e⟩ := p
  obtain ⟨n, f⟩ := q
  show nrm _ (e + f) = nrm _ (f + e)
  rw [Int.mul_comm, Int.add_comm]
theorem dadd_none (a : Option (Int × Int)) : dadd a none = none := by cases a <;> rfl
theorem dmul_none (a : Option (Int × Int)) : dmul a none = none := by cases a <;> rfl

/-- The ring laws, for slim dyads; and nothing is out of range. -/
theorem ring_law {a e b f c g : Int} (ha : Slim a e) (hb : Slim b f) (hc : Slim c g) :
    dadd (some (a, e)) (dneg (some (a, e))) = some (0, 0) ∧
    dadd (dadd (some (a, e)) (some (b, f))) (some (c, g)) = dadd (some (a, e)) (dadd (some (b, f)) (some (c, g))) ∧
    dmul (dmul (some (a, e)) (some (b, f))) (some (c, g)) = dmul (some (a, e)) (dmul (some (b, f)) (some (c, g))) ∧
    dmul (dadd (some (a, e)) (some (b, f))) (some (c, g)) = dadd (dmul (some (a, e)) (some (c, g))) (dmul (some (b, f)) (some (c, g))) := by
  obtain ⟨A, hA, lA⟩ := slim_up ha
  obtain ⟨B, hB, lB⟩ := slim_up hb
  obtain ⟨C, hC, lC⟩ := slim_up hc
  rw [← hA, ← hB, ← hC]
  have vA := nv lA (E := -2000) (by omega) (by omega)
  have vB := nv lB (E := -2000) (by omega) (by omega)
  have vC := nv lC (E := -2000) (by omega) (by omega)
  have vA' : nrm (-A) (-2000) ≠ none := nv (k := 4640) (by rw [Int.natAbs_neg]; exact lA) (by omega) (by omega)
  have vAB := nv (E := -2000) (k := 4641) (Nat.le_trans (bl_add A B) (by omega)) (by omega) (by omega)
  have vBC := nv (E := -2000) (k := 4641) (Nat.le_trans (bl_add B C) (by omega)) (by omega) (by omega)
  have wAB := nv (E := -2000 + -2000) (k := 9280) (Nat.le_trans (bl_mul A B) (by omega)) (by omega) (by omega)
  have wBC := nv (E := -2000 + -2000) (k := 9280) (Nat.le_trans (bl_mul B C) (by omega)) (by omega) (by omega)
  have wAC := nv (E := -2000 + -2000) (k := 9280) (Nat.le_trans (bl_mul A C) (by omega)) (by omega) (by omega)
  refine ⟨?_, ?_, ?_, ?_⟩
  · rw [dneg_nrm _ _ vA, dadd_nrm _ _ _ vA vA', Int.add_right_neg]; rfl
  · rw [dadd_nrm _ _ _ vA vB, dadd_nrm _ _ _ vB vC, dadd_nrm _ _ _ vAB vC, dadd_nrm _ _ _ vA vBC, Int.add_assoc]
  · rw [dmul_nrm _ _ _ _ vA vB, dmul_nrm _ _ _ _ vB vC, dmul_nrm _ _ _ _ wAB vC, dmul_nrm _ _ _ _ vA wBC, Int.mul_assoc, Int.add_assoc]
  · rw [dadd_nrm _ _ _ vA vB, dmul_nrm _ _ _ _ vA vC, dmul_nrm _ _ _ _ vB vC, dmul_nrm _ _ _ _ vAB vC, dadd_nrm _ _ _ wAC wBC, Int.add_mul]


/-! ### scaling, Log2, Floor -/
theorem dscale_back {m e n : Int} (h : Slim m e) (h0 : -2000 ≤ n) (h1 : n ≤ 2000) : dscale (some (m, e)) n ≠ none ∧ dscale (dscale (some (m, e)) n) (-n) = some (m, e) := by
  have hb := h.bounds
  have e1 : dscale (some (m, e)) n = nrm m (e + n) := by
    show nrm m (e + max (min n 262144) (-262144)) = _
    congr 1; omega
  rw [e1]
  have hv : nrm m (e + n) ≠ none := nrm_valid (by omega) (by omega)
  refine ⟨hv, ?_⟩
  by_cases hm : m = 0
  · have : e = 0 := by rcases h with h | h <;> omega
    subst hm this; rfl
  · have ho : m % 2 = 1 := by rcases h with h | h <;> omega
    have e2 : nrm m (e + n) = some (m, e + n) := nrm_self (Or.inr ⟨ho, by omega, by omega⟩)
    rw [e2]
    show nrm m (e + n + max (min (-n) 262144) (-262144)) = _
    rw [show e + n + max (min (-n) 262144) (-262144) = e by omega]
    exact nrm_self h.okd
theorem sg_eq (z : Int) : cmpI z 0 = (if z < 0 then -1 else if 0 < z then 1 else 0) := rfl
/-- the sign of a dyad is that of its integer -/
theorem dman_sign {M E m e : Int} (h : nrm M E = some (m, e)) : cmpI m 0 = cmpI M 0 := by
  by_cases h0 : M = 0
  · subst h0; rw [nrm_zero] at h; injection h with h; injection h with h1 h2; subst h1; rfl
  · obtain ⟨t, ht, _⟩ := nrm_some h0 h
    have a2 := mul_pow_neg m t
    rw [← ht] at a2
    exact (cmpI_sign a2.1.symm a2.2.symm).1
theorem dfloor_law {m e : Int} (h : Slim m e) : ∃ g r : Int, blen (dfloor (some (m, e))).natAbs ≤ 2640 ∧ nrm (dfloor (some (m, e))) 0 ≠ none ∧ dadd (some (m, e)) (dneg (nrm (dfloor (some (m, e))) 0)) = some (g, r) ∧ ¬ cmpI g 0 < 0 ∧ dcmp (some (g, r)) (some (1, 0)) < 0 := by
  have hb := h.bounds
  have em := nrm_self h.okd
  by_cases he : 0 ≤ e
  · have e1 : dfloor (some (m, e)) = up m e 0 := by
      show shl m e = _
      unfold shl up; rw [if_pos he, Int.sub_zero]
    rw [e1, nrm_up _ _ _ he, em]
    have hl : blen (up m e 0).natAbs ≤ 2640 := by
      by_cases h0 : m = 0
      · subst h0; rw [up_zero]; decide
      · have := blen_up he h0; omega
    refine ⟨0, 0, hl, by simp, ?_, by decide, by decide⟩
    have hv : nrm m e ≠ none := by rw [em]; simp
    have hv' : nrm (-m) e ≠ none := nrm_valid (by omega) (by rw [Int.natAbs_neg]; omega)
    rw [← em, dneg_nrm _ _ hv, dadd_nrm _ _ _ hv hv', Int.add_right_neg]; rfl
  · obtain ⟨k, hk⟩ : ∃ k : Nat, e = -(k : Int) := ⟨(-e).toNat, by omega⟩
    have e1 : dfloor (some (m, e)) = m / 2 ^ k := by
      show shl m e = _
      unfold shl; rw [if_neg he]; congr 2; omega
    have hp := pow2_pos k
    obtain ⟨q, hq⟩ : ∃ q, q = m / 2 ^ k := ⟨_, rfl⟩
    have hdm := Int.mul_ediv_add_emod m (2 ^ k)
    have hm0 := Int.emod_nonneg m (Int.ne_of_gt hp)
    have hm1 := Int.emod_lt_of_pos m hp
    rw [e1, ← hq]
    rw [← hq] at hdm
    obtain ⟨R, hR⟩ : ∃ R, R = m % 2 ^ k := ⟨_, rfl⟩
    rw [← hR] at hdm hm0 hm1
    have hql : q.natAbs ≤ m.natAbs := by
      rw [hq]
      exact Int.natAbs_ediv_le_natAbs _ _
    have hbq := blen_mono hql
    have v0 : nrm q 0 ≠ none := nrm_valid (by omega) (by omega)
    have e2 : nrm q 0 = nrm (q * 2 ^ k) e := by rw [nrm_scale, hk]; congr 1; omega
    have v1 : nrm (q * 2 ^ k) e ≠ none := by rw [← e2]; exact v0
    have v2 : nrm (-(q * 2 ^ k)) e ≠ none := by
      rw [← dneg_nrm _ _ v1]
      cases h5 : nrm (q * 2 ^ k) e with
      | none => exact absurd h5 v1
      | some p => obtain ⟨x, y⟩ := p; simp [dneg]
    have v3 : nrm m e ≠ none := by rw [em]; simp
    have hsum : m + -(q * 2 ^ k) = R := by rw [Int.mul_comm] at hdm; omega
    have hRl : blen R.natAbs ≤ k := by
      refine blen_le ?_
      have h6 : ((R.natAbs : Nat) : Int) < ((2 ^ k : Nat) : Int) := by rw [pow2_nat]; omega
      exact Int.ofNat_lt.1 h6
    have v4 : nrm R e ≠ none := nrm_valid (by omega) (by omega)
    have e3 : dadd (some (m, e)) (dneg (nrm q 0)) = nrm R e := by
      rw [e2, dneg_nrm _ _ v1, ← em, dadd_nrm _ _ _ v3 v2, hsum]
    cases h7 : nrm R e with
    | none => exact absurd h7 v4
    | some p =>
      obtain ⟨g, r⟩ := p
      refine ⟨g, r, by omega, v0, by rw [e3, h7], ?_, ?_⟩
      · rw [dman_sign h7]; unfold cmpI; rw [if_neg (by omega)]; split <;> decide
      · have e4 : some ((1 : Int), (0 : Int)) = nrm (2 ^ k) e := by
          have := nrm_scale 1 e k
          rw [Int.one_mul] at this
          rw [this, hk, show -(k : Int) + k = 0 by omega]
          rfl
        have v5 : nrm (2 ^ k) e ≠ none := by rw [← e4]; simp
        rw [← h7, e4, dcmp_nrm _ _ _ v4 v5]
        unfold cmpI; rw [if_pos hm1]; decide
theorem dlog_law {m e : Int} (h : Slim m e) (h0 : m ≠ 0) : dscale (some (1, 0)) (dlog (some (m, e))) ≠ none ∧ dscale (some (1, 0)) (dlog (some (m, e)) + 1) ≠ none ∧ dcmp (dscale (some (1, 0)) (dlog (some (m, e)))) (dabs (some (m, e))) ≤ 0 ∧ dcmp (dabs (some (m, e))) (dscale (some (1, 0)) (dlog (some (m, e)) + 1)) < 0 ∧ -4640 ≤ dlog (some (m, e)) ∧ dlog (some (m, e)) ≤ 4640 := by
  have hb := h.bounds
  have hz := blen_nz h0
  have e1 : dlog (some (m, e)) = e + blen m.natAbs - 1 := by simp [dlog, h0]
  rw [e1]
  obtain ⟨k, hk⟩ : ∃ k, blen m.natAbs = k + 1 := ⟨blen m.natAbs - 1, by omega⟩
  have l1 := blen_le_self (Int.natAbs_pos.2 h0)
  have l2 := lt_blen m.natAbs
  rw [hk] at l1 l2
  rw [Nat.add_sub_cancel] at l1
  rw [hk]
  have p1 : ∀ j : Nat, j ≤ 641 → dscale (some (1, 0)) (e + j) = nrm (2 ^ j) e ∧ nrm (2 ^ j) e ≠ none := by
    intro j hj
    have h1 : dscale (some (1, 0)) (e + j) = nrm 1 (e + j) := by
      show nrm 1 (0 + max (min (e + j) 262144) (-262144)) = _
      congr 1; omega
    have h2 := nrm_scale 1 e j
    rw [Int.one_mul] at h2
    rw [h1, h2]
    refine ⟨rfl, nrm_valid (by omega) ?_⟩
    have : blen (1 : Int).natAbs = 1 := rfl
    omega
  obtain ⟨q1, q2⟩ := p1 k (by omega)
  obtain ⟨q3, q4⟩ := p1 (k + 1) (by omega)
  rw [show e + ((k + 1 : Nat) : Int) - 1 + 1 = e + ((k + 1 : Nat) : Int) by omega, show e + ((k + 1 : Nat) : Int) - 1 = e + k by omega, q1, q3]
  have em := nrm_self (okd_abs h.okd)
  have e3 : dabs (some (m, e)) = nrm (m.natAbs : Int) e := by rw [em]; rfl
  have v3 : nrm (m.natAbs : Int) e ≠ none := by rw [em]; simp
  rw [e3]
  have c1 : (2 : Int) ^ k ≤ (m.natAbs : Int) := by rw [← pow2_nat]; omega
  have c2 : (m.natAbs : Int) < (2 : Int) ^ (k + 1) := by rw [← pow2_nat]; omega
  refine ⟨q2, q4, ?_, ?_, by omega, by omega⟩
  · rw [dcmp_nrm _ _ _ q2 v3, cmpI_le]; exact c1
  · rw [dcmp_nrm _ _ _ v3 q4]; unfold cmpI; rw [if_pos c2]; decide


/-! ### rounding to nearest and the others -/
theorem cmpI_neg_iff {m n : Int} : cmpI m n < 0 ↔ m < n := by unfold cmpI; split <;> (try split) <;> constructor <;> intro h <;> omega
theorem cmpI_pos_iff {m n : Int} : 0 < cmpI m n ↔ n < m := by unfold cmpI; split <;> (try split) <;> constructor <;> intro h <;> omega

/-- what a rounding gives, in units of 2^e: the number below or above in absolute value -/
theorem dround_cut (m e : Int) (p : Nat) (mode : Int) (c : Nat) (h0 : m ≠ 0) (hp : 1 ≤ p) (hp1 : p ≤ 80) (hc : blen m.natAbs = p + c) (hc1 : 1 ≤ c) :
    dround (some (m, e)) p mode = nrm (sgn (decide (m < 0)) (m.natAbs / 2 ^ c + if raw (decide (m < 0)) (m.natAbs / 2 ^ c) (rcm m.natAbs false c) (rex m.natAbs false c) mode then 1 else 0)) (e + c) := by
  have hprc : prc (p : Int) = true := by unfold prc; simp; omega
  have hq : rlg m.natAbs e + 1 - (p : Int) = e + c := by unfold rlg; omega
  have hn : ¬ e + (c : Int) ≤ e := by omega
  simp only [dround, hprc, if_neg h0, Bool.true_eq_false, if_false]
  unfold dfix rmag rax rdn
  simp only [hq, if_neg hn, show (e + c - e).toNat = c by omega]
theorem dround_short (m e : Int) (p : Nat) (mode : Int) (hd : Okd m e) (hp : 1 ≤ p) (hp1 : p ≤ 80) (hc : blen m.natAbs ≤ p) : dround (some (m, e)) p mode = some (m, e) := by
  have hprc : prc (p : Int) = true := by unfold prc; simp; omega
  by_cases h0 : m = 0
  · have he : e = 0 := by rcases hd with h | h <;> omega
    subst h0 he; simp [dround, hprc]
  · have hz := blen_nz h0
    have hq : rlg m.natAbs e + 1 - (p : Int) ≤ e := by unfold rlg; omega
    simp only [dround, hprc, if_neg h0, Bool.true_eq_false, if_false]
    unfold dfix rmag rax rdn
    simp only [if_pos hq, Bool.false_eq_true, if_false, Nat.add_zero]
    have e1 : sgn (decide (m < 0)) (m.natAbs * 2 ^ (e - (rlg m.natAbs e + 1 - (p : Int))).toNat) = m * 2 ^ (e - (rlg m.natAbs e + 1 - (p : Int))).toNat := by
      have h1 := sgn_abs m
      generalize (e - (rlg m.natAbs e + 1 - (p : Int))).toNat = k
      by_cases h : m < 0
      · rw [show decide (m < 0) = true by simpa using h, sgn_true] at *
        rw [Int.natCast_mul, ← Int.neg_mul, h1]; simp
      · rw [show decide (m < 0) = false by simpa using h, sgn_false] at *
        rw [Int.natCast_mul, h1]; simp
    rw [e1, nrm_scale]
    have : rlg m.natAbs e + 1 - (p : Int) + ((e - (rlg m.natAbs e + 1 - (p : Int))).toNat : Int) = e := by omega
    rw [this]
    exact nrm_self hd

theorem near_law (m e : Int) (p : Nat) (hd : Slim m e) (hp : 1 ≤ p) (hp1 : p ≤ 80) (hb : p < blen m.natAbs) :
    ∃ l k h j r t, dround (some (m, e)) p 1 = some (l, k) ∧ dround (some (m, e)) p 2 = some (h, j) ∧ dround (some (m, e)) p 0 = some (r, t) ∧ blen l.natAbs ≤ p ∧ blen h.natAbs ≤ p ∧ blen r.natAbs ≤ p ∧
      dcmp (some (l, k)) (some (m, e)) < 0 ∧ dcmp (some (m, e)) (some (h, j)) < 0 ∧
      dadd (some (m, e)) (dneg (some (l, k))) ≠ none ∧ dadd (some (h, j)) (dneg (some (m, e))) ≠ none ∧
      (dcmp (dadd (some (m, e)) (dneg (some (l, k)))) (dadd (some (h, j)) (dneg (some (m, e)))) < 0 → (r, t) = (l, k)) ∧
      (0 < dcmp (dadd (some (m, e)) (dneg (some (l, k)))) (dadd (some (h, j)) (dneg (some (m, e)))) → (r, t) = (h, j)) ∧
      ((r, t) = (l, k) ∨ (r, t) = (h, j)) ∧
      dround (some (m, e)) p 3 = if m < 0 then some (h, j) else some (l, k) := by
  obtain ⟨hA, hE0, hE1, hE2⟩ := hd.bounds
  have h0 : m ≠ 0 := by intro h; subst h; simp [blen] at hb
  have hodd : m % 2 = 1 := by rcases hd with h | h <;> omega
  obtain ⟨c, hc⟩ : ∃ c, blen m.natAbs = p + c := ⟨blen m.natAbs - p, by omega⟩
  have hc1 : 1 ≤ c := by omega
  rw [dround_cut m e p 1 c h0 hp hp1 hc hc1, dround_cut m e p 2 c h0 hp hp1 hc hc1, dround_cut m e p 0 c h0 hp hp1 hc hc1, dround_cut m e p 3 c h0 hp hp1 hc hc1]
  have ed := nrm_self hd.okd
  obtain ⟨s, hs⟩ : ∃ s, s = decide (m < 0) := ⟨_, rfl⟩
  have hsm : sgn s m.natAbs = m := by rw [hs, sgn_abs]
  have hsi : m < 0 ↔ s = true := by rw [hs]; simp
  rw [← hs]
  clear hs
  obtain ⟨x, hx⟩ : ∃ x, x = m.natAbs := ⟨_, rfl⟩
  have hxo : x % 2 = 1 := by omega
  rw [← hx] at hsm hc hA ⊢
  have h2c : 2 ^ c = 2 * 2 ^ (c - 1) := by rw [← Nat.pow_succ']; congr 1; omega
  have hp2 : 0 < 2 ^ (c - 1) := Nat.pow_pos (by decide)
  have hdm := Nat.div_add_mod x (2 ^ c)
  have hml := Nat.mod_lt x (show 0 < 2 ^ c by omega)
  have hR0 : x % 2 ^ c ≠ 0 := by
    intro h
    have h1 : x = 2 * (2 ^ (c - 1) * (x / 2 ^ c)) := by rw [← Nat.mul_assoc, ← h2c]; omega
    omega
  have hN : x / 2 ^ c < 2 ^ p := by
    rw [Nat.div_lt_iff_lt_mul (by omega), ← Nat.pow_add, ← hc]; exact lt_blen _
  have hex : rex x false c = false := by unfold rex; simp [hR0]
  have hcm : rcm x false c = cmpI ((x % 2 ^ c : Nat) : Int) ((2 ^ (c - 1) : Nat) : Int) := by unfold rcm; simp
  rw [hex, hcm]
  obtain ⟨N, hNN⟩ : ∃ N, N = x / 2 ^ c := ⟨_, rfl⟩
  obtain ⟨R, hRR⟩ : ∃ R, R = x % 2 ^ c := ⟨_, rfl⟩
  rw [← hNN] at hN hdm ⊢
  rw [← hRR] at hdm hml hR0 ⊢
  have key : ∀ L : Nat, L ≤ 2 ^ p → ∃ l k, nrm (sgn s L) (e + c) = some (l, k) ∧ blen l.natAbs ≤ p ∧ some (l, k) = nrm (sgn s (L * 2 ^ c)) e ∧ nrm (sgn s (L * 2 ^ c)) e ≠ none := by
    intro L hL
    have hbl := blen_le_pow hL
    have hv : nrm (sgn s L) (e + c) ≠ none := nrm_valid (by omega) (by rw [sgn_natAbs]; omega)
    cases hl : nrm (sgn s L) (e + c) with
    | none => exact absurd hl hv
    | some q =>
      obtain ⟨l, k⟩ := q
      have e2 : nrm (sgn s (L * 2 ^ c)) e = some (l, k) := by
        have e1 : sgn s (L * 2 ^ c) = sgn s L * 2 ^ c := by cases s <;> simp [sgn, Int.neg_mul]
        rw [e1, nrm_scale, hl]
      exact ⟨l, k, rfl, nrm_bits (by rw [sgn_natAbs]; exact hL) hp hl, e2.symm, by rw [e2]; simp⟩
  obtain ⟨l1, k1, g1, g2, g3, g4⟩ := key N (by omega)
  obtain ⟨l2, k2, i1, i2, i3, i4⟩ := key (N + 1) (by omega)
  have hd3 : some (m, e) = nrm (sgn s x) e := by rw [hsm]; exact ed.symm
  have hd4 : nrm (sgn s x) e ≠ none := by rw [← hd3]; simp
  obtain ⟨K, hK⟩ : ∃ K, K = 640 := ⟨_, rfl⟩
  have hb640 : ∀ z : Int, z.natAbs ≤ 2 ^ (K + 1) → nrm z e ≠ none := fun z hz => nrm_valid (by omega) (by have := blen_le_pow hz; omega)
  have hx640 : x < 2 ^ K := Nat.lt_of_lt_of_le (lt_blen x) (Nat.pow_le_pow_right (by decide) (by omega))
  have hW : 2 ^ c ≤ 2 ^ K := Nat.pow_le_pow_right (by decide) (by omega)
  have e3 : 2 ^ c * N = N * 2 ^ c := Nat.mul_comm _ _
  have e4 : (N + 1) * 2 ^ c = N * 2 ^ c + 2 ^ c := by rw [Nat.add_mul, Nat.one_mul]
  have hp641 : (2 : Nat) ^ (K + 1) = 2 * 2 ^ K := by rw [← Nat.pow_succ']
  rw [e3] at hdm
  rw [e4] at i3 i4
  generalize N * 2 ^ c = U at *
  generalize 2 ^ c = V at *
  generalize 2 ^ (c - 1) = H at *
  generalize (2 : Nat) ^ (K + 1) = Q1 at *
  generalize (2 : Nat) ^ K = Q0 at *
  have dn : ∀ z w : Int, nrm z e ≠ none → nrm w e ≠ none → dadd (nrm z e) (dneg (nrm w e)) = nrm (z - w) e := by
    intro z w hz hw
    have hw' : nrm (-w) e ≠ none := by
      rw [← dneg_nrm _ _ hw]
      cases h5 : nrm w e with
      | none => exact absurd h5 hw
      | some p => obtain ⟨x, y⟩ := p; simp [dneg]
    rw [dneg_nrm _ _ hw, dadd_nrm _ _ _ hz hw', Int.sub_eq_add_neg]
  cases s with
  | false =>
    have hns : ¬ m < 0 := by rw [hsi]; simp
    simp only [sgn_false] at *
    have va : nrm ((x : Int) - (U : Int)) e ≠ none := hb640 _ (by omega)
    have vb : nrm (((U + V : Nat) : Int) - (x : Int)) e ≠ none := hb640 _ (by omega)
    have hr : ∃ r t, nrm ((N + if raw false N (cmpI (R : Int) (H : Int)) false 0 = true then 1 else 0 : Nat) : Int) (e + c) = some (r, t) ∧ ((R < H ∧ (r, t) = (l1, k1)) ∨ (H < R ∧ (r, t) = (l2, k2)) ∨ (R = H ∧ ((r, t) = (l1, k1) ∨ (r, t) = (l2, k2)))) := by
      rcases Nat.lt_trichotomy R H with h | h | h
      · have h1 : raw false N (cmpI (R : Int) (H : Int)) false 0 = false := by rw [cmpI_lt (show (R : Int) < H by omega)]; simp [raw]
        rw [h1]; exact ⟨l1, k1, by simpa using g1, Or.inl ⟨h, rfl⟩⟩
      · cases h1 : raw false N (cmpI (R : Int) (H : Int)) false 0
        · exact ⟨l1, k1, by simpa using g1, Or.inr (Or.inr ⟨h, Or.inl rfl⟩)⟩
        · exact ⟨l2, k2, by simpa using i1, Or.inr (Or.inr ⟨h, Or.inr rfl⟩)⟩
      · have h1 : raw false N (cmpI (R : Int) (H : Int)) false 0 = true := by rw [cmpI_gt (show (H : Int) < R by omega)]; simp [raw]
        rw [h1]; exact ⟨l2, k2, by simpa using i1, Or.inr (Or.inl ⟨h, rfl⟩)⟩
    obtain ⟨r, t, hr1, hr2⟩ := hr
    refine ⟨l1, k1, l2, k2, r, t, by simpa [raw] using g1, by simpa [raw] using i1, hr1, g2, i2, ?_, ?_⟩
    · rcases hr2 with ⟨_, h⟩ | ⟨_, h⟩ | ⟨_, h | h⟩ <;> (injection h with h1 h2; subst h1; first | exact g2 | exact i2)
    · rw [g3, i3, hd3, dn _ _ hd4 g4, dn _ _ i4 hd4, dcmp_nrm _ _ _ g4 hd4, dcmp_nrm _ _ _ hd4 i4, dcmp_nrm _ _ _ va vb, cmpI_neg_iff, cmpI_neg_iff, cmpI_neg_iff, cmpI_pos_iff, if_neg hns, ← g3]
      refine ⟨by omega, by omega, va, vb, fun h => ?_, fun h => ?_, ?_, by simpa [raw] using g1⟩
      · rcases hr2 with ⟨_, h'⟩ | ⟨h1, _⟩ | ⟨h1, _⟩
        · exact h'
        · omega
        · omega
      · rcases hr2 with ⟨h1, _⟩ | ⟨_, h'⟩ | ⟨h1, _⟩
        · omega
        · exact h'
        · omega
      · rcases hr2 with ⟨_, h⟩ | ⟨_, h⟩ | ⟨_, h⟩
        · exact Or.inl h
        · exact Or.inr h
        · exact h
  | true =>
    have hns : m < 0 := by rw [hsi]
    simp only [sgn_true] at *
    have va : nrm (-(x : Int) - -((U + V : Nat) : Int)) e ≠ none := hb640 _ (by omega)
    have vb : nrm (-(U : Int) - -(x : Int)) e ≠ none := hb640 _ (by omega)
    have hr : ∃ r t, nrm (-((N + if raw true N (cmpI (R : Int) (H : Int)) false 0 = true then 1 else 0 : Nat) : Int)) (e + c) = some (r, t) ∧ ((R < H ∧ (r, t) = (l1, k1)) ∨ (H < R ∧ (r, t) = (l2, k2)) ∨ (R = H ∧ ((r, t) = (l1, k1) ∨ (r, t) = (l2, k2)))) := by
      rcases Nat.lt_trichotomy R H with h | h | h
      · have h1 : raw true N (cmpI (R : Int) (H : Int)) false 0 = false := by rw [cmpI_lt (show (R : Int) < H by omega)]; simp [raw]
        rw [h1]; exact ⟨l1, k1, by simpa using g1, Or.inl ⟨h, rfl⟩⟩
      · cases h1 : raw true N (cmpI (R : Int) (H : Int)) false 0
        · exact ⟨l1, k1, by simpa using g1, Or.inr (Or.inr ⟨h, Or.inl rfl⟩)⟩
        · exact ⟨l2, k2, by simpa using i1, Or.inr (Or.inr ⟨h, Or.inr rfl⟩)⟩
      · have h1 : raw true N (cmpI (R : Int) (H : Int)) false 0 = true := by rw [cmpI_gt (show (H : Int) < R by omega)]; simp [raw]
        rw [h1]; exact ⟨l2, k2, by simpa using i1, Or.inr (Or.inl ⟨h, rfl⟩)⟩
    obtain ⟨r, t, hr1, hr2⟩ := hr
    refine ⟨l2, k2, l1, k1, r, t, by simpa [raw] using i1, by simpa [raw] using g1, hr1, i2, g2, ?_, ?_⟩
    · rcases hr2 with ⟨_, h⟩ | ⟨_, h⟩ | ⟨_, h | h⟩ <;> (injection h with h1 h2; subst h1; first | exact g2 | exact i2)
    · rw [g3, i3, hd3, dn _ _ hd4 i4, dn _ _ g4 hd4, dcmp_nrm _ _ _ i4 hd4, dcmp_nrm _ _ _ hd4 g4, dcmp_nrm _ _ _ va vb, cmpI_neg_iff, cmpI_neg_iff, cmpI_neg_iff, cmpI_pos_iff, if_pos hns, ← g3]
      refine ⟨by omega, by omega, va, vb, fun h => ?_, fun h => ?_, ?_, by simpa [raw] using g1⟩
      · rcases hr2 with ⟨h1, _⟩ | ⟨_, h'⟩ | ⟨h1, _⟩
        · omega
        · exact h'
        · omega
      · rcases hr2 with ⟨_, h'⟩ | ⟨h1, _⟩ | ⟨h1, _⟩
        · exact h'
        · omega
        · omega
      · rcases hr2 with ⟨_, h⟩ | ⟨_, h⟩ | ⟨_, h⟩
        · exact Or.inr h
        · exact Or.inl h
        · exact h.symm


/-! ### square roots -/
theorem isq_ex (x : Nat) : ∃ r, r * r ≤ x ∧ x < (r + 1) * (r + 1) := by
  induction x with
  | zero => exact ⟨0, by decide⟩
  | succ n ih =>
    obtain ⟨r, h1, h2⟩ := ih
    by_cases h : n + 1 < (r + 1) * (r + 1)
    · exact ⟨r, by omega, h⟩
    · refine ⟨r + 1, by omega, ?_⟩
      have h3 : (r + 1 + 1) * (r + 1 + 1) = (r + 1) * (r + 1) + 2 * r + 3 := by grind
      omega
noncomputable def isq (x : Nat) : Nat := Classical.choose (isq_ex x)
theorem isq_le (x : Nat) : isq x * isq x ≤ x := (Classical.choose_spec (isq_ex x)).1
theorem isq_lt (x : Nat) : x < (isq x + 1) * (isq x + 1) := (Classical.choose_spec (isq_ex x)).2
theorem sq_lt {a b : Nat} (h : a < b) : a * a < b * b := Nat.mul_self_lt_mul_self h
theorem sq_le {a b : Nat} (h : a ≤ b) : a * a ≤ b * b := Nat.mul_self_le_mul_self h
theorem isq_sq (k : Nat) : isq (k * k) = k := by
  have h1 := isq_le (k * k)
  have h2 := isq_lt (k * k)
  rcases Nat.lt_trichotomy (isq (k * k)) k with h | h | h
  · have := sq_le (show isq (k * k) + 1 ≤ k by omega); omega
  · exact h
  · have := sq_lt h; omega
/-- by how much the integer is shifted before its root is taken -/
def rsh (m e p : Int) : Nat :=
  if (e - (max 0 (2 * (p + 3) - blen m.natAbs)).toNat) % 2 ≠ 0 then (max 0 (2 * (p + 3) - blen m.natAbs)).toNat + 1 else (max 0 (2 * (p + 3) - blen m.natAbs)).toNat
theorem rsh_even (m e p : Int) : (e - rsh m e p) % 2 = 0 := by unfold rsh; split <;> omega
theorem rsh_ge (m e p : Int) : 2 * (p + 3) ≤ blen m.natAbs + rsh m e p := by unfold rsh; split <;> omega
theorem rsh_le (m e p : Int) (hp : 0 ≤ p) : (rsh m e p : Int) ≤ 2 * (p + 3) + 1 := by unfold rsh; split <;> omega
noncomputable def dsqrt : Option (Int × Int) → Int → Int → Option (Int × Int)
  | some (m, e), prec, mode =>
    if prc prec = false then none else if m < 0 then none else if m = 0 then some (0, 0) else
    dfix false (isq (m.natAbs * 2 ^ rsh m e prec)) ((e - rsh m e prec) / 2) (decide (isq (m.natAbs * 2 ^ rsh m e prec) * isq (m.natAbs * 2 ^ rsh m e prec) ≠ m.natAbs * 2 ^ rsh m e prec)) prec mode
  | none, _, _ => none

theorem root_law (a e : Int) (p : Nat) (ha : Slim a e) (h0 : 0 ≤ a) (hp : 1 ≤ p) (hp1 : p ≤ 80) :
    ∃ l k h j, dsqrt (some (a, e)) p 1 = some (l, k) ∧ dsqrt (some (a, e)) p 2 = some (h, j) ∧
      dcmp (dmul (some (l, k)) (some (l, k))) (some (a, e)) ≤ 0 ∧ dcmp (some (a, e)) (dmul (some (h, j)) (some (h, j))) ≤ 0 ∧
      (((l, k) = (h, j)) ↔ dcmp (dmul (some (l, k)) (some (l, k))) (some (a, e)) = 0) ∧ dmul (some (l, k)) (some (l, k)) ≠ none ∧ dmul (some (h, j)) (some (h, j)) ≠ none := by
  have hprc : prc (p : Int) = true := by unfold prc; simp; omega
  have hn : ¬ a < 0 := by omega
  by_cases ha0 : a = 0
  · have he : e = 0 := by rcases ha with h | h <;> omega
    subst ha0 he
    refine ⟨0, 0, 0, 0, by simp [dsqrt, hprc], by simp [dsqrt, hprc], ?_⟩
    have : dmul (some (0, 0)) (some (0, 0)) = some (0, 0) := by simp [dmul, nrm_zero]
    rw [this]
    simp [dcmp, up_zero, cmpI]
  · obtain ⟨hA, hE0, hE1, hE2⟩ := ha.bounds
    have hbA := blen_nz ha0
    have ea := nrm_self ha.okd
    simp only [dsqrt, hprc, if_neg hn, if_neg ha0, Bool.true_eq_false, if_false]
    have hn0 := rsh_even a e p
    have hn1 := rsh_ge a e p
    have hn2 := rsh_le a e p (by omega)
    generalize rsh a e p = n at *
    obtain ⟨E, hE⟩ : ∃ E, E = (e - (n : Int)) / 2 := ⟨_, rfl⟩
    have hE3 : e - n = E + E := by omega
    rw [← hE]
    clear hE
    obtain ⟨A, hAA⟩ : ∃ A, A = a.natAbs := ⟨_, rfl⟩
    have haA : a = (A : Int) := by omega
    rw [← hAA] at hA hbA hn1 ⊢
    have hA0 : 0 < A := by omega
    obtain ⟨S, hS⟩ : ∃ S, S = A * 2 ^ n := ⟨_, rfl⟩
    have hbS : blen S = blen A + n := by rw [hS]; exact blen_mul_pow hA0 n
    have hS0 : 0 < S := by rw [hS]; exact Nat.mul_pos hA0 (Nat.pow_pos (by decide))
    rw [← hS]
    have hs1 := isq_le S
    have hs2 := isq_lt S
    generalize isq S = s at *
    have hx1 : p + 3 ≤ blen s := by
      refine le_blen ?_
      rcases Nat.lt_or_ge s (2 ^ (p + 2)) with h | h
      · have h1 := sq_le (show s + 1 ≤ 2 ^ (p + 2) by omega)
        have h2 := blen_le_self hS0
        have h3 : 2 ^ (p + 2) * 2 ^ (p + 2) ≤ 2 ^ (blen S - 1) := by rw [← Nat.pow_add]; exact Nat.pow_le_pow_right (by decide) (by omega)
        omega
      · exact h
    have hx2 : blen s ≤ blen S := blen_mono (by
      rcases Nat.eq_zero_or_pos s with h | h
      · omega
      · exact Nat.le_trans (Nat.le_mul_of_pos_left s h) hs1)
    obtain ⟨c, hc⟩ : ∃ c, blen s = p + c := ⟨blen s - p, by omega⟩
    obtain ⟨hd, hu⟩ := dfix_dir false s E (decide (s * s ≠ S)) p c (by omega) (by omega)
    rw [hd, hu]
    clear hd hu
    have hp2 : 0 < 2 ^ c := Nat.pow_pos (by decide)
    have hdm := Nat.div_add_mod s (2 ^ c)
    have hml := Nat.mod_lt s hp2
    have hlt : s / 2 ^ c < 2 ^ p := by
      rw [Nat.div_lt_iff_lt_mul hp2, ← Nat.pow_add, ← hc]; exact lt_blen _
    obtain ⟨N, hN⟩ : ∃ N, N = s / 2 ^ c := ⟨_, rfl⟩
    rw [← hN] at hlt hdm ⊢
    obtain ⟨x, hx⟩ : ∃ x, x = rex s (decide (s * s ≠ S)) c := ⟨_, rfl⟩
    have hex : x = true ↔ s % 2 ^ c = 0 ∧ s * s = S := by rw [hx]; unfold rex; simp
    rw [← hx]
    clear hx hN
    have ha2 : some (a, e) = nrm (S : Int) (E + E) := by
      have e1 : (S : Int) = a * 2 ^ n := by rw [hS, haA]; simp
      rw [e1, nrm_scale, show E + E + (n : Int) = e by omega, ea]
    have ha3 : nrm (S : Int) (E + E) ≠ none := by rw [← ha2]; simp
    have key : ∀ L : Nat, L ≤ 2 ^ p → ∃ l k, nrm (L : Int) (E + c) = some (l, k) ∧ dcmp (dmul (some (l, k)) (some (l, k))) (some (a, e)) = cmpI (((L * 2 ^ c) * (L * 2 ^ c) : Nat) : Int) (S : Int) ∧
        dcmp (some (a, e)) (dmul (some (l, k)) (some (l, k))) = cmpI (S : Int) (((L * 2 ^ c) * (L * 2 ^ c) : Nat) : Int) ∧ dmul (some (l, k)) (some (l, k)) ≠ none := by
      intro L hL
      have hbl := blen_le_pow hL
      have hv : nrm (L : Int) (E + c) ≠ none := nrm_valid (by omega) (by rw [Int.natAbs_natCast]; omega)
      cases hl : nrm (L : Int) (E + c) with
      | none => exact absurd hl hv
      | some q =>
        obtain ⟨l, k⟩ := q
        have hm : dmul (some (l, k)) (some (l, k)) = nrm (((L * 2 ^ c) * (L * 2 ^ c) : Nat) : Int) (E + E) := by
          rw [← hl, dmul_nrm _ _ _ _ hv hv]
          have e1 : (((L * 2 ^ c) * (L * 2 ^ c) : Nat) : Int) = ((L : Int) * L) * 2 ^ (c + c) := by simp [Int.pow_add]; grind
          rw [e1, nrm_scale]
          congr 1; omega
        have hv2 : nrm (((L * 2 ^ c) * (L * 2 ^ c) : Nat) : Int) (E + E) ≠ none := by
          refine nrm_valid (by omega) ?_
          rw [Int.natAbs_natCast]
          have h1 := blen_mul_le (L * 2 ^ c) (L * 2 ^ c)
          have h2 := blen_mul_le L (2 ^ c)
          have h3 := blen_le_pow (x := 2 ^ c) (n := c) (Nat.le_refl _)
          omega
        refine ⟨l, k, rfl, ?_, ?_, by rw [hm]; exact hv2⟩
        · rw [hm, ha2]; exact dcmp_nrm _ _ _ hv2 ha3
        · rw [hm, ha2]; exact dcmp_nrm _ _ _ ha3 hv2
    have inj : ∀ L L' : Nat, ∀ l k h j, nrm (L : Int) (E + c) = some (l, k) → nrm (L' : Int) (E + c) = some (h, j) → ((l, k) = (h, j) ↔ L = L') := by
      intro L L' l k h j h1 h2
      have h3 := @nrm_inj (L : Int) (L' : Int) (E + c) (by rw [h1]; simp) (by rw [h2]; simp)
      rw [h1, h2] at h3
      have h4 : (L : Int) = (L' : Int) ↔ L = L' := by omega
      rw [← h4, ← h3]; simp
    obtain ⟨l1, k1, g1, g3, g4, g5⟩ := key N (by omega)
    obtain ⟨l2, k2, i1, i3, i4, i5⟩ := key (N + 1) (by omega)
    have hij := inj N (N + 1) _ _ _ _ g1 i1
    have hne : ¬ N = N + 1 := by omega
    have e2 : 2 ^ c * N = N * 2 ^ c := Nat.mul_comm _ _
    have e3 : (N + 1) * 2 ^ c = N * 2 ^ c + 2 ^ c := by rw [Nat.add_mul, Nat.one_mul]
    rw [e2] at hdm
    rw [e3] at i3 i4
    have j1 := sq_le (show N * 2 ^ c ≤ s by omega)
    have j2 := sq_le (show s + 1 ≤ N * 2 ^ c + 2 ^ c by omega)
    simp only [sgn_false]
    cases x with
    | true =>
      obtain ⟨hR0, hsS⟩ := hex.1 rfl
      have hu : N * 2 ^ c = s := by omega
      refine ⟨l1, k1, l1, k1, by simpa using g1, by simpa using g1, ?_⟩
      rw [g3, g4, hu, hsS]
      simp [cmpI, g5]
    | false =>
      have hlt2 : (N * 2 ^ c) * (N * 2 ^ c) < S := by
        rcases Nat.lt_or_ge (N * 2 ^ c) s with h | h
        · exact Nat.lt_of_lt_of_le (sq_lt h) hs1
        · have hss : ¬ s * s = S := fun hs => by have := hex.2 ⟨by omega, hs⟩; cases this
          omega
      refine ⟨l1, k1, l2, k2, by simpa using g1, by simpa using i1, ?_⟩
      rw [g3, i4, cmpI_le, cmpI_le, cmpI_eq0, hij]
      refine ⟨by omega, by omega, by constructor <;> intro h <;> omega, g5, i5⟩
theorem root_exact (m e : Int) (hd : Slim m e) : dsqrt (dmul (some (m, e)) (some (m, e))) 700 0 = dabs (some (m, e)) ∧ dmul (some (m, e)) (some (m, e)) ≠ none := by
  have hprc : prc (700 : Int) = true := by decide
  by_cases h0 : m = 0
  · have he : e = 0 := by rcases hd with h | h <;> omega
    subst h0 he
    have : dmul (some (0, 0)) (some (0, 0)) = some (0, 0) := by simp [dmul, nrm_zero]
    rw [this]; refine ⟨by simp [dsqrt, hprc, dabs], by simp⟩
  · obtain ⟨hA, hE0, hE1, hE2⟩ := hd.bounds
    have hodd : m % 2 = 1 := by rcases hd with h | h <;> omega
    have hsq0 : 0 < m * m := by
      rcases Int.lt_or_lt_of_ne h0 with h | h
      · exact Int.mul_pos_of_neg_of_neg h h
      · exact Int.mul_pos h h
    have hbm := bl_mul m m
    have hodd2 : (m * m) % 2 = 1 := by rw [Int.mul_emod, hodd]; decide
    have e1 : dmul (some (m, e)) (some (m, e)) = some (m * m, e + e) := nrm_self (Or.inr ⟨hodd2, by omega, by omega⟩)
    rw [e1]
    refine ⟨?_, by simp⟩
    simp only [dsqrt, hprc, if_neg (show ¬ m * m < 0 by omega), if_neg (show ¬ m * m = 0 by omega), Bool.true_eq_false, if_false]
    have hn0 := rsh_even (m * m) (e + e) 700
    have hn1 := rsh_ge (m * m) (e + e) 700
    have hn2 := rsh_le (m * m) (e + e) 700 (by omega)
    generalize rsh (m * m) (e + e) 700 = n at *
    obtain ⟨t, ht⟩ : ∃ t : Nat, n = t + t := ⟨n / 2, by omega⟩
    subst ht
    have e2 : (m * m).natAbs * 2 ^ (t + t) = (m.natAbs * 2 ^ t) * (m.natAbs * 2 ^ t) := by rw [Int.natAbs_mul, Nat.pow_add]; grind
    rw [e2, isq_sq, show (e + e - ((t + t : Nat) : Int)) / 2 = e - t by omega]
    have hp : 0 < m.natAbs := Int.natAbs_pos.2 h0
    have hb1 : blen (m.natAbs * 2 ^ t) = blen m.natAbs + t := blen_mul_pow hp t
    have e3 : dfix false (m.natAbs * 2 ^ t) (e - t) (decide (m.natAbs * 2 ^ t * (m.natAbs * 2 ^ t) ≠ m.natAbs * 2 ^ t * (m.natAbs * 2 ^ t))) 700 0 = nrm (m.natAbs : Int) e := by
      have hq : rlg (m.natAbs * 2 ^ t) (e - t) + 1 - 700 = e + (blen m.natAbs : Int) - 700 := by unfold rlg; rw [hb1]; omega
      have hqe : e + (blen m.natAbs : Int) - 700 ≤ e := by omega
      simp only [ne_eq, not_true_eq_false, decide_false]
      unfold dfix rmag rax rdn
      simp only [hq]
      by_cases hq2 : e + (blen m.natAbs : Int) - 700 ≤ e - t
      · simp only [if_pos hq2, Bool.false_eq_true, if_false, Nat.add_zero, sgn_false]
        have e4 : ((m.natAbs * 2 ^ t * 2 ^ (e - (t : Int) - (e + (blen m.natAbs : Int) - 700)).toNat : Nat) : Int) = (m.natAbs : Int) * 2 ^ (t + (e - (t : Int) - (e + (blen m.natAbs : Int) - 700)).toNat) := by
          rw [Int.pow_add, ← Int.mul_assoc]; simp
        rw [e4, nrm_scale]; congr 1; omega
      · simp only [if_neg hq2]
        obtain ⟨c, hc⟩ : ∃ c : Nat, (c : Int) = e + (blen m.natAbs : Int) - 700 - (e - t) := ⟨(e + (blen m.natAbs : Int) - 700 - (e - t)).toNat, by omega⟩
        rw [← hc, Int.toNat_natCast]
        obtain ⟨r, hr⟩ : ∃ r : Nat, t = r + c := ⟨t - c, by omega⟩
        have e5 : m.natAbs * 2 ^ t = m.natAbs * 2 ^ r * 2 ^ c := by rw [hr, Nat.pow_add, Nat.mul_assoc]
        have hp2 : 0 < 2 ^ c := Nat.pow_pos (by decide)
        have hex : rex (m.natAbs * 2 ^ t) false c = true := by unfold rex; rw [e5, Nat.mul_mod_left]; rfl
        rw [hex]
        simp only [raw, if_true, Bool.false_eq_true, if_false, Nat.add_zero, sgn_false]
        rw [e5, Nat.mul_div_cancel _ hp2]
        have e6 : ((m.natAbs * 2 ^ r : Nat) : Int) = (m.natAbs : Int) * 2 ^ r := by simp
        rw [e6, nrm_scale]; congr 1; omega
    rw [e3]
    exact nrm_self (okd_abs hd.okd)

end Go.Proofs.YtjhngehajahbnaaGreatDoor

