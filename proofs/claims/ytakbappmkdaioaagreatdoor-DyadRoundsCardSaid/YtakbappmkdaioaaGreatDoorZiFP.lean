/-
  Plain law: floats of 64 bits as numbers: kinds, values on the grid of 2^-1074, rounding. No program in sight.
  Plain law: how a real number is rounded to a float. No program in sight.
  Plain law: roundings of dyads, quotients and roots to floats, by comparisons. No program in sight.
  Plain law: roundings to floats keep the order, enclose, and are exact where they can. No program in sight.
  Plain law: the statements about floats, of numbers. No program in sight.
  Plain law: the statements about floats (Special, Neighbours, Commutes, Mirrors), of numbers. No program in sight.
  Plain law: the statements about floats (Sterbenz, Halves), of numbers. No program in sight.
  Plain law: the bits of a float of 64 bits, in the machine's words. No program in sight.
  Plain law: a rounded number depends on the number alone, not on how many bits of it are given. No program in sight.
-/
import Derived.Test.YtakbappmkdaioaaGreatDoorZiBL
namespace Go.Proofs.YtakbappmkdaioaaGreatDoor
open Go.RowKit Sp

/-! ### the parts of a float -/
/-! ### values, in units of 2^-1074; the codes go on without end -/
/-! ### rounding -/
/-! ### the functions of two and three floats -/
end Go.Proofs.YtakbappmkdaioaaGreatDoor

namespace Go.Proofs.YtakbappmkdaioaaGreatDoor
open Go.RowKit Sp

/-! ### a positive real number x by its comparisons: cx j compares x with j 2^-1075 -/
end Go.Proofs.YtakbappmkdaioaaGreatDoor

namespace Go.Proofs.YtakbappmkdaioaaGreatDoor
open Go.RowKit Sp

theorem cmpI_one {m n : Int} : cmpI m n = 1 ↔ n < m := by unfold cmpI; split <;> (try split) <;> constructor <;> intro h <;> omega
theorem cmpI_m1 {m n : Int} : cmpI m n = -1 ↔ m < n := by unfold cmpI; split <;> (try split) <;> constructor <;> intro h <;> omega
theorem cmp3 {P Q X Y : Nat} {more : Bool} (hQ : 0 < Q) (hX : X = P / Q) (hm : more = decide (P % Q ≠ 0)) :
    cmpI ((P : Nat) : Int) ((Y * Q : Nat) : Int) = if X < Y then -1 else if X = Y then (if more then 1 else 0) else 1 := by
  have h1 := Nat.div_add_mod P Q
  have h2 := Nat.mod_lt P hQ
  rw [← hX] at h1
  rw [Nat.mul_comm] at h1
  by_cases hlt : X < Y
  · rw [if_pos hlt]
    have := Nat.mul_le_mul_right Q (show X + 1 ≤ Y by omega)
    rw [Nat.add_mul, Nat.one_mul] at this
    exact cmpI_m1.2 (by omega)
  · rw [if_neg hlt]
    by_cases he : X = Y
    · subst he
      rw [if_pos rfl, hm]
      by_cases h0 : P % Q = 0
      · simp only [h0, ne_eq, not_true_eq_false, decide_false, Bool.false_eq_true, if_false]
        exact cmpI_eq0.2 (by omega)
      · simp only [ne_eq, h0, not_false_eq_true, decide_true, if_true]
        exact cmpI_one.2 (by omega)
    · rw [if_neg he]
      have := Nat.mul_le_mul_right Q (show Y + 1 ≤ X by omega)
      rw [Nat.add_mul, Nat.one_mul] at this
      exact cmpI_one.2 (by omega)
theorem cmpI_scale {x y x' y' : Nat} {p q : Nat} (hp : 0 < p) (hq : 0 < q) (h1 : x * p = x' * q) (h2 : y * p = y' * q) : cmpI (x : Int) (y : Int) = cmpI (x' : Int) (y' : Int) := by
  have e1 := cmpI_mul (m := (x : Int)) (n := (y : Int)) (p := (p : Int)) (by omega)
  have e2 := cmpI_mul (m := (x' : Int)) (n := (y' : Int)) (p := (q : Int)) (by omega)
  rw [← e1, ← e2, ← Int.natCast_mul, ← Int.natCast_mul, h1, h2, Int.natCast_mul, Int.natCast_mul]
/-! ### the quotient of two floats' values -/
/-! ### the root of a float's value -/
end Go.Proofs.YtakbappmkdaioaaGreatDoor

namespace Go.Proofs.YtakbappmkdaioaaGreatDoor
open Go.RowKit Sp

/-! ### cutting at the greatest float -/
/-! ### the order of floats -/
/-! ### numbers that are floats -/
theorem g0 : (-1074 : Int) = -1074 - ((0 : Nat) : Int) := by decide
/-! ### sums -/
end Go.Proofs.YtakbappmkdaioaaGreatDoor

namespace Go.Proofs.YtakbappmkdaioaaGreatDoor
open Go.RowKit Sp

theorem g3 : (-3000 : Int) = -1074 - ((1926 : Nat) : Int) := by decide
/-! ### FloatMonotone -/
/-! ### FloatEnclose -/
end Go.Proofs.YtakbappmkdaioaaGreatDoor

namespace Go.Proofs.YtakbappmkdaioaaGreatDoor
open Go.RowKit Sp

/-! ### FloatNeighbours -/
/-! ### FloatCommutes -/
/-! ### FloatMirrors -/
/-! ### FloatSpecial -/
/-! ### what awake computes -/
end Go.Proofs.YtakbappmkdaioaaGreatDoor

namespace Go.Proofs.YtakbappmkdaioaaGreatDoor
open Go.RowKit Sp

/-! ### FloatSterbenz -/
/-! ### FloatHalves -/
theorem ofNat_le {x y : Nat} (h : x ≤ y) : cmpI (x : Int) (y : Int) ≤ 0 := cmpI_le.2 (by omega)
end Go.Proofs.YtakbappmkdaioaaGreatDoor

namespace Go.Proofs.YtakbappmkdaioaaGreatDoor
open Go.RowKit Sp

end Go.Proofs.YtakbappmkdaioaaGreatDoor

namespace Go.Proofs.YtakbappmkdaioaaGreatDoor
open Go.RowKit Sp

theorem blen_div_eq {x c : Nat} (h : 0 < blen (x / 2 ^ c)) : blen x = blen (x / 2 ^ c) + c := by
  have h1 := blen_div_pow x c
  have h2 : x < 2 ^ (blen (x / 2 ^ c) + c) := by
    rw [Nat.pow_add]
    exact (Nat.div_lt_iff_lt_mul (Nat.pow_pos (by decide))).1 (lt_blen (x / 2 ^ c))
  have h3 := blen_le h2
  generalize blen (x / 2 ^ c) = b at *
  generalize blen x = y at *
  omega
/-- (X and a little more) compared with j halves of 2^k -/
def cxX (X : Nat) (more : Bool) (k j : Nat) : Int := if X < j * 2 ^ (k - 1) then -1 else if X = j * 2 ^ (k - 1) then (if more then 1 else 0) else 1
def awc (s : Bool) (n : Nat) (cx : Nat → Int) (mode : Int) : Bool :=
  if cx (2 * n) = 0 then false else if mode = 1 then s else if mode = 2 then !s else if mode = 3 then false else decide (0 < cx (2 * n + 1)) || (decide (cx (2 * n + 1) = 0) && decide (n % 2 = 1))
theorem half_pow {k : Nat} (hk : 1 ≤ k) : 2 * 2 ^ (k - 1) = 2 ^ k := by
  obtain ⟨j, rfl⟩ : ∃ j, k = j + 1 := ⟨k - 1, by omega⟩
  rw [Nat.add_sub_cancel, Nat.pow_succ, Nat.mul_comm]
theorem two_halves {k : Nat} (hk : 1 ≤ k) (n : Nat) : 2 * n * 2 ^ (k - 1) = n * 2 ^ k := by
  rw [← half_pow hk]; ac_rfl
theorem raw_cx (s : Bool) (X : Nat) (more : Bool) {k : Nat} (hk : 1 ≤ k) (mode : Int) :
    raw s (X / 2 ^ k) (rcm X more k) (rex X more k) mode = awc s (X / 2 ^ k) (cxX X more k) mode := by
  have hd := Nat.div_add_mod X (2 ^ k)
  have hm := Nat.mod_lt X (Nat.pow_pos (n := k) (show 0 < 2 by decide))
  have hh := half_pow hk
  have e0 : 2 * (X / 2 ^ k) * 2 ^ (k - 1) = 2 ^ k * (X / 2 ^ k) := by rw [two_halves hk, Nat.mul_comm]
  have e1 : (2 * (X / 2 ^ k) + 1) * 2 ^ (k - 1) = 2 ^ k * (X / 2 ^ k) + 2 ^ (k - 1) := by rw [Nat.add_mul, e0, Nat.one_mul]
  have c0 : cxX X more k (2 * (X / 2 ^ k)) = 0 ↔ rex X more k = true := by
    unfold cxX rex
    rw [e0]
    cases more
    · simp only [Bool.not_false, Bool.and_true, decide_eq_true_eq]
      constructor
      · intro h; split at h
        · cases h
        · split at h
          · omega
          · cases h
      · intro h; rw [if_neg (by omega), if_pos (by omega)]; rfl
    · simp only [Bool.not_true, Bool.and_false, Bool.false_eq_true, iff_false]
      intro h; split at h
      · cases h
      · split at h <;> cases h
  have c1 : cxX X more k (2 * (X / 2 ^ k) + 1) = rcm X more k := by
    unfold cxX rcm
    rw [e1]
    rcases Nat.lt_trichotomy (X % 2 ^ k) (2 ^ (k - 1)) with h | h | h
    · have : cmpI ((X % 2 ^ k : Nat) : Int) ((2 ^ (k - 1) : Nat) : Int) = -1 := cmpI_lt (by omega)
      rw [this, if_pos (by omega), if_neg (by simp)]
    · have : cmpI ((X % 2 ^ k : Nat) : Int) ((2 ^ (k - 1) : Nat) : Int) = 0 := cmpI_eq (by omega)
      rw [this, if_neg (by omega), if_pos (by omega)]
      cases more <;> simp
    · have : cmpI ((X % 2 ^ k : Nat) : Int) ((2 ^ (k - 1) : Nat) : Int) = 1 := cmpI_gt (by omega)
      rw [this, if_neg (by omega), if_neg (by omega), if_neg (by simp)]
  unfold raw awc
  rw [c1]
  by_cases h : rex X more k = true
  · rw [if_pos h, if_pos (c0.2 h)]
  · rw [if_neg h, if_neg (fun h1 => h (c0.1 h1))]
theorem cx_lo (X : Nat) (more : Bool) {k : Nat} (hk : 1 ≤ k) : 0 ≤ cxX X more k (2 * (X / 2 ^ k)) ∧ cxX X more k (2 * (X / 2 ^ k + 1)) = -1 := by
  have hd := Nat.div_add_mod X (2 ^ k)
  have hm := Nat.mod_lt X (Nat.pow_pos (n := k) (show 0 < 2 by decide))
  unfold cxX
  rw [two_halves hk, two_halves hk, Nat.add_mul, Nat.one_mul, Nat.mul_comm]
  refine ⟨?_, by rw [if_pos (by omega)]⟩
  rw [if_neg (by omega)]
  split
  · cases more <;> decide
  · decide
theorem cx_anti {X : Nat} {more : Bool} {k i j : Nat} (h : i ≤ j) (hj : 0 ≤ cxX X more k j) : 0 ≤ cxX X more k i := by
  have hm : i * 2 ^ (k - 1) ≤ j * 2 ^ (k - 1) := Nat.mul_le_mul_right _ h
  unfold cxX at *
  split at hj
  · exact absurd hj (by decide)
  · rw [if_neg (by omega)]
    split
    · cases more <;> decide
    · decide
theorem mag_indep (s : Bool) {X X' : Nat} {more more' : Bool} {k k' : Nat} (hk : 1 ≤ k) (hk' : 1 ≤ k') (h : ∀ j, cxX X more k j = cxX X' more' k' j) (mode : Int) :
    X / 2 ^ k + (if raw s (X / 2 ^ k) (rcm X more k) (rex X more k) mode then 1 else 0) = X' / 2 ^ k' + (if raw s (X' / 2 ^ k') (rcm X' more' k') (rex X' more' k') mode then 1 else 0) := by
  have hc : cxX X more k = cxX X' more' k' := funext h
  rw [raw_cx s X more hk, raw_cx s X' more' hk', hc]
  have l1 := cx_lo X more hk
  have l2 := cx_lo X' more' hk'
  rw [hc] at l1
  have hn : X / 2 ^ k = X' / 2 ^ k' := by
    rcases Nat.lt_trichotomy (X / 2 ^ k) (X' / 2 ^ k') with h1 | h1 | h1
    · have := cx_anti (i := 2 * (X / 2 ^ k + 1)) (by omega) l2.1; omega
    · exact h1
    · have := cx_anti (i := 2 * (X' / 2 ^ k' + 1)) (by omega) l1.1; omega
  rw [hn]

theorem rmag_cut (s : Bool) (X : Nat) (E : Int) (more : Bool) (q : Int) (k : Nat) (hk : 1 ≤ k) (hq : q = E + k) (mode : Int) :
    rmag s X E more q mode = X / 2 ^ k + if raw s (X / 2 ^ k) (rcm X more k) (rex X more k) mode then 1 else 0 := by
  have e : (q - E).toNat = k := by omega
  have h1 : ¬ q ≤ E := by omega
  unfold rmag rax rdn
  simp only [if_neg h1, e]
theorem dfix_indep (s : Bool) {X X' : Nat} {E E' : Int} {more more' : Bool} (p : Nat) (mode : Int) (hb : p < blen X) (hb' : p < blen X') (hq : E + blen X = E' + blen X')
    (h : ∀ j, cxX X more (blen X - p) j = cxX X' more' (blen X' - p) j) : dfix s X E more p mode = dfix s X' E' more' p mode := by
  have e1 : rlg X E + 1 - (p : Int) = E + ((blen X - p : Nat) : Int) := by unfold rlg; omega
  have e2 : rlg X' E' + 1 - (p : Int) = E' + ((blen X' - p : Nat) : Int) := by unfold rlg; omega
  have e3 : E + ((blen X - p : Nat) : Int) = E' + ((blen X' - p : Nat) : Int) := by omega
  unfold dfix
  rw [e1, e2, rmag_cut s X E more _ (blen X - p) (by omega) rfl mode, rmag_cut s X' E' more' _ (blen X' - p) (by omega) rfl mode, mag_indep s (by omega) (by omega) h mode, e3]

/-! ### quotients -/
theorem cxX_quo {P Q X : Nat} {more : Bool} (hQ : 0 < Q) (hX : X = P / Q) (hm : more = decide (P % Q ≠ 0)) (k j : Nat) :
    cxX X more k j = cmpI (P : Int) ((j * 2 ^ (k - 1) * Q : Nat) : Int) := (cmp3 hQ hX hm).symm
theorem quo_grow {A B k i : Nat} : A * 2 ^ (k + i) / B / 2 ^ i = A * 2 ^ k / B := by
  rw [Nat.pow_add, ← Nat.mul_assoc, Nat.div_div_eq_div_mul, Nat.mul_div_mul_right _ _ (Nat.pow_pos (by decide))]
theorem quo_step (s : Bool) {A B k i : Nat} (E : Int) (p : Nat) (mode : Int) (hB : 0 < B) (hb : p < blen (A * 2 ^ k / B)) :
    dfix s (A * 2 ^ (k + i) / B) (E - ((k + i : Nat) : Int)) (decide (A * 2 ^ (k + i) % B ≠ 0)) p mode = dfix s (A * 2 ^ k / B) (E - (k : Nat)) (decide (A * 2 ^ k % B ≠ 0)) p mode := by
  have hg := @quo_grow A B k i
  have hl1 : blen (A * 2 ^ (k + i) / B) = blen (A * 2 ^ k / B) + i := by
    have hl := @blen_div_eq (A * 2 ^ (k + i) / B) i
    rw [hg] at hl; exact hl (by omega)
  refine dfix_indep s p mode (by rw [hl1]; omega) hb (by rw [hl1]; omega) fun j => ?_
  rw [cxX_quo hB rfl rfl, cxX_quo hB rfl rfl, hl1]
  refine cmpI_scale (p := 1) (q := 2 ^ i) (by decide) (Nat.pow_pos (by decide)) ?_ ?_
  · rw [Nat.mul_one, Nat.pow_add, Nat.mul_assoc]
  · have e : blen (A * 2 ^ k / B) + i - p - 1 = (blen (A * 2 ^ k / B) - p - 1) + i := by omega
    rw [e, Nat.pow_add]; simp only [Nat.mul_one]; ac_rfl
theorem quo_indep (s : Bool) {A B k k' : Nat} (E : Int) (p : Nat) (mode : Int) (hB : 0 < B) (hb : p < blen (A * 2 ^ k / B)) (hb' : p < blen (A * 2 ^ k' / B)) :
    dfix s (A * 2 ^ k / B) (E - (k : Nat)) (decide (A * 2 ^ k % B ≠ 0)) p mode = dfix s (A * 2 ^ k' / B) (E - (k' : Nat)) (decide (A * 2 ^ k' % B ≠ 0)) p mode := by
  rcases Nat.le_total k k' with h | h
  · obtain ⟨i, rfl⟩ : ∃ i, k' = k + i := ⟨k' - k, by omega⟩
    exact (quo_step s E p mode hB hb).symm
  · obtain ⟨i, rfl⟩ : ∃ i, k = k' + i := ⟨k - k', by omega⟩
    exact quo_step s E p mode hB hb'

/-! ### roots -/
theorem isq_uniq {M t : Nat} (h1 : t * t ≤ M) (h2 : M < (t + 1) * (t + 1)) : isq M = t := by
  have k1 := isq_le M
  have k2 := isq_lt M
  rcases Nat.lt_trichotomy (isq M) t with h | h | h
  · have := sq_le (show isq M + 1 ≤ t by omega); omega
  · exact h
  · have := sq_le (show t + 1 ≤ isq M by omega); omega
theorem cxX_root {M : Nat} (k j : Nat) : cxX (isq M) (decide (isq M * isq M ≠ M)) k j = cmpI (M : Int) ((j * 2 ^ (k - 1) * (j * 2 ^ (k - 1)) : Nat) : Int) := by
  have k1 := isq_le M
  have k2 := isq_lt M
  unfold cxX
  generalize j * 2 ^ (k - 1) = Y
  rcases Nat.lt_trichotomy (isq M) Y with h | h | h
  · have := sq_le (show isq M + 1 ≤ Y by omega)
    rw [if_pos h, cmpI_lt (by omega)]
  · subst h
    rw [if_neg (by omega), if_pos rfl]
    by_cases he : isq M * isq M = M
    · rw [cmpI_eq (by omega)]; simp [he]
    · rw [cmpI_gt (by omega)]; simp [he]
  · have := sq_lt h
    rw [if_neg (by omega), if_neg (by omega), cmpI_gt (by omega)]
theorem isq_grow (M i : Nat) : isq (M * 2 ^ (2 * i)) / 2 ^ i = isq M := by
  have k1 := isq_le (M * 2 ^ (2 * i))
  have k2 := isq_lt (M * 2 ^ (2 * i))
  have hp : 0 < 2 ^ i := Nat.pow_pos (by decide)
  have e : 2 ^ (2 * i) = 2 ^ i * 2 ^ i := by rw [← Nat.pow_add]; congr 1; omega
  rw [e] at k1 k2 ⊢
  have hd := Nat.div_add_mod (isq (M * (2 ^ i * 2 ^ i))) (2 ^ i)
  have hm := Nat.mod_lt (isq (M * (2 ^ i * 2 ^ i))) hp
  generalize isq (M * (2 ^ i * 2 ^ i)) = r at *
  generalize 2 ^ i = D at *
  refine (isq_uniq ?_ ?_).symm
  · refine Nat.le_of_mul_le_mul_right (c := D * D) ?_ (Nat.mul_pos hp hp)
    refine Nat.le_trans ?_ k1
    have := sq_le (show D * (r / D) ≤ r by omega)
    refine Nat.le_trans (Nat.le_of_eq ?_) this
    ac_rfl
  · refine Nat.lt_of_mul_lt_mul_right (a := D * D) ?_
    refine Nat.lt_of_lt_of_le k2 ?_
    have h3 : r + 1 ≤ D * (r / D + 1) := by rw [Nat.mul_add, Nat.mul_one]; omega
    have := sq_le h3
    refine Nat.le_trans this (Nat.le_of_eq ?_)
    ac_rfl
theorem root_step (M i : Nat) (E : Int) (p : Nat) (mode : Int) (hb : p < blen (isq M)) :
    dfix false (isq (M * 2 ^ (2 * i))) (E - (i : Nat)) (decide (isq (M * 2 ^ (2 * i)) * isq (M * 2 ^ (2 * i)) ≠ M * 2 ^ (2 * i))) p mode = dfix false (isq M) E (decide (isq M * isq M ≠ M)) p mode := by
  have hg := isq_grow M i
  have hl1 : blen (isq (M * 2 ^ (2 * i))) = blen (isq M) + i := by
    have hl := @blen_div_eq (isq (M * 2 ^ (2 * i))) i
    rw [hg] at hl; exact hl (by omega)
  refine dfix_indep false p mode (by omega) hb (by omega) fun j => ?_
  rw [cxX_root, cxX_root]
  refine cmpI_scale (p := 1) (q := 2 ^ (2 * i)) (by decide) (Nat.pow_pos (by decide)) (by rw [Nat.mul_one]) ?_
  have e : blen (isq (M * 2 ^ (2 * i))) - p - 1 = (blen (isq M) - p - 1) + i := by omega
  have e2 : 2 ^ (2 * i) = 2 ^ i * 2 ^ i := by rw [← Nat.pow_add]; congr 1; omega
  rw [e, Nat.pow_add, e2]; simp only [Nat.mul_one]; ac_rfl
theorem root_indep {m k k' : Nat} (e : Int) (p : Nat) (mode : Int) (h1 : (e - (k : Nat)) % 2 = 0) (h2 : (e - (k' : Nat)) % 2 = 0) (hb : p < blen (isq (m * 2 ^ k))) (hb' : p < blen (isq (m * 2 ^ k'))) :
    dfix false (isq (m * 2 ^ k)) ((e - (k : Nat)) / 2) (decide (isq (m * 2 ^ k) * isq (m * 2 ^ k) ≠ m * 2 ^ k)) p mode = dfix false (isq (m * 2 ^ k')) ((e - (k' : Nat)) / 2) (decide (isq (m * 2 ^ k') * isq (m * 2 ^ k') ≠ m * 2 ^ k')) p mode := by
  have key : ∀ (a b : Nat), a ≤ b → (e - (a : Nat)) % 2 = 0 → (e - (b : Nat)) % 2 = 0 → p < blen (isq (m * 2 ^ a)) →
      dfix false (isq (m * 2 ^ b)) ((e - (b : Nat)) / 2) (decide (isq (m * 2 ^ b) * isq (m * 2 ^ b) ≠ m * 2 ^ b)) p mode = dfix false (isq (m * 2 ^ a)) ((e - (a : Nat)) / 2) (decide (isq (m * 2 ^ a) * isq (m * 2 ^ a) ≠ m * 2 ^ a)) p mode := by
    intro a b hab ha hb' hbl
    obtain ⟨i, rfl⟩ : ∃ i, b = a + 2 * i := ⟨(b - a) / 2, by omega⟩
    have h := root_step (m * 2 ^ a) i ((e - (a : Nat)) / 2) p mode hbl
    have e1 : m * 2 ^ (a + 2 * i) = m * 2 ^ a * 2 ^ (2 * i) := by rw [Nat.pow_add, Nat.mul_assoc]
    have e2 : (e - ((a + 2 * i : Nat) : Int)) / 2 = (e - (a : Nat)) / 2 - (i : Nat) := by omega
    rw [e1, e2]; exact h
  rcases Nat.le_total k k' with h | h
  · exact (key k k' h h1 h2 hb).symm
  · exact key k' k h h2 h1 hb'

/-! ### floats -/
end Go.Proofs.YtakbappmkdaioaaGreatDoor

