/-
  Plain law: the number of bits, the number of zeros at the end. No program in sight.
-/
import Derived.Test.YtjhngehajahbnaaDoorNat
namespace Sp

/-- How many bits x has. -/
def blen (x : Nat) : Nat := if x = 0 then 0 else x.log2 + 1

theorem blen_zero : blen 0 = 0 := rfl
theorem lt_blen (x : Nat) : x < 2 ^ blen x := by
  unfold blen; split
  · subst_vars; decide
  · exact Nat.lt_log2_self
theorem blen_le_self {x : Nat} (h : 0 < x) : 2 ^ (blen x - 1) ≤ x := by
  unfold blen; rw [if_neg (by omega)]; exact Nat.log2_self_le (by omega)
theorem blen_pos {x : Nat} (h : 0 < x) : 0 < blen x := by unfold blen; rw [if_neg (by omega)]; omega
theorem blen_le {x n : Nat} (h : x < 2 ^ n) : blen x ≤ n := by
  rcases Nat.eq_zero_or_pos x with h' | h'
  · subst h'; simp [blen]
  · have h1 := blen_le_self h'
    have h2 : 2 ^ (blen x - 1) < 2 ^ n := Nat.lt_of_le_of_lt h1 h
    have := (Nat.pow_lt_pow_iff_right (a := 2) (by decide)).1 h2
    omega
theorem blen_eq {x n : Nat} (h : x < 2 ^ (n + 1)) (h' : 2 ^ n ≤ x) : blen x = n + 1 := by
  have h1 := blen_le h
  have h2 : 2 ^ n < 2 ^ blen x := Nat.lt_of_le_of_lt h' (lt_blen x)
  have := (Nat.pow_lt_pow_iff_right (a := 2) (by decide)).1 h2
  omega
theorem blen_mono {x y : Nat} (h : x ≤ y) : blen x ≤ blen y := blen_le (Nat.lt_of_le_of_lt h (lt_blen y))
theorem le_blen {x n : Nat} (h : 2 ^ n ≤ x) : n < blen x := by
  have h2 : 2 ^ n < 2 ^ blen x := Nat.lt_of_le_of_lt h (lt_blen x)
  exact (Nat.pow_lt_pow_iff_right (a := 2) (by decide)).1 h2

theorem blen_mul_pow {x : Nat} (h : 0 < x) (k : Nat) : blen (x * 2 ^ k) = blen x + k := by
  have h1 := lt_blen x
  have h2 := blen_le_self h
  have h3 := blen_pos h
  have : blen (x * 2 ^ k) = (blen x - 1 + k) + 1 := by
    apply blen_eq
    · rw [show blen x - 1 + k + 1 = blen x + k by omega, Nat.pow_add]; exact Nat.mul_lt_mul_of_pos_right h1 (Nat.pow_pos (by decide))
    · rw [Nat.pow_add]; exact Nat.mul_le_mul_right _ h2
  omega

/-- The bits of the top limb settle those of the whole. -/
theorem blen_top {x : Nat} (h : 0 < x) : blen x = (nl x - 1) * 32 + blen (dig x (nl x - 1)) := by
  have hn := nl_pos h
  obtain ⟨k, hk⟩ : ∃ k, nl x = k + 1 := ⟨nl x - 1, by omega⟩
  have hx := lt_nl x
  have ht := dig_top h
  rw [hk] at hx ht ⊢
  rw [Nat.add_sub_cancel] at ht ⊢
  have e := mod_succ x k
  rw [mod_of_lt hx] at e
  have hl := mod_lt' x k
  generalize dig x k = d at *
  generalize x % B ^ k = l at *
  have h1 := lt_blen d
  have h2 := blen_le_self (Nat.pos_of_ne_zero ht)
  have h3 := blen_pos (Nat.pos_of_ne_zero ht)
  have : blen x = (k * 32 + (blen d - 1)) + 1 := by
    apply blen_eq
    · rw [show k * 32 + (blen d - 1) + 1 = blen d + 32 * k by omega, Nat.pow_add, ← Bpow_two]
      have : (d + 1) * B ^ k ≤ 2 ^ blen d * B ^ k := Nat.mul_le_mul_right _ h1
      rw [Nat.add_mul, Nat.one_mul] at this
      omega
    · rw [show k * 32 + (blen d - 1) = (blen d - 1) + 32 * k by omega, Nat.pow_add, ← Bpow_two, e]
      have : 2 ^ (blen d - 1) * B ^ k ≤ d * B ^ k := Nat.mul_le_mul_right _ h2
      omega
  omega

/-! ### square roots: Newton's method from above -/
theorem newton_ge {a r x : Nat} (hr : r * r ≤ a) (hx : 0 < x) : r ≤ (x + a / x) / 2 := by
  have h0 := Nat.zero_le (a / x)
  have : 2 * r ≤ x + a / x := by
    rcases Nat.lt_or_ge (2 * r) x with h | h
    · omega
    · have h1 : 2 * r - x ≤ a / x := by
        rw [Nat.le_div_iff_mul_le hx]
        refine Nat.le_trans ?_ hr
        obtain ⟨k, hk⟩ : ∃ k, 2 * r = x + k := ⟨2 * r - x, by omega⟩
        have e : 2 * r - x = k := by omega
        rw [e]
        rcases Nat.le_total r x with h2 | h2
        · obtain ⟨d, rfl⟩ : ∃ d, x = r + d := ⟨x - r, by omega⟩
          obtain ⟨f, rfl⟩ : ∃ f, r = k + f := ⟨d, by omega⟩
          obtain rfl : f = d := by omega
          grind
        · obtain ⟨d, rfl⟩ : ∃ d, r = x + d := ⟨r - x, by omega⟩
          obtain rfl : k = x + 2 * d := by omega
          grind
      omega
  omega

theorem newton_stop {a r x : Nat} (hr : a < (r + 1) * (r + 1)) (hrx : r ≤ x) (hx : 0 < x) (hs : x ≤ (x + a / x) / 2) : x = r := by
  have h1 : x ≤ a / x := by omega
  rw [Nat.le_div_iff_mul_le hx] at h1
  rcases Nat.lt_or_ge r x with h | h
  · have : (r + 1) * (r + 1) ≤ x * x := Nat.mul_le_mul h h
    omega
  · omega

theorem root_start {a r : Nat} (hr : r * r ≤ a) : r ≤ 2 ^ ((blen a + 1) / 2) := by
  rcases Nat.lt_or_ge (2 ^ ((blen a + 1) / 2)) r with h | h
  · exfalso
    have h1 := lt_blen a
    have h2 : 2 ^ blen a ≤ 2 ^ ((blen a + 1) / 2) * 2 ^ ((blen a + 1) / 2) := by
      rw [← Nat.pow_add]; exact Nat.pow_le_pow_right (by decide) (by omega)
    have h3 := Nat.mul_le_mul (Nat.le_of_lt h) (Nat.le_of_lt h)
    omega
  · exact h

/-! ### zeros at the end -/
def tzf : Nat → Nat → Nat
  | 0, _ => 0
  | n + 1, x => if x % 2 = 1 ∨ x = 0 then 0 else tzf n (x / 2) + 1
/-- The greatest k such that 2^k divides x; 0 for zero. -/
def tz (x : Nat) : Nat := tzf x x

theorem tzf_spec : ∀ (n x : Nat), 0 < x → x ≤ n → ∃ m, x = 2 ^ tzf n x * (2 * m + 1)
  | 0, x, h, h' => by omega
  | n + 1, x, h, h' => by
    unfold tzf
    by_cases hx : x % 2 = 1 ∨ x = 0
    · rw [if_pos hx]; exact ⟨x / 2, by omega⟩
    · rw [if_neg hx]
      obtain ⟨m, hm⟩ := tzf_spec n (x / 2) (by omega) (by omega)
      refine ⟨m, ?_⟩
      rw [Nat.pow_succ, Nat.mul_comm (2 ^ _) 2, Nat.mul_assoc, ← hm]
      omega

theorem tz_spec {x : Nat} (h : 0 < x) : ∃ m, x = 2 ^ tz x * (2 * m + 1) := tzf_spec x x h (Nat.le_refl _)
theorem tz_zero : tz 0 = 0 := rfl

theorem odd_uniq : ∀ (j k m n : Nat), 2 ^ j * (2 * m + 1) = 2 ^ k * (2 * n + 1) → j = k
  | 0, 0, _, _, _ => rfl
  | 0, k + 1, m, n, h => by rw [Nat.pow_succ, Nat.mul_comm (2 ^ k) 2, Nat.mul_assoc] at h; omega
  | j + 1, 0, m, n, h => by rw [Nat.pow_succ, Nat.mul_comm (2 ^ j) 2, Nat.mul_assoc] at h; omega
  | j + 1, k + 1, m, n, h => by
    rw [Nat.pow_succ, Nat.mul_comm (2 ^ j) 2, Nat.mul_assoc, Nat.pow_succ, Nat.mul_comm (2 ^ k) 2, Nat.mul_assoc] at h
    have := odd_uniq j k m n (by omega)
    omega

theorem tz_eq {x k m : Nat} (h : x = 2 ^ k * (2 * m + 1)) : tz x = k := by
  have hx : 0 < x := by rw [h]; exact Nat.mul_pos (Nat.pow_pos (by decide)) (by omega)
  obtain ⟨n, hn⟩ := tz_spec hx
  rw [hn] at h
  exact odd_uniq _ _ _ _ h

theorem tz_dvd {x : Nat} (h : 0 < x) : 2 ^ tz x ∣ x := by obtain ⟨m, hm⟩ := tz_spec h; exact ⟨_, hm⟩
theorem tz_pow_le {x : Nat} (h : 0 < x) : 2 ^ tz x ≤ x := Nat.le_of_dvd h (tz_dvd h)
theorem tz_lt_blen {x : Nat} (h : 0 < x) : tz x < blen x := le_blen (tz_pow_le h)
theorem tz_odd {x : Nat} (h : x % 2 = 1) : tz x = 0 := tz_eq (m := x / 2) (by omega)
theorem odd_div {x : Nat} (h : 0 < x) : x / 2 ^ tz x % 2 = 1 := by
  obtain ⟨m, hm⟩ := tz_spec h
  have : x / 2 ^ tz x = 2 * m + 1 := by
    conv => lhs; lhs; rw [hm]
    exact Nat.mul_div_cancel_left _ (Nat.pow_pos (by decide))
  omega
theorem tz_mul_pow {x : Nat} (h : 0 < x) (k : Nat) : tz (x * 2 ^ k) = tz x + k := by
  obtain ⟨m, hm⟩ := tz_spec h
  refine tz_eq (m := m) ?_
  conv => lhs; rw [hm]
  rw [Nat.pow_add]
  grind

/-- The zeros of the first limb that is not zero, behind those of the limbs before it. -/
theorem tz_dig {x k : Nat} (h : x % B ^ k = 0) (hd : dig x k ≠ 0) : tz x = k * 32 + tz (dig x k) := by
  obtain ⟨m, hm⟩ := tz_spec (Nat.pos_of_ne_zero hd)
  have hs := split_at x k
  rw [h, Nat.zero_add] at hs
  have hlt : tz (dig x k) < 32 := by
    have h1 := tz_pow_le (Nat.pos_of_ne_zero hd)
    have h2 := dig_lt x k
    have : 2 ^ tz (dig x k) < 2 ^ 32 := by omega
    exact (Nat.pow_lt_pow_iff_right (a := 2) (by decide)).1 this
  generalize dig x k = d at *
  generalize x / B ^ (k + 1) = q at *
  generalize tz d = t at *
  refine tz_eq (m := m + q * 2 ^ (31 - t)) ?_
  have hB : B = 2 ^ t * (2 * 2 ^ (31 - t)) := by
    rw [← Nat.pow_succ', ← Nat.pow_add, B_two]; congr 1; omega
  rw [hs, hm, Nat.pow_add 2 (k * 32) t, Nat.mul_comm k 32, ← Bpow_two, Bpow_succ]
  generalize B ^ k = P
  generalize B = b at *
  subst hB
  generalize 2 ^ t = u
  generalize 2 ^ (31 - t) = v
  grind

/-! ### the machine's trick for one limb: x and -x have one bit in common -/
theorem and_compl (n m : Nat) (h : m < 2 ^ n) : m &&& (2 ^ n - (m + 1)) = 0 := by
  apply Nat.eq_of_testBit_eq
  intro i
  rw [Nat.testBit_and, Nat.testBit_two_pow_sub_succ h]
  cases m.testBit i <;> simp

theorem odd_and_odd (a b : Nat) (h : a &&& b = 0) : (2 * a + 1) &&& (2 * b + 1) = 1 := by
  apply Nat.eq_of_testBit_eq
  intro i
  rw [Nat.testBit_and]
  cases i with
  | zero => simp [Nat.testBit_zero, Nat.add_mod]
  | succ i =>
    have h' := congrArg (fun z => z.testBit i) h
    simp only [Nat.testBit_and, Nat.zero_testBit] at h'
    rw [Nat.testBit_succ, Nat.testBit_succ, Nat.testBit_succ, show (2 * a + 1) / 2 = a by omega, show (2 * b + 1) / 2 = b by omega, h']
    simp

theorem shift_and (k a b : Nat) : (2 ^ k * a) &&& (2 ^ k * b) = 2 ^ k * (a &&& b) := by
  apply Nat.eq_of_testBit_eq
  intro i
  rw [Nat.testBit_and, Nat.testBit_two_pow_mul, Nat.testBit_two_pow_mul, Nat.testBit_two_pow_mul, Nat.testBit_and]
  cases decide (k ≤ i) <;> simp

theorem and_neg {x : Nat} (h : 0 < x) (hx : x < 4294967296) : x &&& (4294967296 - x) = 2 ^ tz x ∧ tz x < 32 := by
  obtain ⟨m, hm⟩ := tz_spec h
  have hlt : tz x < 32 := by
    have h1 := tz_pow_le h
    have : 2 ^ tz x < 2 ^ 32 := by omega
    exact (Nat.pow_lt_pow_iff_right (a := 2) (by decide)).1 this
  refine ⟨?_, hlt⟩
  generalize tz x = k at *
  have e1 : (4294967296 : Nat) = 2 ^ k * (2 * 2 ^ (31 - k)) := by
    rw [← Nat.pow_succ', ← Nat.pow_add, show k + (31 - k).succ = 32 by omega]
  have hm2 : m < 2 ^ (31 - k) := by
    have : 2 ^ k * (2 * m + 1) < 2 ^ k * (2 * 2 ^ (31 - k)) := by rw [← hm, ← e1]; exact hx
    have := Nat.lt_of_mul_lt_mul_left this
    omega
  have e2 : 4294967296 - x = 2 ^ k * (2 * (2 ^ (31 - k) - (m + 1)) + 1) := by
    rw [hm, e1, ← Nat.mul_sub]; congr 1; omega
  rw [e2, hm, shift_and, odd_and_odd _ _ (and_compl _ _ hm2), Nat.mul_one]

end Sp
