/-
  Plain law: numbers as lists of limbs of 32 bits. No program in sight.
  dig x i: limb i of x. nl x: how many limbs x has (none if x is zero). setd: one limb put in another's place.
-/
namespace Sp

def B : Nat := 4294967296
theorem B_eq : B = 4294967296 := rfl
theorem B_pos : 0 < B := by decide
theorem B_two : B = 2 ^ 32 := by decide

theorem Bpow_pos (n : Nat) : 0 < B ^ n := Nat.pow_pos B_pos
theorem Bpow_succ (n : Nat) : B ^ (n + 1) = B ^ n * B := Nat.pow_succ ..
theorem Bpow_mono {m n : Nat} (h : m ≤ n) : B ^ m ≤ B ^ n := Nat.pow_le_pow_right B_pos h
theorem Bpow_add (m n : Nat) : B ^ (m + n) = B ^ m * B ^ n := Nat.pow_add ..

/-- Limb i. -/
def dig (x i : Nat) : Nat := x / B ^ i % B

theorem dig_lt (x i : Nat) : dig x i < 4294967296 := Nat.mod_lt _ B_pos
theorem dig_zero (i : Nat) : dig 0 i = 0 := by simp [dig]
theorem dig_of_lt {x n i : Nat} (h : x < B ^ n) (hi : n ≤ i) : dig x i = 0 := by
  unfold dig
  rw [Nat.div_eq_of_lt (Nat.lt_of_lt_of_le h (Bpow_mono hi))]; rfl

/-- The lower part grows by one limb. -/
theorem mod_succ (x n : Nat) : x % B ^ (n + 1) = x % B ^ n + dig x n * B ^ n := by
  rw [Bpow_succ, Nat.mod_mul, Nat.mul_comm]; rfl

theorem mod_of_lt {x n : Nat} (h : x < B ^ n) : x % B ^ n = x := Nat.mod_eq_of_lt h
theorem mod_lt' (x n : Nat) : x % B ^ n < B ^ n := Nat.mod_lt _ (Bpow_pos n)
theorem mod_zero_pow (x : Nat) : x % B ^ 0 = 0 := by simp [Nat.mod_one]

/-- A number is settled by its limbs. -/
theorem eq_of_digs {x y n : Nat} (hx : x < B ^ n) (hy : y < B ^ n) (h : ∀ i, i < n → dig x i = dig y i) : x = y := by
  have key : ∀ k, k ≤ n → x % B ^ k = y % B ^ k := by
    intro k
    induction k with
    | zero => intro _; rw [mod_zero_pow, mod_zero_pow]
    | succ k ih => intro hk; rw [mod_succ, mod_succ, ih (by omega), h k (by omega)]
  have := key n (Nat.le_refl _)
  rwa [mod_of_lt hx, mod_of_lt hy] at this

theorem dig_mod {x n i : Nat} (h : i < n) : dig (x % B ^ n) i = dig x i := by
  unfold dig
  obtain ⟨k, rfl⟩ : ∃ k, n = i + (k + 1) := ⟨n - i - 1, by omega⟩
  rw [Bpow_add, Nat.mod_mul_right_div_self, Bpow_succ, Nat.mul_comm (B ^ k) B, Nat.mod_mul_right_mod]

/-- A limb above d: x = low + d B^i + high B^(i+1). -/
theorem split_at (x i : Nat) : x = x % B ^ i + dig x i * B ^ i + x / B ^ (i + 1) * B ^ (i + 1) := by
  have h := Nat.div_add_mod x (B ^ (i + 1))
  rw [mod_succ, Nat.mul_comm] at h
  omega

theorem dig_of_split {l d h i : Nat} (hl : l < B ^ i) (hd : d < B) : dig (l + d * B ^ i + h * B ^ (i + 1)) i = d := by
  unfold dig
  have e : l + d * B ^ i + h * B ^ (i + 1) = l + (d + h * B) * B ^ i := by
    rw [Bpow_succ, Nat.add_mul, Nat.mul_assoc, Nat.mul_comm B (B ^ i), Nat.add_assoc]
  rw [e, Nat.add_mul_div_right _ _ (Bpow_pos i), Nat.div_eq_of_lt hl, Nat.zero_add, Nat.add_mul_mod_self_right, Nat.mod_eq_of_lt hd]

theorem mod_of_split {l h i : Nat} (hl : l < B ^ i) : (l + h * B ^ i) % B ^ i = l := by
  rw [Nat.add_mul_mod_self_right, Nat.mod_eq_of_lt hl]

theorem dig_lo {l h i k : Nat} (hk : k < i) : dig (l + h * B ^ i) k = dig l k := by
  rw [← dig_mod (x := l + h * B ^ i) hk, Nat.add_mul_mod_self_right, dig_mod hk]

theorem dig_hi {l h i k : Nat} (hl : l < B ^ i) : dig (l + h * B ^ i) (i + k) = dig h k := by
  unfold dig
  rw [Bpow_add, ← Nat.div_div_eq_div_mul, Nat.add_mul_div_right _ _ (Bpow_pos i), Nat.div_eq_of_lt hl, Nat.zero_add]

/-! ### setd: a limb put in another's place -/
def setd (x i d : Nat) : Nat := x % B ^ i + d * B ^ i + x / B ^ (i + 1) * B ^ (i + 1)

theorem setd_val (x i d : Nat) : setd x i d + dig x i * B ^ i = x + d * B ^ i := by
  have := split_at x i
  unfold setd; omega

theorem dig_setd_same (x i d : Nat) (hd : d < B) : dig (setd x i d) i = d := dig_of_split (mod_lt' x i) hd

theorem dig_setd_other {x i d k : Nat} (hd : d < B) (hk : k ≠ i) : dig (setd x i d) k = dig x k := by
  rcases Nat.lt_or_gt_of_ne hk with h | h
  · have e : setd x i d = x % B ^ i + (d + x / B ^ (i + 1) * B) * B ^ i := by
      unfold setd; rw [Bpow_succ, Nat.add_mul, Nat.mul_assoc, Nat.mul_comm B (B ^ i), Nat.add_assoc]
    rw [e, dig_lo h, dig_mod h]
  · obtain ⟨j, rfl⟩ : ∃ j, k = (i + 1) + j := ⟨k - i - 1, by omega⟩
    have hl : x % B ^ i + d * B ^ i < B ^ (i + 1) := by
      rw [Bpow_succ]
      have h1 := mod_lt' x i
      have h2 : (d + 1) * B ^ i ≤ B * B ^ i := Nat.mul_le_mul_right _ hd
      rw [Nat.add_mul, Nat.one_mul, Nat.mul_comm B] at h2
      omega
    have hx := split_at x i
    have hl' : x % B ^ i + dig x i * B ^ i < B ^ (i + 1) := by rw [← mod_succ]; exact mod_lt' x (i + 1)
    unfold setd
    rw [dig_hi hl]
    conv => rhs; rw [hx]
    rw [dig_hi hl']

theorem setd_lt {x i d n : Nat} (hd : d < B) (hi : i < n) (hx : x < B ^ n) : setd x i d < B ^ n := by
  have hl : x % B ^ i + d * B ^ i < B ^ (i + 1) := by
    rw [Bpow_succ]
    have h1 := mod_lt' x i
    have h2 : (d + 1) * B ^ i ≤ B * B ^ i := Nat.mul_le_mul_right _ hd
    rw [Nat.add_mul, Nat.one_mul, Nat.mul_comm B] at h2
    omega
  obtain ⟨j, rfl⟩ : ∃ j, n = (i + 1) + j := ⟨n - i - 1, by omega⟩
  have hq : x / B ^ (i + 1) < B ^ j := by
    rw [Nat.div_lt_iff_lt_mul (Bpow_pos _), Nat.mul_comm, ← Bpow_add]; exact hx
  have : (x / B ^ (i + 1) + 1) * B ^ (i + 1) ≤ B ^ j * B ^ (i + 1) := Nat.mul_le_mul_right _ hq
  rw [Nat.add_mul, Nat.one_mul, Nat.mul_comm (B ^ j), ← Bpow_add] at this
  unfold setd; omega

theorem setd_zero1 {Z i : Nat} (h : Z < B ^ i) : dig Z i = 0 := dig_of_lt h (Nat.le_refl i)
theorem setd_zero2 {Z i d s q : Nat} (e : q = 0) (t : s + q * B ^ i = Z + d * B ^ i) : s = Z + d * B ^ i := by
  subst e
  simpa using t
theorem setd_zero {Z i d : Nat} (h : Z < B ^ i) : setd Z i d = Z + d * B ^ i :=
  setd_zero2 (setd_zero1 h) (setd_val Z i d)

theorem setd_hi {L W o k d : Nat} (hL : L < B ^ o) : setd (L + W * B ^ o) (o + k) d = L + setd W k d * B ^ o := by
  have h1 := setd_val (L + W * B ^ o) (o + k) d
  have h2 := setd_val W k d
  rw [dig_hi hL] at h1
  generalize setd (L + W * B ^ o) (o + k) d = x at *
  generalize setd W k d = y at *
  generalize dig W k = t at *
  rw [Bpow_add] at h1
  have e1 : y * B ^ o + t * (B ^ o * B ^ k) = (y + t * B ^ k) * B ^ o := by generalize B ^ o = p; generalize B ^ k = q; grind
  have e2 : W * B ^ o + d * (B ^ o * B ^ k) = (W + d * B ^ k) * B ^ o := by generalize B ^ o = p; generalize B ^ k = q; grind
  rw [h2] at e1
  omega

/-! ### nl: how many limbs -/
def nl (x : Nat) : Nat := if x = 0 then 0 else x.log2 / 32 + 1

theorem nl_zero : nl 0 = 0 := rfl
theorem nl_pos {x : Nat} (h : 0 < x) : 0 < nl x := by unfold nl; rw [if_neg (by omega)]; omega
theorem nl_eq_zero {x : Nat} : nl x = 0 ↔ x = 0 := by
  constructor
  · intro h; rcases Nat.eq_zero_or_pos x with h' | h'
    · exact h'
    · have := nl_pos h'; omega
  · rintro rfl; rfl

theorem Bpow_two (n : Nat) : B ^ n = 2 ^ (32 * n) := by rw [B_two, ← Nat.pow_mul]

theorem lt_nl (x : Nat) : x < B ^ nl x := by
  rcases Nat.eq_zero_or_pos x with h | h
  · subst h; simp [nl]
  · unfold nl; rw [if_neg (by omega), Bpow_two]
    refine Nat.lt_of_lt_of_le (Nat.lt_log2_self (n := x)) (Nat.pow_le_pow_right (by omega) ?_)
    omega

theorem nl_le_self {x : Nat} (h : 0 < x) : B ^ (nl x - 1) ≤ x := by
  unfold nl; rw [if_neg (by omega), Bpow_two]
  refine Nat.le_trans (Nat.pow_le_pow_right (by omega) ?_) (Nat.log2_self_le (by omega))
  omega

theorem nl_le {x n : Nat} (h : x < B ^ n) : nl x ≤ n := by
  rcases Nat.eq_zero_or_pos x with h' | h'
  · subst h'; simp [nl]
  · have h1 := nl_le_self h'
    have h2 : B ^ (nl x - 1) < B ^ n := Nat.lt_of_le_of_lt h1 h
    have := (Nat.pow_lt_pow_iff_right (a := B) (by decide)).1 h2
    omega

theorem nl_eq {x n : Nat} (h : x < B ^ (n + 1)) (h' : B ^ n ≤ x) : nl x = n + 1 := by
  have h1 := nl_le h
  have h2 : B ^ n < B ^ nl x := Nat.lt_of_le_of_lt h' (lt_nl x)
  have := (Nat.pow_lt_pow_iff_right (a := B) (by decide)).1 h2
  omega

theorem nl_mono {x y : Nat} (h : x ≤ y) : nl x ≤ nl y := nl_le (Nat.lt_of_le_of_lt h (lt_nl y))

/-- One round of trim: a zero limb at the top is dropped. -/
theorem lt_of_dig_zero {x k : Nat} (h : x < B ^ (k + 1)) (hd : dig x k = 0) : x < B ^ k := by
  have e := mod_succ x k
  rw [mod_of_lt h, hd, Nat.zero_mul, Nat.add_zero] at e
  rw [e]; exact mod_lt' x k

theorem nl_of_dig {x k : Nat} (h : x < B ^ (k + 1)) (hd : dig x k ≠ 0) : nl x = k + 1 := by
  apply nl_eq h
  have e := mod_succ x k
  rw [mod_of_lt h] at e
  have : 1 * B ^ k ≤ dig x k * B ^ k := Nat.mul_le_mul_right _ (by omega)
  have h0 : 0 ≤ x % B ^ k := Nat.zero_le _
  generalize x % B ^ k = u at *
  omega

theorem dig_top {x : Nat} (h : 0 < x) : dig x (nl x - 1) ≠ 0 := by
  intro hd
  have hn := nl_pos h
  obtain ⟨k, hk⟩ : ∃ k, nl x = k + 1 := ⟨nl x - 1, by omega⟩
  have hl := lt_nl x
  rw [hk] at hl
  rw [hk, Nat.add_sub_cancel] at hd
  have := nl_le (lt_of_dig_zero hl hd)
  omega

/-! ### sums -/
/-- The carry into limb k of x + y. -/
def car (x y k : Nat) : Nat := (x % B ^ k + y % B ^ k) / B ^ k

theorem car_zero (x y : Nat) : car x y 0 = 0 := by simp [car, Nat.mod_one]
theorem car_le (x y k : Nat) : car x y k ≤ 1 := by
  unfold car
  have h1 := mod_lt' x k
  have h2 := mod_lt' y k
  have : (x % B ^ k + y % B ^ k) / B ^ k < 2 := by
    rw [Nat.div_lt_iff_lt_mul (Bpow_pos k)]; omega
  omega

theorem car_succ (x y k : Nat) : car x y (k + 1) = (dig x k + dig y k + car x y k) / B := by
  unfold car
  rw [mod_succ, mod_succ, Bpow_succ, ← Nat.div_div_eq_div_mul]
  congr 1
  rw [show x % B ^ k + dig x k * B ^ k + (y % B ^ k + dig y k * B ^ k) = x % B ^ k + y % B ^ k + (dig x k + dig y k) * B ^ k by rw [Nat.add_mul]; omega]
  rw [Nat.add_mul_div_right _ _ (Bpow_pos k), Nat.add_comm]

theorem dig_add (x y k : Nat) : dig (x + y) k = (dig x k + dig y k + car x y k) % B := by
  unfold car
  have hx := split_at x k
  have hy := split_at y k
  have e : x + y = (x % B ^ k + y % B ^ k) + (dig x k + dig y k) * B ^ k + (x / B ^ (k + 1) + y / B ^ (k + 1)) * B ^ (k + 1) := by
    rw [Nat.add_mul, Nat.add_mul]; omega
  have d1 : dig (x + y) k = ((x + y) / B ^ k) % B := rfl
  rw [d1, e, Bpow_succ, ← Nat.mul_assoc, Nat.mul_right_comm, Nat.add_assoc, ← Nat.add_mul, Nat.add_mul_div_right _ _ (Bpow_pos k)]
  rw [← Nat.add_assoc, Nat.add_mul_mod_self_right, Nat.add_comm]

theorem add_lt {x y n m : Nat} (hx : x < B ^ n) (hy : y < B ^ m) (h : m ≤ n) : x + y < B ^ (n + 1) := by
  have := Bpow_mono h
  have h2 : 2 * B ^ n ≤ B * B ^ n := Nat.mul_le_mul_right _ (by decide)
  rw [Bpow_succ, Nat.mul_comm (B ^ n)]
  omega

theorem car_top {x y n : Nat} (hx : x < B ^ n) (hy : y < B ^ n) : dig (x + y) n = car x y n := by
  rw [dig_add, dig_of_lt hx (Nat.le_refl _), dig_of_lt hy (Nat.le_refl _), Nat.zero_add, Nat.mod_eq_of_lt]
  have := car_le x y n
  have : 1 < B := by decide
  omega

/-! ### differences: y + d = x. The borrow is the carry of y + d. -/
theorem sub_dig (y d k : Nat) : ((dig d k : Nat) : Int) = ((dig (y + d) k : Int) - car y d k - dig y k) % 4294967296 ∧
    ((car y d (k + 1) : Nat) : Int) = if (dig (y + d) k : Int) - car y d k - dig y k < 0 then 1 else 0 := by
  have h1 := dig_add y d k
  have h2 := car_succ y d k
  have h3 := car_le y d k
  have h4 := dig_lt d k
  have h5 := dig_lt y k
  have h6 := dig_lt (y + d) k
  rw [B_eq] at h1 h2
  constructor
  · omega
  · split <;> omega

theorem setd_digit {z Z k : Nat} (h : Z = z % B ^ k) : setd Z k (dig z k) = z % B ^ (k + 1) := by
  rw [mod_succ, ← h]
  exact setd_zero (by rw [h]; exact mod_lt' z k)

/-! ### products -/
theorem mul_step {b Z z x0 xi y0 yj c t P Pi Pj : Nat} (hP : P = Pi * Pj) (hinv : Z + c * P = x0 + xi * y0 * Pi) (ht : t = xi * yj + z + c) {Z' : Nat} (hz : Z' + z * P = Z + t % b * P) :
    Z' + t / b * (P * b) = x0 + xi * (y0 + yj * Pj) * Pi := by
  have h := Nat.div_add_mod t b
  generalize t / b = q at *
  generalize t % b = r at *
  subst hP
  have : Z' + z * (Pi * Pj) + q * (Pi * Pj * b) = Z + t * (Pi * Pj) := by rw [hz, ← h]; grind
  have h2 : (xi * yj + z + c) * (Pi * Pj) = xi * yj * (Pi * Pj) + z * (Pi * Pj) + c * (Pi * Pj) := by grind
  rw [ht, h2] at this
  have h3 : xi * (y0 + yj * Pj) * Pi = xi * y0 * Pi + xi * yj * (Pi * Pj) := by grind
  rw [h3]
  generalize z * (Pi * Pj) = u1 at *
  generalize c * (Pi * Pj) = u2 at *
  generalize xi * yj * (Pi * Pj) = u3 at *
  omega

theorem mul_round {x y k q Z cc T : Nat} (hT : T = dig x k * dig y q + dig Z (k + q) + cc) (hinv : Z + cc * B ^ (k + q) = x % B ^ k * y + dig x k * (y % B ^ q) * B ^ k) :
    setd Z (k + q) (T % B) + T / B * B ^ (k + (q + 1)) = x % B ^ k * y + dig x k * (y % B ^ (q + 1)) * B ^ k := by
  rw [mod_succ y q, show k + (q + 1) = (k + q) + 1 from rfl, Bpow_succ]
  exact mul_step (Bpow_add k q) hinv hT (setd_val Z (k + q) (T % B))

theorem mul_row {x y k Z cc m : Nat} (hy : y < B ^ m) (hinv : Z + cc * B ^ (k + m) = x % B ^ k * y + dig x k * (y % B ^ m) * B ^ k) (hZ : Z < B ^ (k + m)) :
    setd Z (k + m) cc = x % B ^ (k + 1) * y := by
  rw [setd_zero hZ, hinv, mod_of_lt hy, mod_succ, Nat.add_mul, Nat.mul_right_comm]

/-- The carry of a product's row is a limb. -/
theorem mul_carry {x y z c : Nat} (hx : x < 4294967296) (hy : y < 4294967296) (hz : z < 4294967296) (hc : c < 4294967296) : x * y + z + c < 18446744073709551616 ∧ x * y ≤ 18446744065119617025 := by
  have h : ∀ m : Nat, x ≤ m → y ≤ m → x * y ≤ m * m := fun m a b => Nat.mul_le_mul a b
  have h := h 4294967295 (by omega) (by omega)
  have e : (4294967295 : Nat) * 4294967295 = 18446744065119617025 := by simp
  rw [e] at h
  omega

/-! ### shifts -/
theorem two_split (s : Nat) : 2 ^ s = 2 ^ (s % 32) * B ^ (s / 32) := by
  rw [Bpow_two, ← Nat.pow_add, show s % 32 + 32 * (s / 32) = s by omega]

theorem pow_part {s : Nat} : 2 ^ (s % 32) * 2 ^ (32 - s % 32) = B := by
  rw [← Nat.pow_add, B_two, show s % 32 + (32 - s % 32) = 32 by omega]

/-- A multiple of 2^p and a number below 2^p: or is plus. -/
theorem or_add {z u p : Nat} (hz : z < 2 ^ p) (hu : 2 ^ p ∣ u) : z ||| u = z + u := by
  obtain ⟨c, rfl⟩ := hu
  rw [Nat.or_comm, ← Nat.two_pow_add_eq_or_of_lt hz, Nat.add_comm]

theorem up_carry {x k s Z : Nat} (hZ : Z = x % B ^ k * 2 ^ s) : dig Z (s / 32 + k) < 2 ^ (s % 32) ∧ Z < B ^ (s / 32 + k + 1) := by
  have h1 := mod_lt' x k
  have e : Z = x % B ^ k * 2 ^ (s % 32) * B ^ (s / 32) := by rw [hZ, two_split s, Nat.mul_assoc]
  have h2 : x % B ^ k * 2 ^ (s % 32) < 2 ^ (s % 32) * B ^ k := by
    rw [Nat.mul_comm (2 ^ (s % 32))]; exact Nat.mul_lt_mul_of_pos_right h1 (Nat.pow_pos (by omega))
  have h3 : 2 ^ (s % 32) ≤ B := by
    rw [B_two]; exact Nat.pow_le_pow_right (by omega) (by omega)
  constructor
  · unfold dig
    rw [e, Bpow_add, ← Nat.div_div_eq_div_mul, Nat.mul_div_cancel _ (Bpow_pos _)]
    refine Nat.lt_of_le_of_lt (Nat.mod_le _ _) ?_
    rw [Nat.div_lt_iff_lt_mul (Bpow_pos k)]; exact h2
  · rw [e, Bpow_succ, Bpow_add, Nat.mul_assoc (B ^ (s / 32)), Nat.mul_comm (B ^ (s / 32))]
    refine Nat.mul_lt_mul_of_pos_right (Nat.lt_of_lt_of_le h2 ?_) (Bpow_pos _)
    rw [Nat.mul_comm]; exact Nat.mul_le_mul_left _ h3

theorem up_limb {x k s : Nat} : dig x k * 2 ^ (s % 32) < 18446744073709551616 ∧ dig x k * 2 ^ (s % 32) / B < 4294967296 ∧ 2 ^ (s % 32) ∣ dig x k * 2 ^ (s % 32) % B := by
  have h1 := dig_lt x k
  have h3 : 2 ^ (s % 32) ≤ 2147483648 := Nat.pow_le_pow_right (n := 2) (by omega) (show s % 32 ≤ 31 by omega)
  have h4 : dig x k * 2 ^ (s % 32) ≤ 4294967295 * 2147483648 := Nat.mul_le_mul (by omega) h3
  refine ⟨by omega, ?_, ?_⟩
  · rw [Nat.div_lt_iff_lt_mul B_pos, B_eq]; omega
  · refine (Nat.dvd_mod_iff ?_).2 ⟨dig x k, Nat.mul_comm _ _⟩
    exact ⟨_, pow_part.symm⟩

theorem up_round {x k s Z : Nat} (hZ : Z = x % B ^ k * 2 ^ s) :
    dig Z (s / 32 + k) + dig x k * 2 ^ (s % 32) % B < 4294967296 ∧
    setd (setd Z (s / 32 + k) (dig Z (s / 32 + k) + dig x k * 2 ^ (s % 32) % B)) (s / 32 + k + 1) (dig x k * 2 ^ (s % 32) / B) = x % B ^ (k + 1) * 2 ^ s := by
  obtain ⟨h1, h2⟩ := up_carry hZ
  obtain ⟨h3, h4, c, h5⟩ := up_limb (x := x) (k := k) (s := s)
  have hb : dig x k * 2 ^ (s % 32) % B < 4294967296 := Nat.mod_lt _ B_pos
  have hsum : dig Z (s / 32 + k) + dig x k * 2 ^ (s % 32) % B < 4294967296 := by
    have hp := pow_part (s := s)
    have hc : c < 2 ^ (32 - s % 32) := by
      rcases Nat.lt_or_ge c (2 ^ (32 - s % 32)) with h | h
      · exact h
      · have := Nat.mul_le_mul_left (2 ^ (s % 32)) h
        rw [hp, ← h5, B_eq] at this; omega
    have : 2 ^ (s % 32) * (c + 1) ≤ 2 ^ (s % 32) * 2 ^ (32 - s % 32) := Nat.mul_le_mul_left _ hc
    rw [hp, Nat.mul_add, ← h5] at this
    generalize dig x k * 2 ^ (s % 32) % B = r at *
    rw [B_eq] at this
    omega
  refine ⟨hsum, ?_⟩
  rw [setd_zero (setd_lt hsum (by omega) h2)]
  have v := setd_val Z (s / 32 + k) (dig Z (s / 32 + k) + dig x k * 2 ^ (s % 32) % B)
  have m := Nat.div_add_mod (dig x k * 2 ^ (s % 32)) B
  have e : x % B ^ (k + 1) * 2 ^ s = Z + dig x k * 2 ^ (s % 32) * B ^ (s / 32 + k) := by
    rw [mod_succ, Nat.add_mul, ← hZ, Bpow_add, two_split s]; grind
  rw [e, Bpow_succ]
  generalize dig x k * 2 ^ (s % 32) / B = q at *
  generalize dig x k * 2 ^ (s % 32) % B = r at *
  rw [← m]
  generalize setd Z (s / 32 + k) (dig Z (s / 32 + k) + r) = S at *
  generalize B ^ (s / 32 + k) = P at *
  generalize B = b at *
  rw [Nat.add_mul] at v
  have : q * (P * b) = b * q * P := by grind
  rw [this, Nat.add_mul]
  omega

/-! ### division by one limb, from above -/
theorem short_step {X q x0 d b : Nat} (hd : 0 < d) (e : X = q * b + x0) : X % d = (q % d * b + x0) % d ∧ X / d = q / d * b + (q % d * b + x0) / d := by
  have h := Nat.div_add_mod q d
  generalize q / d = k at *
  generalize q % d = r at *
  have e2 : X = r * b + x0 + d * (k * b) := by rw [e, ← h]; grind
  constructor
  · rw [e2, Nat.add_mul_mod_self_left]
  · rw [e2, Nat.add_mul_div_left _ _ hd]; omega

theorem short_limb {r d b x0 : Nat} (hr : r < d) (hx : x0 < b) : (r * b + x0) / d < b := by
  rw [Nat.div_lt_iff_lt_mul (by omega)]
  have : (r + 1) * b ≤ d * b := Nat.mul_le_mul_right _ hr
  rw [Nat.add_mul, Nat.one_mul] at this
  rw [Nat.mul_comm b]
  omega

theorem dig_shift (Q j : Nat) : dig (Q * B ^ (j + 1)) j = 0 := by
  have := dig_of_split (l := 0) (d := 0) (h := Q) (i := j) (Bpow_pos j) B_pos
  simpa using this

theorem setd_shift {Q j v : Nat} : setd (Q * B ^ (j + 1)) j v = (Q * B + v) * B ^ j := by
  have h := setd_val (Q * B ^ (j + 1)) j v
  rw [dig_shift, Nat.zero_mul, Nat.add_zero] at h
  rw [h, Bpow_succ, Nat.add_mul, Nat.mul_comm (B ^ j), Nat.mul_assoc]

/-! ### the lower bits of a number -/
/-- Is a limb below k not zero? -/
theorem mod_ne_zero_iff (x k : Nat) : x % B ^ k ≠ 0 ↔ ∃ i, i < k ∧ dig x i ≠ 0 := by
  induction k with
  | zero => simp [Nat.mod_one]
  | succ k ih =>
    rw [mod_succ]
    have hp := Bpow_pos k
    constructor
    · intro h
      by_cases h1 : x % B ^ k = 0
      · refine ⟨k, by omega, fun h2 => h ?_⟩
        rw [h1, h2, Nat.zero_mul]
      · obtain ⟨i, hi, hd⟩ := ih.1 h1
        exact ⟨i, by omega, hd⟩
    · rintro ⟨i, hi, hd⟩ h0
      obtain ⟨ha, hb⟩ := Nat.add_eq_zero_iff.1 h0
      rcases Nat.lt_or_ge i k with h | h
      · exact ih.2 ⟨i, h, hd⟩ ha
      · obtain rfl : i = k := by omega
        rcases Nat.mul_eq_zero.1 hb with h | h
        · exact hd h
        · omega

/-- The remainder by 2^s: whole limbs, and bits of one. -/
theorem mod_two (x s : Nat) : x % 2 ^ s = x % B ^ (s / 32) + dig x (s / 32) % 2 ^ (s % 32) * B ^ (s / 32) := by
  rw [two_split s, Nat.mul_comm (2 ^ (s % 32)), Nat.mod_mul, Nat.mul_comm (B ^ (s / 32))]
  unfold dig
  rw [Nat.mod_mod_of_dvd _ ⟨_, pow_part.symm⟩]

theorem lost_iff (x s : Nat) : x % 2 ^ s ≠ 0 ↔ x % B ^ (s / 32) ≠ 0 ∨ dig x (s / 32) % 2 ^ (s % 32) ≠ 0 := by
  rw [mod_two]
  have hp := Bpow_pos (s / 32)
  constructor
  · intro h
    by_cases h1 : x % B ^ (s / 32) = 0
    · refine .inr fun h2 => h ?_
      rw [h1, h2, Nat.zero_mul]
    · exact .inl h1
  · rintro h h0
    obtain ⟨ha, hb⟩ := Nat.add_eq_zero_iff.1 h0
    rcases h with h | h
    · exact h ha
    · rcases Nat.mul_eq_zero.1 hb with h' | h'
      · exact h h'
      · omega

/-- A limb of x / 2^s out of two limbs of x. -/
theorem dig_div (x s i : Nat) : dig (x / 2 ^ s) i = (dig x (s / 32 + i) + dig x (s / 32 + i + 1) * B) / 2 ^ (s % 32) % B := by
  have h1 : x / 2 ^ s / B ^ i = x / B ^ (s / 32 + i) / 2 ^ (s % 32) := by
    rw [Nat.div_div_eq_div_mul, Nat.div_div_eq_div_mul, two_split s, Bpow_add]
    congr 1; grind
  have h2 : (dig x (s / 32 + i) + dig x (s / 32 + i + 1) * B) = x / B ^ (s / 32 + i) % B ^ 2 := by
    have := mod_succ (x / B ^ (s / 32 + i)) 1
    rw [Nat.pow_one] at this
    rw [show (2 : Nat) = 1 + 1 from rfl, this]
    unfold dig
    rw [Nat.pow_one, Nat.div_div_eq_div_mul, ← Bpow_succ]
  unfold dig at h2 ⊢
  rw [h1, h2]
  generalize x / B ^ (s / 32 + i) = y
  have hp := pow_part (s := s)
  have e : B ^ 2 = 2 ^ (s % 32) * (B * 2 ^ (32 - s % 32)) := by
    rw [Nat.pow_two]; conv => lhs; lhs; rw [← hp]
    grind
  rw [e, Nat.mod_mul_right_div_self, Nat.mod_mul_right_mod]

/-! ### order -/
/-- -1, 0 or 1. -/
def cmpI (m n : Int) : Int := if m < n then -1 else if n < m then 1 else 0

theorem cmpI_lt {m n : Int} (h : m < n) : cmpI m n = -1 := by unfold cmpI; rw [if_pos h]
theorem cmpI_gt {m n : Int} (h : n < m) : cmpI m n = 1 := by unfold cmpI; rw [if_neg (by omega), if_pos h]
theorem cmpI_eq {m n : Int} (h : m = n) : cmpI m n = 0 := by unfold cmpI; rw [if_neg (by omega), if_neg (by omega)]

theorem cmpI_nonneg {m n : Int} (h : n ≤ m) : 0 ≤ cmpI m n := by unfold cmpI; rw [if_neg (by omega)]; split <;> decide
theorem lt_of_nl {x y : Nat} (h : nl x < nl y) : x < y := by
  rcases Nat.lt_or_ge x y with h' | h'
  · exact h'
  · have := nl_mono h'; omega

/-- Numbers of different lengths are ordered as these. -/
theorem cmp_nl {x y : Nat} (h : nl x ≠ nl y) : cmpI (nl x) (nl y) = cmpI x y := by
  rcases Nat.lt_or_gt_of_ne h with h | h
  · have := lt_of_nl h; rw [cmpI_lt (by omega), cmpI_lt (by omega)]
  · have := lt_of_nl h; rw [cmpI_gt (by omega), cmpI_gt (by omega)]

theorem div_succ (x j : Nat) : x / B ^ j = x / B ^ (j + 1) * B + dig x j := by
  rw [Bpow_succ, ← Nat.div_div_eq_div_mul]
  have := Nat.div_add_mod (x / B ^ j) B
  unfold dig
  rw [Nat.mul_comm]
  omega

theorem lt_of_div {x y j : Nat} (h : x / B ^ j < y / B ^ j) : x < y := by
  rcases Nat.lt_or_ge x y with h' | h'
  · exact h'
  · have := Nat.div_le_div_right (c := B ^ j) h'; omega

/-- The first limb from above that differs decides. -/
theorem cmp_dig {x y j : Nat} (h : x / B ^ (j + 1) = y / B ^ (j + 1)) (hd : dig x j ≠ dig y j) : cmpI (dig x j) (dig y j) = cmpI x y := by
  have ex := div_succ x j
  have ey := div_succ y j
  rw [h] at ex
  rcases Nat.lt_or_gt_of_ne hd with h' | h'
  · have : x < y := lt_of_div (j := j) (by omega)
    rw [cmpI_lt (by omega), cmpI_lt (by omega)]
  · have : y < x := lt_of_div (j := j) (by omega)
    rw [cmpI_gt (by omega), cmpI_gt (by omega)]

theorem div_dig {x y j : Nat} (h : x / B ^ (j + 1) = y / B ^ (j + 1)) (hd : dig x j = dig y j) : x / B ^ j = y / B ^ j := by
  rw [div_succ x j, div_succ y j, h, hd]

end Sp
