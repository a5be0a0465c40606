/-
  Plain law: Knuth's algorithm D, one limb of a quotient. No program in sight.
-/
import Derived.Test.YtjhngehajahbnaaDoorBits
namespace Sp

/-! ### the guess -/
section
variable {b U V top v1 v2 v0 u2 u0 P1 P2 q rest : Nat}

theorem est_hi (hV : v1 * P1 ≤ V) (hU : U < (top + 1) * P1) (h1 : 0 < v1) : U / V ≤ top / v1 := by
  rw [Nat.le_div_iff_mul_le h1]
  have h := Nat.div_mul_le_self U V
  have h2 : U / V * (v1 * P1) ≤ U / V * V := Nat.mul_le_mul_left _ hV
  have h3 : U / V * v1 * P1 < (top + 1) * P1 := by rw [Nat.mul_assoc]; omega
  have := Nat.lt_of_mul_lt_mul_right h3
  omega

/-- The test said yes: the guess is too great. -/
theorem est_dec (hV : V = v1 * P1 + v2 * P2 + v0) (hU : U = top * P1 + u2 * P2 + u0) (hu : u0 < P2) (hP : P1 = b * P2) (hi : q * v1 + rest = top)
    (ht : rest * b + u2 < q * v2) : U / V < q := by
  have hV0 : 0 < V := by
    rcases Nat.eq_zero_or_pos V with h | h
    · have : v2 * P2 = 0 := by omega
      rcases Nat.mul_eq_zero.1 this with h' | h'
      · rw [h'] at ht; omega
      · omega
    · exact h
  rw [Nat.div_lt_iff_lt_mul hV0, hU, hV]
  have e : q * (v1 * P1 + v2 * P2 + v0) = q * v1 * P1 + q * v2 * P2 + q * v0 := by grind
  have h1 : (rest * b + u2 + 1) * P2 ≤ q * v2 * P2 := Nat.mul_le_mul_right _ ht
  have e1 : (rest * b + u2 + 1) * P2 = rest * P1 + u2 * P2 + P2 := by rw [hP]; grind
  have e2 : top * P1 = q * v1 * P1 + rest * P1 := by rw [← hi, Nat.add_mul]
  rw [e, e2]
  omega

/-- The test said no: the guess is at most one too great. -/
theorem est_exit (hV : V = v1 * P1 + v2 * P2 + v0) (hv : v0 < P2) (hU : U = top * P1 + u2 * P2 + u0) (hP : P1 = b * P2) (h1 : 0 < v1) (hi : q * v1 + rest = top)
    (ht : q * v2 ≤ rest * b + u2) (hq : q ≤ b) : q ≤ U / V + 1 := by
  rcases Nat.eq_zero_or_pos q with h0 | h0
  · rw [h0]; exact Nat.zero_le _
  have hP2 : 0 < P2 := by omega
  have hV1 : P1 ≤ v1 * P1 := Nat.le_mul_of_pos_left _ h1
  have hV0 : 0 < V := by
    have : 0 < v1 * P1 := Nat.mul_pos h1 (by rw [hP]; exact Nat.mul_pos (by omega) hP2)
    omega
  obtain ⟨p, rfl⟩ : ∃ p, q = p + 1 := ⟨q - 1, by omega⟩
  have : p ≤ U / V := by
    rw [Nat.le_div_iff_mul_le hV0]
    have e : (p + 1) * V = (p + 1) * v1 * P1 + (p + 1) * v2 * P2 + (p + 1) * v0 := by rw [hV]; grind
    have h2 : (p + 1) * v2 * P2 ≤ (rest * b + u2) * P2 := Nat.mul_le_mul_right _ ht
    have e1 : (rest * b + u2) * P2 = rest * P1 + u2 * P2 := by rw [hP]; grind
    have e2 : top * P1 = (p + 1) * v1 * P1 + rest * P1 := by rw [← hi, Nat.add_mul]
    have h3 : (p + 1) * v0 ≤ b * P2 := Nat.le_trans (Nat.mul_le_mul_left _ (Nat.le_of_lt hv)) (Nat.mul_le_mul_right _ hq)
    rw [← hP] at h3
    rw [Nat.add_mul, Nat.one_mul] at e
    omega
  omega
end

structure Guess (U V un u1 u2 v1 v2 : Nat) : Prop where
  dec : ∀ Q R, Q * v1 + R = un * B + u1 → R * B + u2 < Q * v2 → U / V < Q
  exit : ∀ Q R, Q * v1 + R = un * B + u1 → Q * v2 ≤ R * B + u2 → Q ≤ B → Q ≤ U / V + 1
  hi : U / V ≤ (un * B + u1) / v1
  cap : (un * B + u1) / v1 ≤ B + 1
  lt : U / V < B

theorem guess {U V n : Nat} (hn : 2 ≤ n) (hV : V < B ^ n) (hUV : U < V * B) (htop : 2147483648 ≤ dig V (n - 1)) :
    Guess U V (dig U n) (dig U (n - 1)) (dig U (n - 2)) (dig V (n - 1)) (dig V (n - 2)) := by
  obtain ⟨m, rfl⟩ : ∃ m, n = m + 2 := ⟨n - 2, by omega⟩
  have hU : U < B ^ (m + 3) := by
    rw [Bpow_succ]; exact Nat.lt_of_lt_of_le hUV (Nat.mul_le_mul_right _ (Nat.le_of_lt hV))
  rw [show m + 2 - 1 = m + 1 from rfl, show m + 2 - 2 = m from rfl] at *
  have ev : V = dig V (m + 1) * B ^ (m + 1) + dig V m * B ^ m + V % B ^ m := by
    conv => lhs; rw [← mod_of_lt hV]
    rw [mod_succ, mod_succ]; omega
  have eu : U = (dig U (m + 2) * B + dig U (m + 1)) * B ^ (m + 1) + dig U m * B ^ m + U % B ^ m := by
    conv => lhs; rw [← mod_of_lt hU]
    rw [mod_succ, mod_succ, mod_succ, Bpow_succ (m + 1), Nat.add_mul, Nat.mul_assoc, Nat.mul_comm B]
    omega
  have hP : B ^ (m + 1) = B * B ^ m := by rw [Bpow_succ, Nat.mul_comm]
  have hv0 := mod_lt' V m
  have hu0 := mod_lt' U m
  have hv00 := Nat.zero_le (V % B ^ m)
  have hu00 := Nat.zero_le (U % B ^ m)
  have hv2 := dig_lt V m
  have hu2 := dig_lt U m
  have hu1 := dig_lt U (m + 1)
  have hV1 : dig V (m + 1) * B ^ (m + 1) ≤ V := by
    conv => rhs; rw [ev]
    omega
  have hUt : U < (dig U (m + 2) * B + dig U (m + 1) + 1) * B ^ (m + 1) := by
    have : (dig U m + 1) * B ^ m ≤ B * B ^ m := Nat.mul_le_mul_right _ hu2
    rw [← hP, Nat.add_mul, Nat.one_mul] at this
    rw [Nat.add_mul _ 1, Nat.one_mul]
    conv => lhs; rw [eu]
    omega
  have hvt : V < (dig V (m + 1) + 1) * B ^ (m + 1) := by
    have : (dig V m + 1) * B ^ m ≤ B * B ^ m := Nat.mul_le_mul_right _ hv2
    rw [← hP, Nat.add_mul, Nat.one_mul] at this
    rw [Nat.add_mul, Nat.one_mul]
    conv => lhs; rw [ev]
    omega
  have h1 : 0 < dig V (m + 1) := by omega
  have hV0 : 0 < V := Nat.lt_of_lt_of_le (Nat.mul_pos h1 (Bpow_pos _)) hV1
  refine ⟨fun Q R hi ht => est_dec ev eu hu0 hP hi ht, fun Q R hi ht hq => est_exit ev hv0 eu hP h1 hi ht hq, est_hi hV1 hUt h1, ?_, ?_⟩
  · have hun : dig U (m + 2) ≤ dig V (m + 1) := by
      have a1 : dig U (m + 2) * B * B ^ (m + 1) ≤ U := by
        conv => rhs; rw [eu, Nat.add_mul]
        omega
      have a2 : V * B ≤ (dig V (m + 1) + 1) * B ^ (m + 1) * B := Nat.mul_le_mul_right _ (Nat.le_of_lt hvt)
      have a3 : dig U (m + 2) * (B * B ^ (m + 1)) < (dig V (m + 1) + 1) * (B * B ^ (m + 1)) := by
        have : (dig V (m + 1) + 1) * B ^ (m + 1) * B = (dig V (m + 1) + 1) * (B * B ^ (m + 1)) := by rw [Nat.mul_assoc, Nat.mul_comm (B ^ (m + 1))]
        rw [← Nat.mul_assoc]
        omega
      have := Nat.lt_of_mul_lt_mul_right a3
      omega
    have : (dig U (m + 2) * B + dig U (m + 1)) / dig V (m + 1) < B + 2 := by
      rw [Nat.div_lt_iff_lt_mul h1, B_eq]
      omega
    omega
  · rw [Nat.div_lt_iff_lt_mul hV0, Nat.mul_comm]; exact hUV

/-! ### the multiple taken away, limb by limb -/
/-- W: what the limbs hold; c: the carry of the products; s: the borrow. -/
theorem take_step {b q P W U Vl x c s p t W' : Nat} {T : Int} (hinv : W + q * Vl = U + (c + s) * P) (hp : p = q * x + c) (hT : T = (t : Int) - (p % b : Nat) - s)
    (hW : (W' : Int) + t * P = W + (T % b) * P) (hs : s ≤ 1) (ht : t < b) {s' : Nat} (hs' : (s' : Int) = if T < 0 then 1 else 0) :
    W' + q * (Vl + x * P) = U + (p / b + s') * (P * b) := by
  have hpb := Nat.div_add_mod p b
  have hmod : p % b < b := Nat.mod_lt _ (by omega)
  have hTb : T % b = T + s' * b := by
    rw [hs']
    split
    · rw [show T + 1 * (b : Int) = T + b by omega]
      rw [← Int.add_emod_right, Int.emod_eq_of_lt (by omega) (by omega)]
    · rw [Int.emod_eq_of_lt (by omega) (by omega)]; omega
  rw [hTb, hT] at hW
  generalize p / b = k at *
  generalize p % b = r at *
  have h1 : ((W + q * Vl : Nat) : Int) = ((U + (c + s) * P : Nat) : Int) := by rw [hinv]
  have h2 : ((b * k + r : Nat) : Int) = ((q * x + c : Nat) : Int) := by rw [hpb, hp]
  apply Int.ofNat_inj.1
  simp only [Int.natCast_add, Int.natCast_mul] at *
  have e3 : (r : Int) = q * x + c - b * k := by omega
  rw [e3] at hW
  grind

/-- One limb of a product of a guess. -/
theorem take_carry {b q x c : Nat} (hq : q ≤ b) (hx : x < b) (hc : c < b) : q * x + c < b * b ∧ (q * x + c) / b < b := by
  have h1 : q * x ≤ b * (b - 1) := Nat.mul_le_mul hq (by omega)
  have h2 : b * (b - 1) = b * b - b := by rw [Nat.mul_sub, Nat.mul_one]
  have h3 : b ≤ b * b := Nat.le_mul_of_pos_left _ (by omega)
  have h4 : q * x + c < b * b := by omega
  exact ⟨h4, by rw [Nat.div_lt_iff_lt_mul (by omega)]; exact h4⟩

/-- The last limb: was the multiple too great? -/
theorem take_last {n q W U V un c s : Nat} (hW : W < B ^ (n + 1)) (hWn : dig W n = un) (hinv : W + q * V = U + (c + s) * B ^ n) :
    (un < c + s ↔ U < q * V) := by
  have e := mod_succ W n
  rw [mod_of_lt hW, hWn] at e
  have hl := mod_lt' W n
  have h0 := Nat.zero_le (W % B ^ n)
  generalize W % B ^ n = l at *
  constructor
  · intro h
    have : (un + 1) * B ^ n ≤ (c + s) * B ^ n := Nat.mul_le_mul_right _ h
    rw [Nat.add_mul, Nat.one_mul] at this
    omega
  · intro h
    rcases Nat.lt_or_ge un (c + s) with h' | h'
    · exact h'
    · have : (c + s) * B ^ n ≤ un * B ^ n := Nat.mul_le_mul_right _ h'
      omega

/-- Not too great: what is left is the remainder. -/
theorem take_done {n q W U V un c s W' : Nat} (hinv : W + q * V = U + (c + s) * B ^ n) (h : c + s ≤ un) (hW' : W' + un * B ^ n = W + (un - (c + s)) * B ^ n)
    (hq : U / V ≤ q) (hle : q * V ≤ U) (hV : 0 < V) : q = U / V ∧ W' = U % V := by
  have hq2 : q ≤ U / V := (Nat.le_div_iff_mul_le hV).2 hle
  have hqe : q = U / V := by omega
  refine ⟨hqe, ?_⟩
  have e : (un - (c + s)) * B ^ n + (c + s) * B ^ n = un * B ^ n := by rw [← Nat.add_mul]; congr 1; omega
  have hm := Nat.div_add_mod U V
  rw [← hqe, Nat.mul_comm] at hm
  omega

/-- Too great by one: the divisor is given back. -/
theorem take_back {n q W U V un c s W' S cc dd : Nat} (hinv : W + q * V = U + (c + s) * B ^ n) (hdd : dd + (c + s) = un + B) (hW' : W' + un * B ^ n = W + dd * B ^ n)
    (hq : q ≤ U / V + 1) (hgt : U < q * V) (hV : 0 < V) (hVn : V < B ^ n) (hS : S + cc * B ^ n = W' + V) (hSn : S < B ^ (n + 1)) :
    q = U / V + 1 ∧ setd S n ((dig S n + cc) % B) = U % V := by
  have hqe : q = U / V + 1 := by
    rcases Nat.lt_or_ge (U / V) q with h' | h'
    · omega
    · exfalso
      have := (Nat.le_div_iff_mul_le hV).1 h'
      omega
  refine ⟨hqe, ?_⟩
  have hm := Nat.div_add_mod U V
  have hr := Nat.mod_lt U hV
  have e : dd * B ^ n + (c + s) * B ^ n = un * B ^ n + B * B ^ n := by rw [← Nat.add_mul, ← Nat.add_mul, hdd]
  have e2 : q * V = V * (U / V) + V := by rw [hqe, Nat.add_mul, Nat.one_mul, Nat.mul_comm]
  have e3 : S + cc * B ^ n = U % V + B * B ^ n := by omega
  have hs := mod_succ S n
  rw [mod_of_lt hSn] at hs
  have hl := mod_lt' S n
  have hl0 := Nat.zero_le (S % B ^ n)
  have v := setd_val S n ((dig S n + cc) % B)
  have hd := dig_lt S n
  generalize setd S n ((dig S n + cc) % B) = T at *
  generalize dig S n = d at *
  generalize S % B ^ n = l at *
  generalize U % V = r at *
  -- d + cc is B: then the last limb is 0
  have hdc : d + cc = B := by
    have hP := Bpow_pos n
    have e4 : l + (d + cc) * B ^ n = r + B * B ^ n := by rw [Nat.add_mul]; omega
    rcases Nat.lt_trichotomy (d + cc) B with h1 | h1 | h1
    · have : (d + cc + 1) * B ^ n ≤ B * B ^ n := Nat.mul_le_mul_right _ h1
      rw [Nat.add_mul _ 1, Nat.one_mul] at this
      omega
    · exact h1
    · have : (B + 1) * B ^ n ≤ (d + cc) * B ^ n := Nat.mul_le_mul_right _ h1
      rw [Nat.add_mul _ 1, Nat.one_mul] at this
      omega
  rw [hdc, Nat.mod_self, Nat.zero_mul, Nat.add_zero] at v
  have e5 : d * B ^ n + cc * B ^ n = B * B ^ n := by rw [← Nat.add_mul, hdc]
  omega

/-! ### sums back, limb by limb -/
theorem back_step {b P W S Vl x c t W' T : Nat} (hinv : W + c * P = S + Vl) (hT : T = t + x + c) (hW : W' + t * P = W + T % b * P) : W' + T / b * (P * b) = S + (Vl + x * P) := by
  have h := Nat.div_add_mod T b
  generalize T / b = k at *
  generalize T % b = r at *
  have e : T * P = b * k * P + r * P := by rw [← h, Nat.add_mul]
  have e2 : T * P = t * P + x * P + c * P := by rw [hT]; grind
  have e3 : k * (P * b) = b * k * P := by grind
  rw [e3]
  omega

/-! ### the whole division: both scaled so that the divisor's top bit is one -/
theorem scale_facts {y : Nat} (hy : 0 < y) (s : Nat) (hs : s + blen (dig y (nl y - 1)) = 32) :
    nl (y * 2 ^ s) = nl y ∧ 2147483648 ≤ dig (y * 2 ^ s) (nl y - 1) := by
  have hn := nl_pos hy
  have hb := blen_top hy
  obtain ⟨k, hk⟩ : ∃ k, nl y = k + 1 := ⟨nl y - 1, by omega⟩
  rw [hk, Nat.add_sub_cancel] at hb hs ⊢
  have hl := blen_mul_pow hy s
  have h1 := lt_blen (y * 2 ^ s)
  have hpos : 0 < y * 2 ^ s := Nat.mul_pos hy (Nat.pow_pos (by decide))
  have h2 := blen_le_self hpos
  have e : blen (y * 2 ^ s) = 32 * (k + 1) := by omega
  rw [e] at h1 h2
  rw [← Bpow_two] at h1
  have e2 : 32 * (k + 1) - 1 = 32 * k + 31 := by omega
  rw [e2, Nat.pow_add, ← Bpow_two] at h2
  have h3 : B ^ k ≤ y * 2 ^ s := Nat.le_trans (Nat.le_mul_of_pos_right _ (by decide)) h2
  refine ⟨nl_eq h1 h3, ?_⟩
  unfold dig
  have h4 : 2 ^ 31 ≤ y * 2 ^ s / B ^ k := by rw [Nat.le_div_iff_mul_le (Bpow_pos k), Nat.mul_comm]; exact h2
  have h5 : y * 2 ^ s / B ^ k < B := by rw [Nat.div_lt_iff_lt_mul (Bpow_pos k), Nat.mul_comm B, ← Bpow_succ]; exact h1
  rw [Nat.mod_eq_of_lt h5]; exact h4

theorem scaled_lt {x m s v n : Nat} (hx : x < B ^ m) (hs : s ≤ 31) (hv : 2147483648 ≤ dig v (n - 1)) (hn : 0 < n) (hm : n ≤ m + 1) : x * 2 ^ s < v * B ^ (m + 1 - n) ∧ x * 2 ^ s < B ^ (m + 1) := by
  have h1 : 2147483648 * B ^ (n - 1) ≤ v := by
    have := split_at v (n - 1)
    have h := Nat.mul_le_mul_right (B ^ (n - 1)) hv
    have h0 := Nat.zero_le (v % B ^ (n - 1))
    generalize v % B ^ (n - 1) = u at *
    omega
  have hp : 2 ^ s ≤ 2147483648 := Nat.pow_le_pow_right (n := 2) (by decide) hs
  have h2 : x * 2 ^ s < 2147483648 * B ^ m := by
    have a := Nat.mul_lt_mul_of_pos_right hx (Nat.pow_pos (n := s) (show 0 < 2 by decide))
    have b := Nat.mul_le_mul_left (B ^ m) hp
    rw [Nat.mul_comm (B ^ m) 2147483648] at b
    omega
  constructor
  · have a := Nat.mul_le_mul_right (B ^ (m + 1 - n)) h1
    rw [Nat.mul_assoc, ← Bpow_add, show n - 1 + (m + 1 - n) = m by omega] at a
    omega
  · rw [Bpow_succ, Nat.mul_comm]
    refine Nat.lt_of_lt_of_le (by rw [Nat.mul_comm] at h2; exact h2) ?_
    rw [Nat.mul_comm (B ^ m)]
    exact Nat.mul_le_mul_right _ (by rw [B_eq]; omega)

/-- One limb more of the quotient. -/
theorem div_round {Z K v j : Nat} (hv : 0 < v) (hZ : Z < v * B ^ (j + 1)) :
    Z = Z % B ^ j + Z / B ^ j * B ^ j ∧ Z / B ^ j < v * B ∧ Z % B ^ j + Z / B ^ j % v * B ^ j < v * B ^ j ∧
    Z % B ^ j + Z / B ^ j % v * B ^ j + (K * B + Z / B ^ j / v) * B ^ j * v = Z + K * B ^ (j + 1) * v := by
  have h1 := Nat.div_add_mod Z (B ^ j)
  have h2 := Nat.div_add_mod (Z / B ^ j) v
  have h3 := mod_lt' Z j
  have h4 := Nat.mod_lt (Z / B ^ j) hv
  have hq : Z / B ^ j < v * B := by rw [Nat.div_lt_iff_lt_mul (Bpow_pos j), Nat.mul_assoc, Nat.mul_comm B, ← Bpow_succ]; exact hZ
  refine ⟨by rw [Nat.mul_comm]; omega, hq, ?_, ?_⟩
  · have : (Z / B ^ j % v + 1) * B ^ j ≤ v * B ^ j := Nat.mul_le_mul_right _ h4
    rw [Nat.add_mul, Nat.one_mul] at this
    omega
  · rw [Bpow_succ]
    generalize Z / B ^ j / v = q at *
    generalize Z / B ^ j % v = r at *
    generalize Z / B ^ j = u at *
    generalize Z % B ^ j = l at *
    generalize B ^ j = p at *
    generalize B = b at *
    rw [← h1, ← h2]
    grind

theorem div_done {Z K v x y s : Nat} (hv : v = y * 2 ^ s) (hZ : Z < v) (h : Z + K * v = x * 2 ^ s) : K = x / y ∧ Z = x % y * 2 ^ s := by
  have hp : 0 < 2 ^ s := Nat.pow_pos (by decide)
  have h1 : x * 2 ^ s / v = K := by rw [← h, Nat.add_mul_div_right _ _ (by omega), Nat.div_eq_of_lt hZ, Nat.zero_add]
  have h2 : x * 2 ^ s % v = Z := by rw [← h, Nat.add_mul_mod_self_right, Nat.mod_eq_of_lt hZ]
  rw [hv, Nat.mul_div_mul_right _ _ hp] at h1
  rw [hv, Nat.mul_mod_mul_right] at h2
  exact ⟨h1.symm, h2.symm⟩

end Sp
