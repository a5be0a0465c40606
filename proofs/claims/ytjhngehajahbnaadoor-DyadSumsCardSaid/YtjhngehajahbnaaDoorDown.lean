/-
  Walks: integer.down, short.
-/
import Derived.Test.YtjhngehajahbnaaDoorIndex
namespace Go.Proofs.YtjhngehajahbnaaDoor
open Go.RowKit Sp

/-- A call's two results: a slice that reads as z, and a bool. -/
def RetNatB (w : World) (z : Nat) (b : Bool) (e : Ending) (w' : World) : Prop :=
  ∃ a cap, e = .returned (.tuple #[.slice a (nl z) cap, .bool b]) ∧ Mag w' a (nl z) cap z ∧ Below w.heap.size w w' ∧ (0 < nl z → w.heap.size ≤ ab a)

set_option maxRecDepth 100000 in
set_option maxHeartbeats 800000 in
/-- a / 2^s, and whether bits were lost -/
theorem down_any (w : World) (a : Option Addr) (n cap x : Nat) (s : Int) (hx : Mag w a n cap x) (hn : n = nl x) (hlim : n ≤ 1099511627776) (hs0 : 0 ≤ s) (hs1 : s ≤ 1099511627776) (b : Bool) (hb : b = decide (x % 2 ^ s.toNat ≠ 0)) :
    Calls Tryd.prog 97 #[.slice a n cap, .int .i64 s] w (RetNatB w (x / 2 ^ s.toNat) b) := by
  obtain ⟨s, rfl⟩ := Int.eq_ofNat_of_zero_le hs0
  rw [Int.toNat_natCast] at *
  have l1 := hx.lim
  have l2 := hx.fits
  have HN := Lib.hid hn
  have HB := Lib.hid hb
  clear hn hb
  by_cases hw : n ≤ s / 32
  · have ht : decide ((n : Int) ≤ (s : Int) / 32) = true := by simp; omega
    go_enter Tryd.func97, Tryd.ntmps97
    go_wp2
    go_ret2
    have hlt : x < 2 ^ s := by
      refine Nat.lt_of_lt_of_le hx.lt ?_
      rw [Bpow_two]; exact Nat.pow_le_pow_right (by omega) (by omega)
    rw [Nat.div_eq_of_lt hlt]
    refine ⟨none, 0, ?_, Mag.nil w, Below.refl _ _, nl0⟩
    have e : decide (0 < n) = b := by
      rw [HB.out, Nat.mod_eq_of_lt hlt, HN.out]
      exact decide_eq_decide.2 ⟨fun h h0 => by rw [h0] at h; exact absurd h (by decide), fun h => nl_pos (Nat.pos_of_ne_zero h)⟩
    exact congrArg (fun q => Ending.returned (.tuple #[.slice none 0 0, .bool q])) e
  · have ht : decide ((n : Int) ≤ (s : Int) / 32) = false := by simp; omega
    have hmk := make_len 23 22 infU undU ((n : Int) - (s : Int) / 32) (by omega) (by omega)
    have c1 := hx.cell (s / 32) (by omega)
    have i1 := hx.idx' 23 und siz (s / 32) (by omega) ((s : Int) / 32) (by omega)
    have hd := dig_lt x (s / 32)
    by_cases hlow : x % B ^ (s / 32) = 0
    · have HL := Lib.hid hlow
      clear hlow
      go_enter Tryd.func97, Tryd.ntmps97
      go_wp2_with (go_at_call 105; refine (contains_any _ _ _ _ _ _ rfl (hx.take (s / 32) (by omega)) false (by rw [HL.out]; rfl)).mono ?_; rintro e w' ⟨rfl, rfl⟩)
      clear hmk c1 i1
      have hrow0 := Row.made w (n - s / 32) 22 (by omega)
      go_loopw [46] (fun i wr => ∃ k : Nat, k ≤ n - s / 32 ∧ i = .int .i64 k ∧ Row wr w.heap.size (n - s / 32) 22 (x / 2 ^ s % B ^ k) ∧ Below w.heap.size w wr) (fun i _ => n - s / 32 - (intOf i).toNat)
      case atStart => exact ⟨0, by omega, rfl, by rw [mod_zero_pow]; exact hrow0, (Below.refl _ _).alloc (Nat.le_refl _) _⟩
      case round =>
        clear hrow0
        obtain ⟨k, hk, rfl, hrow, hb⟩ := hrel
        have hx' := hx.below hb
        by_cases hlt : k < n - s / 32
        · have d1 := hx'.cell (s / 32 + k) (by omega)
          have j1 := hx'.idx' 23 und siz (s / 32 + k) (by omega) ((s : Int) / 32 + k) (by omega)
          have d3 := hrow.cell k hlt
          have f3 := hrow.free k
          have hd1 := dig_lt x (s / 32 + k)
          by_cases hnx : s / 32 + k + 1 < n
          · have d2 := hx'.cell (s / 32 + k + 1) hnx
            have j2 := hx'.idx' 23 und siz (s / 32 + k + 1) (by omega) ((s : Int) / 32 + k + 1) (by omega)
            have hd2 := dig_lt x (s / 32 + k + 1)
            go_wp2
            go_roundw
            case rel => exact ⟨k + 1, by omega, by go_num, by rw [down_word, ← setd_digit rfl]; exact hrow.store k _ hlt (dig_lt _ _), hb.setCell (Nat.le_refl _) _⟩
            case measure => simp [intOf]; omega
          · have HZ := Lib.hid (dig_of_lt (i := s / 32 + k + 1) hx.lt (by omega))
            go_wp2
            go_roundw
            case rel => exact ⟨k + 1, by omega, by go_num, by rw [down_word0 _ _ _ HZ.out, ← setd_digit rfl]; exact hrow.store k _ hlt (dig_lt _ _), hb.setCell (Nat.le_refl _) _⟩
            case measure => simp [intOf]; omega
        · obtain rfl : k = n - s / 32 := by omega
          have hdl : x / 2 ^ s < B ^ (n - s / 32) := by
            rw [Nat.div_lt_iff_lt_mul (Nat.pow_pos (by decide))]
            refine Nat.lt_of_lt_of_le hx.lt ?_
            rw [two_split s, Nat.mul_comm (2 ^ (s % 32)), ← Nat.mul_assoc, ← Bpow_add, show n - s / 32 + s / 32 = n by omega]
            exact Nat.le_mul_of_pos_right _ (Nat.pow_pos (by decide))
          rw [mod_of_lt hdl] at hrow
          go_wp2_with (go_at_call 70; refine (trim_any _ _ _ _ _ hrow.mag).mono ?_; rintro e w' ⟨rfl, rfl⟩)
          go_ret2
          refine ⟨some ⟨w.heap.size, 0, none⟩, n - s / 32, ?_, hrow.mag.trim, hb, fun _ => Nat.le_refl _⟩
          have hlb := low_bits hd (show s % 32 < 32 by omega)
          have e : (Go.bits .and .u32 (dig x (s / 32) : Nat) ((2 ^ (s % 32) - 1) % 4294967296) != 0) = b := by
            rw [hlb, HB.out]
            have hl := lost_iff x s
            rw [HL.out] at hl
            by_cases h0 : dig x (s / 32) % 2 ^ (s % 32) = 0
            · rw [h0] at hl ⊢
              have : ¬ x % 2 ^ s ≠ 0 := fun h => by have := hl.1 h; simp at this
              simp [this]
            · have : x % 2 ^ s ≠ 0 := hl.2 (.inr h0)
              rw [decide_eq_true this, bne_iff_ne]; omega
          exact congrArg (fun q => Ending.returned (.tuple #[.slice (some ⟨w.heap.size, 0, none⟩) (nl (x / 2 ^ s)) (n - s / 32), .bool q])) e
    · go_enter Tryd.func97, Tryd.ntmps97
      go_wp2_with (go_at_call 105; refine (contains_any _ _ _ _ _ _ rfl (hx.take (s / 32) (by omega)) true (by simp [hlow])).mono ?_; rintro e w' ⟨rfl, rfl⟩)
      clear hmk c1 i1
      have hrow0 := Row.made w (n - s / 32) 22 (by omega)
      go_loopw [46] (fun i wr => ∃ k : Nat, k ≤ n - s / 32 ∧ i = .int .i64 k ∧ Row wr w.heap.size (n - s / 32) 22 (x / 2 ^ s % B ^ k) ∧ Below w.heap.size w wr) (fun i _ => n - s / 32 - (intOf i).toNat)
      case atStart => exact ⟨0, by omega, rfl, by rw [mod_zero_pow]; exact hrow0, (Below.refl _ _).alloc (Nat.le_refl _) _⟩
      case round =>
        clear hrow0
        obtain ⟨k, hk, rfl, hrow, hb⟩ := hrel
        have hx' := hx.below hb
        by_cases hlt : k < n - s / 32
        · have d1 := hx'.cell (s / 32 + k) (by omega)
          have j1 := hx'.idx' 23 und siz (s / 32 + k) (by omega) ((s : Int) / 32 + k) (by omega)
          have d3 := hrow.cell k hlt
          have f3 := hrow.free k
          have hd1 := dig_lt x (s / 32 + k)
          by_cases hnx : s / 32 + k + 1 < n
          · have d2 := hx'.cell (s / 32 + k + 1) hnx
            have j2 := hx'.idx' 23 und siz (s / 32 + k + 1) (by omega) ((s : Int) / 32 + k + 1) (by omega)
            have hd2 := dig_lt x (s / 32 + k + 1)
            go_wp2
            go_roundw
            case rel => exact ⟨k + 1, by omega, by go_num, by rw [down_word, ← setd_digit rfl]; exact hrow.store k _ hlt (dig_lt _ _), hb.setCell (Nat.le_refl _) _⟩
            case measure => simp [intOf]; omega
          · have HZ := Lib.hid (dig_of_lt (i := s / 32 + k + 1) hx.lt (by omega))
            go_wp2
            go_roundw
            case rel => exact ⟨k + 1, by omega, by go_num, by rw [down_word0 _ _ _ HZ.out, ← setd_digit rfl]; exact hrow.store k _ hlt (dig_lt _ _), hb.setCell (Nat.le_refl _) _⟩
            case measure => simp [intOf]; omega
        · obtain rfl : k = n - s / 32 := by omega
          have hdl : x / 2 ^ s < B ^ (n - s / 32) := by
            rw [Nat.div_lt_iff_lt_mul (Nat.pow_pos (by decide))]
            refine Nat.lt_of_lt_of_le hx.lt ?_
            rw [two_split s, Nat.mul_comm (2 ^ (s % 32)), ← Nat.mul_assoc, ← Bpow_add, show n - s / 32 + s / 32 = n by omega]
            exact Nat.le_mul_of_pos_right _ (Nat.pow_pos (by decide))
          rw [mod_of_lt hdl] at hrow
          go_wp2_with (go_at_call 70; refine (trim_any _ _ _ _ _ hrow.mag).mono ?_; rintro e w' ⟨rfl, rfl⟩)
          go_ret2
          refine ⟨some ⟨w.heap.size, 0, none⟩, n - s / 32, ?_, hrow.mag.trim, hb, fun _ => Nat.le_refl _⟩
          have e : true = b := by
            rw [HB.out, decide_eq_true ((lost_iff x s).2 (.inl hlow))]
          exact congrArg (fun q => Ending.returned (.tuple #[.slice (some ⟨w.heap.size, 0, none⟩) (nl (x / 2 ^ s)) (n - s / 32), .bool q])) e

/-- A call's two results: a slice that reads as z, and a limb. -/
def RetNatU (w : World) (z r : Nat) (e : Ending) (w' : World) : Prop :=
  ∃ a cap, e = .returned (.tuple #[.slice a (nl z) cap, .int .u32 r]) ∧ Mag w' a (nl z) cap z ∧ Below w.heap.size w w' ∧ (0 < nl z → w.heap.size ≤ ab a)

set_option maxRecDepth 100000 in
set_option maxHeartbeats 800000 in
/-- a / d and the remainder -/
theorem short_any (w : World) (a : Option Addr) (n cap x d : Nat) (hx : Mag w a n cap x) (hlim : n ≤ 1099511627776) (hd0 : 0 < d) (hd1 : d < 4294967296) :
    Calls Tryd.prog 111 #[.slice a n cap, .int .u32 d] w (RetNatU w (x / d) (x % d)) := by
  have l1 := hx.lim
  have l2 := hx.fits
  have hmk := make_len 23 22 infU undU (n : Int) (by omega) (by omega)
  go_enter Tryd.func111, Tryd.ntmps111
  go_wp2
  clear hmk
  have hrow0 := Row.made w n 22 (by omega)
  go_loopw [7, 8] (fun r i wr => ∃ k : Nat, k ≤ n ∧ i = .int .i64 ((k : Int) - 1) ∧ r = .int .u64 ((x / B ^ k % d : Nat) : Int) ∧ Row wr w.heap.size n 22 (x / B ^ k / d * B ^ k) ∧ Below w.heap.size w wr) (fun _ i _ => (intOf i + 1).toNat)
  case atStart => exact ⟨n, Nat.le_refl _, rfl, by rw [Nat.div_eq_of_lt hx.lt]; simp, by rw [Nat.div_eq_of_lt hx.lt]; simpa using hrow0, (Below.refl _ _).alloc (Nat.le_refl _) _⟩
  case round =>
    clear hrow0
    obtain ⟨k, hk, rfl, rfl, hrow, hb⟩ := hrel
    have hrd : x / B ^ k % d < d := Nat.mod_lt _ hd0
    by_cases h0 : 0 < k
    · obtain ⟨j, rfl⟩ : ∃ j, k = j + 1 := ⟨k - 1, by omega⟩
      have hx' := hx.below hb
      have c1 := hx'.cell j (by omega)
      have i1 := hx'.idx 23 und siz j (by omega)
      have c3 := hrow.cell j (by omega)
      have f3 := hrow.free j
      have hd2 := dig_lt x j
      obtain ⟨r, hr⟩ : ∃ r, r = x / B ^ (j + 1) % d := ⟨_, rfl⟩
      rw [← hr] at hrd ⊢
      have HR := Lib.hid hr
      clear hr
      have hor := or_limb (r := r) (d := dig x j) (by omega) hd2
      have b1 : (0 : Int) ≤ (r : Int) * 4294967296 + (dig x j : Nat) := by omega
      have b2 : (r : Int) * 4294967296 + (dig x j : Nat) ≤ 18446744073709551615 := by omega
      have b3 : (1 : Int) ≤ (d : Int) := by omega
      have s1 := short_step hd0 (div_succ x j)
      have s2 := short_limb hrd (show dig x j < B from hd2)
      rw [← HR.out] at s1
      have S1 := Lib.hid s1
      have S2 := Lib.hid s2
      clear s1 s2
      go_wp2
      have hw := short_words S2.out
      go_roundw
      case rel =>
        refine ⟨j, by omega, rfl, ?_, ?_, hb.setCell (Nat.le_refl _) _⟩
        · rw [hw.1, S1.out.1]
        · rw [hw.2, S1.out.2, ← setd_shift]; exact hrow.store j _ (by omega) S2.out
      case measure => simp [intOf]
    · obtain rfl : k = 0 := by omega
      simp only [Nat.pow_zero, Nat.div_one, Nat.mul_one] at *
      go_wp2_with (go_at_call 70; refine (trim_any _ _ _ _ _ hrow.mag).mono ?_; rintro e w' ⟨rfl, rfl⟩)
      go_ret2
      exact ⟨some ⟨w.heap.size, 0, none⟩, n, rfl, hrow.mag.trim, hb, fun _ => Nat.le_refl _⟩
end Go.Proofs.YtjhngehajahbnaaDoor
