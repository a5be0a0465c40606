/-
  Walks: integer.minus, times.
-/
import Derived.Test.YtjhngehajahbnaaDoorPlus
namespace Go.Proofs.YtjhngehajahbnaaDoor
open Go.RowKit Sp

set_option maxRecDepth 100000 in
set_option maxHeartbeats 400000 in
/-- a - b, where b + d = a -/
theorem minus_any (w : World) (a a' : Option Addr) (n m cap cap' x y d : Nat) (hx : Mag w a n cap x) (hy : Mag w a' m cap' y) (hd : y + d = x) (hlim : n ≤ 1099511627776) :
    Calls Tryd.prog 74 #[.slice a n cap, .slice a' m cap'] w (RetNat w d) := by
  have hmk := make_len 23 22 infU undU (n : Int) (by omega) (by omega)
  have HD := Lib.hid hd
  clear hd
  go_enter Tryd.func74, Tryd.ntmps74
  go_wp2
  clear hmk
  have hrow0 := Row.made w n 22 (by omega)
  go_loopw [6, 15] (fun c i wr => ∃ k : Nat, k ≤ n ∧ i = .int .i64 k ∧ c = .int .u64 (car y d k) ∧ Row wr w.heap.size n 22 (d % B ^ k) ∧ Below w.heap.size w wr) (fun _ i _ => n - (intOf i).toNat)
  case atStart => exact ⟨0, by omega, rfl, by rw [car_zero]; rfl, by rw [mod_zero_pow]; exact hrow0, (Below.refl _ _).alloc (Nat.le_refl _) _⟩
  case round =>
    clear hrow0
    obtain ⟨k, hk, rfl, rfl, hrow, hb⟩ := hrel
    by_cases hlt : k < n
    · have hx' := hx.below hb
      have c1 := hx'.cell k hlt
      have i1 := hx'.idx 23 und siz k hlt
      have hc1 := car_le y d k
      have hd1 := dig_lt x k
      have c3 := hrow.cell k hlt
      have f3 := hrow.free k
      by_cases hkm : k < m
      · have hy' := hy.below hb
        have c2 := hy'.cell k hkm
        have i2 := hy'.idx 23 und siz k hkm
        have hd2 := dig_lt y k
        have HW := Lib.hid (sub_word x y d k HD.out)
        go_wp2
        go_roundw
        case rel => exact ⟨k + 1, by omega, by go_num, by rw [HW.out.2], by rw [HW.out.1, ← setd_digit rfl]; exact hrow.store k _ hlt (dig_lt d k), hb.setCell (Nat.le_refl _) _⟩
        case measure => simp [intOf]; omega
      · have HW := Lib.hid (sub_word0 x y d k HD.out (dig_of_lt hy.lt (by omega)))
        go_wp2
        go_roundw
        case rel => exact ⟨k + 1, by omega, by go_num, by rw [HW.out.2], by rw [HW.out.1, ← setd_digit rfl]; exact hrow.store k _ hlt (dig_lt d k), hb.setCell (Nat.le_refl _) _⟩
        case measure => simp [intOf]; omega
    · obtain rfl : k = n := by omega
      have hdl : d < B ^ k := Nat.lt_of_le_of_lt (by have := HD.out; omega) hx.lt
      rw [mod_of_lt hdl] at hrow
      go_wp2_with (go_at_call 70; refine (trim_any _ _ _ _ _ hrow.mag).mono ?_; rintro e w' ⟨rfl, rfl⟩)
      go_ret
      exact ⟨_, _, rfl, hrow.mag.trim, hb, fun _ => Nat.le_refl _⟩

set_option maxRecDepth 100000 in
set_option maxHeartbeats 1000000 in
/-- a b -/
theorem times_any (w : World) (a a' : Option Addr) (n m cap cap' x y : Nat) (hx : Mag w a n cap x) (hy : Mag w a' m cap' y) (hn : n ≤ 1099511627776) (hm : m ≤ 1099511627776) :
    Calls Tryd.prog 93 #[.slice a n cap, .slice a' m cap'] w (RetNat w (x * y)) := by
  by_cases h0 : n = 0 ∨ m = 0
  · have hz : x * y = 0 := by
      rcases h0 with rfl | rfl
      · rw [hx.zero, Nat.zero_mul]
      · rw [hy.zero, Nat.mul_zero]
    rw [hz]
    by_cases hn0 : n = 0
    · subst hn0
      go_enter Tryd.func93, Tryd.ntmps93
      go_wp2
      go_ret
      exact ⟨none, 0, rfl, Mag.nil w, Below.refl _ _, nl0⟩
    · obtain rfl : m = 0 := by omega
      have hn1 : ((n : Int) == 0) = false := by rw [beq_eq_false_iff_ne]; omega
      go_enter Tryd.func93, Tryd.ntmps93
      go_wp2
      go_ret
      exact ⟨none, 0, rfl, Mag.nil w, Below.refl _ _, nl0⟩
  · have hn1 : ((n : Int) == 0) = false := by rw [beq_eq_false_iff_ne]; omega
    have hm1 : ((m : Int) == 0) = false := by rw [beq_eq_false_iff_ne]; omega
    have hmk := make_len 23 22 infU undU ((n : Int) + m) (by omega) (by omega)
    go_enter Tryd.func93, Tryd.ntmps93
    go_wp2
    clear hmk
    have hrow0 := Row.made w (n + m) 22 (by omega)
    go_loopw [28] (fun i wr => ∃ k : Nat, k ≤ n ∧ i = .int .i64 k ∧ Row wr w.heap.size (n + m) 22 (x % B ^ k * y) ∧ Below w.heap.size w wr) (fun i _ => n - (intOf i).toNat)
    case atStart => exact ⟨0, by omega, rfl, by rw [mod_zero_pow, Nat.zero_mul]; exact hrow0, (Below.refl _ _).alloc (Nat.le_refl _) _⟩
    case round =>
      clear hrow0
      obtain ⟨k, hk, rfl, hrow, hb⟩ := hrel
      by_cases hlt : k < n
      · have hx' := hx.below hb
        have c1 := hx'.cell k hlt
        have i1 := hx'.idx 23 und siz k hlt
        have hd1 := dig_lt x k
        obtain ⟨wo, rfl⟩ : ∃ wo : World, wo = wr := ⟨_, rfl⟩
        go_wp2
        clear c1 i1
        go_loopw [8, 35] (fun c j wi => ∃ q Z cc : Nat, q ≤ m ∧ j = .int .i64 q ∧ c = .int .u64 cc ∧ cc < 4294967296 ∧ Row wi w.heap.size (n + m) 22 Z ∧ Z < B ^ (k + m) ∧
          Z + cc * B ^ (k + q) = x % B ^ k * y + dig x k * (y % B ^ q) * B ^ k ∧ Below w.heap.size w wi) (fun _ j _ => m - (intOf j).toNat)
        case atStart =>
          refine ⟨0, x % B ^ k * y, 0, by omega, rfl, rfl, by omega, hrow, ?_, ?_, hb⟩
          · rw [Bpow_add]; exact Nat.mul_lt_mul'' (mod_lt' x k) hy.lt
          · rw [mod_zero_pow]; simp
        case round =>
          obtain ⟨q, Z, cc, hq, rfl, rfl, hcc, hrowi, hZ, hinv, hbi⟩ := hrel
          have HI := Lib.hid hinv
          clear hinv hx'
          by_cases hqm : q < m
          · have hy' := hy.below hbi
            have c2 := hy'.cell q hqm
            have i2 := hy'.idx 23 und siz q hqm
            have hd2 := dig_lt y q
            have hd3 := dig_lt Z (k + q)
            have c3 := hrowi.cell (k + q) (by omega)
            have f3 := hrowi.free (k + q)
            obtain ⟨m1, m2⟩ := mul_carry hd1 hd2 hd3 hcc
            rw [← Int.ofNat_le, Int.natCast_mul] at m2
            have m1' : ((dig x k : Nat) : Int) * (dig y q : Nat) + (dig Z (k + q) : Nat) + (cc : Nat) < 18446744073709551616 := by rw [← Int.natCast_mul]; omega
            have m0 : (0 : Int) ≤ ((dig x k : Nat) : Int) * (dig y q : Nat) := by rw [← Int.natCast_mul]; omega
            clear m1
            obtain ⟨T, hT⟩ : ∃ T : Nat, T = dig x k * dig y q + dig Z (k + q) + cc := ⟨_, rfl⟩
            have hTI : ((T : Nat) : Int) = ((dig x k : Nat) : Int) * (dig y q : Nat) + (dig Z (k + q) : Nat) + (cc : Nat) := by rw [hT]; simp
            have hTB : T / B < 4294967296 := by rw [Nat.div_lt_iff_lt_mul B_pos, B_eq]; omega
            have HTI := Lib.hid hTI
            have HT := Lib.hid hT
            clear hTI hT
            have HTB := Lib.hid hTB
            clear hTB
            go_wp2
            go_roundw
            case rel =>
              refine ⟨q + 1, setd Z (k + q) (T % B), T / B, by omega, by go_num, ?_, HTB.out, ?_, setd_lt (Nat.mod_lt _ B_pos) (by omega) hZ, mul_round HT.out HI.out, hbi.setCell (Nat.le_refl _) _⟩
              · rw [← HTI.out, B_eq]; rfl
              · rw [← HTI.out]; exact hrowi.store (k + q) (T % B) (by omega) (Nat.mod_lt _ B_pos)
            case measure => simp [intOf]; omega
          · obtain rfl : q = m := by omega
            have c3 := hrowi.cell (k + q) (by omega)
            have f3 := hrowi.free (k + q)
            go_wp2
            go_roundw
            case rel => exact ⟨k + 1, by omega, by go_num, by rw [← mul_row hy.lt HI.out hZ]; exact hrowi.store (k + q) cc (by omega) hcc, hbi.setCell (Nat.le_refl _) _⟩
            case measure => simp [intOf]; omega
      · obtain rfl : k = n := by omega
        rw [mod_of_lt hx.lt] at hrow
        go_wp2_with (go_at_call 70; refine (trim_any _ _ _ _ _ hrow.mag).mono ?_; rintro e w' ⟨rfl, rfl⟩)
        go_ret
        exact ⟨_, _, rfl, hrow.mag.trim, hb, fun _ => Nat.le_refl _⟩
end Go.Proofs.YtjhngehajahbnaaDoor
