/-
  Walks: slices.IndexFunc, slices.ContainsFunc with integer.down's test; bits.Len32, LeadingZeros32, integer.length; short.
-/
import Derived.Test.YtjhngehajahbnaaDoorUp
import Derived.Lib.Strings
import Derived.Lib.Slices
import Derived.Lib.Small
import Derived.Lib.Walk
import Derived.Lib.BitFns
namespace Go.Proofs.YtjhngehajahbnaaDoor
open Go.RowKit Sp

theorem test_any (w : World) (d : Nat) : Calls Tryd.prog 106 #[.int .u32 d] w fun e w' => e = .returned (.bool ((d : Int) != 0)) ∧ w = w' := by
  go_enter Tryd.func106, Tryd.ntmps106
  go_wp2
  go_ret
  exact ⟨rfl, rfl⟩

set_option maxRecDepth 100000 in
set_option maxHeartbeats 400000 in
theorem index_any (w : World) (a : Option Addr) (n cap x : Nat) (fv : Value) (hf : fv = .func (.func 106) #[] #[]) (hx : Mag w a n cap x) :
    Calls Tryd.prog 114 #[.slice a n cap, fv] w fun e w' => (∃ i : Int, e = .returned (.int .i64 i) ∧ (0 ≤ i ↔ x ≠ 0)) ∧ w = w' := by
  have l1 := hx.lim
  have l2 := hx.fits
  subst hf
  go_enter Tryd.func114, Tryd.ntmps114
  go_wp2
  go_loop [8] (fun i => ∃ k : Nat, k ≤ n ∧ i = .int .i64 k ∧ x % B ^ k = 0) (fun i => n - (intOf i).toNat)
  case atStart => exact ⟨0, by omega, rfl, mod_zero_pow x⟩
  case round =>
    obtain ⟨k, hk, rfl, hz⟩ := hrel
    have HZ := Lib.hid hz
    clear hz
    by_cases hlt : k < n
    · have c1 := hx.cell k hlt
      have i1 := hx.idx 23 und siz k hlt
      go_wp2_with (go_at_call 106; refine (test_any _ _).mono ?_; rintro e w' ⟨rfl, rfl⟩)
      · go_ret
        have hd := bne0_true (by assumption : (((dig x k : Nat) : Int) != 0) = true)
        refine ⟨⟨k, rfl, ⟨fun _ h0 => ?_, fun _ => by omega⟩⟩, rfl⟩
        subst h0
        exact hd (dig_zero k)
      · have hd := bne0_false (by assumption : (((dig x k : Nat) : Int) != 0) = false)
        go_round
        case rel => exact ⟨k + 1, by omega, by go_num, by rw [mod_succ, HZ.out, hd, Nat.zero_mul]⟩
        case measure => simp [intOf]; omega
    · obtain rfl : k = n := by omega
      go_wp2
      go_ret
      refine ⟨⟨-1, rfl, ⟨fun h => by omega, fun h => ?_⟩⟩, rfl⟩
      exact absurd (by rw [← mod_of_lt hx.lt]; exact HZ.out) h

set_option maxRecDepth 100000 in
set_option maxHeartbeats 400000 in
theorem contains_any (w : World) (a : Option Addr) (n cap x : Nat) (fv : Value) (hf : fv = .func (.func 106) #[] #[]) (hx : Mag w a n cap x) (b : Bool) (hb : b = decide (x ≠ 0)) :
    Calls Tryd.prog 105 #[.slice a n cap, fv] w fun e w' => e = .returned (.bool b) ∧ w = w' := by
  have HB := Lib.hid hb
  clear hb
  subst hf
  go_enter Tryd.func105, Tryd.ntmps105
  go_wp2_with (go_at_call 114; refine (index_any _ _ _ _ _ _ rfl hx).mono ?_; rintro e w' ⟨⟨i, rfl, hi⟩, rfl⟩)
  go_ret
  refine ⟨?_, rfl⟩
  have e : (!decide (x = 0)) = b := by rw [HB.out]; simp
  exact congrArg (fun q => Ending.returned (.bool q)) e

/-! ### bits of one limb -/
theorem bitLenAux_eq : ∀ (f x : Nat), x < 2 ^ f → Lib.bitLenAux f x = blen x
  | 0, x, h => by
    have : x = 0 := by simpa using h
    subst this; rfl
  | f + 1, x, h => by
    unfold Lib.bitLenAux
    split
    · subst_vars; rfl
    · rename_i h0
      rw [bitLenAux_eq f (x / 2) (by rw [Nat.pow_succ] at h; omega)]
      unfold blen
      rw [if_neg h0]
      split
      · rename_i h1
        have : x = 1 := by omega
        subst this; decide
      · rw [Nat.log2_def x, if_pos (by omega)]; omega
theorem bitLen_eq {x : Nat} (h : x < 18446744073709551616) : Lib.bitLen x = blen x := bitLenAux_eq 64 x h

set_option maxRecDepth 100000 in
set_option maxHeartbeats 4000000 in
theorem len32_a (x : Int) (w : World) (h0 : 0 ≤ x) (h1 : x ≤ 4294967295) (c1 : 16777216 ≤ x) (c2 : 65536 ≤ x) (c3 : 256 ≤ x / 65536) :
    Calls Tryd.prog 94 #[.int .u32 x] w fun e w' => e = .returned (.int .i64 (Lib.bitLen x.toNat)) ∧ w = w' := by
  have hi := fun w => Lib.run_index_len8tab (P := Tryd.prog) w 9 .u8 (x / 65536 / 256) rfl (by omega) (by omega)
  have hv := Lib.len8_of (x / 65536 / 256) (by omega) (by omega)
  have hl := Lib.bitLen_le8' (x / 65536 / 256) (by omega) (by omega)
  obtain ⟨v, hv'⟩ : ∃ v : Int, v = Lib.len8 (x / 65536 / 256) := ⟨_, rfl⟩
  rw [← hv'] at hv
  simp only [← hv'] at hi
  have b0 : 0 ≤ v := by omega
  have b1 : v ≤ 8 := by omega
  have hres : 24 + v = (Lib.bitLen x.toNat : Int) := by
    have s := Lib.bitLen_shift24 x.toNat (by omega) (by omega)
    have e : (x / 65536 / 256).toNat = x.toNat / 16777216 := by omega
    rw [e] at hv
    omega
  have HR := Lib.hid hres
  clear hv hv' hl hres
  go_enter Tryd.func94, Tryd.ntmps94
  go_wp2
  go_ret
  exact ⟨congrArg Ending.returned (congrArg (Value.int IntKind.i64) HR.out), rfl⟩
set_option maxRecDepth 100000 in
set_option maxHeartbeats 4000000 in
theorem len32_b (x : Int) (w : World) (h0 : 0 ≤ x) (h1 : x ≤ 4294967295) (c1 : x < 16777216) (c2 : 65536 ≤ x) (c3 : ¬ 256 ≤ x / 65536) :
    Calls Tryd.prog 94 #[.int .u32 x] w fun e w' => e = .returned (.int .i64 (Lib.bitLen x.toNat)) ∧ w = w' := by
  have hi := fun w => Lib.run_index_len8tab (P := Tryd.prog) w 9 .u8 (x / 65536) rfl (by omega) (by omega)
  have hv := Lib.len8_of (x / 65536) (by omega) (by omega)
  have hl := Lib.bitLen_le8' (x / 65536) (by omega) (by omega)
  obtain ⟨v, hv'⟩ : ∃ v : Int, v = Lib.len8 (x / 65536) := ⟨_, rfl⟩
  rw [← hv'] at hv
  simp only [← hv'] at hi
  have b0 : 0 ≤ v := by omega
  have b1 : v ≤ 8 := by omega
  have hres : 16 + v = (Lib.bitLen x.toNat : Int) := by
    have s := Lib.bitLen_shift16 x.toNat (by omega) (by omega)
    have e : (x / 65536).toNat = x.toNat / 65536 := by omega
    rw [e] at hv
    omega
  have HR := Lib.hid hres
  clear hv hv' hl hres
  go_enter Tryd.func94, Tryd.ntmps94
  go_wp2
  go_ret
  exact ⟨congrArg Ending.returned (congrArg (Value.int IntKind.i64) HR.out), rfl⟩
set_option maxRecDepth 100000 in
set_option maxHeartbeats 4000000 in
theorem len32_c (x : Int) (w : World) (h0 : 0 ≤ x) (h1 : x ≤ 4294967295) (c2 : ¬ 65536 ≤ x) (c3 : 256 ≤ x) :
    Calls Tryd.prog 94 #[.int .u32 x] w fun e w' => e = .returned (.int .i64 (Lib.bitLen x.toNat)) ∧ w = w' := by
  have hi := fun w => Lib.run_index_len8tab (P := Tryd.prog) w 9 .u8 (x / 256) rfl (by omega) (by omega)
  have hv := Lib.len8_of (x / 256) (by omega) (by omega)
  have hl := Lib.bitLen_le8' (x / 256) (by omega) (by omega)
  obtain ⟨v, hv'⟩ : ∃ v : Int, v = Lib.len8 (x / 256) := ⟨_, rfl⟩
  rw [← hv'] at hv
  simp only [← hv'] at hi
  have b0 : 0 ≤ v := by omega
  have b1 : v ≤ 8 := by omega
  have hres : 8 + v = (Lib.bitLen x.toNat : Int) := by
    have s := Lib.bitLen_shift8 x.toNat (by omega) (by omega)
    have e : (x / 256).toNat = x.toNat / 256 := by omega
    rw [e] at hv
    omega
  have HR := Lib.hid hres
  clear hv hv' hl hres
  go_enter Tryd.func94, Tryd.ntmps94
  go_wp2
  go_ret
  exact ⟨congrArg Ending.returned (congrArg (Value.int IntKind.i64) HR.out), rfl⟩
set_option maxRecDepth 100000 in
set_option maxHeartbeats 4000000 in
theorem len32_d (x : Int) (w : World) (h0 : 0 ≤ x) (h1 : x ≤ 4294967295) (c2 : ¬ 65536 ≤ x) (c3 : ¬ 256 ≤ x) :
    Calls Tryd.prog 94 #[.int .u32 x] w fun e w' => e = .returned (.int .i64 (Lib.bitLen x.toNat)) ∧ w = w' := by
  have hi := fun w => Lib.run_index_len8tab (P := Tryd.prog) w 9 .u8 (x) rfl (by omega) (by omega)
  have hv := Lib.len8_of (x) (by omega) (by omega)
  have hl := Lib.bitLen_le8' (x) (by omega) (by omega)
  obtain ⟨v, hv'⟩ : ∃ v : Int, v = Lib.len8 (x) := ⟨_, rfl⟩
  rw [← hv'] at hv
  simp only [← hv'] at hi
  have b0 : 0 ≤ v := by omega
  have b1 : v ≤ 8 := by omega
  have hres : v = (Lib.bitLen x.toNat : Int) := by
    omega
  have HR := Lib.hid hres
  clear hv hv' hl hres
  go_enter Tryd.func94, Tryd.ntmps94
  go_wp2
  go_ret
  exact ⟨congrArg Ending.returned (congrArg (Value.int IntKind.i64) HR.out), rfl⟩
theorem len32_int (x : Int) (w : World) (h0 : 0 ≤ x) (h1 : x ≤ 4294967295) :
    Calls Tryd.prog 94 #[.int .u32 x] w fun e w' => e = .returned (.int .i64 (blen x.toNat)) ∧ w = w' := by
  rw [← bitLen_eq (by omega)]
  by_cases c1 : 65536 ≤ x
  · by_cases c2 : 16777216 ≤ x
    · exact len32_a x w h0 h1 c2 c1 (by omega)
    · exact len32_b x w h0 h1 (by omega) c1 (by omega)
  · by_cases c2 : 256 ≤ x
    · exact len32_c x w h0 h1 c1 c2
    · exact len32_d x w h0 h1 c1 c2

theorem len32_any (w : World) (d : Nat) (hd : d < 4294967296) :
    Calls Tryd.prog 94 #[.int .u32 d] w fun e w' => e = .returned (.int .i64 (blen d)) ∧ w = w' := len32_int d w (by omega) (by omega)

theorem leading_any (w : World) (d : Nat) (hd : d < 4294967296) :
    Calls Tryd.prog 112 #[.int .u32 d] w fun e w' => e = .returned (.int .i64 (32 - (blen d : Int))) ∧ w = w' := by
  have hb : blen d ≤ 32 := blen_le (by omega)
  go_enter Tryd.func112, Tryd.ntmps112
  go_wp2_with (go_at_call 94; refine (len32_any _ _ hd).mono ?_; rintro e w' ⟨rfl, rfl⟩)
  go_ret
  exact ⟨rfl, rfl⟩

set_option maxRecDepth 100000 in
set_option maxHeartbeats 400000 in
/-- integer.length: the number of bits -/
theorem length_any (w : World) (a : Option Addr) (n cap x : Nat) (hx : Mag w a n cap x) (hn : n = nl x) (hlim : n ≤ 1099511627776) :
    Calls Tryd.prog 76 #[.slice a n cap] w fun e w' => e = .returned (.int .i64 (blen x)) ∧ w = w' := by
  have l1 := hx.lim
  have l2 := hx.fits
  have HN := Lib.hid hn
  clear hn
  by_cases hn0 : n = 0
  · subst hn0
    rw [hx.zero]
    go_enter Tryd.func76, Tryd.ntmps76
    go_wp2
    go_ret
    exact ⟨rfl, rfl⟩
  · have hn1 : ((n : Int) == 0) = false := by rw [beq_eq_false_iff_ne]; omega
    have hx0 : 0 < x := by
      rcases Nat.eq_zero_or_pos x with h | h
      · exfalso; apply hn0; rw [HN.out, h]; rfl
      · exact h
    obtain ⟨j, rfl⟩ : ∃ j, n = j + 1 := ⟨n - 1, by omega⟩
    have c1 := hx.cell j (by omega)
    have i1 := hx.idx 23 und siz j (by omega)
    have hd := dig_lt x j
    have hb : blen (dig x j) ≤ 32 := blen_le (by omega)
    have HR : Hid ((j : Int) * 32 + blen (dig x j) = blen x) := by
      show _ = _
      rw [blen_top hx0, ← HN.out, Nat.add_sub_cancel]
      simp
    go_enter Tryd.func76, Tryd.ntmps76
    go_wp2_with (go_at_call 94; refine (len32_any _ _ hd).mono ?_; rintro e w' ⟨rfl, rfl⟩)
    go_ret
    exact ⟨congrArg (fun q => Ending.returned (.int .i64 q)) HR.out, rfl⟩

end Go.Proofs.YtjhngehajahbnaaDoor
