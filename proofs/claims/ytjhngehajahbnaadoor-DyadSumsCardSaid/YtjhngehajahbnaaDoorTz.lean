/-
  Walks: bits.TrailingZeros32 (over its table), integer.TrailingZeros, FromInt.
-/
import Derived.Test.YtjhngehajahbnaaDoorMul
namespace Go.Proofs.YtjhngehajahbnaaDoor
open Go.RowKit Sp

def tab32 : List Nat := [0, 1, 28, 2, 29, 14, 24, 3, 30, 22, 20, 15, 25, 17, 4, 8, 31, 27, 13, 23, 21, 19, 16, 7, 26, 12, 18, 6, 11, 5, 10, 9]
/-- The library's table lies in its variable. -/
def Tab (w : World) : Prop := (∀ i, i < 32 → w.cell? ⟨0, i, none⟩ = some (.int .u8 (tab32.getD i 0 : Nat))) ∧ 0 < w.heap.size

theorem Tab.below {w w' : World} (h : Tab w) (hb : Below w.heap.size w w') : Tab w' :=
  ⟨fun i hi => by rw [hb.cell (p := ⟨_, i, none⟩) h.2]; exact h.1 i hi, Nat.lt_of_lt_of_le h.2 hb.size⟩

theorem tab_at : ∀ k : Fin 32, tab32.getD (2 ^ k.val * 125613361 % 4294967296 / 134217728) 0 = k.val ∧ 2 ^ k.val * 125613361 % 4294967296 / 134217728 < 32 := by decide

theorem tz_key (x k : Nat) (hx : x < 4294967296) (hx0 : 0 < x) (hk : x &&& (4294967296 - x) = 2 ^ k) :
    Go.bits .and .u32 (x : Int) (-(x : Int) % 4294967296) * 125613361 % 4294967296 / 134217728 = ((2 ^ k * 125613361 % 4294967296 / 134217728 : Nat) : Int) := by
  have e1 : -(x : Int) % 4294967296 = ((4294967296 - x : Nat) : Int) := by omega
  rw [e1, u32_and_nat x _ hx (by omega), hk]
  generalize 2 ^ k = p
  omega

set_option maxRecDepth 100000 in
set_option maxHeartbeats 2000000 in
theorem tz32_core (w : World) (x k idx : Nat) (hx0 : ((x : Int) == 0) = false) (key : Go.bits .and .u32 (x : Int) (-(x : Int) % 4294967296) * 125613361 % 4294967296 / 134217728 = (idx : Int)) (hi : idx < 32) (hk : k < 32)
    (hcell : w.cell? ⟨0, idx, none⟩ = some (.int .u8 k)) :
    Calls Tryd.prog 99 #[.int .u32 x] w fun e w' => e = .returned (.int .i64 k) ∧ w = w' := by
  go_enter Tryd.func99, Tryd.ntmps99
  go_wp2
  go_ret
  exact ⟨rfl, rfl⟩

theorem tz32_any (w : World) (x : Nat) (ht : Tab w) (hx0 : 0 < x) (hx : x < 4294967296) :
    Calls Tryd.prog 99 #[.int .u32 x] w fun e w' => e = .returned (.int .i64 (tz x)) ∧ w = w' := by
  obtain ⟨h1, h2⟩ := and_neg hx0 hx
  have ht2 := tab_at ⟨tz x, h2⟩
  refine tz32_core w x (tz x) _ (by rw [beq_eq_false_iff_ne]; omega) (tz_key x _ hx hx0 h1) ht2.2 h2 ?_
  have := ht.1 _ ht2.2
  rw [ht2.1] at this
  exact this

set_option maxRecDepth 100000 in
set_option maxHeartbeats 2000000 in
/-- the zeros at the end of an integer -/
theorem trailing_any (w : World) (ht : Tab w) (s : Bool) (a : Option Addr) (n cap x : Nat) (hx : Mag w a n cap x) (hlim : n ≤ 1099511627776) :
    Calls Tryd.prog 68 #[.agg #[.bool s, .slice a n cap]] w fun e w' => e = .returned (.int .i64 (tz x)) ∧ Below w.heap.size w w' := by
  have hb : Below w.heap.size w (w.alloc (.cells #[.bool s, .slice a n cap] 25)) := (Below.refl _ _).alloc (Nat.le_refl _) _
  have hx1 := hx.below hb
  have ht1 := ht.below hb
  have HB := Lib.hid hb
  clear hb
  go_enter Tryd.func68, Tryd.ntmps68
  go_wp2
  go_loop [8] (fun i => ∃ k : Nat, k ≤ n ∧ i = .int .i64 k ∧ x % B ^ k = 0) (fun i => n - (intOf i).toNat)
  case atStart => exact ⟨0, by omega, rfl, mod_zero_pow x⟩
  case round =>
    obtain ⟨k, hk, rfl, hz⟩ := hrel
    have HZ := Lib.hid hz
    clear hz
    by_cases hlt : k < n
    · have c1 := hx1.cell k hlt
      have i1 := hx1.idx 23 und siz k hlt
      have hd1 := dig_lt x k
      by_cases hd0 : dig x k = 0
      · have hd2 : (((dig x k : Nat) : Int) != 0) = false := by rw [hd0]; rfl
        go_wp2
        go_round
        case rel => exact ⟨k + 1, by omega, by go_num, by rw [mod_succ, HZ.out, hd0, Nat.zero_mul]⟩
        case measure => simp [intOf]; omega
      · have hd2 : (((dig x k : Nat) : Int) != 0) = true := by rw [bne_iff_ne]; omega
        have htz : tz (dig x k) < 32 := (and_neg (Nat.pos_of_ne_zero hd0) hd1).2
        have HR := Lib.hid (tz_dig HZ.out hd0)
        have HC := Lib.hid (tz32_any _ (dig x k) ht1 (Nat.pos_of_ne_zero hd0) hd1)
        go_wp2_with (go_at_call 99; refine HC.out.mono ?_; rintro e w' ⟨rfl, rfl⟩)
        go_ret
        refine ⟨?_, HB.out⟩
        rw [HR.out]
        exact congrArg (fun q => Ending.returned (.int .i64 q)) (by simp)
    · obtain rfl : k = n := by omega
      go_wp2
      go_ret
      have hx0 : x = 0 := by rw [← mod_of_lt hx.lt]; exact HZ.out
      subst hx0
      exact ⟨rfl, HB.out⟩

end Go.Proofs.YtjhngehajahbnaaDoor
