/-
  Walks: integer.up, down.
-/
import Derived.Test.YtjhngehajahbnaaDoorMinus
namespace Go.Proofs.YtjhngehajahbnaaDoor
open Go.RowKit Sp

set_option maxRecDepth 100000 in
set_option maxHeartbeats 400000 in
/-- a 2^s -/
theorem up_any (w : World) (a : Option Addr) (n cap x : Nat) (s : Int) (hx : Mag w a n cap x) (hlim : n ≤ 1099511627776) (hs0 : 0 ≤ s) (hs1 : s ≤ 1099511627776) :
    Calls Tryd.prog 96 #[.slice a n cap, .int .i64 s] w (RetNat w (x * 2 ^ s.toNat)) := by
  obtain ⟨s, rfl⟩ := Int.eq_ofNat_of_zero_le hs0
  rw [Int.toNat_natCast]
  by_cases hn0 : n = 0
  · subst hn0
    rw [hx.zero, Nat.zero_mul]
    go_enter Tryd.func96, Tryd.ntmps96
    go_wp2
    go_ret
    exact ⟨none, 0, rfl, Mag.nil w, Below.refl _ _, nl0⟩
  · have hn1 : ((n : Int) == 0) = false := by rw [beq_eq_false_iff_ne]; omega
    have hmk := make_len 23 22 infU undU ((s : Int) / 32 + n + 1) (by omega) (by omega)
    go_enter Tryd.func96, Tryd.ntmps96
    go_wp2
    clear hmk
    have hrow0 := Row.made w (s / 32 + n + 1) 22 (by omega)
    go_loopw [27] (fun i wr => ∃ k Z : Nat, k ≤ n ∧ i = .int .i64 k ∧ Z = x % B ^ k * 2 ^ s ∧ Row wr w.heap.size (s / 32 + n + 1) 22 Z ∧ Below w.heap.size w wr) (fun i _ => n - (intOf i).toNat)
    case atStart => exact ⟨0, 0, by omega, rfl, by rw [mod_zero_pow, Nat.zero_mul], hrow0, (Below.refl _ _).alloc (Nat.le_refl _) _⟩
    case round =>
      clear hrow0
      obtain ⟨k, Z, hk, rfl, hZ, hrow, hb⟩ := hrel
      have HZ := Lib.hid hZ
      clear hZ
      by_cases hlt : k < n
      · have hx' := hx.below hb
        have c1 := hx'.cell k hlt
        have i1 := hx'.idx 23 und siz k hlt
        have hd1 := dig_lt x k
        have c3 := hrow.cell (s / 32 + k) (by omega)
        have c4 := hrow.cell (s / 32 + k + 1) (by omega)
        have f3 := hrow.free (s / 32 + k)
        have f4 := hrow.free (s / 32 + k + 1)
        have hd3 := dig_lt Z (s / 32 + k)
        go_wp2
        have hr := up_round HZ.out
        have hu := up_limb (x := x) (k := k) (s := s)
        have hw := up_words HZ.out
        go_roundw
        case rel =>
          refine ⟨k + 1, _, by omega, by go_num, hr.2, ?_, (hb.setCell (Nat.le_refl _) _).setCell (Nat.le_refl _) _⟩
          rw [hw.1, hw.2]
          exact (hrow.store _ _ (by omega) hr.1).store _ _ (by omega) hu.2.1
        case measure => simp [intOf]; omega
      · obtain rfl : k = n := by omega
        have hZ := HZ.out
        rw [mod_of_lt hx.lt] at hZ
        have HZ := Lib.hid hZ
        clear hZ
        go_wp2_with (go_at_call 70; refine (trim_any _ _ _ _ _ hrow.mag).mono ?_; rintro e w' ⟨rfl, rfl⟩)
        go_ret
        rw [← HZ.out]
        exact ⟨_, _, rfl, hrow.mag.trim, hb, fun _ => Nat.le_refl _⟩
end Go.Proofs.YtjhngehajahbnaaDoor
