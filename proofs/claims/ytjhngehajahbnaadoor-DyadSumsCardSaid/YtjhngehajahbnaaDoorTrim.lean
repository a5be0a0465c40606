/-
  Walks: integer.trim and the reference's trim.
-/
import Derived.Test.YtjhngehajahbnaaDoorProg
import Derived.WalkKit
import Derived.WalkLawsBesides
import Derived.WalkSpells
import Derived.Deep.QuietTactic
import Derived.BigQuiet
import Derived.Test.YtjhngehajahbnaaDoorMem
namespace Go.Proofs.YtjhngehajahbnaaDoor
open Go.RowKit Sp

set_option maxHeartbeats 400000 in
theorem trim_any (w : World) (a : Option Addr) (n cap x : Nat) (h : Mag w a n cap x) :
    Calls Tryd.prog 70 #[.slice a n cap] w fun e w' => e = .returned (.slice a (nl x) cap) ∧ w = w' := by
  obtain ⟨h1, h2, h3, h4, h5, h6⟩ := h
  by_cases hn : 0 < n
  · obtain ⟨b, o, rfl⟩ : ∃ b o, a = some ⟨b, o, none⟩ := ⟨_, _, h4 hn⟩
    simp only [ab_some, ao_some] at h5
    clear h4 h6
    go_enter Tryd.func70, Tryd.ntmps70
    go_wp2
    go_loop [3] (fun t => ∃ k : Nat, k ≤ n ∧ x < B ^ k ∧ t = .int .i64 k) (fun t => (intOf t).toNat)
    case atStart => exact ⟨n, Nat.le_refl _, h1, rfl⟩
    case round =>
      obtain ⟨k, hk, htop, rfl⟩ := hrel
      have HT := Lib.hid htop
      clear htop h1
      by_cases h0 : 0 < k
      · obtain ⟨j, rfl⟩ : ∃ j, k = j + 1 := ⟨k - 1, by omega⟩
        have hc := h5 j (by omega)
        clear h5
        go_wp2
        · have hd := beq0_true (by assumption : (((dig x j : Nat) : Int) == 0) = true)
          go_round
          case rel => exact ⟨j, by omega, lt_of_dig_zero HT.out hd, rfl⟩
          case measure => simp [intOf]
        · have hd := beq0_false (by assumption : (((dig x j : Nat) : Int) == 0) = false)
          go_ret
          refine ⟨?_, rfl⟩
          show Ending.returned (.slice _ (j + 1) cap) = _
          rw [nl_of_dig HT.out hd]
      · obtain rfl : k = 0 := by omega
        go_wp2
        go_ret
        refine ⟨?_, rfl⟩
        show Ending.returned (.slice _ 0 cap) = _
        have : x = 0 := by have := HT.out; simpa using this
        rw [this, nl_zero]
  · obtain rfl : n = 0 := by omega
    have hx : x = 0 := by simpa using h1
    subst hx
    clear h1 h2 h4 h5 h6
    go_enter Tryd.func70, Tryd.ntmps70
    go_wp2
    go_loop [3] (fun t => t = .int .i64 0) (fun t => (intOf t).toNat)
    case atStart => rfl
    case round =>
      subst hrel
      go_wp2
      go_ret
      exact ⟨rfl, rfl⟩

theorem isNaN_int (w : World) (n : Int) : Calls Tryd.prog 108 #[.int .i64 n] w fun e w' => e = .returned (.bool false) ∧ w = w' := by
  go_enter Tryd.func108, Tryd.ntmps108
  go_wp2
  go_ret
  exact ⟨by simp, rfl⟩
theorem isNaN_u32 (w : World) (n : Int) : Calls Tryd.prog 109 #[.int .u32 n] w fun e w' => e = .returned (.bool false) ∧ w = w' := by
  go_enter Tryd.func109, Tryd.ntmps109
  go_wp2
  go_ret
  exact ⟨by simp, rfl⟩

theorem compare_int (w : World) (m n : Int) : Calls Tryd.prog 100 #[.int .i64 m, .int .i64 n] w fun e w' => e = .returned (.int .i64 (cmpI m n)) ∧ w = w' := by
  go_enter Tryd.func100, Tryd.ntmps100
  go_wp2_with (go_at_call 108; refine (isNaN_int _ _).mono ?_; rintro e w' ⟨rfl, rfl⟩)
  all_goals
    go_ret
    exact ⟨by simp [cmpI, *]; try omega, rfl⟩
theorem compare_u32 (w : World) (m n : Int) : Calls Tryd.prog 101 #[.int .u32 m, .int .u32 n] w fun e w' => e = .returned (.int .i64 (cmpI m n)) ∧ w = w' := by
  go_enter Tryd.func101, Tryd.ntmps101
  go_wp2_with (go_at_call 109; refine (isNaN_u32 _ _).mono ?_; rintro e w' ⟨rfl, rfl⟩)
  all_goals
    go_ret
    exact ⟨by simp [cmpI, *]; try omega, rfl⟩
end Go.Proofs.YtjhngehajahbnaaDoor
