/-
  Walks: package integer: Int, of a small number that is not negative.
-/
import Derived.Test.YtablcbgeeeboeaaGreatDoorZfBd
set_option maxRecDepth 100000
set_option maxHeartbeats 2000000
namespace Go.Proofs.YtablcbgeeeboeaaGreatDoor
open Go.RowKit Sp
theorem int_step {x k : Nat} (h : k = 0 ∨ k = 1) : Go.bits .or .u64 ((x % B ^ k : Nat) : Int) (IntKind.u64.wrap (IntKind.u64.wrap (dig x k : Nat) * 2 ^ (32 * k))) = ((x % B ^ (k + 1) : Nat) : Int) := by
 have hdl := dig_lt x k
 rw [wrap_u64_nat (show dig x k < 18446744073709551616 by omega)]
 rcases h with rfl | rfl
 · rw [mod_succ x 0, Nat.pow_zero, Nat.mod_one]
   have e : ((dig x 0 : Nat) : Int) * 2 ^ (32 * 0) = ((dig x 0 : Nat) : Int) := by simp
   rw [e, wrap_u64_nat (by omega), u64_or_nat _ _ (by decide) (by omega)]
   simp
 · have e : ((dig x 1 : Nat) : Int) * 2 ^ (32 * 1) = ((dig x 1 * 4294967296 : Nat) : Int) := by simp
   have hm : x % B ^ 1 < 2 ^ 32 := by rw [Nat.pow_one, B_eq]; exact Nat.mod_lt _ (by decide)
   rw [e, wrap_u64_nat (by omega), u64_or_nat _ _ (by omega) (by omega), or_add (p := 32) (z := x % B ^ 1) hm ⟨dig x 1, by omega⟩, mod_succ x 1, Nat.pow_one, B_eq]
theorem int_any (w : World) (a : Option Addr) (cap x : Nat) (hx : Mag w a (nl x) cap x) (hb : x ≤ 9007199254740992) :
 Calls Tryz.prog 158 #[.agg #[.bool false, .slice a (nl x) cap]] w fun e w' => e = .returned (.tuple #[.int .i64 x, .bool true]) ∧ Below w.heap.size w w' := by
 have hn : nl x ≤ 2 := nl_le (x := x) (n := 2) (by rw [show B ^ 2 = 18446744073709551616 by decide]; omega)
 have l1 := hx.lim
 have l2 := hx.fits
 have hd : decide ((2 : Int) < ((nl x : Nat) : Int)) = false := by simp; omega
 have HT := fun W h => Lib.hid (trim_any W a (nl x) cap x h)
 have hlt := Lib.hid hx.lt
 obtain ⟨n, hnn⟩ : ∃ n, n = nl x := ⟨_, rfl⟩
 rw [← hnn] at hx hn l2 hd HT hlt ⊢
 clear hnn
 go_enter Tryz.func158, Tryz.ntmps158
 go_wp2_with fail
 refine (HT _ (hx.below zbh)).out.mono ?_
 rintro e w1 ⟨rfl, rfl⟩
 go_wp2_with fail
 go_loop [5, 16] (fun u i => ∃ k : Nat, k ≤ n ∧ i = .int .i64 k ∧ u = .int .u64 (x % B ^ k : Nat)) (fun _ i => n - (intOf i).toNat)
 case atStart => exact ⟨0, Nat.zero_le _, rfl, by rw [Nat.pow_zero, Nat.mod_one]; rfl⟩
 case round =>
  obtain ⟨k, hk, rfl, rfl⟩ := hrel
  by_cases h0 : k < n
  · have c1 := (hx.below (w' := w.alloc (.cells #[.bool false, .slice a n cap] 44)) zbh).cell k h0
    have i1 := hx.idx 42 und siz k h0
    have hval := int_step (x := x) (k := k) (by omega)
    generalize hy : ((x % B ^ (k + 1) : Nat) : Int) = y at hval
    generalize ((x % B ^ k : Nat) : Int) = U at hval ⊢
    generalize ((dig x k : Nat) : Int) = D at hval c1
    have HY := Lib.hid hy
    clear hy
    go_wp2
    go_round
    case rel => exact ⟨k + 1, by omega, by go_num, by rw [HY.out]⟩
    case measure => simp [intOf]; omega
  · obtain rfl : k = n := by omega
    have hval : x % B ^ k = x := mod_of_lt hlt.out
    have h1 : IntKind.i64.wrap (x : Int) = x := by rw [IntKind.wrap_i64]; omega
    have h2 : decide ((x : Int) < 9223372036854775808) = true := by simp; omega
    rw [hval]
    go_wp2
    refine bodyPost_ret (v := .tuple #[.int .i64 x, .bool true]) (by simp only [results, Tryz.results158]; go_simp) rfl ?_
    exact ⟨rfl, zbh⟩
end Go.Proofs.YtablcbgeeeboeaaGreatDoor
