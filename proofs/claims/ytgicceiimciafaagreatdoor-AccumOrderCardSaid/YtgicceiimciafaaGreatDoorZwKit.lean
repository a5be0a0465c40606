/-
  Walks: package sparsekit: Limbs, Big, Dyad (equality of plain data).
-/
import Derived.Test.YtgicceiimciafaaGreatDoorZwBg
set_option maxRecDepth 100000
set_option maxHeartbeats 2000000
namespace Go.Proofs.YtgicceiimciafaaGreatDoor
open Go.RowKit Sp
theorem limbs_any (w : World) (a a' : Option Addr) (n m cap cap' x y : Nat) (hx : Mag w a n cap x) (hy : Mag w a' m cap' y) (hn : n = nl x) (hm : m = nl y) :
 Calls Tryz.prog 87 #[.slice a n cap, .slice a' m cap'] w fun e w' => e = .returned (.bool (decide (x = y))) ∧ ∃ q, w' = w.drewN q := by
 have l1 := hx.lim
 have l2 := hy.lim
 have l3 := hx.fits
 have l4 := hy.fits
 by_cases hnm : n = m
 · subst hnm
   clear hn hm
   go_enter Tryz.func87, Tryz.ntmps87
   go_wp2
   go_loopw [5] (fun t wr => ∃ k : Nat, k ≤ n ∧ x % B ^ k = y % B ^ k ∧ t = .int .i64 k ∧ ∃ q, wr = w.drewN q) (fun t _ => n - (intOf t).toNat)
   case atStart => exact ⟨0, Nat.zero_le _, by rw [mod_zero_pow, mod_zero_pow], rfl, 0, rfl⟩
   case round =>
    obtain ⟨k, hk, hq, rfl, q, rfl⟩ := hrel
    have HQ := Lib.hid hq
    clear hq
    by_cases h0 : k < n
    · have c1 := hx.cell k h0
      have c2 := hy.cell k h0
      have i1 := hx.idx 30 und siz k h0
      have i2 := hy.idx 30 und siz k h0
      go_wp2
      go_quiet (fail)
      go_wp2
      · have hd := bne_true (by assumption : (((dig x k : Nat) : Int) != ((dig y k : Nat) : Int)) = true)
        go_ret
        refine ⟨?_, _, by rw [World.drewN_drewN]⟩
        have : ¬ x = y := fun h => hd (by rw [h])
        simp [this]
      · have hd := bne_false (by assumption : (((dig x k : Nat) : Int) != ((dig y k : Nat) : Int)) = false)
        go_roundw
        case rel => exact ⟨k + 1, by omega, by rw [mod_succ, mod_succ, HQ.out, hd], by go_num, _, rfl⟩
        case measure => simp [intOf]; omega
    · obtain rfl : k = n := by omega
      go_wp2
      go_ret
      refine ⟨?_, _, rfl⟩
      have : x = y := by rw [← mod_of_lt hx.lt, ← mod_of_lt hy.lt]; exact HQ.out
      simp [this]
 · have hnm' : ((n : Int) != (m : Int)) = true := by rw [bne_iff_ne]; omega
   have hxy : decide (x = y) = false := by
    have : ¬ x = y := fun h => hnm (by rw [hn, hm, h])
    simpa using this
   rw [hxy]
   clear hn hm
   go_enter Tryz.func87, Tryz.ntmps87
   go_wp2
   go_ret
   exact ⟨rfl, 0, rfl⟩
theorem kbig_any (w : World) (s s' : Bool) (a a' : Option Addr) (n m cap cap' x y : Nat) (hx : Mag w a n cap x) (hy : Mag w a' m cap' y) (hn : n = nl x) (hm : m = nl y) (v : Bool) (hv : v = ((s == s') && decide (x = y))) :
 Calls Tryz.prog 41 #[.agg #[.bool s, .slice a n cap], .agg #[.bool s', .slice a' m cap']] w fun e w' => e = .returned (.bool v) ∧ Below w.heap.size w w' := by
 have e1 : ¬ w.heap.size + 1 = w.heap.size := by omega
 have HL := fun W h h' => Lib.hid (limbs_any W a a' n m cap cap' x y h h' hn hm)
 clear hn hm
 cases hs : (s == s') with
 | false =>
  have hv' : v = false := by rw [hv, hs]; rfl
  subst hv'
  clear hv
  go_enter Tryz.func41, Tryz.ntmps41
  go_wp2_with fail
  go_ret
  exact ⟨rfl, zbh⟩
 | true =>
  have hv' : v = decide (x = y) := by rw [hv, hs]; rfl
  subst hv'
  clear hv
  generalize decide (x = y) = v at HL ⊢
  go_enter Tryz.func41, Tryz.ntmps41
  go_wp2_with fail
  refine (HL _ (hx.below zbh) (hy.below zbh)).out.mono ?_
  rintro e w1 ⟨rfl, q, rfl⟩
  go_wp2_with fail
  go_ret
  exact ⟨rfl, zbh⟩
def dyEq (b b' s s' : Bool) (x y : Nat) (f f' : Int) : Bool := (b == b') && ((f == f') && (s == s' && decide (x = y)))
theorem kdyad_any (w : World) (b b' s s' : Bool) (a a' : Option Addr) (n m cap cap' x y : Nat) (f f' : Int) (hx : Mag w a n cap x) (hy : Mag w a' m cap' y) (hn : n = nl x) (hm : m = nl y) (v : Bool) (hv : v = dyEq b b' s s' x y f f') :
 Calls Tryz.prog 10 #[.agg #[.bool b, .bool s, .slice a n cap, .int .i64 f], .agg #[.bool b', .bool s', .slice a' m cap', .int .i64 f']] w fun e w' => e = .returned (.bool v) ∧ Below w.heap.size w w' := by
 have e1 : ¬ w.heap.size + 1 = w.heap.size := by omega
 have HL := fun W h h' => Lib.hid (kbig_any W s s' a a' n m cap cap' x y h h' hn hm _ rfl)
 clear hn hm
 unfold dyEq at hv
 cases hs : (b == b') with
 | false =>
  have hv' : v = false := by rw [hv, hs]; rfl
  subst hv'
  clear hv
  go_enter Tryz.func10, Tryz.ntmps10
  go_wp2_with fail
  go_ret
  exact ⟨rfl, zbh⟩
 | true =>
  cases hf : (f == f') with
  | false =>
   have hv' : v = false := by rw [hv, hs, hf]; rfl
   subst hv'
   clear hv
   go_enter Tryz.func10, Tryz.ntmps10
   go_wp2_with fail
   go_ret
   exact ⟨rfl, zbh⟩
  | true =>
   have hv' : v = (s == s' && decide (x = y)) := by rw [hv, hs, hf]; simp
   subst hv'
   clear hv
   generalize (s == s' && decide (x = y)) = v at HL ⊢
   go_enter Tryz.func10, Tryz.ntmps10
   go_wp2_with fail
   refine (HL _ (hx.below zbh) (hy.below zbh)).out.mono ?_
   rintro e w1 ⟨rfl, hb1⟩
   have hbw := below_box (w := w) zbh hb1
   go_wp2_with fail
   go_ret
   exact ⟨rfl, (have := Beh.mk hbw; zbh)⟩
end Go.Proofs.YtgicceiimciafaaGreatDoor
