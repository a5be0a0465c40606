/-
  Walks: sparsekit: TwinBig, TwinDyad.
-/
import Derived.Test.YtakbappmkdaioaaGreatDoorZiRq
import Derived.Test.YtakbappmkdaioaaGreatDoorZiBe
namespace Go.Proofs.YtakbappmkdaioaaGreatDoor
open Go.RowKit Sp

set_option maxRecDepth 100000 in
set_option maxHeartbeats 2000000 in
theorem limbs_same (w : World) (a a' : Option Addr) (n cap cap' x : Nat) (hx : Mag w a n cap x) (hy : Mag w a' n cap' x) :
    Calls Tryz.prog 210 #[.slice a n cap, .slice a' n cap'] w fun e w' => e = .returned (.bool true) ∧ ∃ q, w' = w.drewN q := by
  have l1 := hx.lim
  have l2 := hy.lim
  have l3 := hx.fits
  have l4 := hy.fits
  go_enter Tryz.func210, Tryz.ntmps210
  go_wp2
  go_loopw [5] (fun t wr => ∃ k : Nat, k ≤ n ∧ t = .int .i64 k ∧ ∃ q, wr = w.drewN q) (fun t _ => n - (intOf t).toNat)
  case atStart => exact ⟨0, Nat.zero_le _, rfl, 0, rfl⟩
  case round =>
    obtain ⟨k, hk, rfl, q, rfl⟩ := hrel
    by_cases h0 : k < n
    · have c1 := hx.cell k h0
      have c2 := hy.cell k h0
      have i1 := hx.idx 22 und siz k h0
      have i2 := hy.idx 22 und siz k h0
      go_wp2
      go_quiet (fail)
      go_wp2
      go_roundw
      case rel => exact ⟨k + 1, by omega, by go_num, _, rfl⟩
      case measure => simp [intOf]; omega
    · obtain rfl : k = n := by omega
      go_wp2
      go_ret
      exact ⟨rfl, _, rfl⟩

set_option maxRecDepth 100000 in
set_option maxHeartbeats 2000000 in
theorem kbig_same (w : World) (s : Bool) (a a' : Option Addr) (n cap cap' x : Nat) (hx : Mag w a n cap x) (hy : Mag w a' n cap' x) :
    Calls Tryz.prog 129 #[.agg #[.bool s, .slice a n cap], .agg #[.bool s, .slice a' n cap']] w fun e w' => e = .returned (.bool true) ∧ Below w.heap.size w w' := by
  have e1 : ¬ w.heap.size + 1 = w.heap.size := by omega
  have HL := fun W h h' => Lib.hid (limbs_same W a a' n cap cap' x h h')
  have hs : (s == s) = true := by simp
  go_enter Tryz.func129, Tryz.ntmps129
  go_wp2_with fail
  refine (HL _ (hx.below zbh) (hy.below zbh)).out.mono ?_
  rintro e w1 ⟨rfl, q, rfl⟩
  go_wp2_with fail
  go_ret
  exact ⟨rfl, zbh⟩

set_option maxRecDepth 100000 in
set_option maxHeartbeats 2000000 in
theorem kdyad_same (w : World) (b s : Bool) (a a' : Option Addr) (n cap cap' x : Nat) (f : Int) (hx : Mag w a n cap x) (hy : Mag w a' n cap' x) :
    Calls Tryz.prog 16 #[.agg #[.bool b, .bool s, .slice a n cap, .int .i64 f], .agg #[.bool b, .bool s, .slice a' n cap', .int .i64 f]] w fun e w' => e = .returned (.bool true) ∧ Below w.heap.size w w' := by
  have e1 : ¬ w.heap.size + 1 = w.heap.size := by omega
  have HL := fun W h h' => Lib.hid (kbig_same W s a a' n cap cap' x h h')
  have hs : (b == b) = true := by simp
  have hf : (f == f) = true := by simp
  go_enter Tryz.func16, Tryz.ntmps16
  go_wp2_with fail
  refine (HL _ (hx.below zbh) (hy.below zbh)).out.mono ?_
  rintro e w1 ⟨rfl, hb1⟩
  have hbw := below_box (w := w) zbh hb1
  go_wp2_with fail
  go_ret
  exact ⟨rfl, (have := Beh.mk hbw; zbh)⟩

end Go.Proofs.YtakbappmkdaioaaGreatDoor

