/-
  Walks: integer.compare, plus, minus.
-/
import Derived.Test.YtjhngehajahbnaaDoorTrim
namespace Go.Proofs.YtjhngehajahbnaaDoor
open Go.RowKit Sp

theorem und : Tryd.prog.underlying 23 = some (.slice (Tryd.prog.elem 23)) := by kernel_rfl
theorem siz (w : World) : (Go.sizeOf (Tryd.prog.elem 23)).run Tryd.prog w = .ok 1 w := by kernel_rfl

set_option maxHeartbeats 400000 in
theorem compare_any (w : World) (a a' : Option Addr) (n m cap cap' x y : Nat) (hx : Mag w a n cap x) (hy : Mag w a' m cap' y) (hn : n = nl x) (hm : m = nl y) :
    Calls Tryd.prog 73 #[.slice a n cap, .slice a' m cap'] w fun e w' => e = .returned (.int .i64 (cmpI x y)) ∧ ∃ q, w' = w.drewN q := by
  have l1 := hx.lim
  have l2 := hy.lim
  have l3 := hx.fits
  have l4 := hy.fits
  have HN := Lib.hid hn
  have HM := Lib.hid hm
  clear hn hm
  by_cases hnm : n = m
  · subst hnm
    go_enter Tryd.func73, Tryd.ntmps73
    go_wp2
    go_loopw [5] (fun t wr => ∃ k : Nat, k ≤ n ∧ x / B ^ k = y / B ^ k ∧ t = .int .i64 ((k : Int) - 1) ∧ ∃ q, wr = w.drewN q) (fun t _ => (intOf t + 1).toNat)
    case atStart => exact ⟨n, Nat.le_refl _, by rw [Nat.div_eq_of_lt hx.lt, Nat.div_eq_of_lt hy.lt], rfl, 0, rfl⟩
    case round =>
      obtain ⟨k, hk, hq, rfl, q, rfl⟩ := hrel
      have HQ := Lib.hid hq
      clear hq
      by_cases h0 : 0 < k
      · obtain ⟨j, rfl⟩ : ∃ j, k = j + 1 := ⟨k - 1, by omega⟩
        have c1 := hx.cell j (by omega)
        have c2 := hy.cell j (by omega)
        have i1 := hx.idx 23 und siz j (by omega)
        have i2 := hy.idx 23 und siz j (by omega)
        go_wp2
        go_quiet (fail)
        go_wp2
        · have hd := bne_true (by assumption : (((dig x j : Nat) : Int) != ((dig y j : Nat) : Int)) = true)
          have HD := Lib.hid hd
          clear hd
          go_quiet ((go_at_call 101; exact qnext (may (compare_u32 _ _ _))))
          go_wp2
          go_ret
          refine ⟨?_, _, by rw [World.drewN_drewN, World.drewN_drewN]⟩
          show Ending.returned (.int .i64 (cmpI (dig x j) (dig y j))) = _
          rw [cmp_dig HQ.out HD.out]
        · have hd := bne_false (by assumption : (((dig x j : Nat) : Int) != ((dig y j : Nat) : Int)) = false)
          go_roundw
          case rel => exact ⟨j, by omega, div_dig HQ.out hd, rfl, _, rfl⟩
          case measure => simp [intOf]
      · obtain rfl : k = 0 := by omega
        go_wp2
        go_ret
        refine ⟨?_, _, rfl⟩
        have : x = y := by simpa using HQ.out
        subst this
        show Ending.returned (.int .i64 0) = _
        rw [cmpI_eq rfl]
  · have hnm' : ((n : Int) != (m : Int)) = true := by rw [bne_iff_ne]; omega
    go_enter Tryd.func73, Tryd.ntmps73
    go_wp2_with (go_at_call 100; refine (compare_int _ _ _).mono ?_; rintro e w' ⟨rfl, rfl⟩)
    go_ret
    refine ⟨?_, 0, rfl⟩
    show Ending.returned (.int .i64 (cmpI n m)) = _
    rw [HN.out, HM.out, cmp_nl (by rw [← HN.out, ← HM.out]; exact hnm)]
end Go.Proofs.YtjhngehajahbnaaDoor
