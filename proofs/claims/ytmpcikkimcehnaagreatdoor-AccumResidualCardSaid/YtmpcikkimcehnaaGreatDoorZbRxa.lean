/-
  Walks: the reference's dyads: Cut (joined), rounded, Round.
-/
import Derived.Test.YtmpcikkimcehnaaGreatDoorZbRx
namespace Go.Proofs.YtmpcikkimcehnaaGreatDoor
open Go.RowKit Sp

/-- a number cut by n bits and rounded -/
def cutn (s : Bool) (x n : Nat) (more : Bool) (mode : Int) : Nat := x / 2 ^ n + if raw s (x / 2 ^ n) (rcm x more n) (rex x more n) mode then 1 else 0

theorem rcut_any (w : World) (hT : Tab w) (neg more : Bool) (a : Option Addr) (cap x n : Nat) (mode : Int) (hx : Mag w a (nl x) cap x) (hl : nl x ≤ 549755813888) (hn : n ≤ 1048576) (v : Int) (hv : v = ((cutn neg x n more mode : Nat) : Int)) :
    Calls Tryz.prog 234 #[.bool neg, .agg #[.bool false, .slice a (nl x) cap], .int .i64 n, .bool more, .int .i64 mode] w (RetBig w v) := by
  by_cases h0 : x % 2 ^ n = 0
  · cases more with
    | false =>
      refine rcut_exact w hT neg false a cap x n mode hx hl hn (by simp [h0]) rfl v ?_
      rw [hv]; unfold cutn rex raw; simp [h0]
    | true =>
      refine rcut_upB w hT neg true a cap x n mode hx hl hn (by simp [h0]) rfl _ rfl _ rfl _ rfl v ?_
      rw [hv, ← raw_up]; unfold cutn rex
      rw [show (decide (x % 2 ^ n = 0) && !true) = false by simp]
      split <;> simp
  · refine rcut_upA w hT neg more a cap x n mode hx hl hn (by simp [h0]) _ rfl _ rfl _ rfl v ?_
    rw [hv, ← raw_up]; unfold cutn rex
    rw [show (decide (x % 2 ^ n = 0) && !more) = false by simp [h0]]
    split <;> simp

end Go.Proofs.YtmpcikkimcehnaaGreatDoor

