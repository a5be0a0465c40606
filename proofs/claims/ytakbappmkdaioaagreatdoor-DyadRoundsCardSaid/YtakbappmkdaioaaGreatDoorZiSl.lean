/-
  Walks: sparsekit.SlimDyad, Place; the laws' slim, same, bits.
-/
import Derived.Test.YtakbappmkdaioaaGreatDoorZiRm
import Derived.Test.YtakbappmkdaioaaGreatDoorZiKit
import Derived.Test.YtakbappmkdaioaaGreatDoorZiBL
namespace Go.Proofs.YtakbappmkdaioaaGreatDoor
open Go.RowKit Sp

/-- what slim answers -/
def slimB (n : Nat) (e : Int) : Bool := decide (n ≤ 20) && ((decide (-2000 ≤ e) && decide (e ≤ 2000)) || decide (131072 < e) || decide (e < -131072))

theorem slim_pow (x k : Nat) (h : x < B ^ k) : blen x ≤ 32 * k := blen_le (by rw [← Bpow_two]; exact h)
set_option maxRecDepth 100000 in
set_option maxHeartbeats 2000000 in
theorem slimDyad_any (w : World) (bd s : Bool) (a : Option Addr) (n cap : Nat) (e : Int) (hn : n ≤ 9223372036854775807) :
    Calls Tryz.prog 40 #[.agg #[.bool bd, .bool s, .slice a n cap, .int .i64 e], .int .i64 20, .int .i64 2000] w fun o w' => o = .returned (.bool (slimB n e)) ∧ Below w.heap.size w w' := by
  go_enter Tryz.func40, Tryz.ntmps40
  go_wp2
  all_goals (
    go_ret
    refine ⟨?_, zbh⟩)
  all_goals exact congrArg (fun q => Ending.returned (.bool q)) (by unfold slimB; rw [Bool.eq_iff_iff]; simp <;> omega)

set_option maxRecDepth 100000 in
set_option maxHeartbeats 2000000 in
theorem slim_any (w : World) (bd s : Bool) (a : Option Addr) (n cap : Nat) (e : Int) (hn : n ≤ 9223372036854775807) (v : Bool) (hv : slimB n e = v) :
    Calls Tryz.prog 14 #[.agg #[.bool bd, .bool s, .slice a n cap, .int .i64 e]] w fun o w' => o = .returned (.bool v) ∧ Below w.heap.size w w' := by
  have HS := fun W => Lib.hid (slimDyad_any W bd s a n cap e hn)
  rw [hv] at HS
  clear hv
  go_enter Tryz.func14, Tryz.ntmps14
  go_wp2_with fail
  refine (HS _).out.mono ?_
  rintro e w1 ⟨rfl, hb⟩
  have hbw := below_box (w := w) zbh hb
  go_wp2_with fail
  go_ret
  exact ⟨rfl, (have := Beh.mk hbw; zbh)⟩

end Go.Proofs.YtakbappmkdaioaaGreatDoor

