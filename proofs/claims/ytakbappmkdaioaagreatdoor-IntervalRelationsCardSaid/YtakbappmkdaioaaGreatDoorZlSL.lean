/-
  Walks: sparsekit.SlimDyad, Place; the laws' slim, same, bits.
  Walks: helpers of the laws of floats: SlimDyad for 20 limbs and 3000, opposite.
-/
import Derived.Test.YtakbappmkdaioaaGreatDoorZlRm
import Derived.Test.YtakbappmkdaioaaGreatDoorZlBg
import Derived.Test.YtakbappmkdaioaaGreatDoorZlBL
import Derived.Test.YtakbappmkdaioaaGreatDoorZlGS
namespace Go.Proofs.YtakbappmkdaioaaGreatDoor
open Go.RowKit Sp

theorem slim_pow (x k : Nat) (h : x < B ^ k) : blen x ≤ 32 * k := blen_le (by rw [← Bpow_two]; exact h)
end Go.Proofs.YtakbappmkdaioaaGreatDoor

namespace Go.Proofs.YtakbappmkdaioaaGreatDoor
open Go.RowKit Sp

def slim3B (n : Nat) (e : Int) : Bool := decide (n ≤ 20) && ((decide (-3000 ≤ e) && decide (e ≤ 3000)) || decide (131072 < e) || decide (e < -131072))
theorem dyis_of3 {w : World} {bd s : Bool} {a : Option Addr} {n p x : Nat} {e : Int} (hm : Mag w a n p x) (hs : slim3B n e = true) (h0 : -9223372036854775808 ≤ e) (h1 : e ≤ 9223372036854775807) : DyIs w bd s a n p e (nrmB bd (sgn s x) e) := by
  have hn : n ≤ 20 := by simp only [slim3B, Bool.and_eq_true, decide_eq_true_eq] at hs; exact hs.1
  have hb := slim_pow x n hm.lt
  exact ⟨⟨x, hm, by omega, by omega, h0, h1, rfl⟩, by omega⟩

set_option maxRecDepth 100000 in
set_option maxHeartbeats 2000000 in
theorem slimDyad3_any (w : World) (bd s : Bool) (a : Option Addr) (n cap : Nat) (e : Int) (hn : n ≤ 9223372036854775807) (v : Bool) (hv : slim3B n e = v) :
    Calls Tryz.prog 40 #[.agg #[.bool bd, .bool s, .slice a n cap, .int .i64 e], .int .i64 20, .int .i64 3000] w fun o w' => o = .returned (.bool v) ∧ Below w.heap.size w w' := by
  subst hv
  go_enter Tryz.func40, Tryz.ntmps40
  go_wp2
  all_goals (
    go_ret
    refine ⟨?_, zbh⟩)
  all_goals exact congrArg (fun q => Ending.returned (.bool q)) (by unfold slim3B; rw [Bool.eq_iff_iff]; simp <;> omega)

end Go.Proofs.YtakbappmkdaioaaGreatDoor

