/-
  Walks: sparsekit.SlimDyad, Place; the laws' slim, same, bits.
-/
import Derived.Test.YtakbappmkdaioaaGreatDoorZfRm
import Derived.Test.YtakbappmkdaioaaGreatDoorZfBg
import Derived.Test.YtakbappmkdaioaaGreatDoorZfBL
namespace Go.Proofs.YtakbappmkdaioaaGreatDoor
open Go.RowKit Sp

theorem slim_pow (x k : Nat) (h : x < B ^ k) : blen x ≤ 32 * k := blen_le (by rw [← Bpow_two]; exact h)
end Go.Proofs.YtakbappmkdaioaaGreatDoor

