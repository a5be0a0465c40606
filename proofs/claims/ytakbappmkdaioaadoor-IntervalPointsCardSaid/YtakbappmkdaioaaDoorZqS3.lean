/-
  Walks: the reference's floats: the functions of the bits.
  Walks: the reference's floats: Cmp, Up, Down.
  Walks: the reference's Int, and Of of its floats.
  Walks: the reference's floats: rounded.
  Walks: the reference's floats: Round, FromInt.
-/
import Derived.Test.YtakbappmkdaioaaDoorZqGc
import Derived.Test.YtakbappmkdaioaaDoorZqRq
import Derived.Test.YtakbappmkdaioaaDoorZqRm
import Derived.Test.YtakbappmkdaioaaDoorZqGi
import Derived.Test.YtakbappmkdaioaaDoorZqGo
import Derived.Test.YtakbappmkdaioaaDoorZqBg
import Derived.Test.YtakbappmkdaioaaDoorZqCm
import Derived.Deep.DeepCutAuto
import Derived.Test.YtakbappmkdaioaaDoorZqGr
namespace Go.Proofs.YtakbappmkdaioaaDoor
open Go.RowKit Sp

set_option maxRecDepth 100000 in
set_option maxHeartbeats 2000000 in
theorem rfin_any (w : World) (f : Nat) : Calls Tryd.prog 4 #[.int .u64 f] w fun e w' => e = .returned (.bool (ffin f)) ∧ w = w' := by
  have h1 := bits_E f
  have hk : (((fE f : Nat) : Int) != 2047) = ffin f := by rw [ffin_E, Bool.eq_iff_iff]; simp; omega
  generalize ((fE f : Nat) : Int) = E at *
  go_enter Tryd.func4, Tryd.ntmps4
  go_wp2_with fail
  go_ret
  exact ⟨by simp, rfl⟩

end Go.Proofs.YtakbappmkdaioaaDoor

namespace Go.Proofs.YtakbappmkdaioaaDoor
open Go.RowKit Sp

end Go.Proofs.YtakbappmkdaioaaDoor

namespace Go.Proofs.YtakbappmkdaioaaDoor
open Go.RowKit Sp

end Go.Proofs.YtakbappmkdaioaaDoor

namespace Go.Proofs.YtakbappmkdaioaaDoor
open Go.RowKit Sp

attribute [local irreducible] Calls

end Go.Proofs.YtakbappmkdaioaaDoor

namespace Go.Proofs.YtakbappmkdaioaaDoor
open Go.RowKit Sp

end Go.Proofs.YtakbappmkdaioaaDoor

