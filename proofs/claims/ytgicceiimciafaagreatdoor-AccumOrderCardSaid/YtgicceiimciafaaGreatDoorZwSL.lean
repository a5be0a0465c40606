/-
  Walks: sparsekit.SlimDyad, Place; the laws' slim, same, bits.
  Walks: helpers of the laws of floats: SlimDyad for 20 limbs and 3000, opposite.
-/
import Derived.Test.YtgicceiimciafaaGreatDoorZwRm
import Derived.Test.YtgicceiimciafaaGreatDoorZwKit
import Derived.Test.YtgicceiimciafaaGreatDoorZwBL
import Derived.Test.YtgicceiimciafaaGreatDoorZwGS
set_option maxRecDepth 100000
set_option maxHeartbeats 2000000
namespace Go.Proofs.YtgicceiimciafaaGreatDoor
open Go.RowKit Sp
def placeI (a n : Int) : Int := a % 18446744073709551616 % n
theorem place_any (w : World) (a n : Int) (hn0 : 1 ≤ n) (hn1 : n ≤ 9223372036854775807) :
 Calls Tryz.prog 8 #[.int .i64 a, .int .i64 n] w fun o w' => o = .returned (.int .i64 (placeI a n)) ∧ w = w' := by
 have hw : IntKind.u64.wrap a = a % 18446744073709551616 := by rw [IntKind.wrap_u64]
 obtain ⟨u, hu⟩ : ∃ u, u = a % 18446744073709551616 := ⟨_, rfl⟩
 have hp : placeI a n = u % n := by unfold placeI; rw [← hu]
 have hu0 : 0 ≤ u := by omega
 have hu1 : u ≤ 18446744073709551615 := by omega
 rw [← hu] at hw
 rw [hp]
 have hr0 := Int.emod_nonneg u (show n ≠ 0 by omega)
 have hr1 := Int.emod_lt_of_pos u (show 0 < n by omega)
 clear hu hp
 go_enter Tryz.func8, Tryz.ntmps8
 go_wp2
 go_ret
 exact ⟨rfl, rfl⟩
end Go.Proofs.YtgicceiimciafaaGreatDoor
