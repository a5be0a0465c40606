/-
  Plain law: Knuth's algorithm D, one limb of a quotient. No program in sight.
  Walk: integer.digit, one limb of a quotient.
  Walks: slices.Clone, integer.divide.
  Walk: integer.root.
-/
import Derived.Test.YtgicceiimciafaaGreatDoorZwBa
import Derived.Test.YtgicceiimciafaaGreatDoorZwBb
import Derived.Deep.DeepCutAuto
import Derived.Deep.CutBlock
import Derived.Deep.LoopGhost
set_option maxRecDepth 100000
set_option maxHeartbeats 400000
namespace Sp
section
variable {b U V top v1 v2 v0 u2 u0 P1 P2 q rest : Nat}
end
end Sp
namespace Go.Proofs.YtgicceiimciafaaGreatDoor
open Go.RowKit Sp
end Go.Proofs.YtgicceiimciafaaGreatDoor
namespace Go.Proofs.YtgicceiimciafaaGreatDoor
open Go.RowKit Sp
theorem clone_any (w : World) (a : Option Addr) (n cap x : Nat) (hx : Mag w a n cap x) (hlim : n ≤ 1099511627776) :
 Calls Tryz.prog 142 #[.slice a n cap] w fun e w' => ∃ a' cap', e = .returned (.slice a' n cap') ∧ Mag w' a' n cap' x ∧ Below w.heap.size w w' ∧ (0 < n → w.heap.size ≤ ab a') := by
 cases a with
 | none =>
  have hn : n = 0 := by
   rcases Nat.eq_zero_or_pos n with h | h
   · exact h
   · have := hx.addr h; cases this
  subst hn
  rw [hx.zero]
  have hnil := fun w => Lib.run_eql_slice_nil (P := Tryz.prog) w 30 54 none 0 cap 0 0 undU
  go_enter Tryz.func142, Tryz.ntmps142
  go_wp2
  go_ret
  exact ⟨none, 0, rfl, Mag.nil w, Below.refl _ _, by omega⟩
 | some ad =>
  have hnil := fun w => Lib.run_eql_slice_nil (P := Tryz.prog) w 30 54 (some ad) n cap 0 0 undU
  obtain ⟨i0, hi, hz0, hz1, hz2⟩ := info_parts infU
  have hown0 := World.ownsRow_made (base := w.heap.size) (e := 54) (size := 1) w #[] 0 (Nat.le_refl _) (by unfold maxLen; omega) rfl
  go_enter Tryz.func142, Tryz.ntmps142
  go_wp2_with (at_builtin; (refine wpList_append_own _ rfl _ _ 30 rfl w.heap.size 54 i0 (.int .u32 0) 1 4 undU hi hz0 hz1 hz2 rfl (by decide) _ _ _ rfl hown0 ad n cap (digs x n) rfl (by rw [digs_length, Nat.mul_one]) ((hx.below ((Below.refl _ _).alloc (Nat.le_refl _) _)).news rfl) (digs_one x n) (by unfold maxLen; omega) (by omega) (by rw [World.size_alloc]; omega) ?_); intro v1 w1 hown1 hgr1 _)
  go_ret
  rw [List.nil_append, Nat.zero_add] at hown1
  obtain ⟨a1, c1, hv, hm1, hfr⟩ := mag_of_owns hown1 hx.lt
  exact ⟨a1, c1, congrArg Ending.returned hv, hm1, ((Below.refl _ _).alloc (Nat.le_refl _) _).trans (below_of_owns hown0 hgr1 (by rw [World.size_alloc]; omega)), hfr⟩
end Go.Proofs.YtgicceiimciafaaGreatDoor
namespace Go.Proofs.YtgicceiimciafaaGreatDoor
open Go.RowKit Sp
end Go.Proofs.YtgicceiimciafaaGreatDoor
