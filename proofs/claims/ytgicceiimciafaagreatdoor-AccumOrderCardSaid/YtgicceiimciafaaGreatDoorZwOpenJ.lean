/-
  Parameters that are lists of whole numbers, laid open.
-/
import Derived.Test.YtgicceiimciafaaGreatDoorZwOpenF
import Derived.Test.YtgicceiimciafaaGreatDoorZwOt
set_option maxRecDepth 100000
namespace Go.Proofs.YtgicceiimciafaaGreatDoor
open Go.ChangeShapes Go.WideShapes Go.ChangeAt Go.RowKit Sp
theorem cellsI : Tryz.prog.cellsOf 3 = 1 := by kernel_rfl
theorem readInts : Tryz.prog.readableRec 23 = true := by kernel_rfl
theorem rowInts : 23 < Tryz.prog.types.size := of_decide_eq_true (by kernel_rfl)
theorem ints_open {H : Type} {enc : TypeId × Value → H} {W : World} {base : Nat} {sp : Nat → Bool} {hd : Bool} {r : Reach} {b0 : Nat} {v : Value} {d : DataW H} {p : List MemPlace} (hsp : ∀ b, sp b = true)
 (hv : Value.okWide Tryz.prog W r b0 23 v) (h : DataW.Trod enc Tryz.prog W base sp hd 23 v d p) :
 ∃ (a : Option Addr) (n cap : Nat) (L : Nat → Int), v = .slice a n cap ∧ Ils W a n cap L := by
 obtain ⟨a0, n0, c0, rfl⟩ := okWide_slice Tryz.underlying23 hv
 obtain ⟨fuel, hf⟩ := h
 rcases open_ints Tryz.underlying23 Tryz.underlying3 cellsI hf with ⟨hcs, _⟩ | ⟨a, len, cap, ns, hcs, _, hle, hmax, hl, _, hall, hns⟩
 · simp [Value.cells] at hcs
   obtain ⟨rfl, rfl, rfl⟩ := hcs
   exact ⟨none, 0, 0, fun _ => 0, rfl, ⟨by omega, by omega, by omega, fun i hi => by omega, by omega⟩⟩
 · simp [Value.cells] at hcs
   obtain ⟨rfl, rfl, rfl⟩ := hcs
   rw [hsp, if_pos rfl] at hl
   have hspot : 0 < n0 → a.spot = none := fun h0 => by
    obtain ⟨_, _, _, _, hs⟩ := World.shape?_of_cell? (hall 0 (by omega))
    exact hs
   obtain ⟨b, o, q⟩ := a
   refine ⟨_, _, _, fun i => ns.getD i 0, rfl, ⟨hle, by unfold maxLen at hmax; omega, fun h0 => ?_, fun i hi => ?_, fun h0 => ?_⟩⟩
   · have hq : q = none := hspot h0
     subst hq; rfl
   · have hq : q = none := hspot (by omega)
     subst hq
     have h1 := hall i (by omega)
     rw [Addr.add_lit] at h1
     exact h1
   · exact lt_of_cell2 (hall 0 (by omega))
end Go.Proofs.YtgicceiimciafaaGreatDoor
