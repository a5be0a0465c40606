/-
  Parameters that are lists of floats, or intervals, laid open.
-/
import Derived.Test.YtgicceiimciafaaGreatDoorZwOpen
import Derived.Test.YtgicceiimciafaaGreatDoorZwKA
set_option maxRecDepth 100000
namespace Go.Proofs.YtgicceiimciafaaGreatDoor
open Go.ChangeShapes Go.WideShapes Go.ChangeAt Go.RowKit Sp
theorem cells34 : Tryz.prog.cellsOf 28 = 1 := by kernel_rfl
theorem readFloats : Tryz.prog.readableRec 22 = true := by kernel_rfl
theorem rowFloats : 22 < Tryz.prog.types.size := of_decide_eq_true (by kernel_rfl)
theorem floats_open {H : Type} {enc : TypeId × Value → H} {W : World} {base : Nat} {sp : Nat → Bool} {hd : Bool} {r : Reach} {b0 : Nat} {v : Value} {d : DataW H} {p : List MemPlace} (hsp : ∀ b, sp b = true)
 (hv : Value.okWide Tryz.prog W r b0 22 v) (h : DataW.Trod enc Tryz.prog W base sp hd 22 v d p) :
 ∃ (a : Option Addr) (n cap : Nat) (L : Nat → Nat), v = .slice a n cap ∧ Fls W a n cap L := by
 obtain ⟨a0, n0, c0, rfl⟩ := okWide_slice Tryz.underlying22 hv
 obtain ⟨fuel, hf⟩ := h
 rcases open_ints Tryz.underlying22 Tryz.underlying28 cells34 hf with ⟨hcs, _⟩ | ⟨a, len, cap, ns, hcs, _, hle, hmax, hl, _, hall, hns⟩
 · simp [Value.cells] at hcs
   obtain ⟨rfl, rfl, rfl⟩ := hcs
   exact ⟨none, 0, 0, fun _ => 0, rfl, ⟨by omega, by omega, by omega, fun i hi => by omega, fun i hi => by omega, by omega⟩⟩
 · simp [Value.cells] at hcs
   obtain ⟨rfl, rfl, rfl⟩ := hcs
   rw [hsp, if_pos rfl] at hl
   have hb : ∀ i, i < ns.length → 0 ≤ ns.getD i 0 ∧ ns.getD i 0 ≤ 18446744073709551615 := fun i hi => by
    have h1 : ns.getD i 0 = ns[i] := by rw [List.getD_eq_getElem?_getD, List.getElem?_eq_getElem hi]; rfl
    rw [h1]
    exact bounds_u64 (hns _ (List.getElem_mem hi))
   have hspot : 0 < n0 → a.spot = none := fun h0 => by
    obtain ⟨_, _, _, _, hs⟩ := World.shape?_of_cell? (hall 0 (by omega))
    exact hs
   obtain ⟨b, o, q⟩ := a
   refine ⟨_, _, _, fun i => (ns.getD i 0).toNat, rfl, ⟨hle, by unfold maxLen at hmax; omega, fun h0 => ?_, fun i hi => ?_, fun i hi => ?_, fun h0 => ?_⟩⟩
   · have hq : q = none := hspot h0
     subst hq; rfl
   · have hq : q = none := hspot (by omega)
     subst hq
     have h1 := hall i (by omega)
     have h2 := hb i (by omega)
     rw [show (((ns.getD i 0).toNat : Nat) : Int) = ns.getD i 0 by omega]
     rw [Addr.add_lit] at h1
     exact h1
   · have h2 := hb i (by omega)
     show (ns.getD i 0).toNat < 18446744073709551616
     omega
   · exact lt_of_cell2 (hall 0 (by omega))
end Go.Proofs.YtgicceiimciafaaGreatDoor
