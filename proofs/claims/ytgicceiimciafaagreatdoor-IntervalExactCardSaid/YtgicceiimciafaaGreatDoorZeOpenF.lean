/-
  Parameters that are lists of floats, or intervals, laid open.
-/
import Derived.Test.YtgicceiimciafaaGreatDoorZeOpen
import Derived.Test.YtgicceiimciafaaGreatDoorZeKA
set_option maxRecDepth 100000
namespace Go.Proofs.YtgicceiimciafaaGreatDoor
open Go.ChangeShapes Go.WideShapes Go.ChangeAt Go.RowKit Sp
theorem cells34 : Tryz.prog.cellsOf 28 = 1 := by kernel_rfl
theorem cells62 : Tryz.prog.cellsOf 43 = 2 := by kernel_rfl
theorem readIv : Tryz.prog.readableRec 43 = true := by kernel_rfl
theorem rowIv : 43 < Tryz.prog.types.size := of_decide_eq_true (by kernel_rfl)
theorem iv_open {H : Type} {enc : TypeId × Value → H} {W : World} {base : Nat} {sp : Nat → Bool} {hd : Bool} {r : Reach} {b0 : Nat} {v : Value} {d : DataW H} {p : List MemPlace}
 (hv : Value.okWide Tryz.prog W r b0 43 v) (h : DataW.Trod enc Tryz.prog W base sp hd 43 v d p) :
 ∃ l u : Nat, v = .agg #[.int .u64 l, .int .u64 u] ∧ l < 18446744073709551616 ∧ u < 18446744073709551616 := by
 obtain ⟨cs, rfl, hsz⟩ := okWide_struct Tryz.underlying43 hv
 obtain ⟨l⟩ := cs
 match l, hsz.trans cells62 with
 | [c0, c1], _ =>
  obtain ⟨fuel, hf⟩ := h
  obtain ⟨xs, n, _, hx, _, hlen, hg⟩ := DataW.trod_struct Tryz.underlying43 hf
  match xs, hlen with
  | [y0, y1], _ =>
   have g0 : DataW.trod enc Tryz.prog W base sp hd n 28 (List.take (Tryz.prog.cellsOf 28) [c0, c1]) = some y0 := hg 0 _ rfl
   have g1 : DataW.trod enc Tryz.prog W base sp hd n 28 (List.take (Tryz.prog.cellsOf 28) [c1]) = some y1 := hg 1 _ rfl
   rw [cells34] at g0 g1
   obtain ⟨e0, h0, _, wf0⟩ := DataW.trod_int Tryz.underlying28 g0
   obtain ⟨e1, h1, _, wf1⟩ := DataW.trod_int Tryz.underlying28 g1
   have b0 := bounds_u64 wf0
   have b1 := bounds_u64 wf1
   have k0 : c0 = .int .u64 e0 := by injection h0
   have k1 : c1 = .int .u64 e1 := by injection h1
   subst k0 k1
   refine ⟨e0.toNat, e1.toNat, ?_, by omega, by omega⟩
   rw [show ((e0.toNat : Nat) : Int) = e0 by omega, show ((e1.toNat : Nat) : Int) = e1 by omega]
end Go.Proofs.YtgicceiimciafaaGreatDoor
