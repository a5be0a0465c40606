/-
  Walks: package accum: lists of floats; finite; the references' Finite, TwinFloats, Floats.
  Walks: package accum: Sum, products, sizes.
  Walks: package accum: products.
  Walks: package accum: Dot, Residual, rest, TwoSum, TwoMul, the norms.
  Walks: package accum: rest, TwoSum, TwoMul, the norms.
-/
import Derived.Test.YtgicceiimciafaaGreatDoorZeS3
import Derived.Test.YtgicceiimciafaaGreatDoorZeSU
import Derived.Test.YtgicceiimciafaaGreatDoorZeBh
import Derived.Test.YtgicceiimciafaaGreatDoorZeFP
import Derived.Test.YtgicceiimciafaaGreatDoorZeGO
import Derived.Deep.AppendLies
import Derived.Test.YtgicceiimciafaaGreatDoorZeGS
import Derived.Test.YtgicceiimciafaaGreatDoorZeGQ
namespace Go.Proofs.YtgicceiimciafaaGreatDoor
open Go.RowKit Sp
theorem undFl : Tryz.prog.underlying 22 = some (.slice (Tryz.prog.elem 22)) := by kernel_rfl
theorem sizFl (w : World) : (Go.sizeOf (Tryz.prog.elem 22)).run Tryz.prog w = .ok 1 w := by kernel_rfl
structure Fls (w : World) (a : Option Addr) (n cap : Nat) (L : Nat → Nat) : Prop where
 fits : n ≤ cap
 lim : cap ≤ 9223372036854775807
 addr : 0 < n → a = some ⟨ab a, ao a, none⟩
 cell : ∀ i, i < n → w.cell? ⟨ab a, ao a + i, none⟩ = some (.int .u64 (L i : Nat))
 b : ∀ i, i < n → L i < 18446744073709551616
 old : 0 < n → ab a < w.heap.size
theorem Fls.below {w w' : World} {a : Option Addr} {n cap : Nat} {L : Nat → Nat} (h : Fls w a n cap L) (hb : Below w.heap.size w w') : Fls w' a n cap L :=
 ⟨h.fits, h.lim, h.addr, fun i hi => by rw [hb.cell (p := ⟨ab a, ao a + i, none⟩) (h.old (by omega))]; exact h.cell i hi, h.b, fun hn => Nat.lt_of_lt_of_le (h.old hn) hb.size⟩
theorem Fls.idx {w : World} {a : Option Addr} {n cap : Nat} {L : Nat → Nat} (h : Fls w a n cap L) (i : Nat) (hi : i < n) (W : World) :
 (Instr.indexAt 22 (.slice a n cap) (.int .i64 i)).run Tryz.prog W = .ok (.pointer (some ⟨ab a, ao a + i, none⟩)) W := by
 have ha := h.addr (by omega)
 generalize ab a = b at *
 generalize ao a = o at *
 subst ha
 rw [run_indexAt_slice _ _ _ _ _ _ _ undFl, if_pos ⟨by omega, by omega⟩, sizFl]
 simp only [Result.andThen, Int.toNat_natCast, Nat.mul_one, Addr.add_lit]
def mcell (d : Nat → Option (Int × Int)) (A : Nat → Option Addr) (C : Nat → Nat) (i : Nat) : Value × Value × Value × Value :=
 (.bool (dbad (d i)), .bool (decide (dman (d i) < 0)), .slice (A i) (nl (dman (d i)).natAbs) (C i), .int .i64 (dexp (d i)))
structure Dms (w : World) (base : Nat) (v : Value) (k : Nat) (d : Nat → Option (Int × Int)) (A : Nat → Option Addr) (C : Nat → Nat) : Prop where
 own : w.ownsRow base 34 4 v k (dcells (mcell d A C) k)
 m : ∀ i, i < k → Mag w (A i) (nl (dman (d i)).natAbs) (C i) (dman (d i)).natAbs
 ap : ∀ i, i < k → 0 < nl (dman (d i)).natAbs → some (ab (A i)) ≠ v.ownBlock
theorem Dms.below {w w' : World} {base : Nat} {v : Value} {k : Nat} {d : Nat → Option (Int × Int)} {A : Nat → Option Addr} {C : Nat → Nat} (h : Dms w base v k d A C) (hb : Below w.heap.size w w') : Dms w' base v k d A C :=
 ⟨ownsRow_below h.own hb, fun i hi => (h.m i hi).below hb, h.ap⟩
end Go.Proofs.YtgicceiimciafaaGreatDoor
