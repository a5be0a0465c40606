/-
  Lists of dyads in memory; a list of the call's own that grows by append.
  Plain law: sums of dyads. No program in sight.
  Walks: package dyad: Sum.
-/
import Derived.Test.YtgicceiimciafaaGreatDoorZeBf
import Derived.Test.YtgicceiimciafaaGreatDoorZeBe
import Derived.Maps.AppendAt
import Derived.Test.YtgicceiimciafaaGreatDoorZeBL
import Derived.Test.YtgicceiimciafaaGreatDoorZeBg
set_option maxRecDepth 100000
namespace Go.Proofs.YtgicceiimciafaaGreatDoor
open Go.RowKit Sp
structure El where
 bd : Bool
 s : Bool
 a : Option Addr
 n : Nat
 p : Nat
 e : Int
 x : Nat
structure Dys (w : World) (a : Option Addr) (n cap : Nat) (L : Nat → El) : Prop where
 fits : n ≤ cap
 lim : cap ≤ 9223372036854775807
 addr : 0 < n → a = some ⟨ab a, ao a, none⟩
 c0 : ∀ i, i < n → w.cell? ⟨ab a, ao a + i * 4, none⟩ = some (.bool (L i).bd)
 c1 : ∀ i, i < n → w.cell? ⟨ab a, ao a + i * 4 + 1, none⟩ = some (.bool (L i).s)
 c2 : ∀ i, i < n → w.cell? ⟨ab a, ao a + i * 4 + 2, none⟩ = some (.slice (L i).a (L i).n (L i).p)
 c3 : ∀ i, i < n → w.cell? ⟨ab a, ao a + i * 4 + 3, none⟩ = some (.int .i64 (L i).e)
 m : ∀ i, i < n → Mag w (L i).a (L i).n (L i).p (L i).x
 b : ∀ i, i < n → -9223372036854775808 ≤ (L i).e ∧ (L i).e ≤ 9223372036854775807
 old : 0 < n → ab a < w.heap.size
theorem Dys.below {w w' : World} {a : Option Addr} {n cap : Nat} {L : Nat → El} (h : Dys w a n cap L) (hb : Below w.heap.size w w') : Dys w' a n cap L := by
 obtain ⟨h1, _⟩ := bcell hb
 exact ⟨h.fits, h.lim, h.addr, fun i hi => (h1 _ _ (h.old (by omega))).trans (h.c0 i hi), fun i hi => (h1 _ _ (h.old (by omega))).trans (h.c1 i hi), fun i hi => (h1 _ _ (h.old (by omega))).trans (h.c2 i hi),
  fun i hi => (h1 _ _ (h.old (by omega))).trans (h.c3 i hi), fun i hi => (h.m i hi).below hb, h.b, fun hn => Nat.lt_of_lt_of_le (h.old hn) hb.size⟩
theorem undD : Tryz.prog.underlying 57 = some (.slice 34) := by kernel_rfl
theorem elemD : Tryz.prog.elem 57 = 34 := by kernel_rfl
theorem sizD (W : World) : (Go.sizeOf 34).run Tryz.prog W = .ok 4 W := by kernel_rfl
theorem Dys.idx {w : World} {a : Option Addr} {n cap : Nat} {L : Nat → El} (h : Dys w a n cap L) (i : Nat) (hi : i < n) (W : World) :
 (Instr.indexAt 57 (.slice a n cap) (.int .i64 i)).run Tryz.prog W = .ok (.pointer (some ⟨ab a, ao a + i * 4, none⟩)) W := by
 have ha := h.addr (by omega)
 generalize ab a = b at *
 generalize ao a = o at *
 subst ha
 rw [run_indexAt_slice _ _ _ _ _ _ _ undD, if_pos ⟨by omega, by omega⟩, elemD, sizD]
 simp only [Result.andThen, Int.toNat_natCast, Addr.add_lit]
def dcells (f : Nat → Value × Value × Value × Value) : Nat → List Value
 | 0 => []
 | k + 1 => dcells f k ++ [(f k).1, (f k).2.1, (f k).2.2.1, (f k).2.2.2]
def ncell (d : Nat → Option (Int × Int)) (A : Nat → Option Addr) (C : Nat → Nat) (i : Nat) : Value × Value × Value × Value :=
 (.bool false, .bool (decide (dman (d i) < 0)), .slice (A i) (nl (dman (d i)).natAbs) (C i), .int .i64 (dexp (d i)))
structure Nms (w : World) (base : Nat) (v : Value) (k : Nat) (d : Nat → Option (Int × Int)) (A : Nat → Option Addr) (C : Nat → Nat) : Prop where
 own : w.ownsRow base 34 4 v k (dcells (ncell d A C) k)
 m : ∀ i, i < k → Mag w (A i) (nl (dman (d i)).natAbs) (C i) (dman (d i)).natAbs
 ap : ∀ i, i < k → 0 < nl (dman (d i)).natAbs → some (ab (A i)) ≠ v.ownBlock
theorem ownsRow_below {w w' : World} {base : Nat} {e : TypeId} {size : Nat} {v : Value} {n : Nat} {xs : List Value} (h : w.ownsRow base e size v n xs) (hb : Below w.heap.size w w') : w'.ownsRow base e size v n xs := by
 refine h.kept (row := none) ⟨hb.os, hb.tape, hb.output, hb.size, fun k hk _ => hb.block k hk⟩ ?_
 cases ho : v.ownBlock with
 | none => exact .inl rfl
 | some g => exact .inr (by simp)
theorem Nms.below {w w' : World} {base : Nat} {v : Value} {k : Nat} {d : Nat → Option (Int × Int)} {A : Nat → Option Addr} {C : Nat → Nat} (h : Nms w base v k d A C) (hb : Below w.heap.size w w') : Nms w' base v k d A C :=
 ⟨ownsRow_below h.own hb, fun i hi => (h.m i hi).below hb, h.ap⟩
theorem DyV.grown {w w' : World} {b : Nat} {v s : Bool} {sl : Value} {f : Int} {row : Option Nat} (h : DyV w b v s sl f) (hg : w.grownBy w' row) (hne : some b ≠ row) : DyV w' b v s sl f := by
 have hbk := hg.block b h.lt hne
 have e1 : ∀ i, w'.cell? ⟨b, i, none⟩ = w.cell? ⟨b, i, none⟩ := fun i => World.cell?_of_block (a := ⟨b, i, none⟩) hbk
 have e2 : ∀ i, w'.frozen? ⟨b, i, none⟩ = w.frozen? ⟨b, i, none⟩ := fun i => World.frozen?_of_block (a := ⟨b, i, none⟩) hbk
 exact ⟨(e1 _).trans h.c0, (e1 _).trans h.c1, (e1 _).trans h.c2, (e1 _).trans h.c3, fun i => (e2 _).trans (h.z i), Nat.lt_of_lt_of_le h.lt hg.size⟩
end Go.Proofs.YtgicceiimciafaaGreatDoor
