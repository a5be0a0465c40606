/-
  Parameters that are dyads, laid open: what the walks take of them; and they read as they did where nothing that was there has turned. The frame of a card.
-/
import Derived.Test.YtablcbgeeeboeaaGreatDoorCards
import Derived.Test.YtablcbgeeeboeaaGreatDoorTie
import Derived.WalkKit
import Derived.ProofKit
import Derived.OpenShut
import Derived.Carry
import Derived.Laws.LoneSync
import Derived.Deep.DeepHandedRow
import Derived.Lib.LaidTab
import Derived.Test.YtablcbgeeeboeaaGreatDoorZhBd
namespace Go.Proofs.YtablcbgeeeboeaaGreatDoor
open Go.ChangeShapes Go.WideShapes Go.ChangeAt Go.RowKit Sp
theorem zCX {w : World} {a : Addr} {v : Value} (h : w.cell? a = some v) : a.block < w.heap.size := by
 rcases Nat.lt_or_ge a.block w.heap.size with h1 | h1
 · exact h1
 · unfold World.cell? at h
   rw [show w.heap[a.block]? = none from Array.getElem?_eq_none h1] at h
   cases h
theorem zLS : laidOutB Tryz.prog = true := by kernel_rfl
theorem zFI {H : Type} {enc : TypeId × Value → H} {W W' : World} {t : TypeId} {v : Value} {d : DataW H} {ps : List MemPlace} (hr : Tryz.prog.readableRec t = true) (hrow : t < Tryz.prog.types.size)
 (h : DataW.Trod enc Tryz.prog W 0 (fun _ => true) true t v d ps) (hb : Below W.heap.size W W') (hlt : ∀ x ∈ ps, x.block < W.heap.size) (sp : Nat → Bool) (hs : ∀ x ∈ ps, sp x.block = true) :
 DataW.Trod enc Tryz.prog W' 0 sp true t v d ps :=
 Go.WideElems.Trod_stays zLS hr hrow h (fun x hx => hb.same (hlt x hx)) (fun x hx => hs x hx)
end Go.Proofs.YtablcbgeeeboeaaGreatDoor
