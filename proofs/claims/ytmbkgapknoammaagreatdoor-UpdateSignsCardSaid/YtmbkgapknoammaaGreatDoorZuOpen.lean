/-
  Parameters that are dyads, laid open: what the walks take of them; and they read as they did where nothing that was there has turned. The frame of a card.
-/
import Derived.Test.YtmbkgapknoammaaGreatDoorCards
import Derived.Test.YtmbkgapknoammaaGreatDoorTie
import Derived.WalkKit
import Derived.ProofKit
import Derived.OpenShut
import Derived.Carry
import Derived.Laws.LoneSync
import Derived.Deep.DeepHandedRow
import Derived.Lib.LaidTab
import Derived.Test.YtmbkgapknoammaaGreatDoorZuBd
namespace Go.Proofs.YtmbkgapknoammaaGreatDoor
open Go.ChangeShapes Go.WideShapes Go.ChangeAt Go.RowKit Sp
theorem zDn{w:World}{a:Addr}{v:Value}(h:w.cell? a=some v):a.block<w.heap.size:=by
 rcases Nat.lt_or_ge a.block w.heap.size with h1 | h1
 · exact h1
 · unfold World.cell? at h;rw[show w.heap[a.block]? =none from Array.getElem?_eq_none h1]at h
   cases h
theorem zPe:laidOutB Tryz.prog=true:=je
theorem zGY{H:Type}{enc:TypeId×Value→H}{W W':World}{t:TypeId}{v:Value}{d:DataW H}{ps:List MemPlace}(hr:Tryz.prog.readableRec t=true)(hrow:t<Tryz.prog.types.size)
 (h:DataW.Trod enc Tryz.prog W 0 (fun _=>true) true t v d ps) (hb:Below W.heap.size W W') (hlt:∀x∈ps,x.block<W.heap.size) (sp:Nat→Bool) (hs:∀x∈ps,sp x.block=true) :
 DataW.Trod enc Tryz.prog W' 0 sp true t v d ps:=
 Go.WideElems.Trod_stays zPe hr hrow h (fun x hx=>hb.same (hlt x hx)) (fun x hx=>hs x hx)
end Go.Proofs.YtmbkgapknoammaaGreatDoor
