/-
  UpdatePath: the card.
-/
import Derived.Test.YtmbkgapknoammaaGreatDoorZuYnSaid
set_option maxHeartbeats 8000000
namespace Go.Proofs.YtmbkgapknoammaaGreatDoor
open Go.ChangeShapes Go.WideShapes Go.ChangeAt Go.RowKit Sp
theorem plain(f : FuncId)(fn : Func)(hf : Tryz.pinned.checked.prog.funcNamed "sparse/sparselaw29.UpdatePath" = some f)(hfn : Tryz.pinned.checked.prog.funcs[f]? = some fn):false=Tryz.pinned.checked.prog.looks []∧∀(j:Nat) t,fn.params[j]? =some t→Tryz.pinned.checked.prog.wantsStandIn t=false:=by
 obtain rfl : f = 7 := Option.some.inj ((show Tryz.prog.funcNamed "sparse/sparselaw29.UpdatePath" = some 7 by kernel_rfl).symm.trans hf) |>.symm
 obtain rfl:fn=Tryz.f7 :=(Option.some.inj (Tryz.func7.symm.trans hfn)).symm;refine⟨je,fun j t ht=>?_⟩;rw[Tryz.params7]at ht;have hm:t=22 ∨t=3 ∨t=23 :=by have h1:=Array.mem_of_getElem? ht;simp at h1;rcases h1 with h1 | h1 | h1 <;> simp[h1]
 rcases hm with rfl | rfl | rfl
 · exact(show Tryz.prog.wantsStandIn 22 =false by kernel_rfl)
 · exact(show Tryz.prog.wantsStandIn 3 =false by kernel_rfl)
 · exact(show Tryz.prog.wantsStandIn 23 =false by kernel_rfl)
theorem card:Rows.UpdatePathCardSaid:=
 Claim7.holds_tied_plain_at .later [] _ _ _ _ said (fun _ h=>KM) jw (fun _ h=>KM) updatePath_row_tie rfl ⟨rfl,rfl⟩ jw rfl plain jw
end Go.Proofs.YtmbkgapknoammaaGreatDoor
