/-
  UpdateSigns: the card.
-/
import Derived.Test.YtmbkgapknoammaaGreatDoorZxYsSaid
set_option maxHeartbeats 8000000
namespace Go.Proofs.YtmbkgapknoammaaGreatDoor
open Go.ChangeShapes Go.WideShapes Go.ChangeAt Go.RowKit Sp
theorem plain(f : FuncId)(fn : Func)(hf : Tryz.pinned.checked.prog.funcNamed "sparse/sparselaw29.UpdateSigns" = some f)(hfn : Tryz.pinned.checked.prog.funcs[f]? = some fn):false=Tryz.pinned.checked.prog.looks []∧∀(j:Nat) t,fn.params[j]? =some t→Tryz.pinned.checked.prog.wantsStandIn t=false:=by
 obtain rfl : f = 5 := Option.some.inj ((show Tryz.prog.funcNamed "sparse/sparselaw29.UpdateSigns" = some 5 by kernel_rfl).symm.trans hf) |>.symm
 obtain rfl:fn=Tryz.f5 :=(Option.some.inj (Tryz.func5.symm.trans hfn)).symm;refine⟨by kernel_rfl,fun j t ht=>?_⟩;rw[Tryz.params5]at ht;have hm:t=22 ∨t=3 :=by have h1:=Array.mem_of_getElem? ht;simp at h1;omega
 rcases hm with rfl | rfl
 · exact(show Tryz.prog.wantsStandIn 22 =false by kernel_rfl)
 · exact(show Tryz.prog.wantsStandIn 3 =false by kernel_rfl)
theorem card:Rows.UpdateSignsCardSaid:=
 Claim7.holds_tied_plain_at .later [] _ _ _ _ said (fun _ h=>by cases h) (by as_aux_lemma=>kernel_rfl) (fun _ h=>by cases h) updateSigns_row_tie rfl ⟨rfl,rfl⟩ (by as_aux_lemma=>kernel_rfl) rfl plain (by as_aux_lemma=>kernel_rfl)
end Go.Proofs.YtmbkgapknoammaaGreatDoor
