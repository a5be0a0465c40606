/-
  IntervalHolds: the card.
-/
import Derived.Test.YtmpcikkimcehnaaGreatDoorZmJpSaid
namespace Go.Proofs.YtmpcikkimcehnaaGreatDoor
open Go.ChangeShapes Go.WideShapes Go.ChangeAt Go.RowKit Sp

set_option maxHeartbeats 8000000 in
/-- No parameter wants a stand-in; the program's own looks are off: what the card asks. -/
theorem plain (f : FuncId) (fn : Func) (hf : Tryz.pinned.checked.prog.funcNamed "sparse/sparselaw05.IntervalHolds" = some f) (hfn : Tryz.pinned.checked.prog.funcs[f]? = some fn) :
    false = Tryz.pinned.checked.prog.looks [] ∧ ∀ (j : Nat) t, fn.params[j]? = some t → Tryz.pinned.checked.prog.wantsStandIn t = false := by
  obtain rfl : f = 20 := Option.some.inj ((show Tryz.prog.funcNamed "sparse/sparselaw05.IntervalHolds" = some 20 by kernel_rfl).symm.trans hf) |>.symm
  obtain rfl : fn = Tryz.f20 := (Option.some.inj (Tryz.func20.symm.trans hfn)).symm
  refine ⟨by kernel_rfl, fun j t ht => ?_⟩
  rw [Tryz.params20] at ht
  have hm : t = 62 ∨ t = 34 := by have h1 := Array.mem_of_getElem? ht; simp at h1; omega
  rcases hm with rfl | rfl
  · exact (show Tryz.prog.wantsStandIn 62 = false by kernel_rfl)
  · exact (show Tryz.prog.wantsStandIn 34 = false by kernel_rfl)

set_option maxHeartbeats 8000000 in
theorem card : Rows.IntervalHoldsCardSaid :=
  Claim7.holds_tied_plain_at .later [] _ _ _ _ said (fun _ h => by cases h) (by as_aux_lemma => kernel_rfl) (fun _ h => by cases h) intervalHolds_row_tie rfl ⟨rfl, rfl⟩ (by as_aux_lemma => kernel_rfl) rfl plain (by as_aux_lemma => kernel_rfl)

end Go.Proofs.YtmpcikkimcehnaaGreatDoor

