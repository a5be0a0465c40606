/-
  Walks: the reference's integers: Mul, Cmp, Lost, Shift to the right of any number.
-/
import Derived.Test.YtakbappmkdaioaaDoorZqBf
namespace Go.Proofs.YtakbappmkdaioaaDoor
open Go.RowKit Sp

theorem DyV.put {W : World} {b : Nat} {v s : Bool} {sl : Value} {f : Int} (h : DyV W b v s sl f) (v' s' : Bool) (sl' : Value) (f' : Int) :
    DyV ((((W.setCell ⟨b, 0, none⟩ (.bool v')).setCell ⟨b, 1, none⟩ (.bool s')).setCell ⟨b, 2, none⟩ sl').setCell ⟨b, 3, none⟩ (.int .i64 f')) b v' s' sl' f' := by
  obtain ⟨c0, c1, c2, c3, c4, c5⟩ := h
  exact ⟨by go_simp, by go_simp, by go_simp, by go_simp, fun i => by go_simp, by simpa using c5⟩
theorem BgV.put {W : World} {b : Nat} {s : Bool} {sl : Value} (h : BgV W b s sl) (s' : Bool) (sl' : Value) :
    BgV ((W.setCell ⟨b, 0, none⟩ (.bool s')).setCell ⟨b, 1, none⟩ sl') b s' sl' := by
  obtain ⟨c0, c1, c2, c3⟩ := h
  exact ⟨by go_simp, by go_simp, fun i => by go_simp, by simpa using c3⟩

end Go.Proofs.YtakbappmkdaioaaDoor

