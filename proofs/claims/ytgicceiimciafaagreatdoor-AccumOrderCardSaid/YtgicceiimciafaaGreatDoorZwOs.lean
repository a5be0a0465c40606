/-
  Walks: package sparsekit: Shuffle.
-/
import Derived.Test.YtgicceiimciafaaGreatDoorZwOr
import Derived.Test.YtgicceiimciafaaGreatDoorZwKs
import Derived.Test.YtgicceiimciafaaGreatDoorZwCL
import Derived.Maps.AppendAt
namespace Go.Proofs.YtgicceiimciafaaGreatDoor
open Go.RowKit Sp
theorem infI : (Tryz.prog.info? 3).map (fun i => (i.zero, i.size, i.bytes)) = some (some (.int .i64 0), 1, 8) := by kernel_rfl
theorem undIe : Tryz.prog.underlying 23 = some (.slice 3) := by kernel_rfl
theorem app_int2 {ops : Array Oper} {rest : List Oper} {o : Oper} {a : Act} {Q : Exit → Act → World → Prop} {w : World} (hgd : o.guard = none) (s x : Operand)
 (ho : o.op = .call { callee := .builtin .append, args := #[s, x], argTypes := #[23, 23] }) (base : Nat) (v : Value) (n : Nat) (xs : List Value) (hs : a.eval s = v) (g : Nat) (d : Int)
 (hx : a.eval x = .slice (some ⟨g, 0, none⟩) 1 1) (hown : w.ownsRow base 3 1 v n xs) (hcell : w.cell? ⟨g, 0, none⟩ = some (.int .i64 d)) (hn : n ≤ 4398046511104)
 (hbase : base ≤ w.heap.size) (h : ∀ v' w', w'.ownsRow base 3 1 v' (n + 1) (xs ++ [.int .i64 d]) → w.grownBy w' v.ownBlock → (v'.ownBlock = v.ownBlock ∨ v'.ownBlock = some w.heap.size) → wpList Tryz.prog ops Q rest (a.put o.dst v') w') : wpList Tryz.prog ops Q (o :: rest) a w := by
 obtain ⟨i0, hi, hz0, hz1, hz2⟩ := info_parts infI
 refine wpList_append_own_at w hgd s x _ ho base _ i0 (.int .i64 0) 1 8 undIe hi hz0 hz1 hz2 rfl (by decide) v n _ hs hown ⟨g, 0, none⟩ 1 1 [.int .i64 d] hx rfl ?_ ?_ ?_ ?_ hbase ?_
 · intro j u hu
   have : j = 0 := by
    rcases Nat.eq_zero_or_pos j with h | h
    · exact h
    · rw [List.getElem?_eq_none (by simp; omega)] at hu; cases hu
   subst this
   simp at hu; subst hu
   rw [Addr.add_zero']; exact hcell
 · intro u hu; simp at hu; subst hu; rfl
 · unfold maxLen; omega
 · omega
 · intro v' w' h1 h2 _ h4
   exact h v' w' h1 h2 h4
theorem own_cell {w : World} {base : Nat} {v : Value} {k : Nat} {xs : List Value} (h : w.ownsRow base 3 1 v k xs) :
 (k = 0 ∧ v = .slice none 0 0) ∨ ∃ g cap, v = .slice (some ⟨g, 0, none⟩) k cap ∧ base ≤ g ∧ g < w.heap.size ∧ k ≤ cap ∧ cap ≤ 9223372036854775807 ∧ ∀ j, j < k → w.cell? ⟨g, j, none⟩ = xs[j]? := by
 rcases h.2 with ⟨hv, hk⟩ | ⟨g, cap, cur, hv, hbg, hgg, hkc, hcm, hcs, htake⟩
 · left; exact ⟨hk, hv⟩
 · right
   have ho := h
   rw [hv] at ho
   exact ⟨g, cap, hv, hbg, (Array.getElem?_eq_some_iff.1 hgg).1, hkc, by unfold maxLen at hcm; omega, fun j hj => ho.cellAt j (by omega)⟩
end Go.Proofs.YtgicceiimciafaaGreatDoor
