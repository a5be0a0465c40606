/-
  Walks: the law AccumResidual.
-/
import Derived.Test.YtgicceiimciafaaGreatDoorZwKg
namespace Go.Proofs.YtgicceiimciafaaGreatDoor
open Go.RowKit Sp
theorem infF : (Tryz.prog.info? 28).map (fun i => (i.zero, i.size, i.bytes)) = some (some (.int .u64 0), 1, 8) := by kernel_rfl
theorem undFe : Tryz.prog.underlying 22 = some (.slice 28) := by kernel_rfl
def flist (L : Nat → Nat) : Nat → List Value
 | 0 => []
 | k + 1 => flist L k ++ [.int .u64 (L k : Nat)]
theorem flist_length (L : Nat → Nat) (k : Nat) : (flist L k).length = k := by
 induction k with
 | zero => rfl
 | succ n ih => simp [flist, ih]
theorem flist_get (L : Nat → Nat) {k i : Nat} (h : i < k) : (flist L k)[i]? = some (.int .u64 (L i : Nat)) := by
 induction k with
 | zero => omega
 | succ n ih =>
  show (flist L n ++ [.int .u64 (L n : Nat)])[i]? = _
  by_cases hi : i < n
  · rw [List.getElem?_append_left (by rw [flist_length]; exact hi)]; exact ih hi
  · obtain rfl : i = n := by omega
    rw [List.getElem?_append_right (by rw [flist_length]; omega), flist_length, Nat.sub_self]; rfl
theorem own_fls {w : World} {base : Nat} {v : Value} {k : Nat} {L : Nat → Nat} (h : w.ownsRow base 28 1 v k (flist L k)) (hb : ∀ i, i < k → L i < 18446744073709551616) :
 ∃ a cap, v = .slice a k cap ∧ Fls w a k cap L := by
 rcases h.2 with ⟨hv, hk⟩ | ⟨g, cap, cur, hv, hbg, hgg, hkc, hcm, hcs, htake⟩
 · subst hk
   exact ⟨none, 0, hv, ⟨by omega, by omega, by omega, fun i hi => by omega, fun i hi => by omega, by omega⟩⟩
 · have ho := h
   rw [hv] at ho
   have hc : ∀ j, j < k → w.cell? ⟨g, j, none⟩ = (flist L k)[j]? := fun j hj => ho.cellAt j (by omega)
   refine ⟨some ⟨g, 0, none⟩, cap, hv, hkc, by unfold maxLen at hcm; omega, fun _ => rfl, fun i hi => ?_, hb, fun _ => (Array.getElem?_eq_some_iff.1 hgg).1⟩
   rw [ab_some, ao_some, Nat.zero_add, hc _ (by omega)]; exact flist_get L hi
end Go.Proofs.YtgicceiimciafaaGreatDoor
