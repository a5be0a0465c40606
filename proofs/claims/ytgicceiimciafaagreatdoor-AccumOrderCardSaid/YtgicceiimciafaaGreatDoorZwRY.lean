/-
  Walks: the reference's division of magnitudes: shl (a row of its own), take.
  Walks: the reference's division of magnitudes: divMag.
-/
import Derived.Test.YtgicceiimciafaaGreatDoorZwRQ
import Derived.Test.YtgicceiimciafaaGreatDoorZwRD
namespace Go.Proofs.YtgicceiimciafaaGreatDoor
open Go.RowKit Sp
structure RowC (w : World) (g n cap : Nat) (e : TypeId) (z : Nat) : Prop where
 lt : z < B ^ n
 fit : n ≤ cap
 lim : cap ≤ 9223372036854775807
 row : ∃ cur : Array Value, w.heap[g]? = some (.cells cur e (0, 0)) ∧ cur.size = cap ∧ ∀ i, i < n → cur[i]? = some (.int .u32 (dig z i))
theorem RowC.old {w : World} {g n cap : Nat} {e : TypeId} {z : Nat} (h : RowC w g n cap e z) : g < w.heap.size := by
 obtain ⟨cur, hc, _⟩ := h.row
 exact (Array.getElem?_eq_some_iff.1 hc).1
theorem RowC.cell {w : World} {g n cap : Nat} {e : TypeId} {z : Nat} (h : RowC w g n cap e z) (i : Nat) (hi : i < n) : w.cell? ⟨g, i, none⟩ = some (.int .u32 (dig z i)) := by
 obtain ⟨cur, hc, hs, hd⟩ := h.row
 rw [cell_of_row w g i cur e (0, 0) hc]; exact hd i hi
theorem RowC.free {w : World} {g n cap : Nat} {e : TypeId} {z : Nat} (h : RowC w g n cap e z) (i : Nat) : w.frozen? ⟨g, i, none⟩ = false := by
 obtain ⟨cur, hc, hs, hd⟩ := h.row
 exact frozen_of_row w g i cur e hc
theorem RowC.store {w : World} {g n cap : Nat} {e : TypeId} {z : Nat} (h : RowC w g n cap e z) (i d : Nat) (hi : i < n) (hd : d < 4294967296) :
 RowC (w.setCell ⟨g, i, none⟩ (.int .u32 d)) g n cap e (setd z i d) := by
 obtain ⟨cur, hc, hs, hdig⟩ := h.row
 have hf := h.fit
 refine ⟨setd_lt hd hi h.lt, h.fit, h.lim, cur.setIfInBounds i (.int .u32 d), heap_setCell_same w g i cur e _ hc, by simpa using hs, fun k hk => ?_⟩
 by_cases hki : k = i
 · subst hki; rw [dig_setd_same _ _ _ hd, Array.getElem?_setIfInBounds_self_of_lt (by omega)]
 · rw [dig_setd_other hd hki, Array.getElem?_setIfInBounds_ne (Ne.symm hki)]; exact hdig k hk
theorem RowC.below {B' : Nat} {w w' : World} {g n cap : Nat} {e : TypeId} {z : Nat} (h : RowC w g n cap e z) (hb : Below B' w w') (hg : g < B') : RowC w' g n cap e z := by
 obtain ⟨cur, hc, hs, hd⟩ := h.row
 exact ⟨h.lt, h.fit, h.lim, cur, by rw [hb.block g hg]; exact hc, hs, hd⟩
theorem RowC.mag {w : World} {g n cap : Nat} {e : TypeId} {z : Nat} (h : RowC w g n cap e z) : Mag w (some ⟨g, 0, none⟩) n cap z :=
 ⟨h.lt, h.fit, h.lim, fun _ => rfl, fun i hi => by rw [ab_some, ao_some, Nat.zero_add]; exact h.cell i hi, fun _ => h.old⟩
theorem RowC.drewN {w : World} {g n cap : Nat} {e : TypeId} {z : Nat} (h : RowC w g n cap e z) (q : Nat) : RowC (w.drewN q) g n cap e z := ⟨h.lt, h.fit, h.lim, h.row⟩
def pc (Q V k : Nat) : Nat := Q * (V % B ^ k) / B ^ k
theorem dig_div (Z j k : Nat) : dig (Z / B ^ j) k = dig Z (k + j) := by
 unfold dig; rw [Nat.div_div_eq_div_mul, ← Bpow_add, Nat.add_comm j k]
end Go.Proofs.YtgicceiimciafaaGreatDoor
