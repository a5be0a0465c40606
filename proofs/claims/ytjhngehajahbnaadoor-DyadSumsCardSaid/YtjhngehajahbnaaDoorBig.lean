/-
  Walks: package integer, from limbs to integers.
-/
import Derived.Test.YtjhngehajahbnaaDoorRoot
import Derived.Deep.RegionHeld3
namespace Go.Proofs.YtjhngehajahbnaaDoor
open Go.RowKit Sp

/-- An integer by its sign and its magnitude. -/
def sgn (s : Bool) (x : Nat) : Int := if s then -(x : Int) else x
theorem sgn_natAbs (s : Bool) (x : Nat) : (sgn s x).natAbs = x := by cases s <;> simp [sgn]
theorem sgn_lt (s : Bool) (x : Nat) : decide (sgn s x < 0) = (s && decide (0 < x)) := by
  cases s <;> simp [sgn] <;> omega
theorem sgn_self (z : Int) : sgn (decide (z < 0)) z.natAbs = z := by
  unfold sgn; by_cases h : z < 0 <;> simp [h] <;> omega

/-- A call's result: the integer z, normalized, in memory of its own. -/
def RetBig (w : World) (z : Int) (e : Ending) (w' : World) : Prop :=
  ∃ a cap, e = .returned (.agg #[.bool (decide (z < 0)), .slice a (nl z.natAbs) cap]) ∧ Mag w' a (nl z.natAbs) cap z.natAbs ∧ Below w.heap.size w w' ∧ (0 < nl z.natAbs → w.heap.size ≤ ab a)

/-- big's result: the memory is the argument's. -/
def RetSame (w : World) (s : Bool) (a : Option Addr) (x : Nat) (e : Ending) (w' : World) : Prop :=
  ∃ a' cap, e = .returned (.agg #[.bool (s && decide (0 < x)), .slice a' (nl x) cap]) ∧ Mag w' a' (nl x) cap x ∧ Below w.heap.size w w' ∧ (0 < nl x → a' = a)

theorem below_box {w W w2 : World} (h0 : Below w.heap.size w W) (hb : Below W.heap.size W w2) : Below w.heap.size w w2 := h0.trans (hb.mono h0.size)

set_option maxRecDepth 100000 in
set_option maxHeartbeats 400000 in
theorem big_any (w : World) (s : Bool) (a : Option Addr) (n cap x : Nat) (hx : Mag w a n cap x) :
    Calls Tryd.prog 71 #[.bool s, .slice a n cap] w (RetSame w s a x) := by
  have hba : Below w.heap.size w (w.alloc (.cells #[.bool false, .slice none 0 0] 25)) := (Below.refl _ _).alloc (Nat.le_refl _) _
  by_cases hx0 : x = 0
  · subst hx0
    have hnl := nl_zero
    go_enter Tryd.func71, Tryd.ntmps71
    go_wp2_with (go_at_call 70; refine (trim_any _ _ _ _ _ (hx.below hba)).mono ?_; rintro e w' ⟨rfl, rfl⟩)
    refine bodyPost_ret (v := .agg #[.bool false, .slice none 0 0]) (by simp [results, Tryd.results71, go_sem]) rfl ?_
    exact ⟨none, 0, by cases s <;> rfl, Mag.nil _, hba, fun h => absurd h (by decide)⟩
  · have hn0 : ((nl x : Nat) : Int) ≠ 0 := by
      have := nl_pos (Nat.pos_of_ne_zero hx0); omega
    have hn1 : (((nl x : Nat) : Int) == 0) = false := by rw [beq_eq_false_iff_ne]; exact hn0
    clear hn0
    have hm := hx.below hba
    go_enter Tryd.func71, Tryd.ntmps71
    go_wp2_with (go_at_call 70; refine (trim_any _ _ _ _ _ hm).mono ?_; rintro e w' ⟨rfl, rfl⟩)
    refine bodyPost_ret (v := .agg #[.bool s, .slice a (nl x) cap]) (by simp [results, Tryd.results71, go_sem]) rfl ?_
    refine ⟨a, cap, ?_, ?_, (Below.refl _ _).alloc (Nat.le_refl _) _, fun _ => rfl⟩
    · rw [decide_eq_true (Nat.pos_of_ne_zero hx0), Bool.and_true]
    · exact (hx.below ((Below.refl _ _).alloc (Nat.le_refl _) _)).trim

set_option maxRecDepth 100000 in
set_option maxHeartbeats 1000000 in
theorem norm_any (w : World) (s : Bool) (a : Option Addr) (n cap x : Nat) (hx : Mag w a n cap x) (hlim : n ≤ 1099511627776) :
    Calls Tryd.prog 67 #[.agg #[.bool s, .slice a n cap]] w (RetBig w (sgn s x)) := by
  go_enter Tryd.func67, Tryd.ntmps67
  go_wp2_with fail
  go_region_held3 (fun w' => w'.cell? ⟨w.heap.size, 0, none⟩ = some (.bool s) ∧ w'.cell? ⟨w.heap.size, 1, none⟩ = some (.slice a n cap)) (first | go_keep)
    (first | (go_at_call 95; refine (clone_any _ _ _ _ _ (hx.below (by repeat (first | exact Below.refl _ _ | refine Below.drew ?_ | refine Below.alloc ?_ (by simp) _))) hlim).mono ?_; rintro e w1 ⟨a1, c1, rfl, hm1, hb1, hf1⟩; obtain ⟨hc1, hz1⟩ := bcell (hb1.mono (show w.heap.size + 2 ≤ _ by simp))) | (go_at_call 71; refine (big_any _ _ _ _ _ _ hm1).mono ?_; rintro e w2 ⟨a2, c2, rfl, hm2, hb2, hf2⟩; have hb := hb1.trans (hb2.mono hb1.size); obtain ⟨hc2, hz2⟩ := bcell (hb.mono (show w.heap.size + 2 ≤ _ by simp))))
  go_wp2_with fail
  refine bodyPost_ret (v := .agg #[.bool (s && decide (0 < x)), .slice a2 (nl x) c2]) (by simp [results, Tryd.results67, go_sem, hc2]) rfl ?_
  rw [← sgn_lt]
  unfold RetBig
  rw [sgn_natAbs]
  have hfr : 0 < nl x → w.heap.size + 2 ≤ ab a2 := fun h => by
    rw [hf2 h]
    have h2 : 0 < n := Nat.lt_of_lt_of_le h (nl_le hx.lt)
    have := hf1 h2
    simpa using this
  exact ⟨a2, c2, rfl, (hm2.set (fun h => by have := hfr h; omega) _ _).set (fun h => by have := hfr h; omega) _ _, ((below_box (by repeat (first | exact Below.refl _ _ | refine Below.drew ?_ | refine Below.alloc ?_ (by simp) _)) hb).setCell (by simp) _).setCell (by simp) _, fun h => by have := hfr h; omega⟩
end Go.Proofs.YtjhngehajahbnaaDoor
