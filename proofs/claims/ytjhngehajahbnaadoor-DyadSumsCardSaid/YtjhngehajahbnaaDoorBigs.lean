/-
  Walks: package integer: Neg, Abs, Sign, BitLen, Cmp.
-/
import Derived.Test.YtjhngehajahbnaaDoorBig
namespace Go.Proofs.YtjhngehajahbnaaDoor
open Go.RowKit Sp

/-- What a result box is filled with, as a call's result. -/
theorem ret_big {w w2 : World} {z : Int} {a2 : Option Addr} {c2 g : Nat} {u u' : Value} (hm : Mag w2 a2 (nl z.natAbs) c2 z.natAbs) (hfr : 0 < nl z.natAbs → g < ab a2) (hb : Below w.heap.size w w2) (hg : w.heap.size ≤ g) :
    RetBig w z (.returned (.agg #[.bool (decide (z < 0)), .slice a2 (nl z.natAbs) c2])) ((w2.setCell ⟨g, 0, none⟩ u).setCell ⟨g, 1, none⟩ u') :=
  ⟨a2, c2, rfl, (hm.set (fun h => by have := hfr h; omega) _ _).set (fun h => by have := hfr h; omega) _ _, (hb.setCell hg _).setCell hg _, fun h => by have := hfr h; omega⟩

/-- The same, sign and magnitude apart. -/
theorem ret_sgn {w w2 : World} {s : Bool} {x : Nat} {a2 : Option Addr} {c2 g : Nat} {u u' : Value} (hm : Mag w2 a2 (nl x) c2 x) (hfr : 0 < nl x → g < ab a2) (hb : Below w.heap.size w w2) (hg : w.heap.size ≤ g) :
    RetBig w (sgn s x) (.returned (.agg #[.bool (s && decide (0 < x)), .slice a2 (nl x) c2])) ((w2.setCell ⟨g, 0, none⟩ u).setCell ⟨g, 1, none⟩ u') := by
  rw [← sgn_lt]
  have e := sgn_natAbs s x
  have := @ret_big w w2 (sgn s x) a2 c2 g u u'
  rw [e] at this
  exact this hm hfr hb hg

set_option maxRecDepth 100000 in
set_option maxHeartbeats 2000000 in
theorem neg_any (w : World) (s : Bool) (a : Option Addr) (n cap x : Nat) (hx : Mag w a n cap x) (hlim : n ≤ 1099511627776) :
    Calls Tryd.prog 62 #[.agg #[.bool s, .slice a n cap]] w (RetBig w (sgn (!s) x)) := by
  go_enter Tryd.func62, Tryd.ntmps62
  go_wp2_with fail
  go_region_held3 (fun w' => w'.cell? ⟨w.heap.size, 0, none⟩ = some (.bool s) ∧ w'.cell? ⟨w.heap.size, 1, none⟩ = some (.slice a n cap)) (first | go_keep)
    (first | (go_at_call 95; refine (clone_any _ _ _ _ _ (hx.below (by repeat (first | exact Below.refl _ _ | refine Below.drew ?_ | refine below_drewN ?_ _ | refine Below.alloc ?_ (by simp <;> omega) _ | refine Below.setCell ?_ (by simp <;> omega) _))) hlim).mono ?_; rintro e w1 ⟨a1, c1, rfl, hm1, hb1, hf1⟩; obtain ⟨hc1, hz1⟩ := bcell (hb1.mono (show w.heap.size + 2 ≤ _ by simp))) | (go_at_call 71; refine (big_any _ _ _ _ _ _ hm1).mono ?_; rintro e w2 ⟨a2, c2, rfl, hm2, hb2, hf2⟩; have hb := hb1.trans (hb2.mono hb1.size); obtain ⟨hc2, hz2⟩ := bcell (hb.mono (show w.heap.size + 2 ≤ _ by simp))))
  go_wp2_with fail
  refine bodyPost_ret (v := .agg #[.bool (!s && decide (0 < x)), .slice a2 (nl x) c2]) (by simp [results, Tryd.results62, go_sem, hc2]) rfl ?_
  refine ret_sgn hm2 (fun h => ?_) (below_box (by repeat (first | exact Below.refl _ _ | refine Below.drew ?_ | refine below_drewN ?_ _ | refine Below.alloc ?_ (by simp <;> omega) _ | refine Below.setCell ?_ (by simp <;> omega) _)) hb) (by omega)
  rw [hf2 h]
  have := hf1 (Nat.lt_of_lt_of_le h (nl_le hx.lt))
  simp at this; omega

set_option maxRecDepth 100000 in
set_option maxHeartbeats 2000000 in
theorem abs_any (w : World) (s : Bool) (a : Option Addr) (n cap x : Nat) (hx : Mag w a n cap x) (hlim : n ≤ 1099511627776) :
    Calls Tryd.prog 65 #[.agg #[.bool s, .slice a n cap]] w (RetBig w (sgn false x)) := by
  go_enter Tryd.func65, Tryd.ntmps65
  go_wp2_with fail
  refine (clone_any _ _ _ _ _ (hx.below (by repeat (first | exact Below.refl _ _ | refine Below.drew ?_ | refine below_drewN ?_ _ | refine Below.alloc ?_ (by simp <;> omega) _ | refine Below.setCell ?_ (by simp <;> omega) _))) hlim).mono ?_
  rintro e w1 ⟨a1, c1, rfl, hm1, hb1, hf1⟩
  go_wp2_with fail
  refine (big_any _ _ _ _ _ _ hm1).mono ?_
  rintro e w2 ⟨a2, c2, rfl, hm2, hb2, hf2⟩
  have hb := hb1.trans (hb2.mono hb1.size)
  obtain ⟨hc2, hz2⟩ := bcell (hb.mono (show w.heap.size + 2 ≤ _ by simp))
  go_wp2_with fail
  refine bodyPost_ret (v := .agg #[.bool (false && decide (0 < x)), .slice a2 (nl x) c2]) (by simp [results, Tryd.results65, go_sem, hc2]) rfl ?_
  refine ret_sgn hm2 (fun h => ?_) (below_box (by repeat (first | exact Below.refl _ _ | refine Below.drew ?_ | refine below_drewN ?_ _ | refine Below.alloc ?_ (by simp <;> omega) _ | refine Below.setCell ?_ (by simp <;> omega) _)) hb) (by omega)
  rw [hf2 h]
  have := hf1 (Nat.lt_of_lt_of_le h (nl_le hx.lt))
  simp at this; omega

/-- -1, 0 or 1 as z is negative, zero or positive. -/
def sg (z : Int) : Int := cmpI z 0
theorem sg_neg {z : Int} (h : z < 0) : sg z = -1 := cmpI_lt h
theorem sg_zero : sg 0 = 0 := cmpI_eq rfl
theorem sg_pos {z : Int} (h : 0 < z) : sg z = 1 := cmpI_gt h

set_option maxRecDepth 100000 in
set_option maxHeartbeats 2000000 in
theorem sign_any (w : World) (s : Bool) (a : Option Addr) (n cap x : Nat) (hx : Mag w a n cap x) :
    Calls Tryd.prog 45 #[.agg #[.bool s, .slice a n cap]] w fun e w' => e = .returned (.int .i64 (sg (sgn s x))) ∧ Below w.heap.size w w' := by
  by_cases hx0 : x = 0
  · subst hx0
    have hnl := nl_zero
    have e : sg (sgn s 0) = 0 := by cases s <;> rfl
    rw [e]
    go_enter Tryd.func45, Tryd.ntmps45
    go_wp2_with (go_at_call 70; refine (trim_any _ _ _ _ _ (hx.below (by repeat (first | exact Below.refl _ _ | refine Below.drew ?_ | refine below_drewN ?_ _ | refine Below.alloc ?_ (by simp <;> omega) _ | refine Below.setCell ?_ (by simp <;> omega) _)))).mono ?_; rintro e w' ⟨rfl, rfl⟩)
    go_ret
    exact ⟨rfl, (by repeat (first | exact Below.refl _ _ | refine Below.drew ?_ | refine below_drewN ?_ _ | refine Below.alloc ?_ (by simp <;> omega) _ | refine Below.setCell ?_ (by simp <;> omega) _))⟩
  · have hn0 : ((nl x : Nat) : Int) ≠ 0 := by
      have := nl_pos (Nat.pos_of_ne_zero hx0); omega
    have hn1 : (((nl x : Nat) : Int) == 0) = false := by rw [beq_eq_false_iff_ne]; exact hn0
    clear hn0
    cases s
    · rw [show sg (sgn false x) = 1 from sg_pos (by simp [sgn]; omega)]
      go_enter Tryd.func45, Tryd.ntmps45
      go_wp2_with (go_at_call 70; refine (trim_any _ _ _ _ _ (hx.below (by repeat (first | exact Below.refl _ _ | refine Below.drew ?_ | refine below_drewN ?_ _ | refine Below.alloc ?_ (by simp <;> omega) _ | refine Below.setCell ?_ (by simp <;> omega) _)))).mono ?_; rintro e w' ⟨rfl, rfl⟩)
      go_ret
      exact ⟨rfl, (by repeat (first | exact Below.refl _ _ | refine Below.drew ?_ | refine below_drewN ?_ _ | refine Below.alloc ?_ (by simp <;> omega) _ | refine Below.setCell ?_ (by simp <;> omega) _))⟩
    · rw [show sg (sgn true x) = -1 from sg_neg (by simp [sgn]; omega)]
      go_enter Tryd.func45, Tryd.ntmps45
      go_wp2_with (go_at_call 70; refine (trim_any _ _ _ _ _ (hx.below (by repeat (first | exact Below.refl _ _ | refine Below.drew ?_ | refine below_drewN ?_ _ | refine Below.alloc ?_ (by simp <;> omega) _ | refine Below.setCell ?_ (by simp <;> omega) _)))).mono ?_; rintro e w' ⟨rfl, rfl⟩)
      go_ret
      exact ⟨rfl, (by repeat (first | exact Below.refl _ _ | refine Below.drew ?_ | refine below_drewN ?_ _ | refine Below.alloc ?_ (by simp <;> omega) _ | refine Below.setCell ?_ (by simp <;> omega) _))⟩

set_option maxRecDepth 100000 in
set_option maxHeartbeats 2000000 in
theorem bitlen_any (w : World) (s : Bool) (a : Option Addr) (n cap x : Nat) (hx : Mag w a n cap x) (hlim : n ≤ 1099511627776) :
    Calls Tryd.prog 46 #[.agg #[.bool s, .slice a n cap]] w fun e w' => e = .returned (.int .i64 (blen x)) ∧ Below w.heap.size w w' := by
  have hnl := nl_le hx.lt
  go_enter Tryd.func46, Tryd.ntmps46
  go_wp2_with (first | (go_at_call 70; refine (trim_any _ _ _ _ _ (hx.below (by repeat (first | exact Below.refl _ _ | refine Below.drew ?_ | refine below_drewN ?_ _ | refine Below.alloc ?_ (by simp <;> omega) _ | refine Below.setCell ?_ (by simp <;> omega) _)))).mono ?_; rintro e w' ⟨rfl, rfl⟩) | (go_at_call 76; refine (length_any _ _ _ _ _ (hx.below (by repeat (first | exact Below.refl _ _ | refine Below.drew ?_ | refine below_drewN ?_ _ | refine Below.alloc ?_ (by simp <;> omega) _ | refine Below.setCell ?_ (by simp <;> omega) _))).trim rfl (by omega)).mono ?_; rintro e w' ⟨rfl, rfl⟩))
  go_ret
  exact ⟨rfl, (by repeat (first | exact Below.refl _ _ | refine Below.drew ?_ | refine below_drewN ?_ _ | refine Below.alloc ?_ (by simp <;> omega) _ | refine Below.setCell ?_ (by simp <;> omega) _))⟩
end Go.Proofs.YtjhngehajahbnaaDoor
