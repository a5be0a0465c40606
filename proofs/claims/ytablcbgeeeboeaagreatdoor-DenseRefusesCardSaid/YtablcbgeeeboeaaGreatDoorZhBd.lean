/-
  Walks: package integer, from limbs to integers.
  Walks: package integer: Neg, Abs, Sign, BitLen, Cmp.
  Walks: package integer: Add, Sub, Mul.
  Walks: package integer: Sub, Mul, Cmp, FromInt.
  Walks: bits.TrailingZeros32 (over its table), integer.TrailingZeros, FromInt.
  Walks: package integer: FromInt, Shift, DivMod, Sqrt.
  Walks: package integer: DivMod, Sqrt.
-/
import Derived.Test.YtablcbgeeeboeaaGreatDoorZhBc
import Derived.Deep.RegionHeld3
set_option maxRecDepth 100000
set_option maxHeartbeats 2000000
namespace Go.Proofs.YtablcbgeeeboeaaGreatDoor
open Go.RowKit Sp
def sgn (s : Bool) (x : Nat) : Int := if s then -(x : Int) else x
theorem zAb (s : Bool) (x : Nat) : (sgn s x).natAbs = x := by cases s <;> simp [sgn]
theorem zFN (s : Bool) (x : Nat) : decide (sgn s x < 0) = (s && decide (0 < x)) := by
 cases s <;> simp [sgn] <;> omega
theorem zAg (z : Int) : sgn (decide (z < 0)) z.natAbs = z := by
 unfold sgn; by_cases h : z < 0 <;> simp [h] <;> omega
def zAj (w : World) (z : Int) (e : Ending) (w' : World) : Prop :=
 ∃ a cap, e = .returned (.agg #[.bool (decide (z < 0)), .slice a (nl z.natAbs) cap]) ∧ Mag w' a (nl z.natAbs) cap z.natAbs ∧ Below w.heap.size w w' ∧ (0 < nl z.natAbs → w.heap.size ≤ ab a)
def zO3 (w : World) (s : Bool) (a : Option Addr) (x : Nat) (e : Ending) (w' : World) : Prop :=
 ∃ a' cap, e = .returned (.agg #[.bool (s && decide (0 < x)), .slice a' (nl x) cap]) ∧ Mag w' a' (nl x) cap x ∧ Below w.heap.size w w' ∧ (0 < nl x → a' = a)
theorem zA0 {w W w2 : World} (h0 : Below w.heap.size w W) (hb : Below W.heap.size W w2) : Below w.heap.size w w2 := h0.trans (hb.mono h0.size)
theorem zBg (w : World) (s : Bool) (a : Option Addr) (n cap x : Nat) (hx : Mag w a n cap x) :
 Calls Tryz.prog 151 #[.bool s, .slice a n cap] w (zO3 w s a x) := by
 have hba : Below w.heap.size w (w.alloc (.cells #[.bool false, .slice none 0 0] 44)) := (Below.refl _ _).alloc (Nat.le_refl _) _
 by_cases hx0 : x = 0
 · subst hx0
   have hnl := zGS
   go_enter Tryz.func151, Tryz.ntmps151
   go_wp2_with (go_at_call 150; refine (zAd _ _ _ _ _ (hx.below hba)).mono ?_; rintro e w' ⟨rfl, rfl⟩)
   refine bodyPost_ret (v := .agg #[.bool false, .slice none 0 0]) (by simp [results, Tryz.results151, go_sem]) rfl ?_
   exact ⟨none, 0, by cases s <;> rfl, Mag.nil _, hba, fun h => absurd h (by decide)⟩
 · have hn0 : ((nl x : Nat) : Int) ≠ 0 := by
    have := zBB (Nat.pos_of_ne_zero hx0); omega
   have hn1 : (((nl x : Nat) : Int) == 0) = false := by rw [beq_eq_false_iff_ne]; exact hn0
   clear hn0
   have hm := hx.below hba
   go_enter Tryz.func151, Tryz.ntmps151
   go_wp2_with (go_at_call 150; refine (zAd _ _ _ _ _ hm).mono ?_; rintro e w' ⟨rfl, rfl⟩)
   refine bodyPost_ret (v := .agg #[.bool s, .slice a (nl x) cap]) (by simp [results, Tryz.results151, go_sem]) rfl ?_
   refine ⟨a, cap, ?_, ?_, (Below.refl _ _).alloc (Nat.le_refl _) _, fun _ => rfl⟩
   · rw [decide_eq_true (Nat.pos_of_ne_zero hx0), Bool.and_true]
   · exact (hx.below ((Below.refl _ _).alloc (Nat.le_refl _) _)).trim
theorem zDW (w : World) (s : Bool) (a : Option Addr) (n cap x : Nat) (hx : Mag w a n cap x) (hlim : n ≤ 1099511627776) :
 Calls Tryz.prog 146 #[.agg #[.bool s, .slice a n cap]] w (zAj w (sgn s x)) := by
 go_enter Tryz.func146, Tryz.ntmps146
 go_wp2_with fail
 go_region_held3 (fun w' => w'.cell? ⟨w.heap.size, 0, none⟩ = some (.bool s) ∧ w'.cell? ⟨w.heap.size, 1, none⟩ = some (.slice a n cap)) (first | go_keep)
  (first | (go_at_call 156; refine (zDl _ _ _ _ _ (hx.below (by repeat (first | exact Below.refl _ _ | refine Below.drew ?_ | refine Below.alloc ?_ (by simp) _))) hlim).mono ?_; rintro e w1 ⟨a1, c1, rfl, hm1, hb1, hf1⟩; obtain ⟨hc1, hz1⟩ := zA8 (hb1.mono (show w.heap.size + 2 ≤ _ by simp))) | (go_at_call 151; refine (zBg _ _ _ _ _ _ hm1).mono ?_; rintro e w2 ⟨a2, c2, rfl, hm2, hb2, hf2⟩; have hb := hb1.trans (hb2.mono hb1.size); obtain ⟨hc2, hz2⟩ := zA8 (hb.mono (show w.heap.size + 2 ≤ _ by simp))))
 go_wp2_with fail
 refine bodyPost_ret (v := .agg #[.bool (s && decide (0 < x)), .slice a2 (nl x) c2]) (by simp [results, Tryz.results146, go_sem, hc2]) rfl ?_
 rw [← zFN]
 unfold zAj
 rw [zAb]
 have hfr : 0 < nl x → w.heap.size + 2 ≤ ab a2 := fun h => by
  rw [hf2 h]
  have h2 : 0 < n := Nat.lt_of_lt_of_le h (zAB hx.lt)
  have := hf1 h2
  simpa using this
 exact ⟨a2, c2, rfl, (hm2.set (fun h => by have := hfr h; omega) _ _).set (fun h => by have := hfr h; omega) _ _, ((zA0 (by repeat (first | exact Below.refl _ _ | refine Below.drew ?_ | refine Below.alloc ?_ (by simp) _)) hb).setCell (by simp) _).setCell (by simp) _, fun h => by have := hfr h; omega⟩
theorem zBV {w w2 : World} {z : Int} {a2 : Option Addr} {c2 g : Nat} {u u' : Value} (hm : Mag w2 a2 (nl z.natAbs) c2 z.natAbs) (hfr : 0 < nl z.natAbs → g < ab a2) (hb : Below w.heap.size w w2) (hg : w.heap.size ≤ g) :
 zAj w z (.returned (.agg #[.bool (decide (z < 0)), .slice a2 (nl z.natAbs) c2])) ((w2.setCell ⟨g, 0, none⟩ u).setCell ⟨g, 1, none⟩ u') :=
 ⟨a2, c2, rfl, (hm.set (fun h => by have := hfr h; omega) _ _).set (fun h => by have := hfr h; omega) _ _, (hb.setCell hg _).setCell hg _, fun h => by have := hfr h; omega⟩
theorem zBU {w w2 : World} {s : Bool} {x : Nat} {a2 : Option Addr} {c2 g : Nat} {u u' : Value} (hm : Mag w2 a2 (nl x) c2 x) (hfr : 0 < nl x → g < ab a2) (hb : Below w.heap.size w w2) (hg : w.heap.size ≤ g) :
 zAj w (sgn s x) (.returned (.agg #[.bool (s && decide (0 < x)), .slice a2 (nl x) c2])) ((w2.setCell ⟨g, 0, none⟩ u).setCell ⟨g, 1, none⟩ u') := by
 rw [← zFN]
 have e := zAb s x
 have := @zBV w w2 (sgn s x) a2 c2 g u u'
 rw [e] at this
 exact this hm hfr hb hg
theorem zNq (w : World) (s : Bool) (a : Option Addr) (n cap x : Nat) (hx : Mag w a n cap x) (hlim : n ≤ 1099511627776) :
 Calls Tryz.prog 128 #[.agg #[.bool s, .slice a n cap]] w (zAj w (sgn (!s) x)) := by
 go_enter Tryz.func128, Tryz.ntmps128
 go_wp2_with fail
 go_region_held3 (fun w' => w'.cell? ⟨w.heap.size, 0, none⟩ = some (.bool s) ∧ w'.cell? ⟨w.heap.size, 1, none⟩ = some (.slice a n cap)) (first | go_keep)
  (first | (go_at_call 156; refine (zDl _ _ _ _ _ (hx.below (by repeat (first | exact Below.refl _ _ | refine Below.drew ?_ | refine below_drewN ?_ _ | refine Below.alloc ?_ (by simp <;> omega) _ | refine Below.setCell ?_ (by simp <;> omega) _))) hlim).mono ?_; rintro e w1 ⟨a1, c1, rfl, hm1, hb1, hf1⟩; obtain ⟨hc1, hz1⟩ := zA8 (hb1.mono (show w.heap.size + 2 ≤ _ by simp))) | (go_at_call 151; refine (zBg _ _ _ _ _ _ hm1).mono ?_; rintro e w2 ⟨a2, c2, rfl, hm2, hb2, hf2⟩; have hb := hb1.trans (hb2.mono hb1.size); obtain ⟨hc2, hz2⟩ := zA8 (hb.mono (show w.heap.size + 2 ≤ _ by simp))))
 go_wp2_with fail
 refine bodyPost_ret (v := .agg #[.bool (!s && decide (0 < x)), .slice a2 (nl x) c2]) (by simp [results, Tryz.results128, go_sem, hc2]) rfl ?_
 refine zBU hm2 (fun h => ?_) (zA0 (by repeat (first | exact Below.refl _ _ | refine Below.drew ?_ | refine below_drewN ?_ _ | refine Below.alloc ?_ (by simp <;> omega) _ | refine Below.setCell ?_ (by simp <;> omega) _)) hb) (by omega)
 rw [hf2 h]
 have := hf1 (Nat.lt_of_lt_of_le h (zAB hx.lt))
 simp at this; omega
theorem zO1 (w : World) (s : Bool) (a : Option Addr) (n cap x : Nat) (hx : Mag w a n cap x) (hlim : n ≤ 1099511627776) :
 Calls Tryz.prog 159 #[.agg #[.bool s, .slice a n cap]] w (zAj w (sgn false x)) := by
 go_enter Tryz.func159, Tryz.ntmps159
 go_wp2_with fail
 refine (zDl _ _ _ _ _ (hx.below (by repeat (first | exact Below.refl _ _ | refine Below.drew ?_ | refine below_drewN ?_ _ | refine Below.alloc ?_ (by simp <;> omega) _ | refine Below.setCell ?_ (by simp <;> omega) _))) hlim).mono ?_
 rintro e w1 ⟨a1, c1, rfl, hm1, hb1, hf1⟩
 go_wp2_with fail
 refine (zBg _ _ _ _ _ _ hm1).mono ?_
 rintro e w2 ⟨a2, c2, rfl, hm2, hb2, hf2⟩
 have hb := hb1.trans (hb2.mono hb1.size)
 obtain ⟨hc2, hz2⟩ := zA8 (hb.mono (show w.heap.size + 2 ≤ _ by simp))
 go_wp2_with fail
 refine bodyPost_ret (v := .agg #[.bool (false && decide (0 < x)), .slice a2 (nl x) c2]) (by simp [results, Tryz.results159, go_sem, hc2]) rfl ?_
 refine zBU hm2 (fun h => ?_) (zA0 (by repeat (first | exact Below.refl _ _ | refine Below.drew ?_ | refine below_drewN ?_ _ | refine Below.alloc ?_ (by simp <;> omega) _ | refine Below.setCell ?_ (by simp <;> omega) _)) hb) (by omega)
 rw [hf2 h]
 have := hf1 (Nat.lt_of_lt_of_le h (zAB hx.lt))
 simp at this; omega
def sg (z : Int) : Int := zAr z 0
theorem zJl {z : Int} (h : z < 0) : sg z = -1 := zAT h
theorem zN7 : sg 0 = 0 := zBZ rfl
theorem zFR {z : Int} (h : 0 < z) : sg z = 1 := zB1 h
theorem zDQ (w : World) (s : Bool) (a : Option Addr) (n cap x : Nat) (hx : Mag w a n cap x) :
 Calls Tryz.prog 138 #[.agg #[.bool s, .slice a n cap]] w fun e w' => e = .returned (.int .i64 (sg (sgn s x))) ∧ Below w.heap.size w w' := by
 by_cases hx0 : x = 0
 · subst hx0
   have hnl := zGS
   have e : sg (sgn s 0) = 0 := by cases s <;> rfl
   rw [e]
   go_enter Tryz.func138, Tryz.ntmps138
   go_wp2_with (go_at_call 150; refine (zAd _ _ _ _ _ (hx.below (by repeat (first | exact Below.refl _ _ | refine Below.drew ?_ | refine below_drewN ?_ _ | refine Below.alloc ?_ (by simp <;> omega) _ | refine Below.setCell ?_ (by simp <;> omega) _)))).mono ?_; rintro e w' ⟨rfl, rfl⟩)
   go_ret
   exact ⟨rfl, (by repeat (first | exact Below.refl _ _ | refine Below.drew ?_ | refine below_drewN ?_ _ | refine Below.alloc ?_ (by simp <;> omega) _ | refine Below.setCell ?_ (by simp <;> omega) _))⟩
 · have hn0 : ((nl x : Nat) : Int) ≠ 0 := by
    have := zBB (Nat.pos_of_ne_zero hx0); omega
   have hn1 : (((nl x : Nat) : Int) == 0) = false := by rw [beq_eq_false_iff_ne]; exact hn0
   clear hn0
   cases s
   · rw [show sg (sgn false x) = 1 from zFR (by simp [sgn]; omega)]
     go_enter Tryz.func138, Tryz.ntmps138
     go_wp2_with (go_at_call 150; refine (zAd _ _ _ _ _ (hx.below (by repeat (first | exact Below.refl _ _ | refine Below.drew ?_ | refine below_drewN ?_ _ | refine Below.alloc ?_ (by simp <;> omega) _ | refine Below.setCell ?_ (by simp <;> omega) _)))).mono ?_; rintro e w' ⟨rfl, rfl⟩)
     go_ret
     exact ⟨rfl, (by repeat (first | exact Below.refl _ _ | refine Below.drew ?_ | refine below_drewN ?_ _ | refine Below.alloc ?_ (by simp <;> omega) _ | refine Below.setCell ?_ (by simp <;> omega) _))⟩
   · rw [show sg (sgn true x) = -1 from zJl (by simp [sgn]; omega)]
     go_enter Tryz.func138, Tryz.ntmps138
     go_wp2_with (go_at_call 150; refine (zAd _ _ _ _ _ (hx.below (by repeat (first | exact Below.refl _ _ | refine Below.drew ?_ | refine below_drewN ?_ _ | refine Below.alloc ?_ (by simp <;> omega) _ | refine Below.setCell ?_ (by simp <;> omega) _)))).mono ?_; rintro e w' ⟨rfl, rfl⟩)
     go_ret
     exact ⟨rfl, (by repeat (first | exact Below.refl _ _ | refine Below.drew ?_ | refine below_drewN ?_ _ | refine Below.alloc ?_ (by simp <;> omega) _ | refine Below.setCell ?_ (by simp <;> omega) _))⟩
theorem zCO (w : World) (s : Bool) (a : Option Addr) (n cap x : Nat) (hx : Mag w a n cap x) (hlim : n ≤ 1099511627776) :
 Calls Tryz.prog 148 #[.agg #[.bool s, .slice a n cap]] w fun e w' => e = .returned (.int .i64 (zA4 x)) ∧ Below w.heap.size w w' := by
 have hnl := zAB hx.lt
 go_enter Tryz.func148, Tryz.ntmps148
 go_wp2_with (first | (go_at_call 150; refine (zAd _ _ _ _ _ (hx.below (by repeat (first | exact Below.refl _ _ | refine Below.drew ?_ | refine below_drewN ?_ _ | refine Below.alloc ?_ (by simp <;> omega) _ | refine Below.setCell ?_ (by simp <;> omega) _)))).mono ?_; rintro e w' ⟨rfl, rfl⟩) | (go_at_call 174; refine (zEO _ _ _ _ _ (hx.below (by repeat (first | exact Below.refl _ _ | refine Below.drew ?_ | refine below_drewN ?_ _ | refine Below.alloc ?_ (by simp <;> omega) _ | refine Below.setCell ?_ (by simp <;> omega) _))).trim rfl (by omega)).mono ?_; rintro e w' ⟨rfl, rfl⟩))
 go_ret
 exact ⟨rfl, (by repeat (first | exact Below.refl _ _ | refine Below.drew ?_ | refine below_drewN ?_ _ | refine Below.alloc ?_ (by simp <;> omega) _ | refine Below.setCell ?_ (by simp <;> omega) _))⟩
theorem zFP (s : Bool) (x y : Nat) : sgn s (x + y) = sgn s x + sgn s y := by cases s <;> simp [sgn] <;> omega
theorem zMw (w : World) (s : Bool) (a a' : Option Addr) (n m cap cap' x y : Nat) (hx : Mag w a n cap x) (hy : Mag w a' m cap' y) (hn : n ≤ 1099511627776) (hm : m ≤ 1099511627776) :
 Calls Tryz.prog 123 #[.agg #[.bool s, .slice a n cap], .agg #[.bool s, .slice a' m cap']] w (zAj w (sgn s x + sgn s y)) := by
 rw [← zFP]
 have nx := zAB hx.lt
 have ny := zAB hy.lt
 have hbs : (s == s) = true := by simp
 have e2 : ¬ w.heap.size + 1 + 1 = w.heap.size := by omega
 go_enter Tryz.func123, Tryz.ntmps123
 go_wp2_with fail
 go_quiet ((go_at_call 150; first | exact zDa (may (zAd _ _ _ _ _ (hx.below (by repeat (first | exact Below.refl _ _ | refine Below.drew ?_ | refine below_drewN ?_ _ | refine Below.alloc ?_ (by simp <;> omega) _ | refine Below.setCell ?_ (by simp <;> omega) _))))) | exact zDa (may (zAd _ _ _ _ _ (hy.below (by repeat (first | exact Below.refl _ _ | refine Below.drew ?_ | refine below_drewN ?_ _ | refine Below.alloc ?_ (by simp <;> omega) _ | refine Below.setCell ?_ (by simp <;> omega) _))))) | exact zFg (may (zAd _ _ _ _ _ (hx.below (by repeat (first | exact Below.refl _ _ | refine Below.drew ?_ | refine below_drewN ?_ _ | refine Below.alloc ?_ (by simp <;> omega) _ | refine Below.setCell ?_ (by simp <;> omega) _))))) | exact zFg (may (zAd _ _ _ _ _ (hy.below (by repeat (first | exact Below.refl _ _ | refine Below.drew ?_ | refine below_drewN ?_ _ | refine Below.alloc ?_ (by simp <;> omega) _ | refine Below.setCell ?_ (by simp <;> omega) _)))))))
 go_wp2_with fail
 go_region_held3 (fun w' => w'.cell? ⟨w.heap.size, 0, none⟩ = some (.bool s)) (first | go_keep)
  (first | (go_at_call 152; refine (zFh _ _ _ _ _ _ _ _ _ (hx.below (by repeat (first | exact Below.refl _ _ | refine Below.drew ?_ | refine below_drewN ?_ _ | refine Below.alloc ?_ (by simp <;> omega) _ | refine Below.setCell ?_ (by simp <;> omega) _))).trim (hy.below (by repeat (first | exact Below.refl _ _ | refine Below.drew ?_ | refine below_drewN ?_ _ | refine Below.alloc ?_ (by simp <;> omega) _ | refine Below.setCell ?_ (by simp <;> omega) _))).trim (by omega) (by omega)).mono ?_; rintro e w1 ⟨a1, c1, rfl, hm1, hb1, hf1⟩; obtain ⟨hc1, hz1⟩ := zA8 (hb1.mono (show w.heap.size + 3 ≤ _ by simp))) | (go_at_call 151; refine (zBg _ _ _ _ _ _ hm1).mono ?_; rintro e w2 ⟨a2, c2, rfl, hm2, hb2, hf2⟩; have hb := hb1.trans (hb2.mono hb1.size); obtain ⟨hc2, hz2⟩ := zA8 (hb.mono (show w.heap.size + 3 ≤ _ by simp))))
 go_wp2_with fail
 refine bodyPost_ret (v := .agg #[.bool (s && decide (0 < x + y)), .slice a2 (nl (x + y)) c2]) (by simp [results, Tryz.results123, go_sem, hc2]) rfl ?_
 refine zBU hm2 (fun h => ?_) (zA0 (by repeat (first | exact Below.refl _ _ | refine Below.drew ?_ | refine below_drewN ?_ _ | refine Below.alloc ?_ (by simp <;> omega) _ | refine Below.setCell ?_ (by simp <;> omega) _)) hb) (by omega)
 rw [hf2 h]
 have := hf1 h
 simp at this; omega
theorem zFQ (s : Bool) (x y d : Nat) (h : y + d = x) : sgn s d = sgn s x + sgn (!s) y := by subst h; cases s <;> simp [sgn] <;> omega
theorem zF8 (s : Bool) (x y d : Nat) (h : x + d = y) : sgn (!s) d = sgn s x + sgn (!s) y := by subst h; cases s <;> simp [sgn] <;> omega
theorem zOZ (w : World) (s t : Bool) (a a' : Option Addr) (n m cap cap' x y d : Nat) (hst : (s == t) = false) (hx : Mag w a n cap x) (hy : Mag w a' m cap' y) (hd : y + d = x) (hn : n ≤ 1099511627776) :
 Calls Tryz.prog 123 #[.agg #[.bool s, .slice a n cap], .agg #[.bool t, .slice a' m cap']] w (zAj w (sgn s d)) := by
 have nx := zAB hx.lt
 have ny := zAB hy.lt
 obtain ⟨k, hk, hk0⟩ : ∃ k : Int, zAr x y = k ∧ 0 ≤ k := ⟨_, rfl, zBw (by omega)⟩
 have HK := Lib.hid hk
 have HD := Lib.hid hd
 clear hk hd
 have e2 : ¬ w.heap.size + 1 + 1 = w.heap.size := by omega
 go_enter Tryz.func123, Tryz.ntmps123
 go_wp2_with fail
 go_quiet ((go_at_call 150; first | exact zDa (may (zAd _ _ _ _ _ (hx.below (by repeat (first | exact Below.refl _ _ | refine Below.drew ?_ | refine below_drewN ?_ _ | refine Below.alloc ?_ (by simp <;> omega) _ | refine Below.setCell ?_ (by simp <;> omega) _))))) | exact zDa (may (zAd _ _ _ _ _ (hy.below (by repeat (first | exact Below.refl _ _ | refine Below.drew ?_ | refine below_drewN ?_ _ | refine Below.alloc ?_ (by simp <;> omega) _ | refine Below.setCell ?_ (by simp <;> omega) _))))) | exact zFg (may (zAd _ _ _ _ _ (hx.below (by repeat (first | exact Below.refl _ _ | refine Below.drew ?_ | refine below_drewN ?_ _ | refine Below.alloc ?_ (by simp <;> omega) _ | refine Below.setCell ?_ (by simp <;> omega) _))))) | exact zFg (may (zAd _ _ _ _ _ (hy.below (by repeat (first | exact Below.refl _ _ | refine Below.drew ?_ | refine below_drewN ?_ _ | refine Below.alloc ?_ (by simp <;> omega) _ | refine Below.setCell ?_ (by simp <;> omega) _)))))))
 go_wp2_with fail
 refine (zBf _ _ _ _ _ _ _ _ _ (hx.below (by repeat (first | exact Below.refl _ _ | refine Below.drew ?_ | refine below_drewN ?_ _ | refine Below.alloc ?_ (by simp <;> omega) _ | refine Below.setCell ?_ (by simp <;> omega) _))).trim (hy.below (by repeat (first | exact Below.refl _ _ | refine Below.drew ?_ | refine below_drewN ?_ _ | refine Below.alloc ?_ (by simp <;> omega) _ | refine Below.setCell ?_ (by simp <;> omega) _))).trim rfl rfl).mono ?_
 rintro e w0 ⟨rfl, q, rfl⟩
 rw [HK.out]
 go_wp2_with fail
 go_region_held3 (fun w' => w'.cell? ⟨w.heap.size, 0, none⟩ = some (.bool s)) (first | go_keep)
  (first | (go_at_call 154; refine (zGj _ _ _ _ _ _ _ _ _ _ (hx.below (by repeat (first | exact Below.refl _ _ | refine Below.drew ?_ | refine below_drewN ?_ _ | refine Below.alloc ?_ (by simp <;> omega) _ | refine Below.setCell ?_ (by simp <;> omega) _))).trim (hy.below (by repeat (first | exact Below.refl _ _ | refine Below.drew ?_ | refine below_drewN ?_ _ | refine Below.alloc ?_ (by simp <;> omega) _ | refine Below.setCell ?_ (by simp <;> omega) _))).trim HD.out (by omega)).mono ?_; rintro e w1 ⟨a1, c1, rfl, hm1, hb1, hf1⟩; obtain ⟨hc1, hz1⟩ := zA8 (hb1.mono (show w.heap.size + 3 ≤ _ by simp))) | (go_at_call 151; refine (zBg _ _ _ _ _ _ hm1).mono ?_; rintro e w2 ⟨a2, c2, rfl, hm2, hb2, hf2⟩; have hb := hb1.trans (hb2.mono hb1.size); obtain ⟨hc2, hz2⟩ := zA8 (hb.mono (show w.heap.size + 3 ≤ _ by simp))))
 go_wp2_with fail
 refine bodyPost_ret (v := .agg #[.bool (s && decide (0 < d)), .slice a2 (nl d) c2]) (by simp [results, Tryz.results123, go_sem, hc2]) rfl ?_
 refine zBU hm2 (fun h => ?_) (zA0 (by repeat (first | exact Below.refl _ _ | refine Below.drew ?_ | refine below_drewN ?_ _ | refine Below.alloc ?_ (by simp <;> omega) _ | refine Below.setCell ?_ (by simp <;> omega) _)) hb) (by omega)
 rw [hf2 h]
 have := hf1 h
 simp at this; omega
theorem add_lt (w : World) (s t : Bool) (a a' : Option Addr) (n m cap cap' x y d : Nat) (hst : (s == t) = false) (hx : Mag w a n cap x) (hy : Mag w a' m cap' y) (hd : x + d = y) (hd0 : 0 < d) (hm : m ≤ 1099511627776) :
 Calls Tryz.prog 123 #[.agg #[.bool s, .slice a n cap], .agg #[.bool t, .slice a' m cap']] w (zAj w (sgn t d)) := by
 have nx := zAB hx.lt
 have ny := zAB hy.lt
 have HK := Lib.hid (zAT (m := (x : Int)) (n := (y : Int)) (by omega))
 clear hd0
 have HD := Lib.hid hd
 clear hd
 have e2 : ¬ w.heap.size + 1 + 1 = w.heap.size := by omega
 go_enter Tryz.func123, Tryz.ntmps123
 go_wp2_with fail
 go_quiet ((go_at_call 150; first | exact zDa (may (zAd _ _ _ _ _ (hx.below (by repeat (first | exact Below.refl _ _ | refine Below.drew ?_ | refine below_drewN ?_ _ | refine Below.alloc ?_ (by simp <;> omega) _ | refine Below.setCell ?_ (by simp <;> omega) _))))) | exact zDa (may (zAd _ _ _ _ _ (hy.below (by repeat (first | exact Below.refl _ _ | refine Below.drew ?_ | refine below_drewN ?_ _ | refine Below.alloc ?_ (by simp <;> omega) _ | refine Below.setCell ?_ (by simp <;> omega) _))))) | exact zFg (may (zAd _ _ _ _ _ (hx.below (by repeat (first | exact Below.refl _ _ | refine Below.drew ?_ | refine below_drewN ?_ _ | refine Below.alloc ?_ (by simp <;> omega) _ | refine Below.setCell ?_ (by simp <;> omega) _))))) | exact zFg (may (zAd _ _ _ _ _ (hy.below (by repeat (first | exact Below.refl _ _ | refine Below.drew ?_ | refine below_drewN ?_ _ | refine Below.alloc ?_ (by simp <;> omega) _ | refine Below.setCell ?_ (by simp <;> omega) _)))))))
 go_wp2_with fail
 refine (zBf _ _ _ _ _ _ _ _ _ (hx.below (by repeat (first | exact Below.refl _ _ | refine Below.drew ?_ | refine below_drewN ?_ _ | refine Below.alloc ?_ (by simp <;> omega) _ | refine Below.setCell ?_ (by simp <;> omega) _))).trim (hy.below (by repeat (first | exact Below.refl _ _ | refine Below.drew ?_ | refine below_drewN ?_ _ | refine Below.alloc ?_ (by simp <;> omega) _ | refine Below.setCell ?_ (by simp <;> omega) _))).trim rfl rfl).mono ?_
 rintro e w0 ⟨rfl, q, rfl⟩
 rw [HK.out]
 go_wp2_with fail
 go_region_held3 (fun w' => w'.cell? ⟨w.heap.size + 1, 0, none⟩ = some (.bool t)) (first | go_keep)
  (first | (go_at_call 154; refine (zGj _ _ _ _ _ _ _ _ _ _ (hy.below (by repeat (first | exact Below.refl _ _ | refine Below.drew ?_ | refine below_drewN ?_ _ | refine Below.alloc ?_ (by simp <;> omega) _ | refine Below.setCell ?_ (by simp <;> omega) _))).trim (hx.below (by repeat (first | exact Below.refl _ _ | refine Below.drew ?_ | refine below_drewN ?_ _ | refine Below.alloc ?_ (by simp <;> omega) _ | refine Below.setCell ?_ (by simp <;> omega) _))).trim HD.out (by omega)).mono ?_; rintro e w1 ⟨a1, c1, rfl, hm1, hb1, hf1⟩; obtain ⟨hc1, hz1⟩ := zA8 (hb1.mono (show w.heap.size + 3 ≤ _ by simp))) | (go_at_call 151; refine (zBg _ _ _ _ _ _ hm1).mono ?_; rintro e w2 ⟨a2, c2, rfl, hm2, hb2, hf2⟩; have hb := hb1.trans (hb2.mono hb1.size); obtain ⟨hc2, hz2⟩ := zA8 (hb.mono (show w.heap.size + 3 ≤ _ by simp))))
 go_wp2_with fail
 refine bodyPost_ret (v := .agg #[.bool (t && decide (0 < d)), .slice a2 (nl d) c2]) (by simp [results, Tryz.results123, go_sem, hc2]) rfl ?_
 refine zBU hm2 (fun h => ?_) (zA0 (by repeat (first | exact Below.refl _ _ | refine Below.drew ?_ | refine below_drewN ?_ _ | refine Below.alloc ?_ (by simp <;> omega) _ | refine Below.setCell ?_ (by simp <;> omega) _)) hb) (by omega)
 rw [hf2 h]
 have := hf1 h
 simp at this; omega
theorem zLb (w : World) (s t : Bool) (a a' : Option Addr) (n m cap cap' x y : Nat) (hx : Mag w a n cap x) (hy : Mag w a' m cap' y) (hn : n ≤ 1099511627776) (hm : m ≤ 1099511627776) :
 Calls Tryz.prog 123 #[.agg #[.bool s, .slice a n cap], .agg #[.bool t, .slice a' m cap']] w (zAj w (sgn s x + sgn t y)) := by
 by_cases hst : s = t
 · subst hst; exact zMw w s a a' n m cap cap' x y hx hy hn hm
 · have ht : t = !s := by cases s <;> cases t <;> simp_all
   subst ht
   have hst' : (s == !s) = false := by cases s <;> rfl
   rcases Nat.lt_or_ge x y with h | h
   · rw [← zF8 s x y (y - x) (by omega)]
     exact add_lt w s (!s) a a' n m cap cap' x y (y - x) hst' hx hy (by omega) (by omega) hm
   · rw [← zFQ s x y (x - y) (by omega)]
     exact zOZ w s (!s) a a' n m cap cap' x y (x - y) hst' hx hy (by omega) hn
theorem zJk (s t : Bool) (x y : Nat) : sgn (s != t) (x * y) = sgn s x * sgn t y := by
 cases s <;> cases t <;> simp [sgn, Int.neg_mul, Int.mul_neg]
theorem zGI (s : Bool) (x : Nat) : sgn (!s) x = -sgn s x := by cases s <;> simp [sgn]
theorem zN4 (w : World) (s t : Bool) (a a' : Option Addr) (n m cap cap' x y : Nat) (hx : Mag w a n cap x) (hy : Mag w a' m cap' y) (hn : n ≤ 1099511627776) (hm : m ≤ 1099511627776) :
 Calls Tryz.prog 187 #[.agg #[.bool s, .slice a n cap], .agg #[.bool t, .slice a' m cap']] w (zAj w (sgn s x - sgn t y)) := by
 rw [Int.sub_eq_add_neg, ← zGI]
 have e2 : ¬ w.heap.size + 1 + 1 = w.heap.size := by omega
 go_enter Tryz.func187, Tryz.ntmps187
 go_wp2_with fail
 refine (zLb _ _ _ _ _ _ _ _ _ _ _ (hx.below (by repeat (first | exact Below.refl _ _ | refine Below.drew ?_ | refine below_drewN ?_ _ | refine Below.alloc ?_ (by simp <;> omega) _ | refine Below.setCell ?_ (by simp <;> omega) _))) (hy.below (by repeat (first | exact Below.refl _ _ | refine Below.drew ?_ | refine below_drewN ?_ _ | refine Below.alloc ?_ (by simp <;> omega) _ | refine Below.setCell ?_ (by simp <;> omega) _))) hn hm).mono ?_
 rintro e w1 ⟨a2, c2, rfl, hm2, hb, hf2⟩
 obtain ⟨hc2, hz2⟩ := zA8 (hb.mono (show w.heap.size + 3 ≤ _ by simp))
 go_wp2_with fail
 obtain ⟨z, hz⟩ : ∃ z, z = sgn s x + sgn (!t) y := ⟨_, rfl⟩
 rw [← hz] at hm2 hf2 ⊢
 refine bodyPost_ret (v := .agg #[.bool (decide (z < 0)), .slice a2 (nl z.natAbs) c2]) (by simp [results, Tryz.results187, go_sem, hc2]) rfl ?_
 refine zBV hm2 (fun h => ?_) (zA0 (by repeat (first | exact Below.refl _ _ | refine Below.drew ?_ | refine below_drewN ?_ _ | refine Below.alloc ?_ (by simp <;> omega) _ | refine Below.setCell ?_ (by simp <;> omega) _)) hb) (by omega)
 have := hf2 h
 simp at this; omega
theorem zNr (w : World) (s t : Bool) (a a' : Option Addr) (n m cap cap' x y : Nat) (hx : Mag w a n cap x) (hy : Mag w a' m cap' y) (hn : n ≤ 1099511627776) (hm : m ≤ 1099511627776) :
 Calls Tryz.prog 125 #[.agg #[.bool s, .slice a n cap], .agg #[.bool t, .slice a' m cap']] w (zAj w (sgn s x * sgn t y)) := by
 rw [← zJk]
 have nx := zAB hx.lt
 have ny := zAB hy.lt
 have e2 : ¬ w.heap.size + 1 + 1 = w.heap.size := by omega
 go_enter Tryz.func125, Tryz.ntmps125
 go_wp2_with fail
 go_region_held3 (fun w' => w'.cell? ⟨w.heap.size, 0, none⟩ = some (.bool s) ∧ w'.cell? ⟨w.heap.size + 1, 0, none⟩ = some (.bool t) ∧ w'.cell? ⟨w.heap.size, 1, none⟩ = some (.slice a n cap) ∧ w'.cell? ⟨w.heap.size + 1, 1, none⟩ = some (.slice a' m cap')) (first | go_keep)
  (first | (go_at_call_of 150 (Value.slice a n cap); refine (zAd _ _ _ _ _ (hx.below (by repeat (first | exact Below.refl _ _ | refine Below.drew ?_ | refine below_drewN ?_ _ | refine Below.alloc ?_ (by simp <;> omega) _ | refine Below.setCell ?_ (by simp <;> omega) _)))).mono ?_; rintro e w' ⟨rfl, rfl⟩) | (go_at_call_of 150 (Value.slice a' m cap'); refine (zAd _ _ _ _ _ (hy.below (by repeat (first | exact Below.refl _ _ | refine Below.drew ?_ | refine below_drewN ?_ _ | refine Below.alloc ?_ (by simp <;> omega) _ | refine Below.setCell ?_ (by simp <;> omega) _)))).mono ?_; rintro e w' ⟨rfl, rfl⟩) | (first | (go_at_call 155; refine (zJ8 _ _ _ _ _ _ _ _ _ (hx.below (by repeat (first | exact Below.refl _ _ | refine Below.drew ?_ | refine below_drewN ?_ _ | refine Below.alloc ?_ (by simp <;> omega) _ | refine Below.setCell ?_ (by simp <;> omega) _))).trim (hy.below (by repeat (first | exact Below.refl _ _ | refine Below.drew ?_ | refine below_drewN ?_ _ | refine Below.alloc ?_ (by simp <;> omega) _ | refine Below.setCell ?_ (by simp <;> omega) _))).trim (by omega) (by omega)).mono ?_; rintro e w1 ⟨a1, c1, rfl, hm1, hb1, hf1⟩; obtain ⟨hc1, hz1⟩ := zA8 (hb1.mono (show w.heap.size + 3 ≤ _ by simp))) | (go_at_call 151; refine (zBg _ _ _ _ _ _ hm1).mono ?_; rintro e w2 ⟨a2, c2, rfl, hm2, hb2, hf2⟩; have hb := hb1.trans (hb2.mono hb1.size); obtain ⟨hc2, hz2⟩ := zA8 (hb.mono (show w.heap.size + 3 ≤ _ by simp)))))
 go_wp2_with fail
 refine bodyPost_ret (v := .agg #[.bool ((s != t) && decide (0 < x * y)), .slice a2 (nl (x * y)) c2]) (by simp [results, Tryz.results125, go_sem, hc2]; cases s <;> cases t <;> rfl) rfl ?_
 refine zBU hm2 (fun h => ?_) (zA0 (by repeat (first | exact Below.refl _ _ | refine Below.drew ?_ | refine below_drewN ?_ _ | refine Below.alloc ?_ (by simp <;> omega) _ | refine Below.setCell ?_ (by simp <;> omega) _)) hb) (by omega)
 rw [hf2 h]
 have := hf1 h
 simp at this; omega
theorem zMp (w : World) (s t : Bool) (a a' : Option Addr) (n m cap cap' x y : Nat) (p q : Int) (hx : Mag w a n cap x) (hy : Mag w a' m cap' y) (hp : sg (sgn s x) = p) (hq : sg (sgn t y) = q) (hp1 : -1 ≤ p ∧ p ≤ 1) (hpq : p < q ∨ q < p ∨ (p = -1 ∧ q = -1) ∨ (p = 0 ∧ q = 0) ∨ (p = 1 ∧ q = 1)) (r : Int) (hr : r = if p < q then -1 else if q < p then 1 else p * zAr x y) :
 Calls Tryz.prog 133 #[.agg #[.bool s, .slice a n cap], .agg #[.bool t, .slice a' m cap']] w fun e w' => e = .returned (.int .i64 r) ∧ Below w.heap.size w w' := by
 have HS := fun W h => Lib.hid (zDQ W s a n cap x h)
 have HT := fun W h => Lib.hid (zDQ W t a' m cap' y h)
 rw [hp] at HS
 rw [hq] at HT
 obtain ⟨hk1, hk2⟩ : -1 ≤ zAr (x : Int) (y : Int) ∧ zAr (x : Int) (y : Int) ≤ 1 := by unfold zAr; split <;> (try split) <;> omega
 have HR := Lib.hid hr
 clear hp hq hr
 rcases hpq with h | h | ⟨rfl, rfl⟩ | ⟨rfl, rfl⟩ | ⟨rfl, rfl⟩
 all_goals
  go_enter Tryz.func133, Tryz.ntmps133
  go_wp2_with fail
  go_region_held3 (fun w' => w'.cell? ⟨w.heap.size, 0, none⟩ = some (.bool s) ∧ w'.cell? ⟨w.heap.size + 1, 0, none⟩ = some (.bool t) ∧ w'.cell? ⟨w.heap.size, 1, none⟩ = some (.slice a n cap) ∧ w'.cell? ⟨w.heap.size + 1, 1, none⟩ = some (.slice a' m cap')) (first | go_keep)
   (first | (go_at_call_of 138 (Value.agg #[Value.bool s, Value.slice a n cap]); refine (HS _ (hx.below (by repeat (first | exact Below.refl _ _ | refine Below.drew ?_ | refine below_drewN ?_ _ | refine Below.alloc ?_ (by simp <;> omega) _ | refine Below.setCell ?_ (by simp <;> omega) _)))).out.mono ?_; rintro e w1 ⟨rfl, hb1⟩; obtain ⟨hc1, hz1⟩ := zA8 (hb1.mono (show w.heap.size + 2 ≤ _ by simp))) | (go_at_call_of 138 (Value.agg #[Value.bool t, Value.slice a' m cap']); refine (HT _ (hy.below (zA0 (by repeat (first | exact Below.refl _ _ | refine Below.drew ?_ | refine below_drewN ?_ _ | refine Below.alloc ?_ (by simp <;> omega) _ | refine Below.setCell ?_ (by simp <;> omega) _)) hb1))).out.mono ?_; rintro e w2 ⟨rfl, hb2⟩; have hb := hb1.trans (hb2.mono hb1.size); obtain ⟨hc2, hz2⟩ := zA8 (hb.mono (show w.heap.size + 2 ≤ _ by simp))))
  go_wp2_with fail
 · have e : r = -1 := by rw [HR.out, if_pos h]
   subst e
   go_ret
   exact ⟨rfl, zA0 (by repeat (first | exact Below.refl _ _ | refine Below.drew ?_ | refine below_drewN ?_ _ | refine Below.alloc ?_ (by simp <;> omega) _ | refine Below.setCell ?_ (by simp <;> omega) _)) hb⟩
 · have e : r = 1 := by rw [HR.out, if_neg (by omega), if_pos h]
   subst e
   go_ret
   exact ⟨rfl, zA0 (by repeat (first | exact Below.refl _ _ | refine Below.drew ?_ | refine below_drewN ?_ _ | refine Below.alloc ?_ (by simp <;> omega) _ | refine Below.setCell ?_ (by simp <;> omega) _)) hb⟩
 all_goals
  have hbb := zA0 (w := w) (by repeat (first | exact Below.refl _ _ | refine Below.drew ?_ | refine below_drewN ?_ _ | refine Below.alloc ?_ (by simp <;> omega) _ | refine Below.setCell ?_ (by simp <;> omega) _)) hb
  go_quiet ((first | (go_at_call 150; first | exact zDa (may (zAd _ _ _ _ _ ((hx.below hbb).drewN _))) | exact zDa (may (zAd _ _ _ _ _ ((hy.below hbb).drewN _))) | exact zFg (may (zAd _ _ _ _ _ ((hx.below hbb).drewN _))) | exact zFg (may (zAd _ _ _ _ _ ((hy.below hbb).drewN _)))) | (go_at_call 153; first | exact zDa (zBf _ _ _ _ _ _ _ _ _ ((hx.below hbb).trim.drewN _) ((hy.below hbb).trim.drewN _) rfl rfl))))
  go_wp2_with fail
  go_ret
 · have e : r = -zAr x y := by rw [HR.out]; simp
   subst e
   exact ⟨rfl, below_drewN hbb _⟩
 · have e : r = 0 := by rw [HR.out]; simp
   subst e
   exact ⟨rfl, below_drewN hbb _⟩
 · have e : r = zAr x y := by rw [HR.out]; simp
   subst e
   exact ⟨rfl, below_drewN hbb _⟩
theorem zBy (z : Int) : sg z = -1 ∧ z < 0 ∨ sg z = 0 ∧ z = 0 ∨ sg z = 1 ∧ 0 < z := by
 rcases Int.lt_trichotomy z 0 with h | h | h
 · exact .inl ⟨zJl h, h⟩
 · subst h; exact .inr (.inl ⟨zN7, rfl⟩)
 · exact .inr (.inr ⟨zFR h, h⟩)
theorem zMq (x y : Int) : zAr (-x) (-y) = -1 * zAr x y := by
 rcases Int.lt_trichotomy x y with h | h | h
 · rw [zB1 (by omega), zAT h]; rfl
 · subst h; rw [zBZ rfl, zBZ rfl]; rfl
 · rw [zAT (by omega), zB1 h]; rfl
theorem zEG {s : Bool} {x : Nat} (h : sgn s x < 0) : sgn s x = -(x : Int) := by cases s <;> simp [sgn] at * ; omega
theorem zEF {s : Bool} {x : Nat} (h : 0 < sgn s x) : sgn s x = (x : Int) := by cases s <;> simp [sgn] at * ; omega
theorem zKX (s t : Bool) (x y : Nat) : zAr (sgn s x) (sgn t y) = if sg (sgn s x) < sg (sgn t y) then -1 else if sg (sgn t y) < sg (sgn s x) then 1 else sg (sgn s x) * zAr x y := by
 rcases zBy (sgn s x) with ⟨h1, c1⟩ | ⟨h1, c1⟩ | ⟨h1, c1⟩ <;> rcases zBy (sgn t y) with ⟨h2, c2⟩ | ⟨h2, c2⟩ | ⟨h2, c2⟩ <;> rw [h1, h2]
 · rw [if_neg (by decide), if_neg (by decide), zEG c1, zEG c2, zMq]
 · rw [if_pos (by decide), zAT (by omega)]
 · rw [if_pos (by decide), zAT (by omega)]
 · rw [if_neg (by decide), if_pos (by decide), zB1 (by omega)]
 · rw [if_neg (by decide), if_neg (by decide), Int.zero_mul, zBZ (by omega)]
 · rw [if_pos (by decide), zAT (by omega)]
 · rw [if_neg (by decide), if_pos (by decide), zB1 (by omega)]
 · rw [if_neg (by decide), if_pos (by decide), zB1 (by omega)]
 · rw [if_neg (by decide), if_neg (by decide), Int.one_mul, zEF c1, zEF c2]
theorem zNU (w : World) (s t : Bool) (a a' : Option Addr) (n m cap cap' x y : Nat) (hx : Mag w a n cap x) (hy : Mag w a' m cap' y) :
 Calls Tryz.prog 133 #[.agg #[.bool s, .slice a n cap], .agg #[.bool t, .slice a' m cap']] w fun e w' => e = .returned (.int .i64 (zAr (sgn s x) (sgn t y))) ∧ Below w.heap.size w w' := by
 refine zMp w s t a a' n m cap cap' x y _ _ hx hy rfl rfl ?_ ?_ _ (zKX s t x y)
 · rcases zBy (sgn s x) with h | h | h <;> omega
 · rcases zBy (sgn s x) with h | h | h <;> rcases zBy (sgn t y) with h' | h' | h' <;> omega
def tab32 : List Nat := [0, 1, 28, 2, 29, 14, 24, 3, 30, 22, 20, 15, 25, 17, 4, 8, 31, 27, 13, 23, 21, 19, 16, 7, 26, 12, 18, 6, 11, 5, 10, 9]
def Tab (w : World) : Prop := (∀ i, i < 32 → w.cell? ⟨0, i, none⟩ = some (.int .u8 (tab32.getD i 0 : Nat))) ∧ 0 < w.heap.size
theorem Tab.below {w w' : World} (h : Tab w) (hb : Below w.heap.size w w') : Tab w' :=
 ⟨fun i hi => by rw [hb.cell (p := ⟨_, i, none⟩) h.2]; exact h.1 i hi, Nat.lt_of_lt_of_le h.2 hb.size⟩
theorem zOa : ∀ k : Fin 32, tab32.getD (2 ^ k.val * 125613361 % 4294967296 / 134217728) 0 = k.val ∧ 2 ^ k.val * 125613361 % 4294967296 / 134217728 < 32 := by decide
theorem zO9 (x k : Nat) (hx : x < 4294967296) (hx0 : 0 < x) (hk : x &&& (4294967296 - x) = 2 ^ k) :
 Go.bits .and .u32 (x : Int) (-(x : Int) % 4294967296) * 125613361 % 4294967296 / 134217728 = ((2 ^ k * 125613361 % 4294967296 / 134217728 : Nat) : Int) := by
 have e1 : -(x : Int) % 4294967296 = ((4294967296 - x : Nat) : Int) := by omega
 rw [e1, u32_and_nat x _ hx (by omega), hk]
 generalize 2 ^ k = p
 omega
theorem zJ5 (w : World) (x k idx : Nat) (hx0 : ((x : Int) == 0) = false) (key : Go.bits .and .u32 (x : Int) (-(x : Int) % 4294967296) * 125613361 % 4294967296 / 134217728 = (idx : Int)) (hi : idx < 32) (hk : k < 32)
 (hcell : w.cell? ⟨0, idx, none⟩ = some (.int .u8 k)) :
 Calls Tryz.prog 143 #[.int .u32 x] w fun e w' => e = .returned (.int .i64 k) ∧ w = w' := by
 go_enter Tryz.func143, Tryz.ntmps143
 go_wp2
 go_ret
 exact ⟨rfl, rfl⟩
theorem zHk (w : World) (x : Nat) (ht : Tab w) (hx0 : 0 < x) (hx : x < 4294967296) :
 Calls Tryz.prog 143 #[.int .u32 x] w fun e w' => e = .returned (.int .i64 (tz x)) ∧ w = w' := by
 obtain ⟨h1, h2⟩ := zHe hx0 hx
 have ht2 := zOa ⟨tz x, h2⟩
 refine zJ5 w x (tz x) _ (by rw [beq_eq_false_iff_ne]; omega) (zO9 x _ hx hx0 h1) ht2.2 h2 ?_
 have := ht.1 _ ht2.2
 rw [ht2.1] at this
 exact this
theorem zC1 (w : World) (ht : Tab w) (s : Bool) (a : Option Addr) (n cap x : Nat) (hx : Mag w a n cap x) (hlim : n ≤ 1099511627776) :
 Calls Tryz.prog 147 #[.agg #[.bool s, .slice a n cap]] w fun e w' => e = .returned (.int .i64 (tz x)) ∧ Below w.heap.size w w' := by
 have hb : Below w.heap.size w (w.alloc (.cells #[.bool s, .slice a n cap] 44)) := (Below.refl _ _).alloc (Nat.le_refl _) _
 have hx1 := hx.below hb
 have ht1 := ht.below hb
 have HB := Lib.hid hb
 clear hb
 go_enter Tryz.func147, Tryz.ntmps147
 go_wp2
 go_loop [8] (fun i => ∃ k : Nat, k ≤ n ∧ i = .int .i64 k ∧ x % B ^ k = 0) (fun i => n - (intOf i).toNat)
 case atStart => exact ⟨0, by omega, rfl, zAf x⟩
 case round =>
  obtain ⟨k, hk, rfl, hz⟩ := hrel
  have HZ := Lib.hid hz
  clear hz
  by_cases hlt : k < n
  · have c1 := hx1.cell k hlt
    have i1 := hx1.idx 42 und siz k hlt
    have hd1 := zA6 x k
    by_cases hd0 : dig x k = 0
    · have hd2 : (((dig x k : Nat) : Int) != 0) = false := by rw [hd0]; rfl
      go_wp2
      go_round
      case rel => exact ⟨k + 1, by omega, by go_num, by rw [zAh, HZ.out, hd0, Nat.zero_mul]⟩
      case measure => simp [intOf]; omega
    · have hd2 : (((dig x k : Nat) : Int) != 0) = true := by rw [bne_iff_ne]; omega
      have htz : tz (dig x k) < 32 := (zHe (Nat.pos_of_ne_zero hd0) hd1).2
      have HR := Lib.hid (zMy HZ.out hd0)
      have HC := Lib.hid (zHk _ (dig x k) ht1 (Nat.pos_of_ne_zero hd0) hd1)
      go_wp2_with (go_at_call 143; refine HC.out.mono ?_; rintro e w' ⟨rfl, rfl⟩)
      go_ret
      refine ⟨?_, HB.out⟩
      rw [HR.out]
      exact congrArg (fun q => Ending.returned (.int .i64 q)) (by simp)
  · obtain rfl : k = n := by omega
    go_wp2
    go_ret
    have hx0 : x = 0 := by rw [← zA9 hx.lt]; exact HZ.out
    subst hx0
    exact ⟨rfl, HB.out⟩
theorem zOC (k : Nat) : k % 4294967296 + k / 4294967296 * B = k := by rw [zAW]; omega
theorem zF4 (k : Nat) (hk : k ≤ 18446744073709551615) (W : World) : Mag (W.alloc (.cells #[.int .u32 ((k : Int) % 4294967296), .int .u32 ((k : Int) / 4294967296)] 96)) (some ⟨W.heap.size, 0, none⟩) 2 2 k := by
 have hm := Mag.two W 96 (k % 4294967296) (k / 4294967296) (by omega) (by omega)
 rw [zOC] at hm
 exact hm
theorem zGZ (w : World) (k : Nat) (hk : k ≤ 9223372036854775807) :
 Calls Tryz.prog 126 #[.int .i64 k] w (zAj w (sgn false k)) := by
 have HM := Lib.hid (zF4 k (by omega))
 have hlt : decide ((k : Int) < 0) = false := by simp
 go_enter Tryz.func126, Tryz.ntmps126
 go_wp2_with fail
 have hm := HM.out (w.alloc (.cells #[.bool false, .slice none 0 0] 44))
 rw [World.size_alloc] at hm
 refine (zBg _ _ _ _ _ _ hm).mono ?_
 rintro e w2 ⟨a2, c2, rfl, hm2, hb, hf2⟩
 obtain ⟨hc2, hz2⟩ := zA8 (hb.mono (show w.heap.size + 2 ≤ _ by simp))
 go_wp2_with fail
 refine bodyPost_ret (v := .agg #[.bool (false && decide (0 < k)), .slice a2 (nl k) c2]) (by simp [results, Tryz.results126, go_sem, hc2]) rfl ?_
 refine zBU hm2 (fun h => ?_) (zA0 (by repeat (first | exact Below.refl _ _ | refine Below.drew ?_ | refine below_drewN ?_ _ | refine Below.alloc ?_ (by simp <;> omega) _ | refine Below.setCell ?_ (by simp <;> omega) _)) hb) (by omega)
 rw [hf2 h, zAo]; simp
theorem zGY (w : World) (k : Nat) (hk0 : 1 ≤ k) (hk : k ≤ 9223372036854775808) :
 Calls Tryz.prog 126 #[.int .i64 (-(k : Int))] w (zAj w (sgn true k)) := by
 have HM := Lib.hid (zF4 k (by omega))
 have e1 : IntKind.u64.wrap (-(k : Int)) = 18446744073709551616 - k := by rw [IntKind.wrap_u64]; omega
 have e2 : IntKind.u64.wrap (-(18446744073709551616 - (k : Int))) = k := by rw [IntKind.wrap_u64]; omega
 go_enter Tryz.func126, Tryz.ntmps126
 go_wp2_with fail
 have hm := HM.out (w.alloc (.cells #[.bool false, .slice none 0 0] 44))
 rw [World.size_alloc] at hm
 refine (zBg _ _ _ _ _ _ hm).mono ?_
 rintro e w2 ⟨a2, c2, rfl, hm2, hb, hf2⟩
 obtain ⟨hc2, hz2⟩ := zA8 (hb.mono (show w.heap.size + 2 ≤ _ by simp))
 go_wp2_with fail
 refine bodyPost_ret (v := .agg #[.bool (true && decide (0 < k)), .slice a2 (nl k) c2]) (by simp [results, Tryz.results126, go_sem, hc2]; omega) rfl ?_
 refine zBU hm2 (fun h => ?_) (zA0 (by repeat (first | exact Below.refl _ _ | refine Below.drew ?_ | refine below_drewN ?_ _ | refine Below.alloc ?_ (by simp <;> omega) _ | refine Below.setCell ?_ (by simp <;> omega) _)) hb) (by omega)
 rw [hf2 h, zAo]; simp
theorem zBX (w : World) (n : Int) (h0 : -9223372036854775808 ≤ n) (h1 : n ≤ 9223372036854775807) :
 Calls Tryz.prog 126 #[.int .i64 n] w (zAj w n) := by
 rcases Int.lt_or_le n 0 with h | h
 · obtain ⟨k, hk⟩ : ∃ k : Nat, n = -(k : Int) := ⟨n.natAbs, by omega⟩
   subst hk
   exact zGY w k (by omega) (by omega)
 · obtain ⟨k, rfl⟩ := Int.eq_ofNat_of_zero_le h
   exact zGZ w k (by omega)
def zDB (w : World) (z err : Int) (e : Ending) (w' : World) : Prop :=
 ∃ a cap, e = .returned (.tuple #[.agg #[.bool (decide (z < 0)), .slice a (nl z.natAbs) cap], .int .i64 err]) ∧ Mag w' a (nl z.natAbs) cap z.natAbs ∧ Below w.heap.size w w' ∧ (0 < nl z.natAbs → w.heap.size ≤ ab a)
theorem zD8 {w w2 : World} {s : Bool} {x : Nat} {a2 : Option Addr} {c2 g : Nat} {u u' : Value} {z err : Int} (hz : z = sgn s x) (hm : Mag w2 a2 (nl x) c2 x) (hfr : 0 < nl x → g < ab a2) (hb : Below w.heap.size w w2) (hg : w.heap.size ≤ g) :
 zDB w z err (.returned (.tuple #[.agg #[.bool (s && decide (0 < x)), .slice a2 (nl x) c2], .int .i64 err])) ((w2.setCell ⟨g, 0, none⟩ u).setCell ⟨g, 1, none⟩ u') := by
 subst hz
 obtain ⟨a, c, he, hm', hb', hf'⟩ := zBU (s := s) (u := u) (u' := u') hm hfr hb hg
 injection he with he
 refine ⟨a, c, ?_, hm', hb', hf'⟩
 rw [← he]
theorem zAa {P : Program} {fn : Func} {R : Ending → World → Prop} {a : Act} {w : World} {v : Value}
 (hr : (results fn a.tmps).run P w = .ok v w) (hd : a.defers = []) (hR : R (.returned v) w) : bodyPost P fn R .ret a w := ⟨hd, v, hr, hR⟩
theorem zLq (w : World) (s : Bool) (a : Option Addr) (n cap x k : Nat) (hx : Mag w a n cap x) (hlim : n ≤ 1099511627776) (hk : k ≤ 1048576) :
 Calls Tryz.prog 163 #[.agg #[.bool s, .slice a n cap], .int .i64 k] w (zDB w (sgn s (x * 2 ^ k)) 0) := by
 have nx := zAB hx.lt
 have t1 : decide ((k : Int) < -1048576) = false := by simp <;> omega
 have t2 : decide ((1048576 : Int) < (k : Int)) = false := by simp <;> omega
 have t3 : decide ((0 : Int) ≤ (k : Int)) = true := by simp
 have e2 : ¬ w.heap.size + 1 = w.heap.size := by omega
 go_enter Tryz.func163, Tryz.ntmps163
 go_wp2_with (go_at_call 150; refine (zAd _ _ _ _ _ (hx.below (by repeat (first | exact Below.refl _ _ | refine Below.drew ?_ | refine below_drewN ?_ _ | refine Below.alloc ?_ (by simp <;> omega) _ | refine Below.setCell ?_ (by simp <;> omega) _)))).mono ?_; rintro e w' ⟨rfl, rfl⟩)
 go_region_held3 (fun w' => w'.cell? ⟨w.heap.size, 0, none⟩ = some (.bool s)) (first | go_keep)
  (first | (go_at_call 178; refine (zHh _ _ _ _ _ _ (hx.below (by repeat (first | exact Below.refl _ _ | refine Below.drew ?_ | refine below_drewN ?_ _ | refine Below.alloc ?_ (by simp <;> omega) _ | refine Below.setCell ?_ (by simp <;> omega) _))).trim (by omega) (by omega) (by omega)).mono ?_; rintro e w1 ⟨a1, c1, rfl, hm1, hb1, hf1⟩; rw [Int.toNat_natCast] at hm1 hf1 ⊢; obtain ⟨hc1, hz1⟩ := zA8 (hb1.mono (show w.heap.size + 2 ≤ _ by simp))) | (go_at_call 151; refine (zBg _ _ _ _ _ _ hm1).mono ?_; rintro e w2 ⟨a2, c2, rfl, hm2, hb2, hf2⟩; have hb := hb1.trans (hb2.mono hb1.size); obtain ⟨hc2, hz2⟩ := zA8 (hb.mono (show w.heap.size + 2 ≤ _ by simp))))
 go_wp2_with fail
 refine zAa (v := .tuple #[.agg #[.bool (s && decide (0 < x * 2 ^ k)), .slice a2 (nl (x * 2 ^ k)) c2], .int .i64 0]) (by simp [results, Tryz.results163, go_sem, hc2]) rfl ?_
 refine zD8 rfl hm2 (fun h => ?_) (zA0 (by repeat (first | exact Below.refl _ _ | refine Below.drew ?_ | refine below_drewN ?_ _ | refine Below.alloc ?_ (by simp <;> omega) _ | refine Below.setCell ?_ (by simp <;> omega) _)) hb) (by omega)
 rw [hf2 h]
 have := hf1 h
 simp at this; omega
theorem zKx (x k : Nat) : (-(x : Int)) / 2 ^ k = -((x / 2 ^ k : Nat) : Int) - (if x % 2 ^ k ≠ 0 then 1 else 0) := by
 have hp : 0 < 2 ^ k := Nat.pow_pos (by decide)
 have h := Nat.div_add_mod x (2 ^ k)
 have hm := Nat.mod_lt x hp
 rw [← zDT]
 generalize 2 ^ k = p at *
 generalize x / p = q at *
 generalize x % p = r at *
 have hpI : (0 : Int) < (p : Int) := by omega
 subst h
 simp only [Int.natCast_add, Int.natCast_mul]
 split
 · rename_i hr
   have e : -((p : Int) * q + r) = (-(q : Int) - 1) * p + (p - r) := by grind
   rw [e, Int.add_comm, Int.add_mul_ediv_right _ _ (by omega), Int.ediv_eq_zero_of_lt (by omega) (by omega)]
   omega
 · rename_i hr
   have : r = 0 := by simpa using hr
   subst this
   have e : -((p : Int) * q + (0 : Nat)) = (-(q : Int)) * p := by grind
   rw [e, Int.mul_ediv_cancel _ (by omega)]
   omega
def shl (z k : Int) : Int := if 0 ≤ k then z * 2 ^ k.toNat else z / 2 ^ (-k).toNat
theorem zOe (s : Bool) (x k : Nat) : shl (sgn s x) k = sgn s (x * 2 ^ k) := by
 unfold shl sgn
 rw [if_pos (by omega), Int.toNat_natCast]
 cases s <;> simp [Int.neg_mul]
theorem zFK (x k : Nat) (hk : 0 < k) : shl (sgn false x) (-(k : Int)) = sgn false (x / 2 ^ k) := by
 unfold shl sgn
 rw [if_neg (by omega), Int.neg_neg, Int.toNat_natCast]
 simp
theorem zFL (x k : Nat) (hk : 0 < k) : shl (sgn true x) (-(k : Int)) = sgn true (x / 2 ^ k + if x % 2 ^ k ≠ 0 then 1 else 0) := by
 unfold shl sgn
 rw [if_neg (by omega), Int.neg_neg, Int.toNat_natCast]
 simp only [if_true]
 rw [zKx]
 split <;> simp <;> omega
theorem zEE (w : World) (s : Bool) (a : Option Addr) (n cap x k y : Nat) (b : Bool) (hx : Mag w a n cap x) (hlim : n ≤ 1099511627776) (hk0 : 0 < k) (hk : k ≤ 1048576) (hb : b = decide (x % 2 ^ k ≠ 0)) (hsb : (s && b) = false) (hy : y = x / 2 ^ k) :
 Calls Tryz.prog 163 #[.agg #[.bool s, .slice a n cap], .int .i64 (-(k : Int))] w (zDB w (sgn s y) 0) := by
 have nx := zAB hx.lt
 have t1 : decide (-(k : Int) < -1048576) = false := by simp <;> omega
 have t2 : decide ((1048576 : Int) < -(k : Int)) = false := by simp <;> omega
 have t3 : decide ((0 : Int) ≤ -(k : Int)) = false := by simp <;> omega
 have HD := fun W h => Lib.hid (zDZ W a (nl x) cap x (k : Int) h rfl (by omega) (by omega) (by omega) b (by rw [Int.toNat_natCast]; exact hb))
 rw [Int.toNat_natCast, ← hy] at HD
 clear hb hy
 have e2 : ¬ w.heap.size + 1 = w.heap.size := by omega
 have hbs : s = true → b = false := fun h => by rw [h] at hsb; simpa using hsb
 go_enter Tryz.func163, Tryz.ntmps163
 go_wp2_with (first | (go_at_call 150; refine (zAd _ _ _ _ _ (hx.below (by repeat (first | exact Below.refl _ _ | refine Below.drew ?_ | refine below_drewN ?_ _ | refine Below.alloc ?_ (by simp <;> omega) _ | refine Below.setCell ?_ (by simp <;> omega) _)))).mono ?_; rintro e w' ⟨rfl, rfl⟩) | (go_at_call 179; refine (HD _ (hx.below (by repeat (first | exact Below.refl _ _ | refine Below.drew ?_ | refine below_drewN ?_ _ | refine Below.alloc ?_ (by simp <;> omega) _ | refine Below.setCell ?_ (by simp <;> omega) _))).trim).out.mono ?_; rintro e w1 ⟨a1, c1, rfl, hm1, hb1, hf1⟩; obtain ⟨hc1, hz1⟩ := zA8 (hb1.mono (show w.heap.size + 2 ≤ _ by simp))))
 all_goals
  refine (zBg _ _ _ _ _ _ hm1).mono ?_
  rintro e w2 ⟨a2, c2, rfl, hm2, hb2, hf2⟩
  have hb := hb1.trans (hb2.mono hb1.size)
  obtain ⟨hc2, hz2⟩ := zA8 (hb.mono (show w.heap.size + 2 ≤ _ by simp))
  go_wp2_with fail
 · refine zAa (v := .tuple #[.agg #[.bool (true && decide (0 < y)), .slice a2 (nl y) c2], .int .i64 0]) (by simp [results, Tryz.results163, go_sem, hc2]) rfl ?_
   refine zD8 (by rw [show s = true by assumption]) hm2 (fun h => ?_) (zA0 (by repeat (first | exact Below.refl _ _ | refine Below.drew ?_ | refine below_drewN ?_ _ | refine Below.alloc ?_ (by simp <;> omega) _ | refine Below.setCell ?_ (by simp <;> omega) _)) hb) (by omega)
   rw [hf2 h]
   have := hf1 h
   simp at this; omega
 · refine zAa (v := .tuple #[.agg #[.bool (false && decide (0 < y)), .slice a2 (nl y) c2], .int .i64 0]) (by simp [results, Tryz.results163, go_sem, hc2]) rfl ?_
   refine zD8 (by cases s <;> simp_all) hm2 (fun h => ?_) (zA0 (by repeat (first | exact Below.refl _ _ | refine Below.drew ?_ | refine below_drewN ?_ _ | refine Below.alloc ?_ (by simp <;> omega) _ | refine Below.setCell ?_ (by simp <;> omega) _)) hb) (by omega)
   rw [hf2 h]
   have := hf1 h
   simp at this; omega
theorem zIh (w : World) (a : Option Addr) (n cap x k y : Nat) (hx : Mag w a n cap x) (hlim : n ≤ 1099511627776) (hk0 : 0 < k) (hk : k ≤ 1048576) (hb : true = decide (x % 2 ^ k ≠ 0)) (hy : y = x / 2 ^ k) :
 Calls Tryz.prog 163 #[.agg #[.bool true, .slice a n cap], .int .i64 (-(k : Int))] w (zDB w (sgn true (y + 1)) 0) := by
 have nx := zAB hx.lt
 have ny : nl y ≤ nl x := by rw [hy]; exact zAR (Nat.div_le_self _ _)
 have t1 : decide (-(k : Int) < -1048576) = false := by simp <;> omega
 have t2 : decide ((1048576 : Int) < -(k : Int)) = false := by simp <;> omega
 have t3 : decide ((0 : Int) ≤ -(k : Int)) = false := by simp <;> omega
 have HD := fun W h => Lib.hid (zDZ W a (nl x) cap x (k : Int) h rfl (by omega) (by omega) (by omega) true (by rw [Int.toNat_natCast]; exact hb))
 rw [Int.toNat_natCast, ← hy] at HD
 clear hb hy
 have e2 : ¬ w.heap.size + 1 = w.heap.size := by omega
 go_enter Tryz.func163, Tryz.ntmps163
 go_wp2_with (first | (go_at_call 150; refine (zAd _ _ _ _ _ (hx.below (by repeat (first | exact Below.refl _ _ | refine Below.drew ?_ | refine below_drewN ?_ _ | refine Below.alloc ?_ (by simp <;> omega) _ | refine Below.setCell ?_ (by simp <;> omega) _)))).mono ?_; rintro e w' ⟨rfl, rfl⟩) | (go_at_call 179; refine (HD _ (hx.below (by repeat (first | exact Below.refl _ _ | refine Below.drew ?_ | refine below_drewN ?_ _ | refine Below.alloc ?_ (by simp <;> omega) _ | refine Below.setCell ?_ (by simp <;> omega) _))).trim).out.mono ?_; rintro e w0 ⟨a0, c0, rfl, hm0, hb0, hf0⟩; obtain ⟨hc0, hz0⟩ := zA8 (hb0.mono (show w.heap.size + 2 ≤ _ by simp))))
 have hone : Below w0.heap.size w0 (w0.alloc (.cells #[.int .u32 1] 96)) := (Below.refl _ _).alloc (Nat.le_refl _) _
 refine (zFh _ _ _ _ _ _ _ _ _ (hm0.below hone) (Mag.one w0 96 1 (by omega)) (by omega) (by omega)).mono ?_
 rintro e w1 ⟨a1, c1, rfl, hm1, hb1', hf1'⟩
 have hb1 := hb0.trans ((hone.trans (hb1'.mono hone.size)).mono hb0.size)
 have hf1 : 0 < nl (y + 1) → w.heap.size + 2 ≤ ab a1 := fun h => by
  have h1 := hf1' h
  have h2 := hone.size
  have h3 := hb0.size
  simp at h1 h2 h3
  omega
 obtain ⟨hc1, hz1⟩ := zA8 (hb1.mono (show w.heap.size + 2 ≤ _ by simp))
 go_wp2_with fail
 refine (zBg _ _ _ _ _ _ hm1).mono ?_
 rintro e w2 ⟨a2, c2, rfl, hm2, hb2, hf2⟩
 have hb := hb1.trans (hb2.mono hb1.size)
 obtain ⟨hc2, hz2⟩ := zA8 (hb.mono (show w.heap.size + 2 ≤ _ by simp))
 go_wp2_with fail
 refine zAa (v := .tuple #[.agg #[.bool (true && decide (0 < y + 1)), .slice a2 (nl (y + 1)) c2], .int .i64 0]) (by simp [results, Tryz.results163, go_sem, hc2]) rfl ?_
 refine zD8 rfl hm2 (fun h => ?_) (zA0 (by repeat (first | exact Below.refl _ _ | refine Below.drew ?_ | refine below_drewN ?_ _ | refine Below.alloc ?_ (by simp <;> omega) _ | refine Below.setCell ?_ (by simp <;> omega) _)) hb) (by omega)
 rw [hf2 h]
 have := hf1 h
 omega
theorem zFM (w : World) (s : Bool) (a : Option Addr) (n cap x : Nat) (k : Int) (hx : Mag w a n cap x) (hlim : n ≤ 1099511627776) (h0 : -1048576 ≤ k) (h1 : k ≤ 1048576) :
 Calls Tryz.prog 163 #[.agg #[.bool s, .slice a n cap], .int .i64 k] w (zDB w (shl (sgn s x) k) 0) := by
 rcases Int.lt_or_le k 0 with h | h
 · obtain ⟨j, hj⟩ : ∃ j : Nat, k = -(j : Int) := ⟨k.natAbs, by omega⟩
   subst hj
   cases s
   · rw [zFK x j (by omega)]
     exact zEE w false a n cap x j _ _ hx hlim (by omega) (by omega) rfl rfl rfl
   · rw [zFL x j (by omega)]
     by_cases hb : x % 2 ^ j ≠ 0
     · rw [if_pos hb]
       exact zIh w a n cap x j _ hx hlim (by omega) (by omega) (by rw [decide_eq_true hb]) rfl
     · rw [if_neg hb, Nat.add_zero]
       exact zEE w true a n cap x j _ _ hx hlim (by omega) (by omega) (decide_eq_false hb).symm rfl rfl
 · obtain ⟨j, rfl⟩ := Int.eq_ofNat_of_zero_le h
   rw [zOe]
   exact zLq w s a n cap x j hx hlim (by omega)
def zI3 (w : World) (z r err : Int) (e : Ending) (w' : World) : Prop :=
 ∃ a cap a' cap', e = .returned (.tuple #[.agg #[.bool (decide (z < 0)), .slice a (nl z.natAbs) cap], .agg #[.bool (decide (r < 0)), .slice a' (nl r.natAbs) cap'], .int .i64 err]) ∧ Mag w' a (nl z.natAbs) cap z.natAbs ∧ Mag w' a' (nl r.natAbs) cap' r.natAbs ∧ Below w.heap.size w w' ∧
  (0 < nl z.natAbs → w.heap.size ≤ ab a) ∧ (0 < nl r.natAbs → w.heap.size ≤ ab a')
theorem zGs (w : World) (s t : Bool) (a a' : Option Addr) (n m cap cap' x y : Nat) (hx : Mag w a n cap x) (hy : Mag w a' m cap' y) (hn : n ≤ 1099511627776) (_hm : m ≤ 1099511627776) (hy0 : 0 < y) (hs : s = false) (q r : Nat) (hq : x / y = q) (hr : x % y = r) :
 Calls Tryz.prog 171 #[.agg #[.bool s, .slice a n cap], .agg #[.bool t, .slice a' m cap']] w (zI3 w (sgn t q) (sgn false r) 0) := by
 subst hs
 have HQ := Lib.hid hq
 have HR := Lib.hid hr
 clear hq hr
 have nx := zAB hx.lt
 have ny := zAB hy.lt
 have hn1 : (((nl y : Nat) : Int) == 0) = false := by rw [beq_eq_false_iff_ne]; have := zBB hy0; omega
 have e2 : ¬ w.heap.size + 1 + 1 = w.heap.size := by omega
 have e3 : ¬ w.heap.size + 1 + 1 + 1 = w.heap.size := by omega
 go_enter Tryz.func171, Tryz.ntmps171
 go_wp2_with fail
 refine (zAd _ _ _ _ _ (hy.below zbh)).mono ?_
 rintro e w' ⟨rfl, rfl⟩
 go_wp2_with fail
 refine (zAd _ _ _ _ _ (hx.below zbh)).mono ?_
 rintro e w' ⟨rfl, rfl⟩
 go_wp2_with fail
 refine (zEW _ _ _ _ _ _ _ _ _ (hx.below zbh).trim (hy.below zbh).trim rfl rfl (by omega) hy0).mono ?_
 rintro e w1 ⟨a1, c1, a2, c2, rfl, hm1, hm2, hb1, hf1, hf2⟩
 rw [HQ.out] at hm1 hf1 ⊢
 rw [HR.out] at hm2 hf2 ⊢
 obtain ⟨hc1, hz1⟩ := zA8 (hb1.mono (show w.heap.size + 4 ≤ _ by simp))
 go_wp2_with fail
 refine (zBg _ _ _ _ _ _ hm1).mono ?_
 rintro e w2 ⟨a3, c3, rfl, hm3, hb2, hf3⟩
 have hbb := hb1.trans (hb2.mono hb1.size)
 obtain ⟨hc2, hz2⟩ := zA8 (hbb.mono (show w.heap.size + 4 ≤ _ by simp))
 have hm2' := hm2.below hb2
 go_wp2_with fail
 refine (zBg _ _ _ _ _ _ hm2').mono ?_
 rintro e w3 ⟨a4, c4, rfl, hm4, hb3, hf4⟩
 have hb := hbb.trans (hb3.mono hbb.size)
 obtain ⟨hc3, hz3⟩ := zA8 (hb.mono (show w.heap.size + 4 ≤ _ by simp))
 have hm3' := hm3.below hb3
 go_wp2_with fail
 refine zAa (v := .tuple #[.agg #[.bool (t && decide (0 < q)), .slice a3 (nl q) c3], .agg #[.bool (false && decide (0 < r)), .slice a4 (nl r) c4], .int .i64 0]) (by simp [results, Tryz.results171, go_sem, hc3]) rfl ?_
 have g1 : 0 < nl q → w.heap.size + 4 ≤ ab a3 := fun h => by rw [hf3 h]; have := hf1 h; simpa using this
 have g2 : 0 < nl r → w.heap.size + 4 ≤ ab a4 := fun h => by rw [hf4 h]; have := hf2 h; simpa using this
 rw [← zFN, ← zFN]
 have hbw := zA0 (w := w) zbh hb
 have hset : ∀ (a : Option Addr) (c z : Nat), Mag w3 a (nl z) c z → (0 < nl z → w.heap.size + 4 ≤ ab a) → ∀ u1 u2 u3 u4, Mag ((((w3.setCell ⟨w.heap.size + 1 + 1, 0, none⟩ u1).setCell ⟨w.heap.size + 1 + 1, 1, none⟩ u2).setCell ⟨w.heap.size + 1 + 1 + 1, 0, none⟩ u3).setCell ⟨w.heap.size + 1 + 1 + 1, 1, none⟩ u4) a (nl z) c z :=
  fun a c z hm hf u1 u2 u3 u4 => (((hm.set (fun h => by have := hf h; omega) _ _).set (fun h => by have := hf h; omega) _ _).set (fun h => by have := hf h; omega) _ _).set (fun h => by have := hf h; omega) _ _
 refine ⟨a3, c3, a4, c4, by rw [zAb, zAb], ?_, ?_, ?_, ?_, ?_⟩
 · rw [zAb]; exact hset _ _ _ hm3' g1 _ _ _ _
 · rw [zAb]; exact hset _ _ _ hm4 g2 _ _ _ _
 · exact (((hbw.setCell (by show _ ≤ w.heap.size + 1 + 1; omega) _).setCell (by show _ ≤ w.heap.size + 1 + 1; omega) _).setCell (by show _ ≤ w.heap.size + 1 + 1 + 1; omega) _).setCell (by show _ ≤ w.heap.size + 1 + 1 + 1; omega) _
 · rw [zAb]; exact fun h => by have := g1 h; omega
 · rw [zAb]; exact fun h => by have := g2 h; omega
theorem zLp (w : World) (s : Bool) (a : Option Addr) (n cap x r : Nat) (hx : Mag w a n cap x) (hn : n ≤ 17179869184) (hs : 0 ≤ sgn s x) (h1 : r * r ≤ x) (h2 : x < (r + 1) * (r + 1)) :
 Calls Tryz.prog 170 #[.agg #[.bool s, .slice a n cap]] w (zDB w (sgn false r) 0) := by
 have nx := zAB hx.lt
 obtain ⟨p, hp, hp0⟩ : ∃ p, sg (sgn s x) = p ∧ 0 ≤ p := ⟨_, rfl, by rcases zBy (sgn s x) with h | h | h <;> omega⟩
 have HS := fun W h => Lib.hid (zDQ W s a n cap x h)
 rw [hp] at HS
 clear hp
 have hpd : decide (p < 0) = false := by simp <;> omega
 have HRt := fun W c h => Lib.hid (zLv W a (nl x) c x r h rfl (by omega) h1 h2)
 clear h1 h2
 have e2 : ¬ w.heap.size + 1 = w.heap.size := by omega
 go_enter Tryz.func170, Tryz.ntmps170
 go_wp2_with fail
 refine (HS _ (hx.below zbh)).out.mono ?_
 rintro e w0 ⟨rfl, hb0⟩
 obtain ⟨hc0, hz0⟩ := zA8 (hb0.mono (show w.heap.size + 2 ≤ _ by simp))
 have hx0 := (hx.below (zA0 (w := w) zbh hb0))
 go_wp2_with fail
 refine (zAd _ _ _ _ _ hx0).mono ?_
 rintro e w' ⟨rfl, rfl⟩
 go_wp2_with fail
 refine (HRt _ _ hx0.trim).out.mono ?_
 rintro e w1 ⟨a1, c1, rfl, hm1, hb1', hf1'⟩
 have hb1 := hb0.trans (hb1'.mono hb0.size)
 have hf1 : 0 < nl r → w.heap.size + 2 ≤ ab a1 := fun h => by
  have h1 := hf1' h
  have h3 := hb0.size
  simp at h3
  omega
 obtain ⟨hc1, hz1⟩ := zA8 (hb1.mono (show w.heap.size + 2 ≤ _ by simp))
 go_wp2_with fail
 refine (zBg _ _ _ _ _ _ hm1).mono ?_
 rintro e w2 ⟨a2, c2, rfl, hm2, hb2, hf2⟩
 have hb := hb1.trans (hb2.mono hb1.size)
 obtain ⟨hc2, hz2⟩ := zA8 (hb.mono (show w.heap.size + 2 ≤ _ by simp))
 go_wp2_with fail
 refine zAa (v := .tuple #[.agg #[.bool (false && decide (0 < r)), .slice a2 (nl r) c2], .int .i64 0]) (by simp [results, Tryz.results170, go_sem, hc2]) rfl ?_
 refine zD8 rfl hm2 (fun h => ?_) (zA0 zbh hb) (by omega)
 rw [hf2 h]
 have := hf1 h
 omega
end Go.Proofs.YtablcbgeeeboeaaGreatDoor
