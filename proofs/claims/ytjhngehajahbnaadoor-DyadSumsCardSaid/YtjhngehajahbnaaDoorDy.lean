/-
  Walks: package dyad: bad, right, left.
-/
import Derived.Test.YtjhngehajahbnaaDoorDivMod
import Derived.Deep.RegionWith
namespace Go.Proofs.YtjhngehajahbnaaDoor
open Go.RowKit Sp

set_option maxRecDepth 100000 in
set_option maxHeartbeats 2000000 in
theorem right_any (w : World) (s : Bool) (a : Option Addr) (n cap x : Nat) (k : Int) (hx : Mag w a n cap x) (hlim : n ≤ 1099511627776) (h0 : 0 ≤ k) (h1 : k ≤ 1048576) :
    Calls Tryd.prog 69 #[.agg #[.bool s, .slice a n cap], .int .i64 k] w (RetBig w (shl (sgn s x) (-k))) := by
  have t1 : decide ((1048576 : Int) < k) = false := by simp <;> omega
  have HS := fun W h => Lib.hid (shift_any W s a n cap x (-k) h hlim (by omega) (by omega))
  obtain ⟨z, hz⟩ : ∃ z, z = shl (sgn s x) (-k) := ⟨_, rfl⟩
  rw [← hz] at HS ⊢
  clear hz
  have e2 : ¬ w.heap.size + 1 = w.heap.size := by omega
  go_enter Tryd.func69, Tryd.ntmps69
  go_wp2_with fail
  go_loopw [1] (fun v wr => v = .int .i64 k ∧ wr = (w.alloc (.cells #[.bool s, .slice a n cap] 25)).alloc (.cells #[.bool false, .slice none 0 0] 25)) (fun _ _ => 0)
  case atStart => exact ⟨rfl, rfl⟩
  case round =>
    obtain ⟨rfl, rfl⟩ := hrel
    go_wp2_with fail
    refine (HS _ (hx.below (by repeat (with_reducible first | refine Below.setCell ?_ (by simp <;> omega) _ | refine Below.alloc ?_ (by simp <;> omega) _ | refine Below.drew ?_ | refine below_drewN ?_ _ | exact Below.refl _ _)))).out.mono ?_
    rintro e w1 ⟨a1, c1, rfl, hm1, hb, hf1⟩
    obtain ⟨hc1, hz1⟩ := bcell (hb.mono (show w.heap.size + 2 ≤ _ by simp))
    go_wp2_with fail
    refine bodyPost_ret (v := .agg #[.bool (decide (z < 0)), .slice a1 (nl z.natAbs) c1]) (by simp [results, Tryd.results69, go_sem, hc1]) rfl ?_
    have hfr : 0 < nl z.natAbs → w.heap.size + 2 ≤ ab a1 := fun h => by have := hf1 h; simpa using this
    have hbw := below_box (w := w) (by repeat (with_reducible first | refine Below.setCell ?_ (by simp <;> omega) _ | refine Below.alloc ?_ (by simp <;> omega) _ | refine Below.drew ?_ | refine below_drewN ?_ _ | exact Below.refl _ _)) hb
    refine ret_big ((hm1.set (fun h => by have := hfr h; omega) _ _).set (fun h => by have := hfr h; omega) _ _) (fun h => by have := hfr h; omega) ((hbw.setCell (Nat.le_refl _) _).setCell (Nat.le_refl _) _) (by omega)

set_option maxRecDepth 100000 in
set_option maxHeartbeats 2000000 in
theorem left_any (w : World) (s : Bool) (a : Option Addr) (n cap x : Nat) (k : Int) (hx : Mag w a n cap x) (hlim : n ≤ 1099511627776) (h0 : 0 ≤ k) (h1 : k ≤ 1048576) :
    Calls Tryd.prog 48 #[.agg #[.bool s, .slice a n cap], .int .i64 k] w (RetBig w (shl (sgn s x) k)) := by
  have HS := fun W h => Lib.hid (shift_any W s a n cap x k h hlim (by omega) (by omega))
  obtain ⟨z, hz⟩ : ∃ z, z = shl (sgn s x) k := ⟨_, rfl⟩
  rw [← hz] at HS ⊢
  clear hz
  have e2 : ¬ w.heap.size + 1 = w.heap.size := by omega
  go_enter Tryd.func48, Tryd.ntmps48
  go_wp2_with fail
  · refine (HS _ (hx.below (by repeat (with_reducible first | refine Below.setCell ?_ (by simp <;> omega) _ | refine Below.alloc ?_ (by simp <;> omega) _ | refine Below.drew ?_ | refine below_drewN ?_ _ | exact Below.refl _ _)))).out.mono ?_
    rintro e w1 ⟨a1, c1, rfl, hm1, hb, hf1⟩
    obtain ⟨hc1, hz1⟩ := bcell (hb.mono (show w.heap.size + 2 ≤ _ by simp))
    go_wp2_with fail
    refine bodyPost_ret (v := .agg #[.bool (decide (z < 0)), .slice a1 (nl z.natAbs) c1]) (by simp [results, Tryd.results48, go_sem, hc1]) rfl ?_
    have hfr : 0 < nl z.natAbs → w.heap.size + 2 ≤ ab a1 := fun h => by have := hf1 h; simpa using this
    have hbw := below_box (w := w) (by repeat (with_reducible first | refine Below.setCell ?_ (by simp <;> omega) _ | refine Below.alloc ?_ (by simp <;> omega) _ | refine Below.drew ?_ | refine below_drewN ?_ _ | exact Below.refl _ _)) hb
    refine ret_big ((hm1.set (fun h => by have := hfr h; omega) _ _).set (fun h => by have := hfr h; omega) _ _) (fun h => by have := hfr h; omega) ((hbw.setCell (Nat.le_refl _) _).setCell (Nat.le_refl _) _) (by omega)

/-! ### dyads: an integer and an exponent; none: the bad one -/
/-- What the walk must be told of two blocks a, a + 1 that lie below b. -/
theorem old2 {a b : Nat} (h : a + 2 ≤ b) : (¬ b = a) ∧ (¬ b = a + 1) ∧ (¬ a = b) ∧ (¬ a + 1 = b) ∧ a < b ∧ a + 1 < b ∧ a < b + 1 := by omega
/-- the sign of a normalized integer -/
theorem sign_z (w : World) (a : Option Addr) (cap : Nat) (z : Int) (hm : Mag w a (nl z.natAbs) cap z.natAbs) :
    Calls Tryd.prog 45 #[.agg #[.bool (decide (z < 0)), .slice a (nl z.natAbs) cap]] w fun e w' => e = .returned (.int .i64 (sg z)) ∧ Below w.heap.size w w' := by
  have h := sign_any w (decide (z < 0)) a _ cap _ hm
  rwa [sgn_self] at h
theorem sign_0 (w : World) (a : Option Addr) (cap : Nat) (hm : Mag w a (nl 0) cap 0) :
    Calls Tryd.prog 45 #[.agg #[.bool false, .slice a (nl 0) cap]] w fun e w' => e = .returned (.int .i64 0) ∧ Below w.heap.size w w' := sign_z w a cap 0 hm
def nrm (m e : Int) : Option (Int × Int) :=
  if m = 0 then some (0, 0) else if 65536 - (blen m.natAbs : Int) < e ∨ e < -65536 - (tz m.natAbs : Int) then none else some (m / 2 ^ tz m.natAbs, e + tz m.natAbs)
def nrmB (b : Bool) (m e : Int) : Option (Int × Int) := if b then none else nrm m e
def dman (d : Option (Int × Int)) : Int := (d.getD (0, 0)).1
def dexp (d : Option (Int × Int)) : Int := (d.getD (0, 0)).2
def dbad (d : Option (Int × Int)) : Bool := d.isNone

/-- A call's result: a dyad, in memory of its own. -/
def RetDy (w : World) (d : Option (Int × Int)) (e : Ending) (w' : World) : Prop :=
  ∃ a cap, e = .returned (.agg #[.bool (dbad d), (.bool (decide (dman d < 0))), .slice a (nl (dman d).natAbs) cap, .int .i64 (dexp d)]) ∧ Mag w' a (nl (dman d).natAbs) cap (dman d).natAbs ∧ Below w.heap.size w w' ∧ (0 < nl (dman d).natAbs → w.heap.size ≤ ab a)
def RetDyB (w : World) (d : Option (Int × Int)) (e : Ending) (w' : World) : Prop :=
  ∃ a cap, e = .returned (.tuple #[.agg #[.bool (dbad d), (.bool (decide (dman d < 0))), .slice a (nl (dman d).natAbs) cap, .int .i64 (dexp d)], .bool (!dbad d)]) ∧ Mag w' a (nl (dman d).natAbs) cap (dman d).natAbs ∧ Below w.heap.size w w' ∧ (0 < nl (dman d).natAbs → w.heap.size ≤ ab a)

set_option maxRecDepth 100000 in
set_option maxHeartbeats 2000000 in
theorem bad_any (w : World) :
    Calls Tryd.prog 41 #[] w fun e w' => e = .returned (.agg #[.bool true, .bool false, .slice none 0 0, .int .i64 0]) ∧ Below w.heap.size w w' := by
  go_enter Tryd.func41, Tryd.ntmps41
  go_wp2_with fail
  refine bodyPost_ret (v := .agg #[.bool true, .bool false, .slice none 0 0, .int .i64 0]) (by simp [results, Tryd.results41, go_sem]) rfl ?_
  exact ⟨rfl, (by repeat (with_reducible first | refine Below.setCell ?_ (by simp <;> omega) _ | refine Below.alloc ?_ (by simp <;> omega) _ | refine Below.drew ?_ | refine below_drewN ?_ _ | exact Below.refl _ _))⟩

set_option maxRecDepth 100000 in
set_option maxHeartbeats 2000000 in
theorem dnorm_bad (w : World) (s : Bool) (a : Option Addr) (n cap : Nat) (e : Int) :
    Calls Tryd.prog 39 #[.agg #[.bool true, .bool s, .slice a n cap, .int .i64 e]] w (RetDyB w none) := by
  have e2 : ¬ w.heap.size + 1 = w.heap.size := by omega
  go_enter Tryd.func39, Tryd.ntmps39
  go_wp2_with fail
  refine (bad_any _).mono ?_
  rintro e w1 ⟨rfl, hb⟩
  obtain ⟨hc1, hz1⟩ := bcell (hb.mono (show w.heap.size + 2 ≤ _ by simp))
  go_wp2_with fail
  refine bodyPost_ret2 (v := .tuple #[.agg #[.bool true, .bool false, .slice none 0 0, .int .i64 0], .bool false]) (by simp [results, Tryd.results39, go_sem, hc1]) rfl ?_
  have hbw := below_box (w := w) (by repeat (with_reducible first | refine Below.setCell ?_ (by simp <;> omega) _ | refine Below.alloc ?_ (by simp <;> omega) _ | refine Below.drew ?_ | refine below_drewN ?_ _ | exact Below.refl _ _)) hb
  exact ⟨none, 0, rfl, Mag.nil .., (by have hszw := hbw.size; repeat (with_reducible first | refine Below.setCell ?_ (by first | omega | (simp <;> omega)) _ | refine Below.alloc ?_ (by first | omega | (simp <;> omega)) _ | refine Below.drew ?_ | refine below_drewN ?_ _ | exact hbw)), nl0⟩

set_option maxRecDepth 100000 in
set_option maxHeartbeats 2000000 in
theorem dnorm_zero (w : World) (s : Bool) (a : Option Addr) (n cap x : Nat) (e : Int) (hx : Mag w a n cap x) (hlim : n ≤ 1099511627776) (hx0 : x = 0) :
    Calls Tryd.prog 39 #[.agg #[.bool false, .bool s, .slice a n cap, .int .i64 e]] w (RetDyB w (some (0, 0))) := by
  have e2 : ¬ w.heap.size + 1 = w.heap.size := by omega
  have hz : sgn s x = 0 := by subst hx0; cases s <;> rfl
  have HN := fun W h => Lib.hid (norm_any W s a n cap x h hlim)
  rw [hz] at HN
  have HG := fun W b c h => Lib.hid (sign_0 W b c h)
  go_enter Tryd.func39, Tryd.ntmps39
  go_wp2_with fail
  refine (HN _ (hx.below (by repeat (with_reducible first | refine Below.setCell ?_ (by simp <;> omega) _ | refine Below.alloc ?_ (by simp <;> omega) _ | refine Below.drew ?_ | refine below_drewN ?_ _ | exact Below.refl _ _)))).out.mono ?_
  rintro e w1 ⟨a1, c1, rfl, hm1, hb, hf1⟩
  obtain ⟨hc1, hz1⟩ := bcell (hb.mono (show w.heap.size + 2 ≤ _ by simp))
  have hg1 : w.heap.size + 2 ≤ w1.heap.size := by have := hb.size; simpa using this
  obtain ⟨g1, g2, g3, g4, l1, l2, l3⟩ := old2 hg1
  go_wp2_with fail
  refine (HG _ a1 c1 (hm1.below (by repeat (with_reducible first | refine Below.setCell ?_ (by simp <;> omega) _ | refine Below.alloc ?_ (by simp <;> omega) _ | refine Below.drew ?_ | refine below_drewN ?_ _ | exact Below.refl _ _)))).out.mono ?_
  rintro e w2 ⟨rfl, hb2⟩
  obtain ⟨hc2, hz2⟩ := bcell (hb2.mono (show w1.heap.size + 1 ≤ _ by simp))
  go_wp2_with fail
  refine bodyPost_ret2 (v := .tuple #[.agg #[.bool false, .bool false, .slice none 0 0, .int .i64 0], .bool true]) (by simp [results, Tryd.results39, go_sem, hc2, hc1, l1, l2]) rfl ?_
  have hbw0 := below_box (w := w) (by repeat (with_reducible first | refine Below.setCell ?_ (by simp <;> omega) _ | refine Below.alloc ?_ (by simp <;> omega) _ | refine Below.drew ?_ | refine below_drewN ?_ _ | exact Below.refl _ _)) hb
  have hbw1 : Below w.heap.size w _ := hbw0.alloc (by omega) (.cells #[.bool false, .slice a1 (nl 0) c1] 25)
  have hbw := below_box hbw1 hb2
  exact ⟨none, 0, rfl, Mag.nil .., (by have hszw := hbw.size; repeat (with_reducible first | refine Below.setCell ?_ (by first | omega | (simp <;> omega)) _ | refine Below.alloc ?_ (by first | omega | (simp <;> omega)) _ | refine Below.drew ?_ | refine below_drewN ?_ _ | exact hbw)), nl0⟩

set_option maxRecDepth 100000 in
set_option maxHeartbeats 2000000 in
theorem dnorm_hi (w : World) (s : Bool) (a : Option Addr) (n cap x : Nat) (e : Int) (hx : Mag w a n cap x) (hlim : n ≤ 1099511627776) (hx0 : x ≠ 0) (hT : Tab w) (hB : blen x ≤ 1048576) (_he0 : -9223372036854775808 ≤ e) (_he1 : e ≤ 9223372036854775807) (hh : 65536 - (blen x : Int) < e) :
    Calls Tryd.prog 39 #[.agg #[.bool false, .bool s, .slice a n cap, .int .i64 e]] w (RetDyB w none) := by
  have e2 : ¬ w.heap.size + 1 = w.heap.size := by omega
  have HN := fun W h => Lib.hid (norm_any W s a n cap x h hlim)
  have HB := fun W b c h => Lib.hid (bitlen_any W (decide (sgn s x < 0)) b (nl x) c x h (Nat.le_trans (nl_le hx.lt) hlim))
  have HT := fun W b c hw h => Lib.hid (trailing_any W hw (decide (sgn s x < 0)) b (nl x) c x h (Nat.le_trans (nl_le hx.lt) hlim))
  obtain ⟨z, hz⟩ : ∃ z, z = sgn s x := ⟨_, rfl⟩
  have hzx : x = z.natAbs := by rw [hz, sgn_natAbs]
  have hz0 : z ≠ 0 := by omega
  rw [← hz] at HN HB HT
  obtain ⟨B, hB2⟩ : ∃ B, B = blen x := ⟨_, rfl⟩
  obtain ⟨T, hT2⟩ : ∃ T, T = tz x := ⟨_, rfl⟩
  rw [← hB2] at HB hB hh
  rw [← hT2] at HT
  rw [hzx] at HB HT
  clear hz hzx hB2 hT2
  have HG := fun W b c h => Lib.hid (sign_z W b c z h)
  obtain ⟨g, hg⟩ : ∃ g, g = sg z := ⟨_, rfl⟩
  rw [← hg] at HG
  have hg0 : decide (g = 0) = false := by
    have : z ≠ 0 := hz0
    subst hg; unfold sg cmpI; simp; split <;> (try split) <;> omega
  clear hg
  have hge : (g == 0) = false := by simpa using hg0
  have hd : decide (IntKind.i64.wrap (65536 - (B : Int)) < e) = true := by rw [IntKind.wrap_i64]; simp; omega
  go_enter Tryd.func39, Tryd.ntmps39
  go_wp2_with fail
  refine (HN _ (hx.below (by repeat (with_reducible first | refine Below.setCell ?_ (by simp <;> omega) _ | refine Below.alloc ?_ (by simp <;> omega) _ | refine Below.drew ?_ | refine below_drewN ?_ _ | exact Below.refl _ _)))).out.mono ?_
  rintro e w1 ⟨a1, c1, rfl, hm1, hb, hf1⟩
  obtain ⟨hc1, hz1⟩ := bcell (hb.mono (show w.heap.size + 2 ≤ _ by simp))
  have hg1 : w.heap.size + 2 ≤ w1.heap.size := by have := hb.size; simpa using this
  obtain ⟨g1, g2, g3, g4, l1, l2, l3⟩ := old2 hg1
  go_wp2_with fail
  refine (HG _ a1 c1 (hm1.below (by repeat (with_reducible first | refine Below.setCell ?_ (by simp <;> omega) _ | refine Below.alloc ?_ (by simp <;> omega) _ | refine Below.drew ?_ | refine below_drewN ?_ _ | exact Below.refl _ _)))).out.mono ?_
  rintro e w2 ⟨rfl, hb2⟩
  obtain ⟨hc2, hz2⟩ := bcell (hb2.mono (show w1.heap.size + 1 ≤ _ by simp))
  go_wp2_with fail
  have hbw0 := below_box (w := w) (by repeat (with_reducible first | refine Below.setCell ?_ (by simp <;> omega) _ | refine Below.alloc ?_ (by simp <;> omega) _ | refine Below.drew ?_ | refine below_drewN ?_ _ | exact Below.refl _ _)) hb
  have hbw1 : Below w.heap.size w _ := hbw0.alloc (by omega) (.cells #[.bool (decide (z < 0)), .slice a1 (nl z.natAbs) c1] 25)
  have hbw2 := below_box hbw1 hb2
  have hs2 : w1.heap.size + 1 ≤ w2.heap.size := by have := hb2.size; simpa using this
  have hm2 : Mag w2 a1 (nl z.natAbs) c1 z.natAbs := (hm1.below (by repeat (with_reducible first | refine Below.setCell ?_ (by simp <;> omega) _ | refine Below.alloc ?_ (by simp <;> omega) _ | refine Below.drew ?_ | refine below_drewN ?_ _ | exact Below.refl _ _))).below hb2
  refine (HT w2 a1 c1 (hT.below hbw2) hm2).out.mono ?_
  rintro e w3 ⟨rfl, hb3⟩
  obtain ⟨hc3, hz3⟩ := bcell (hb3.mono (show w1.heap.size + 1 ≤ _ from hs2))
  have hm3 := hm2.below hb3
  have hbw3 := below_box hbw2 hb3
  have hs3 : w1.heap.size + 1 ≤ w3.heap.size := Nat.le_trans hs2 hb3.size
  go_wp2_with fail
  first | go_region_with (first | (go_at_call 46; refine (HB _ a1 c1 (hm3.below (by repeat (with_reducible first | refine Below.setCell ?_ (by simp <;> omega) _ | refine Below.alloc ?_ (by simp <;> omega) _ | refine Below.drew ?_ | refine below_drewN ?_ _ | exact Below.refl _ _)))).out.mono ?_; rintro e w4 ⟨rfl, hb4⟩; obtain ⟨hc4, hz4⟩ := bcell (hb4.mono (show w1.heap.size + 1 ≤ _ from hs3)))) | fail "region"
  all_goals go_wp2_with fail
  all_goals (
    have hbw4 := below_box hbw3.drew hb4
    have hs4 : w1.heap.size + 1 ≤ w4.heap.size := Nat.le_trans hs3 hb4.size
    refine (bad_any _).mono ?_
    rintro e w5 ⟨rfl, hb5⟩
    obtain ⟨hc5, hz5⟩ := bcell (hb5.mono (show w1.heap.size + 1 ≤ _ from hs4))
    have hbw := below_box hbw4 hb5
    go_wp2_with fail
    refine bodyPost_ret2 (v := .tuple #[.agg #[.bool true, .bool false, .slice none 0 0, .int .i64 0], .bool false]) (by simp [results, Tryd.results39, go_sem, hc5, hc4, hc3, hc2, hc1, l1, l2]) rfl ?_
    exact ⟨none, 0, rfl, Mag.nil .., (by have hszw := hbw.size; repeat (with_reducible first | refine Below.setCell ?_ (by first | omega | (simp <;> omega)) _ | refine Below.alloc ?_ (by first | omega | (simp <;> omega)) _ | refine Below.drew ?_ | refine below_drewN ?_ _ | exact hbw)), nl0⟩)

end Go.Proofs.YtjhngehajahbnaaDoor
