/-
  Walks: package integer: DivMod, Sqrt.
-/
import Derived.Test.YtjhngehajahbnaaDoorShift
namespace Go.Proofs.YtjhngehajahbnaaDoor
open Go.RowKit Sp

/-- A call's three results: two integers, and an error's number. -/
def RetBig2E (w : World) (z r err : Int) (e : Ending) (w' : World) : Prop :=
  ∃ a cap a' cap', e = .returned (.tuple #[.agg #[.bool (decide (z < 0)), .slice a (nl z.natAbs) cap], .agg #[.bool (decide (r < 0)), .slice a' (nl r.natAbs) cap'], .int .i64 err]) ∧ Mag w' a (nl z.natAbs) cap z.natAbs ∧ Mag w' a' (nl r.natAbs) cap' r.natAbs ∧ Below w.heap.size w w' ∧
    (0 < nl z.natAbs → w.heap.size ≤ ab a) ∧ (0 < nl r.natAbs → w.heap.size ≤ ab a')

set_option maxRecDepth 100000 in
set_option maxHeartbeats 2000000 in
/-- a / b and the remainder, where a is not negative or the remainder is zero: nothing is mended -/
theorem divmod_plain (w : World) (s t : Bool) (a a' : Option Addr) (n m cap cap' x y : Nat) (hx : Mag w a n cap x) (hy : Mag w a' m cap' y) (hn : n ≤ 1099511627776) (_hm : m ≤ 1099511627776) (hy0 : 0 < y) (hs : s = false) (q r : Nat) (hq : x / y = q) (hr : x % y = r) :
    Calls Tryd.prog 92 #[.agg #[.bool s, .slice a n cap], .agg #[.bool t, .slice a' m cap']] w (RetBig2E w (sgn t q) (sgn false r) 0) := by
  subst hs
  have HQ := Lib.hid hq
  have HR := Lib.hid hr
  clear hq hr
  have nx := nl_le hx.lt
  have ny := nl_le hy.lt
  have hn1 : (((nl y : Nat) : Int) == 0) = false := by rw [beq_eq_false_iff_ne]; have := nl_pos hy0; omega
  have e2 : ¬ w.heap.size + 1 + 1 = w.heap.size := by omega
  have e3 : ¬ w.heap.size + 1 + 1 + 1 = w.heap.size := by omega
  go_enter Tryd.func92, Tryd.ntmps92
  go_wp2_with fail
  refine (trim_any _ _ _ _ _ (hy.below (by repeat (with_reducible first | refine Below.setCell ?_ (by simp <;> omega) _ | refine Below.alloc ?_ (by simp <;> omega) _ | refine Below.drew ?_ | refine below_drewN ?_ _ | exact Below.refl _ _)))).mono ?_
  rintro e w' ⟨rfl, rfl⟩
  go_wp2_with fail
  refine (trim_any _ _ _ _ _ (hx.below (by repeat (with_reducible first | refine Below.setCell ?_ (by simp <;> omega) _ | refine Below.alloc ?_ (by simp <;> omega) _ | refine Below.drew ?_ | refine below_drewN ?_ _ | exact Below.refl _ _)))).mono ?_
  rintro e w' ⟨rfl, rfl⟩
  go_wp2_with fail
  refine (divide_any _ _ _ _ _ _ _ _ _ (hx.below (by repeat (with_reducible first | refine Below.setCell ?_ (by simp <;> omega) _ | refine Below.alloc ?_ (by simp <;> omega) _ | refine Below.drew ?_ | refine below_drewN ?_ _ | exact Below.refl _ _))).trim (hy.below (by repeat (with_reducible first | refine Below.setCell ?_ (by simp <;> omega) _ | refine Below.alloc ?_ (by simp <;> omega) _ | refine Below.drew ?_ | refine below_drewN ?_ _ | exact Below.refl _ _))).trim rfl rfl (by omega) hy0).mono ?_
  rintro e w1 ⟨a1, c1, a2, c2, rfl, hm1, hm2, hb1, hf1, hf2⟩
  rw [HQ.out] at hm1 hf1 ⊢
  rw [HR.out] at hm2 hf2 ⊢
  obtain ⟨hc1, hz1⟩ := bcell (hb1.mono (show w.heap.size + 4 ≤ _ by simp))
  go_wp2_with fail
  refine (big_any _ _ _ _ _ _ hm1).mono ?_
  rintro e w2 ⟨a3, c3, rfl, hm3, hb2, hf3⟩
  have hbb := hb1.trans (hb2.mono hb1.size)
  obtain ⟨hc2, hz2⟩ := bcell (hbb.mono (show w.heap.size + 4 ≤ _ by simp))
  have hm2' := hm2.below hb2
  go_wp2_with fail
  refine (big_any _ _ _ _ _ _ hm2').mono ?_
  rintro e w3 ⟨a4, c4, rfl, hm4, hb3, hf4⟩
  have hb := hbb.trans (hb3.mono hbb.size)
  obtain ⟨hc3, hz3⟩ := bcell (hb.mono (show w.heap.size + 4 ≤ _ by simp))
  have hm3' := hm3.below hb3
  go_wp2_with fail
  refine bodyPost_ret2 (v := .tuple #[.agg #[.bool (t && decide (0 < q)), .slice a3 (nl q) c3], .agg #[.bool (false && decide (0 < r)), .slice a4 (nl r) c4], .int .i64 0]) (by simp [results, Tryd.results92, go_sem, hc3]) rfl ?_
  have g1 : 0 < nl q → w.heap.size + 4 ≤ ab a3 := fun h => by rw [hf3 h]; have := hf1 h; simpa using this
  have g2 : 0 < nl r → w.heap.size + 4 ≤ ab a4 := fun h => by rw [hf4 h]; have := hf2 h; simpa using this
  rw [← sgn_lt, ← sgn_lt]
  have hbw := below_box (w := w) (by repeat (with_reducible first | refine Below.setCell ?_ (by simp <;> omega) _ | refine Below.alloc ?_ (by simp <;> omega) _ | refine Below.drew ?_ | refine below_drewN ?_ _ | exact Below.refl _ _)) hb
  have hset : ∀ (a : Option Addr) (c z : Nat), Mag w3 a (nl z) c z → (0 < nl z → w.heap.size + 4 ≤ ab a) → ∀ u1 u2 u3 u4, Mag ((((w3.setCell ⟨w.heap.size + 1 + 1, 0, none⟩ u1).setCell ⟨w.heap.size + 1 + 1, 1, none⟩ u2).setCell ⟨w.heap.size + 1 + 1 + 1, 0, none⟩ u3).setCell ⟨w.heap.size + 1 + 1 + 1, 1, none⟩ u4) a (nl z) c z :=
    fun a c z hm hf u1 u2 u3 u4 => (((hm.set (fun h => by have := hf h; omega) _ _).set (fun h => by have := hf h; omega) _ _).set (fun h => by have := hf h; omega) _ _).set (fun h => by have := hf h; omega) _ _
  refine ⟨a3, c3, a4, c4, by rw [sgn_natAbs, sgn_natAbs], ?_, ?_, ?_, ?_, ?_⟩
  · rw [sgn_natAbs]; exact hset _ _ _ hm3' g1 _ _ _ _
  · rw [sgn_natAbs]; exact hset _ _ _ hm4 g2 _ _ _ _
  · exact (((hbw.setCell (by show _ ≤ w.heap.size + 1 + 1; omega) _).setCell (by show _ ≤ w.heap.size + 1 + 1; omega) _).setCell (by show _ ≤ w.heap.size + 1 + 1 + 1; omega) _).setCell (by show _ ≤ w.heap.size + 1 + 1 + 1; omega) _
  · rw [sgn_natAbs]; exact fun h => by have := g1 h; omega
  · rw [sgn_natAbs]; exact fun h => by have := g2 h; omega

set_option maxRecDepth 100000 in
set_option maxHeartbeats 2000000 in
/-- the square root of an integer that is not negative -/
theorem sqrt_any (w : World) (s : Bool) (a : Option Addr) (n cap x r : Nat) (hx : Mag w a n cap x) (hn : n ≤ 17179869184) (hs : 0 ≤ sgn s x) (h1 : r * r ≤ x) (h2 : x < (r + 1) * (r + 1)) :
    Calls Tryd.prog 98 #[.agg #[.bool s, .slice a n cap]] w (RetBigE w (sgn false r) 0) := by
  have nx := nl_le hx.lt
  obtain ⟨p, hp, hp0⟩ : ∃ p, sg (sgn s x) = p ∧ 0 ≤ p := ⟨_, rfl, by rcases sg_cases (sgn s x) with h | h | h <;> omega⟩
  have HS := fun W h => Lib.hid (sign_any W s a n cap x h)
  rw [hp] at HS
  clear hp
  have hpd : decide (p < 0) = false := by simp <;> omega
  have HRt := fun W c h => Lib.hid (root_any W a (nl x) c x r h rfl (by omega) h1 h2)
  clear h1 h2
  have e2 : ¬ w.heap.size + 1 = w.heap.size := by omega
  go_enter Tryd.func98, Tryd.ntmps98
  go_wp2_with fail
  refine (HS _ (hx.below (by repeat (with_reducible first | refine Below.setCell ?_ (by simp <;> omega) _ | refine Below.alloc ?_ (by simp <;> omega) _ | refine Below.drew ?_ | refine below_drewN ?_ _ | exact Below.refl _ _)))).out.mono ?_
  rintro e w0 ⟨rfl, hb0⟩
  obtain ⟨hc0, hz0⟩ := bcell (hb0.mono (show w.heap.size + 2 ≤ _ by simp))
  have hx0 := (hx.below (below_box (w := w) (by repeat (with_reducible first | refine Below.setCell ?_ (by simp <;> omega) _ | refine Below.alloc ?_ (by simp <;> omega) _ | refine Below.drew ?_ | refine below_drewN ?_ _ | exact Below.refl _ _)) hb0))
  go_wp2_with fail
  refine (trim_any _ _ _ _ _ hx0).mono ?_
  rintro e w' ⟨rfl, rfl⟩
  go_wp2_with fail
  refine (HRt _ _ hx0.trim).out.mono ?_
  rintro e w1 ⟨a1, c1, rfl, hm1, hb1', hf1'⟩
  have hb1 := hb0.trans (hb1'.mono hb0.size)
  have hf1 : 0 < nl r → w.heap.size + 2 ≤ ab a1 := fun h => by
    have h1 := hf1' h
    have h3 := hb0.size
    simp at h3
    omega
  obtain ⟨hc1, hz1⟩ := bcell (hb1.mono (show w.heap.size + 2 ≤ _ by simp))
  go_wp2_with fail
  refine (big_any _ _ _ _ _ _ hm1).mono ?_
  rintro e w2 ⟨a2, c2, rfl, hm2, hb2, hf2⟩
  have hb := hb1.trans (hb2.mono hb1.size)
  obtain ⟨hc2, hz2⟩ := bcell (hb.mono (show w.heap.size + 2 ≤ _ by simp))
  go_wp2_with fail
  refine bodyPost_ret2 (v := .tuple #[.agg #[.bool (false && decide (0 < r)), .slice a2 (nl r) c2], .int .i64 0]) (by simp [results, Tryd.results98, go_sem, hc2]) rfl ?_
  refine ret_sgnE rfl hm2 (fun h => ?_) (below_box (by repeat (with_reducible first | refine Below.setCell ?_ (by simp <;> omega) _ | refine Below.alloc ?_ (by simp <;> omega) _ | refine Below.drew ?_ | refine below_drewN ?_ _ | exact Below.refl _ _)) hb) (by omega)
  rw [hf2 h]
  have := hf1 h
  omega

end Go.Proofs.YtjhngehajahbnaaDoor
