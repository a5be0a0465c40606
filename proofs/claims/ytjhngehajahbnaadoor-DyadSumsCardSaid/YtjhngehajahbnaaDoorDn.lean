/-
  Walks: dyad.norm: the other two cases, and the whole.
-/
import Derived.Test.YtjhngehajahbnaaDoorDy
namespace Go.Proofs.YtjhngehajahbnaaDoor
open Go.RowKit Sp

theorem right_z (w : World) (a : Option Addr) (cap : Nat) (z : Int) (T : Nat) (hm : Mag w a (nl z.natAbs) cap z.natAbs) (hlim : nl z.natAbs ≤ 1099511627776) (hT : T ≤ 1048576) :
    Calls Tryd.prog 69 #[.agg #[.bool (decide (z < 0)), .slice a (nl z.natAbs) cap], .int .i64 T] w (RetBig w (shl z (-(T : Int)))) := by
  have h := right_any w (decide (z < 0)) a _ cap _ (T : Int) hm hlim (by omega) (by omega)
  rwa [sgn_self] at h

set_option maxRecDepth 100000 in
set_option maxHeartbeats 2000000 in
theorem dnorm_lo (w : World) (s : Bool) (a : Option Addr) (n cap x : Nat) (e : Int) (hx : Mag w a n cap x) (hlim : n ≤ 1099511627776) (hx0 : x ≠ 0) (hT : Tab w) (hB : blen x ≤ 1048576) (hTz : tz x ≤ 1048576) (_he0 : -9223372036854775808 ≤ e) (_he1 : e ≤ 9223372036854775807) (hh : ¬ 65536 - (blen x : Int) < e) (hl : e < -65536 - (tz x : Int)) :
    Calls Tryd.prog 39 #[.agg #[.bool false, .bool s, .slice a n cap, .int .i64 e]] w (RetDyB w none) := by
  have e2 : ¬ w.heap.size + 1 = w.heap.size := by omega
  have HN := fun W h => Lib.hid (norm_any W s a n cap x h hlim)
  have HB := fun W b c h => Lib.hid (bitlen_any W (decide (sgn s x < 0)) b (nl x) c x h (Nat.le_trans (nl_le hx.lt) hlim))
  have HT := fun W b c hw h => Lib.hid (trailing_any W hw (decide (sgn s x < 0)) b (nl x) c x h (Nat.le_trans (nl_le hx.lt) hlim))
  obtain ⟨z, hz⟩ : ∃ z, z = sgn s x := ⟨_, rfl⟩
  have hzx : x = z.natAbs := by rw [hz, sgn_natAbs]
  have hz0 : z ≠ 0 := by omega
  rw [← hz] at HN HB HT; (try rw [← hz] at hzx')
  obtain ⟨B, hB2⟩ : ∃ B, B = blen x := ⟨_, rfl⟩
  obtain ⟨T, hT2⟩ : ∃ T, T = tz x := ⟨_, rfl⟩
  rw [← hB2] at HB hB hh
  rw [← hT2] at HT; (try rw [← hT2] at hl hTz); (try rw [← hT2] at hf); (try rw [← hT2, ← hz] at hy)
  rw [hzx] at HB HT
  clear hz hzx hB2 hT2
  have HG := fun W b c h => Lib.hid (sign_z W b c z h)
  obtain ⟨g, hg⟩ : ∃ g, g = sg z := ⟨_, rfl⟩
  rw [← hg] at HG
  have hg0 : decide (g = 0) = false := by
    have : z ≠ 0 := hz0
    subst hg; unfold sg cmpI; simp; split <;> (try split) <;> omega
  clear hg
  have hge : (g == 0) = false := by simpa using hg0
  have hd : decide (IntKind.i64.wrap (65536 - (B : Int)) < e) = false := by rw [IntKind.wrap_i64]; simp; omega
  have hd2 : decide (e < IntKind.i64.wrap (-65536 - (T : Int))) = true := by rw [IntKind.wrap_i64]; simp; omega
  go_enter Tryd.func39, Tryd.ntmps39
  go_wp2_with fail
  refine (HN _ (hx.below (by repeat (with_reducible first | refine Below.setCell ?_ (by simp <;> omega) _ | refine Below.alloc ?_ (by simp <;> omega) _ | refine Below.drew ?_ | refine below_drewN ?_ _ | exact Below.refl _ _)))).out.mono ?_
  rintro e w1 ⟨a1, c1, rfl, hm1, hb, hf1⟩
  obtain ⟨hc1, hz1⟩ := bcell (hb.mono (show w.heap.size + 2 ≤ _ by simp))
  have hg1 : w.heap.size + 2 ≤ w1.heap.size := by have := hb.size; simpa using this
  obtain ⟨g1, g2, g3, g4, l1, l2, l3⟩ := old2 hg1
  go_wp2_with fail
  refine (HG _ a1 c1 (hm1.below (by repeat (with_reducible first | refine Below.setCell ?_ (by simp <;> omega) _ | refine Below.alloc ?_ (by simp <;> omega) _ | refine Below.drew ?_ | refine below_drewN ?_ _ | exact Below.refl _ _)))).out.mono ?_
  rintro e w2 ⟨rfl, hb2⟩
  obtain ⟨hc2, hz2⟩ := bcell (hb2.mono (show w1.heap.size + 1 ≤ _ by simp))
  go_wp2_with fail
  have hbw0 := below_box (w := w) (by repeat (with_reducible first | refine Below.setCell ?_ (by simp <;> omega) _ | refine Below.alloc ?_ (by simp <;> omega) _ | refine Below.drew ?_ | refine below_drewN ?_ _ | exact Below.refl _ _)) hb
  have hbw1 : Below w.heap.size w _ := hbw0.alloc (by omega) (.cells #[.bool (decide (z < 0)), .slice a1 (nl z.natAbs) c1] 25)
  have hbw2 := below_box hbw1 hb2
  have hs2 : w1.heap.size + 1 ≤ w2.heap.size := by have := hb2.size; simpa using this
  have hm2 : Mag w2 a1 (nl z.natAbs) c1 z.natAbs := (hm1.below (by repeat (with_reducible first | refine Below.setCell ?_ (by simp <;> omega) _ | refine Below.alloc ?_ (by simp <;> omega) _ | refine Below.drew ?_ | refine below_drewN ?_ _ | exact Below.refl _ _))).below hb2
  refine (HT w2 a1 c1 (hT.below hbw2) hm2).out.mono ?_
  rintro e w3 ⟨rfl, hb3⟩
  obtain ⟨hc3, hz3⟩ := bcell (hb3.mono (show w1.heap.size + 1 ≤ _ from hs2))
  have hm3 := hm2.below hb3
  have hbw3 := below_box hbw2 hb3
  have hs3 : w1.heap.size + 1 ≤ w3.heap.size := Nat.le_trans hs2 hb3.size
  go_wp2_with fail
  first | go_region_held3 (fun w' => w'.cell? ⟨w.heap.size, 3, none⟩ = some (.int .i64 e) ∧ w'.cell? ⟨w1.heap.size, 0, none⟩ = some (.bool (decide (z < 0))) ∧ w'.cell? ⟨w1.heap.size, 1, none⟩ = some (.slice a1 (nl z.natAbs) c1)) (first | go_keep)
    (first | (go_at_call 46; refine (HB _ a1 c1 (hm3.below (by repeat (with_reducible first | refine Below.setCell ?_ (by simp <;> omega) _ | refine Below.alloc ?_ (by simp <;> omega) _ | refine Below.drew ?_ | refine below_drewN ?_ _ | exact Below.refl _ _)))).out.mono ?_; rintro e w4 ⟨rfl, hb4⟩; obtain ⟨hc4, hz4⟩ := bcell (hb4.mono (show w1.heap.size + 1 ≤ _ from hs3)))) | fail "region"
  go_wp2_with fail
  have hbw4 := below_box hbw3.drew hb4
  have hs4 : w1.heap.size + 1 ≤ w4.heap.size := Nat.le_trans hs3 hb4.size
  refine (bad_any _).mono ?_
  rintro e w5 ⟨rfl, hb5⟩
  obtain ⟨hc5, hz5⟩ := bcell (hb5.mono (show w1.heap.size + 1 ≤ _ from hs4))
  have hbw := below_box hbw4 hb5
  go_wp2_with fail
  refine bodyPost_ret2 (v := .tuple #[.agg #[.bool true, .bool false, .slice none 0 0, .int .i64 0], .bool false]) (by simp [results, Tryd.results39, go_sem, hc5, hc4, hc3, hc2, hc1, l1, l2]) rfl ?_
  exact ⟨none, 0, rfl, Mag.nil .., (by have hszw := hbw.size; repeat (with_reducible first | refine Below.setCell ?_ (by first | omega | (simp <;> omega)) _ | refine Below.alloc ?_ (by first | omega | (simp <;> omega)) _ | refine Below.drew ?_ | refine below_drewN ?_ _ | exact hbw)), nl0⟩

set_option maxRecDepth 100000 in
set_option maxHeartbeats 2000000 in
theorem dnorm_in (w : World) (s : Bool) (a : Option Addr) (n cap x : Nat) (e : Int) (hx : Mag w a n cap x) (hlim : n ≤ 1099511627776) (hx0 : x ≠ 0) (hT : Tab w) (hB : blen x ≤ 1048576) (hTz : tz x ≤ 1048576) (he0 : -9223372036854775808 ≤ e) (he1 : e ≤ 9223372036854775807) (hh : ¬ 65536 - (blen x : Int) < e) (hl : ¬ e < -65536 - (tz x : Int)) (y f : Int) (hy : y = shl (sgn s x) (-(tz x : Int))) (hf : f = e + tz x) :
    Calls Tryd.prog 39 #[.agg #[.bool false, .bool s, .slice a n cap, .int .i64 e]] w (RetDyB w (some (y, f))) := by
  have hzx' : (sgn s x).natAbs = x := sgn_natAbs s x
  have e2 : ¬ w.heap.size + 1 = w.heap.size := by omega
  have HN := fun W h => Lib.hid (norm_any W s a n cap x h hlim)
  have HB := fun W b c h => Lib.hid (bitlen_any W (decide (sgn s x < 0)) b (nl x) c x h (Nat.le_trans (nl_le hx.lt) hlim))
  have HT := fun W b c hw h => Lib.hid (trailing_any W hw (decide (sgn s x < 0)) b (nl x) c x h (Nat.le_trans (nl_le hx.lt) hlim))
  obtain ⟨z, hz⟩ : ∃ z, z = sgn s x := ⟨_, rfl⟩
  have hzx : x = z.natAbs := by rw [hz, sgn_natAbs]
  have hz0 : z ≠ 0 := by omega
  rw [← hz] at HN HB HT; (try rw [← hz] at hzx')
  obtain ⟨B, hB2⟩ : ∃ B, B = blen x := ⟨_, rfl⟩
  obtain ⟨T, hT2⟩ : ∃ T, T = tz x := ⟨_, rfl⟩
  rw [← hB2] at HB hB hh
  rw [← hT2] at HT; (try rw [← hT2] at hl hTz); (try rw [← hT2] at hf); (try rw [← hT2, ← hz] at hy)
  rw [hzx] at HB HT
  clear hz hzx hB2 hT2
  have HG := fun W b c h => Lib.hid (sign_z W b c z h)
  obtain ⟨g, hg⟩ : ∃ g, g = sg z := ⟨_, rfl⟩
  rw [← hg] at HG
  have hg0 : decide (g = 0) = false := by
    have : z ≠ 0 := hz0
    subst hg; unfold sg cmpI; simp; split <;> (try split) <;> omega
  clear hg
  have hge : (g == 0) = false := by simpa using hg0
  have hd : decide (IntKind.i64.wrap (65536 - (B : Int)) < e) = false := by rw [IntKind.wrap_i64]; simp; omega
  have hd2 : decide (e < IntKind.i64.wrap (-65536 - (T : Int))) = false := by rw [IntKind.wrap_i64]; simp; omega
  have hw1 : IntKind.i64.wrap (e + (T : Int)) = f := by rw [IntKind.wrap_i64]; omega
  have HR := fun W b c h => Lib.hid (right_z W b c z T h (Nat.le_trans (hzx' ▸ nl_le hx.lt) hlim) hTz)
  rw [← hy] at HR
  clear hy hzx' hf
  go_enter Tryd.func39, Tryd.ntmps39
  go_wp2_with fail
  refine (HN _ (hx.below (by repeat (with_reducible first | refine Below.setCell ?_ (by simp <;> omega) _ | refine Below.alloc ?_ (by simp <;> omega) _ | refine Below.drew ?_ | refine below_drewN ?_ _ | exact Below.refl _ _)))).out.mono ?_
  rintro e w1 ⟨a1, c1, rfl, hm1, hb, hf1⟩
  obtain ⟨hc1, hz1⟩ := bcell (hb.mono (show w.heap.size + 2 ≤ _ by simp))
  have hg1 : w.heap.size + 2 ≤ w1.heap.size := by have := hb.size; simpa using this
  obtain ⟨g1, g2, g3, g4, l1, l2, l3⟩ := old2 hg1
  go_wp2_with fail
  refine (HG _ a1 c1 (hm1.below (by repeat (with_reducible first | refine Below.setCell ?_ (by simp <;> omega) _ | refine Below.alloc ?_ (by simp <;> omega) _ | refine Below.drew ?_ | refine below_drewN ?_ _ | exact Below.refl _ _)))).out.mono ?_
  rintro e w2 ⟨rfl, hb2⟩
  obtain ⟨hc2, hz2⟩ := bcell (hb2.mono (show w1.heap.size + 1 ≤ _ by simp))
  go_wp2_with fail
  have hbw0 := below_box (w := w) (by repeat (with_reducible first | refine Below.setCell ?_ (by simp <;> omega) _ | refine Below.alloc ?_ (by simp <;> omega) _ | refine Below.drew ?_ | refine below_drewN ?_ _ | exact Below.refl _ _)) hb
  have hbw1 : Below w.heap.size w _ := hbw0.alloc (by omega) (.cells #[.bool (decide (z < 0)), .slice a1 (nl z.natAbs) c1] 25)
  have hbw2 := below_box hbw1 hb2
  have hs2 : w1.heap.size + 1 ≤ w2.heap.size := by have := hb2.size; simpa using this
  have hm2 : Mag w2 a1 (nl z.natAbs) c1 z.natAbs := (hm1.below (by repeat (with_reducible first | refine Below.setCell ?_ (by simp <;> omega) _ | refine Below.alloc ?_ (by simp <;> omega) _ | refine Below.drew ?_ | refine below_drewN ?_ _ | exact Below.refl _ _))).below hb2
  refine (HT w2 a1 c1 (hT.below hbw2) hm2).out.mono ?_
  rintro e w3 ⟨rfl, hb3⟩
  obtain ⟨hc3, hz3⟩ := bcell (hb3.mono (show w1.heap.size + 1 ≤ _ from hs2))
  have hm3 := hm2.below hb3
  have hbw3 := below_box hbw2 hb3
  have hs3 : w1.heap.size + 1 ≤ w3.heap.size := Nat.le_trans hs2 hb3.size
  go_wp2_with fail
  first | go_region_held3 (fun w' => w'.cell? ⟨w.heap.size, 3, none⟩ = some (.int .i64 e) ∧ w'.cell? ⟨w1.heap.size, 0, none⟩ = some (.bool (decide (z < 0))) ∧ w'.cell? ⟨w1.heap.size, 1, none⟩ = some (.slice a1 (nl z.natAbs) c1)) (first | go_keep)
    (first | (go_at_call 46; refine (HB _ a1 c1 (hm3.below (by repeat (with_reducible first | refine Below.setCell ?_ (by simp <;> omega) _ | refine Below.alloc ?_ (by simp <;> omega) _ | refine Below.drew ?_ | refine below_drewN ?_ _ | exact Below.refl _ _)))).out.mono ?_; rintro e w4 ⟨rfl, hb4⟩; obtain ⟨hc4, hz4⟩ := bcell (hb4.mono (show w1.heap.size + 1 ≤ _ from hs3)))) | fail "region"
  go_wp2_with fail
  have hbw4 := below_box hbw3.drew hb4
  have hs4 : w1.heap.size + 1 ≤ w4.heap.size := Nat.le_trans hs3 hb4.size
  have hm4 := (hm3.below (Below.drew (Below.refl _ _))).below hb4
  first | go_region_held3 (fun w' => w'.cell? ⟨w.heap.size, 3, none⟩ = some (.int .i64 e) ∧ w'.cell? ⟨w1.heap.size, 0, none⟩ = some (.bool (decide (z < 0))) ∧ w'.cell? ⟨w1.heap.size, 1, none⟩ = some (.slice a1 (nl z.natAbs) c1)) (first | go_keep)
    (first | (go_at_call 69; refine (HR _ a1 c1 (hm4.below (by repeat (with_reducible first | refine Below.setCell ?_ (by simp <;> omega) _ | refine Below.alloc ?_ (by simp <;> omega) _ | refine Below.drew ?_ | refine below_drewN ?_ _ | exact Below.refl _ _)))).out.mono ?_; rintro e w5 ⟨a5, c5, rfl, hm5, hb5, hf5⟩; obtain ⟨hc5, hz5⟩ := bcell (hb5.mono (show w1.heap.size + 1 ≤ _ from hs4)))) | fail "region"
  go_wp2_with fail
  have hbw5 := below_box (w := w) (hbw4.drew) hb5
  have hfr : 0 < nl y.natAbs → w1.heap.size + 1 ≤ ab a5 := fun h => by have := hf5 h; simp at this; omega
  have hbw : Below w.heap.size w w5 := by first | exact hbw5 | exact below_box hbw4 hb5
  refine bodyPost_ret2 (v := .tuple #[.agg #[.bool false, .bool (decide (y < 0)), .slice a5 (nl y.natAbs) c5, .int .i64 f], .bool true]) (by simp [results, Tryd.results39, go_sem, hc5, hc4, hc3, hc2, hc1, l1, l2]) rfl ?_
  exact ⟨a5, c5, rfl, (((hm5.set (fun h => by have := hfr h; omega) _ _).set (fun h => by have := hfr h; omega) _ _).set (fun h => by have := hfr h; omega) _ _).set (fun h => by have := hfr h; omega) _ _, (by have hszw := hbw.size; repeat (with_reducible first | refine Below.setCell ?_ (by first | omega | (simp <;> omega)) _ | refine Below.alloc ?_ (by first | omega | (simp <;> omega)) _ | refine Below.drew ?_ | refine below_drewN ?_ _ | exact hbw)), fun h => by have := hfr h; omega⟩

set_option maxRecDepth 100000 in
set_option maxHeartbeats 2000000 in
/-- norm: the whole of it -/
theorem dnorm_any (w : World) (bd s : Bool) (a : Option Addr) (n cap x : Nat) (e : Int) (hx : Mag w a n cap x) (hlim : n ≤ 1099511627776) (hT : Tab w) (hB : blen x ≤ 1048576) (hTz : tz x ≤ 1048576) (he0 : -9223372036854775808 ≤ e) (he1 : e ≤ 9223372036854775807) :
    Calls Tryd.prog 39 #[.agg #[.bool bd, .bool s, .slice a n cap, .int .i64 e]] w (RetDyB w (nrmB bd (sgn s x) e)) := by
  cases bd with
  | true => exact dnorm_bad w s a n cap e
  | false =>
    have hab := sgn_natAbs s x
    by_cases hx0 : x = 0
    · have h := dnorm_zero w s a n cap x e hx hlim hx0
      have ez : sgn s x = 0 := by subst hx0; cases s <;> rfl
      rw [ez]; exact h
    · have ez : sgn s x ≠ 0 := by omega
      unfold nrmB nrm
      rw [if_neg (by simp), if_neg ez, hab]
      by_cases h1 : 65536 - (blen x : Int) < e
      · rw [if_pos (Or.inl h1)]; exact dnorm_hi w s a n cap x e hx hlim hx0 hT hB he0 he1 h1
      · by_cases h2 : e < -65536 - (tz x : Int)
        · rw [if_pos (Or.inr h2)]; exact dnorm_lo w s a n cap x e hx hlim hx0 hT hB hTz he0 he1 h1 h2
        · rw [if_neg (by omega)]
          refine dnorm_in w s a n cap x e hx hlim hx0 hT hB hTz he0 he1 h1 h2 _ _ ?_ rfl
          unfold shl; split
          · rename_i h; have : tz x = 0 := by omega
            simp [this]
          · simp

end Go.Proofs.YtjhngehajahbnaaDoor
