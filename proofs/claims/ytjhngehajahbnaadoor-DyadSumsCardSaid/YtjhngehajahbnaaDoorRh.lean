/-
  Walks: the reference's Shift (to the left; to the right, a number that is not negative), sparseref02.down.
-/
import Derived.Test.YtjhngehajahbnaaDoorRs
import Derived.Test.YtjhngehajahbnaaDoorVal
namespace Go.Proofs.YtjhngehajahbnaaDoor
open Go.RowKit Sp

theorem sgn_pow (z : Int) (k : Nat) : sgn (decide (z < 0)) (z.natAbs * 2 ^ k) = z * 2 ^ k := by
  have h : ((z.natAbs * 2 ^ k : Nat) : Int) = (z.natAbs : Int) * 2 ^ k := by simp
  unfold sgn
  by_cases hz : z < 0
  · rw [decide_eq_true hz]
    show -((z.natAbs * 2 ^ k : Nat) : Int) = _
    rw [h, ← Int.neg_mul, show -(z.natAbs : Int) = z by omega]
  · rw [decide_eq_false hz]
    show ((z.natAbs * 2 ^ k : Nat) : Int) = _
    rw [h, show (z.natAbs : Int) = z by omega]

set_option maxRecDepth 100000 in
set_option maxHeartbeats 2000000 in
theorem rshift_up (w : World) (s : Bool) (a : Option Addr) (n cap x k : Nat) (hx : Mag w a n cap x) (hlim : n ≤ 549755813888) (hk : k ≤ 1048576) :
    Calls Tryd.prog 52 #[.agg #[.bool s, .slice a n cap], .int .i64 k] w (RetBig w (sgn s x * 2 ^ k)) := by
  have HR := fun W h => Lib.hid (rnorm_any W s a n cap x h (by omega))
  obtain ⟨z, hz⟩ : ∃ z, z = sgn s x := ⟨_, rfl⟩
  have hnz : nl z.natAbs ≤ n := by rw [hz, sgn_natAbs]; exact nl_le hx.lt
  rw [← hz] at HR ⊢
  clear hz
  have HS := fun W b c h => Lib.hid (rshl_any W b (nl z.natAbs) c z.natAbs k h (by omega) hk)
  have HM := fun W b m c h (hm : m ≤ k / 32 + nl z.natAbs + 1) => Lib.hid (rmake1_any W (decide (z < 0)) b m c (z.natAbs * 2 ^ k) h (by omega))
  rw [sgn_pow] at HM
  generalize k / 32 + nl z.natAbs + 1 = N at HS HM
  generalize hX : z.natAbs * 2 ^ k = X at HS HM
  generalize hV : z * 2 ^ k = v at HM ⊢
  have t3 : decide ((0 : Int) ≤ (k : Int)) = true := by simp
  have e2 : ¬ w.heap.size + 1 = w.heap.size := by omega
  clear hX hV hk hlim hnz
  go_enter Tryd.func52, Tryd.ntmps52
  go_wp2_with fail
  refine (HR _ (hx.below (by repeat (with_reducible first | refine Below.setCell ?_ (by simp <;> omega) _ | refine Below.alloc ?_ (by simp <;> omega) _ | refine Below.drew ?_ | refine below_drewN ?_ _ | exact Below.refl _ _)))).out.mono ?_
  rintro e w1 ⟨a1, c1, rfl, hm1, hb, hf1⟩
  obtain ⟨hc1, hz1⟩ := bcell (hb.mono (show w.heap.size + 2 ≤ _ by simp))
  have hg1 : w.heap.size + 2 ≤ w1.heap.size := by have := hb.size; simpa using this
  have hfr1 : 0 < nl z.natAbs → w.heap.size + 2 ≤ ab a1 := fun h => by have := hf1 h; simpa using this
  have hbw := below_box (w := w) (by repeat (with_reducible first | refine Below.setCell ?_ (by simp <;> omega) _ | refine Below.alloc ?_ (by simp <;> omega) _ | refine Below.drew ?_ | refine below_drewN ?_ _ | exact Below.refl _ _)) hb
  go_wp2_with fail
  first
  | go_region_held3 (fun w' => w'.cell? ⟨w.heap.size, 0, none⟩ = some (.bool (decide (z < 0))) ∧ w'.cell? ⟨w.heap.size, 1, none⟩ = some (.slice a1 (nl z.natAbs) c1)) (first | (go_keep; done) | (go_simp; done))
    (first
      | (go_at_call 83; refine (HS _ a1 c1 (by repeat (with_reducible first | refine Mag.set ?_ (fun h => by have := hfr1 h; omega) _ _ | refine Mag.drew ?_ | refine Mag.alloc ?_ _ | refine Mag.drewN ?_ _ | refine Mag.below ?_ (Below.drew (Below.refl _ _)) | refine Mag.below ?_ ((Below.refl _ _).alloc (Nat.le_refl _) _) | exact hm1))).out.mono ?_; rintro e w2 ⟨a2, n2, c2, rfl, hm2, hn2, hb2, hf2⟩; obtain ⟨hc2, hz2⟩ := bcell (hb2.mono (show w.heap.size + 2 ≤ _ by first | (simp; done) | (simp; omega) | omega)); have hbw2 := below_box (w := w) (by have hszw := hbw.size; repeat (with_reducible first | refine Below.setCell ?_ (by first | omega | (simp <;> omega)) _ | refine Below.alloc ?_ (by first | omega | (simp <;> omega)) _ | refine Below.drew ?_ | refine below_drewN ?_ _ | exact hbw)) hb2; have hg2 : w.heap.size + 2 ≤ w2.heap.size := (by have := hb2.size; (try simp at this); omega))
      | (go_at_call 79; refine (HM _ a2 n2 c2 (hm2.below (by repeat (with_reducible first | refine Below.setCell ?_ (by simp <;> omega) _ | refine Below.alloc ?_ (by simp <;> omega) _ | refine Below.drew ?_ | refine below_drewN ?_ _ | exact Below.refl _ _))) hn2).out.mono ?_; rintro e w3 ⟨a3, c3, rfl, hm3, hb3, hf3⟩; obtain ⟨hc3, hz3⟩ := bcell (hb3.mono (show w.heap.size + 2 ≤ _ by first | exact hg2 | (simp; omega))); have hbw3 := below_box (w := w) (by have hszw := (hbw2).size; repeat (with_reducible first | refine Below.setCell ?_ (by first | omega | (simp <;> omega)) _ | refine Below.alloc ?_ (by first | omega | (simp <;> omega)) _ | refine Below.drew ?_ | refine below_drewN ?_ _ | exact hbw2)) hb3; have hg3 : w.heap.size + 2 ≤ w3.heap.size := (by have := hb3.size; (try simp at this); omega); have hfr3 : 0 < nl v.natAbs → w.heap.size + 2 ≤ ab a3 := (fun h => by have := hf3 h; (try simp at this); omega))
      | fail)
  | fail "region"
  all_goals go_wp2_with fail
  all_goals (
    refine bodyPost_ret (v := .agg #[.bool (decide (v < 0)), .slice a3 (nl v.natAbs) c3]) (by simp only [results, Tryd.results52]; go_simp) rfl ?_
    exact ret_big hm3 (fun h => by have := hfr3 h; omega) hbw3 (by omega))

set_option maxRecDepth 100000 in
set_option maxHeartbeats 2000000 in
theorem rshift_dn (w : World) (a : Option Addr) (n cap x k : Nat) (m : Int) (hx : Mag w a n cap x) (hlim : n ≤ 549755813888) (hk0 : 1 ≤ k) (hk : k ≤ 1048576) (hmk : m = -(k : Int)) :
    Calls Tryd.prog 52 #[.agg #[.bool false, .slice a n cap], .int .i64 m] w (RetBig w ((x / 2 ^ k : Nat) : Int)) := by
  have HR := fun W h => Lib.hid (rnorm_any W false a n cap x h (by omega))
  have hnz : nl x ≤ n := nl_le hx.lt
  obtain ⟨z, hz⟩ : ∃ z, z = sgn false x := ⟨_, rfl⟩
  have hzx : z.natAbs = x := by rw [hz, sgn_natAbs]
  have hz0 : decide (z < 0) = false := by rw [hz]; simp [sgn]
  rw [← hz] at HR
  rw [← hzx] at hnz ⊢
  clear hz hzx
  have HS := fun W b c h => Lib.hid (rshr_any W b (nl z.natAbs) c z.natAbs k h (by omega) hk _ rfl)
  generalize decide (z.natAbs % 2 ^ k ≠ 0) = lb at HS
  have HM := fun W b m c h (hm : m ≤ nl z.natAbs) => Lib.hid (rmake1_any W false b m c (z.natAbs / 2 ^ k) h (by omega))
  rw [show sgn false (z.natAbs / 2 ^ k) = ((z.natAbs / 2 ^ k : Nat) : Int) from rfl] at HM
  generalize z.natAbs / 2 ^ k = X at HS HM ⊢
  generalize hV : (X : Int) = v at HM ⊢
  have t3 : decide ((0 : Int) ≤ m) = false := by simp; omega
  have t4 : IntKind.i64.wrap (-m) = (k : Int) := by rw [IntKind.wrap_i64]; omega
  have e2 : ¬ w.heap.size + 1 = w.heap.size := by omega
  clear hV hk hlim hmk hk0
  go_enter Tryd.func52, Tryd.ntmps52
  go_wp2_with fail
  refine (HR _ (hx.below (by repeat (with_reducible first | refine Below.setCell ?_ (by simp <;> omega) _ | refine Below.alloc ?_ (by simp <;> omega) _ | refine Below.drew ?_ | refine below_drewN ?_ _ | exact Below.refl _ _)))).out.mono ?_
  rintro e w1 ⟨a1, c1, rfl, hm1, hb, hf1⟩
  obtain ⟨hc1, hz1⟩ := bcell (hb.mono (show w.heap.size + 2 ≤ _ by simp))
  have hg1 : w.heap.size + 2 ≤ w1.heap.size := by have := hb.size; simpa using this
  have hfr1 : 0 < nl z.natAbs → w.heap.size + 2 ≤ ab a1 := fun h => by have := hf1 h; simpa using this
  have hbw := below_box (w := w) (by repeat (with_reducible first | refine Below.setCell ?_ (by simp <;> omega) _ | refine Below.alloc ?_ (by simp <;> omega) _ | refine Below.drew ?_ | refine below_drewN ?_ _ | exact Below.refl _ _)) hb
  go_wp2_with fail
  refine (HS _ a1 c1 (by repeat (with_reducible first | refine Mag.set ?_ (fun h => by have := hfr1 h; omega) _ _ | refine Mag.drew ?_ | refine Mag.alloc ?_ _ | refine Mag.drewN ?_ _ | refine Mag.below ?_ (Below.drew (Below.refl _ _)) | refine Mag.below ?_ ((Below.refl _ _).alloc (Nat.le_refl _) _) | exact hm1))).out.mono ?_
  rintro e w2 ⟨a2, n2, c2, rfl, hm2, hn2, hb2, hf2⟩
  obtain ⟨hc2, hz2⟩ := bcell (hb2.mono (show w.heap.size + 2 ≤ _ by simp; omega))
  have hbw2 := below_box (w := w) (by have hszw := hbw.size; repeat (with_reducible first | refine Below.setCell ?_ (by first | omega | (simp <;> omega)) _ | refine Below.alloc ?_ (by first | omega | (simp <;> omega)) _ | refine Below.drew ?_ | refine below_drewN ?_ _ | exact hbw)) hb2
  have hg2 : w.heap.size + 2 ≤ w2.heap.size := by have := hb2.size; (try simp at this); omega
  obtain ⟨q0, q1, q2, q3, q4⟩ : w2.cell? ⟨w.heap.size, 0, none⟩ = some (.bool false) ∧ w2.cell? ⟨w.heap.size + 1, 0, none⟩ = some (.bool false) ∧ w2.cell? ⟨w.heap.size + 1, 1, none⟩ = some (.slice none 0 0) ∧ (∀ i, w2.frozen? ⟨w.heap.size + 1, i, none⟩ = false) ∧ w.heap.size < w2.heap.size := ⟨by go_simp, by go_simp, by go_simp, fun i => by go_simp, by omega⟩
  clear hc1 hz1 hc2 hz2 hb hb2 hbw hf2
  go_wp2_with fail
  refine (HM _ a2 n2 c2 (hm2.below (by repeat (with_reducible first | refine Below.setCell ?_ (by simp <;> omega) _ | refine Below.alloc ?_ (by simp <;> omega) _ | refine Below.drew ?_ | refine below_drewN ?_ _ | exact Below.refl _ _))) hn2).out.mono ?_
  rintro e w3 ⟨a3, c3, rfl, hm3, hb3, hf3⟩
  obtain ⟨hc3, hz3⟩ := bcell (hb3.mono (show w.heap.size + 2 ≤ _ by first | exact hg2 | (simp; omega)))
  have hbw3 := below_box (w := w) (by have hszw := (hbw2).size; repeat (with_reducible first | refine Below.setCell ?_ (by first | omega | (simp <;> omega)) _ | refine Below.alloc ?_ (by first | omega | (simp <;> omega)) _ | refine Below.drew ?_ | refine below_drewN ?_ _ | exact hbw2)) hb3
  have hg3 : w.heap.size + 2 ≤ w3.heap.size := by have := hb3.size; (try simp at this); omega
  have hfr3 : 0 < nl v.natAbs → w.heap.size + 2 ≤ ab a3 := fun h => by have := hf3 h; (try simp at this); omega
  have o3 := hm3.old
  obtain ⟨y0, y1, y2, y3, y4⟩ : w3.cell? ⟨w.heap.size, 0, none⟩ = some (.bool false) ∧ w3.cell? ⟨w.heap.size + 1, 0, none⟩ = some (.bool false) ∧ w3.cell? ⟨w.heap.size + 1, 1, none⟩ = some (.slice none 0 0) ∧ (∀ i, w3.frozen? ⟨w.heap.size + 1, i, none⟩ = false) ∧ w.heap.size < w3.heap.size := ⟨by go_simp, by go_simp, by go_simp, fun i => by go_simp, by omega⟩
  have n1 : ¬ w.heap.size = w3.heap.size := by omega
  have n2' : ¬ w.heap.size + 1 = w3.heap.size := by omega
  have n3 : ¬ w3.heap.size = w.heap.size + 1 := by omega
  have n4 : w.heap.size + 1 < w3.heap.size := by omega
  clear hc3 hz3 q0 q1 q2 q3 q4
  go_wp2_with fail
  refine bodyPost_ret (v := .agg #[.bool (decide (v < 0)), .slice a3 (nl v.natAbs) c3]) (by simp only [results, Tryd.results52]; go_simp) rfl ?_
  exact ⟨a3, c3, rfl, (by repeat (with_reducible first | refine Mag.set ?_ (fun h => by have := hfr3 h; omega) _ _ | refine Mag.drew ?_ | refine Mag.alloc ?_ _ | refine Mag.drewN ?_ _ | refine Mag.below ?_ (Below.drew (Below.refl _ _)) | refine Mag.below ?_ ((Below.refl _ _).alloc (Nat.le_refl _) _) | exact hm3)), (by have hszw := (hbw3).size; repeat (with_reducible first | refine Below.setCell ?_ (by first | omega | (simp <;> omega)) _ | refine Below.alloc ?_ (by first | omega | (simp <;> omega)) _ | refine Below.drew ?_ | refine below_drewN ?_ _ | exact hbw3)), fun h => by have := hfr3 h; omega⟩

theorem rshift_le (w : World) (a : Option Addr) (n cap x k : Nat) (m : Int) (hx : Mag w a n cap x) (hlim : n ≤ 549755813888) (hk : k ≤ 1048576) (hmk : m = -(k : Int)) :
    Calls Tryd.prog 52 #[.agg #[.bool false, .slice a n cap], .int .i64 m] w (RetBig w ((x / 2 ^ k : Nat) : Int)) := by
  rcases Nat.eq_zero_or_pos k with h0 | h0
  · subst h0
    have := rshift_up w false a n cap x 0 hx hlim (by omega)
    rw [show sgn false x * 2 ^ 0 = ((x / 2 ^ 0 : Nat) : Int) by simp [sgn]] at this
    rw [hmk]
    exact this
  · exact rshift_dn w a n cap x k m hx hlim h0 hk hmk

set_option maxRecDepth 100000 in
set_option maxHeartbeats 2000000 in
theorem rdown_any (w : World) (a : Option Addr) (n cap x k : Nat) (hx : Mag w a n cap x) (hlim : n ≤ 549755813888) (hk : k ≤ 1048576) :
    Calls Tryd.prog 89 #[.agg #[.bool false, .slice a n cap], .int .i64 k] w (RetBig w ((x / 2 ^ k : Nat) : Int)) := by
  obtain ⟨m, hmk⟩ : ∃ m : Int, m = -(k : Int) := ⟨_, rfl⟩
  have HS := fun W h => Lib.hid (rshift_le W a n cap x k m h hlim hk hmk)
  generalize ((x / 2 ^ k : Nat) : Int) = v at HS ⊢
  have t4 : -(k : Int) = m := hmk.symm
  have t3 : decide ((1048576 : Int) < (k : Int)) = false := by simp; omega
  clear hmk
  go_enter Tryd.func89, Tryd.ntmps89
  go_wp2_with fail
  go_loopw [1] (fun t wr => t = .int .i64 k ∧ wr = ((w.alloc (.cells #[.bool false, .slice a n cap] 25)).alloc (.cells #[.bool false, .slice none 0 0] 25))) (fun t _ => (intOf t).toNat)
  case atStart => exact ⟨rfl, rfl⟩
  case round =>
    obtain ⟨rfl, rfl⟩ := hrel
    go_wp2_with fail
    refine (HS _ (hx.below (by repeat (with_reducible first | refine Below.setCell ?_ (by simp <;> omega) _ | refine Below.alloc ?_ (by simp <;> omega) _ | refine Below.drew ?_ | refine below_drewN ?_ _ | exact Below.refl _ _)))).out.mono ?_
    rintro e w1 ⟨a1, c1, rfl, hm1, hb, hf1⟩
    obtain ⟨hc1, hz1⟩ := bcell (hb.mono (show w.heap.size + 2 ≤ _ by simp))
    have hfr1 : 0 < nl v.natAbs → w.heap.size + 2 ≤ ab a1 := fun h => by have := hf1 h; simpa using this
    have hbw := below_box (w := w) (by repeat (with_reducible first | refine Below.setCell ?_ (by simp <;> omega) _ | refine Below.alloc ?_ (by simp <;> omega) _ | refine Below.drew ?_ | refine below_drewN ?_ _ | exact Below.refl _ _)) hb
    go_wp2_with fail
    refine bodyPost_ret (v := .agg #[.bool (decide (v < 0)), .slice a1 (nl v.natAbs) c1]) (by simp only [results, Tryd.results89]; go_simp) rfl ?_
    exact ret_big hm1 (fun h => by have := hfr1 h; omega) hbw (by omega)

end Go.Proofs.YtjhngehajahbnaaDoor
