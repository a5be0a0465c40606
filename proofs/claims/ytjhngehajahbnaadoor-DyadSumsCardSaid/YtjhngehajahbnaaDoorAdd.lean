/-
  Walks: package integer: Add, Sub, Mul.
-/
import Derived.Test.YtjhngehajahbnaaDoorBigs
namespace Go.Proofs.YtjhngehajahbnaaDoor
open Go.RowKit Sp

theorem sgn_add_same (s : Bool) (x y : Nat) : sgn s (x + y) = sgn s x + sgn s y := by cases s <;> simp [sgn] <;> omega

set_option maxRecDepth 100000 in
set_option maxHeartbeats 2000000 in
/-- a + b, both of one sign -/
theorem add_same (w : World) (s : Bool) (a a' : Option Addr) (n m cap cap' x y : Nat) (hx : Mag w a n cap x) (hy : Mag w a' m cap' y) (hn : n ≤ 1099511627776) (hm : m ≤ 1099511627776) :
    Calls Tryd.prog 43 #[.agg #[.bool s, .slice a n cap], .agg #[.bool s, .slice a' m cap']] w (RetBig w (sgn s x + sgn s y)) := by
  rw [← sgn_add_same]
  have nx := nl_le hx.lt
  have ny := nl_le hy.lt
  have hbs : (s == s) = true := by simp
  have e2 : ¬ w.heap.size + 1 + 1 = w.heap.size := by omega
  go_enter Tryd.func43, Tryd.ntmps43
  go_wp2_with fail
  go_quiet ((go_at_call 70; first | exact qfirst (may (trim_any _ _ _ _ _ (hx.below (by repeat (first | exact Below.refl _ _ | refine Below.drew ?_ | refine below_drewN ?_ _ | refine Below.alloc ?_ (by simp <;> omega) _ | refine Below.setCell ?_ (by simp <;> omega) _))))) | exact qfirst (may (trim_any _ _ _ _ _ (hy.below (by repeat (first | exact Below.refl _ _ | refine Below.drew ?_ | refine below_drewN ?_ _ | refine Below.alloc ?_ (by simp <;> omega) _ | refine Below.setCell ?_ (by simp <;> omega) _))))) | exact qnext (may (trim_any _ _ _ _ _ (hx.below (by repeat (first | exact Below.refl _ _ | refine Below.drew ?_ | refine below_drewN ?_ _ | refine Below.alloc ?_ (by simp <;> omega) _ | refine Below.setCell ?_ (by simp <;> omega) _))))) | exact qnext (may (trim_any _ _ _ _ _ (hy.below (by repeat (first | exact Below.refl _ _ | refine Below.drew ?_ | refine below_drewN ?_ _ | refine Below.alloc ?_ (by simp <;> omega) _ | refine Below.setCell ?_ (by simp <;> omega) _)))))))
  go_wp2_with fail
  go_region_held3 (fun w' => w'.cell? ⟨w.heap.size, 0, none⟩ = some (.bool s)) (first | go_keep)
    (first | (go_at_call 72; refine (plus_any _ _ _ _ _ _ _ _ _ (hx.below (by repeat (first | exact Below.refl _ _ | refine Below.drew ?_ | refine below_drewN ?_ _ | refine Below.alloc ?_ (by simp <;> omega) _ | refine Below.setCell ?_ (by simp <;> omega) _))).trim (hy.below (by repeat (first | exact Below.refl _ _ | refine Below.drew ?_ | refine below_drewN ?_ _ | refine Below.alloc ?_ (by simp <;> omega) _ | refine Below.setCell ?_ (by simp <;> omega) _))).trim (by omega) (by omega)).mono ?_; rintro e w1 ⟨a1, c1, rfl, hm1, hb1, hf1⟩; obtain ⟨hc1, hz1⟩ := bcell (hb1.mono (show w.heap.size + 3 ≤ _ by simp))) | (go_at_call 71; refine (big_any _ _ _ _ _ _ hm1).mono ?_; rintro e w2 ⟨a2, c2, rfl, hm2, hb2, hf2⟩; have hb := hb1.trans (hb2.mono hb1.size); obtain ⟨hc2, hz2⟩ := bcell (hb.mono (show w.heap.size + 3 ≤ _ by simp))))
  go_wp2_with fail
  refine bodyPost_ret (v := .agg #[.bool (s && decide (0 < x + y)), .slice a2 (nl (x + y)) c2]) (by simp [results, Tryd.results43, go_sem, hc2]) rfl ?_
  refine ret_sgn hm2 (fun h => ?_) (below_box (by repeat (first | exact Below.refl _ _ | refine Below.drew ?_ | refine below_drewN ?_ _ | refine Below.alloc ?_ (by simp <;> omega) _ | refine Below.setCell ?_ (by simp <;> omega) _)) hb) (by omega)
  rw [hf2 h]
  have := hf1 h
  simp at this; omega

theorem sgn_add_diff (s : Bool) (x y d : Nat) (h : y + d = x) : sgn s d = sgn s x + sgn (!s) y := by subst h; cases s <;> simp [sgn] <;> omega
theorem sgn_add_diff' (s : Bool) (x y d : Nat) (h : x + d = y) : sgn (!s) d = sgn s x + sgn (!s) y := by subst h; cases s <;> simp [sgn] <;> omega

set_option maxRecDepth 100000 in
set_option maxHeartbeats 2000000 in
/-- a + b of two signs, where |a| is not the lesser -/
theorem add_ge (w : World) (s t : Bool) (a a' : Option Addr) (n m cap cap' x y d : Nat) (hst : (s == t) = false) (hx : Mag w a n cap x) (hy : Mag w a' m cap' y) (hd : y + d = x) (hn : n ≤ 1099511627776) :
    Calls Tryd.prog 43 #[.agg #[.bool s, .slice a n cap], .agg #[.bool t, .slice a' m cap']] w (RetBig w (sgn s d)) := by
  have nx := nl_le hx.lt
  have ny := nl_le hy.lt
  obtain ⟨k, hk, hk0⟩ : ∃ k : Int, cmpI x y = k ∧ 0 ≤ k := ⟨_, rfl, cmpI_nonneg (by omega)⟩
  have HK := Lib.hid hk
  have HD := Lib.hid hd
  clear hk hd
  have e2 : ¬ w.heap.size + 1 + 1 = w.heap.size := by omega
  go_enter Tryd.func43, Tryd.ntmps43
  go_wp2_with fail
  go_quiet ((go_at_call 70; first | exact qfirst (may (trim_any _ _ _ _ _ (hx.below (by repeat (first | exact Below.refl _ _ | refine Below.drew ?_ | refine below_drewN ?_ _ | refine Below.alloc ?_ (by simp <;> omega) _ | refine Below.setCell ?_ (by simp <;> omega) _))))) | exact qfirst (may (trim_any _ _ _ _ _ (hy.below (by repeat (first | exact Below.refl _ _ | refine Below.drew ?_ | refine below_drewN ?_ _ | refine Below.alloc ?_ (by simp <;> omega) _ | refine Below.setCell ?_ (by simp <;> omega) _))))) | exact qnext (may (trim_any _ _ _ _ _ (hx.below (by repeat (first | exact Below.refl _ _ | refine Below.drew ?_ | refine below_drewN ?_ _ | refine Below.alloc ?_ (by simp <;> omega) _ | refine Below.setCell ?_ (by simp <;> omega) _))))) | exact qnext (may (trim_any _ _ _ _ _ (hy.below (by repeat (first | exact Below.refl _ _ | refine Below.drew ?_ | refine below_drewN ?_ _ | refine Below.alloc ?_ (by simp <;> omega) _ | refine Below.setCell ?_ (by simp <;> omega) _)))))))
  go_wp2_with fail
  refine (compare_any _ _ _ _ _ _ _ _ _ (hx.below (by repeat (first | exact Below.refl _ _ | refine Below.drew ?_ | refine below_drewN ?_ _ | refine Below.alloc ?_ (by simp <;> omega) _ | refine Below.setCell ?_ (by simp <;> omega) _))).trim (hy.below (by repeat (first | exact Below.refl _ _ | refine Below.drew ?_ | refine below_drewN ?_ _ | refine Below.alloc ?_ (by simp <;> omega) _ | refine Below.setCell ?_ (by simp <;> omega) _))).trim rfl rfl).mono ?_
  rintro e w0 ⟨rfl, q, rfl⟩
  rw [HK.out]
  go_wp2_with fail
  go_region_held3 (fun w' => w'.cell? ⟨w.heap.size, 0, none⟩ = some (.bool s)) (first | go_keep)
    (first | (go_at_call 74; refine (minus_any _ _ _ _ _ _ _ _ _ _ (hx.below (by repeat (first | exact Below.refl _ _ | refine Below.drew ?_ | refine below_drewN ?_ _ | refine Below.alloc ?_ (by simp <;> omega) _ | refine Below.setCell ?_ (by simp <;> omega) _))).trim (hy.below (by repeat (first | exact Below.refl _ _ | refine Below.drew ?_ | refine below_drewN ?_ _ | refine Below.alloc ?_ (by simp <;> omega) _ | refine Below.setCell ?_ (by simp <;> omega) _))).trim HD.out (by omega)).mono ?_; rintro e w1 ⟨a1, c1, rfl, hm1, hb1, hf1⟩; obtain ⟨hc1, hz1⟩ := bcell (hb1.mono (show w.heap.size + 3 ≤ _ by simp))) | (go_at_call 71; refine (big_any _ _ _ _ _ _ hm1).mono ?_; rintro e w2 ⟨a2, c2, rfl, hm2, hb2, hf2⟩; have hb := hb1.trans (hb2.mono hb1.size); obtain ⟨hc2, hz2⟩ := bcell (hb.mono (show w.heap.size + 3 ≤ _ by simp))))
  go_wp2_with fail
  refine bodyPost_ret (v := .agg #[.bool (s && decide (0 < d)), .slice a2 (nl d) c2]) (by simp [results, Tryd.results43, go_sem, hc2]) rfl ?_
  refine ret_sgn hm2 (fun h => ?_) (below_box (by repeat (first | exact Below.refl _ _ | refine Below.drew ?_ | refine below_drewN ?_ _ | refine Below.alloc ?_ (by simp <;> omega) _ | refine Below.setCell ?_ (by simp <;> omega) _)) hb) (by omega)
  rw [hf2 h]
  have := hf1 h
  simp at this; omega

set_option maxRecDepth 100000 in
set_option maxHeartbeats 2000000 in
/-- a + b of two signs, where |a| is the lesser -/
theorem add_lt (w : World) (s t : Bool) (a a' : Option Addr) (n m cap cap' x y d : Nat) (hst : (s == t) = false) (hx : Mag w a n cap x) (hy : Mag w a' m cap' y) (hd : x + d = y) (hd0 : 0 < d) (hm : m ≤ 1099511627776) :
    Calls Tryd.prog 43 #[.agg #[.bool s, .slice a n cap], .agg #[.bool t, .slice a' m cap']] w (RetBig w (sgn t d)) := by
  have nx := nl_le hx.lt
  have ny := nl_le hy.lt
  have HK := Lib.hid (cmpI_lt (m := (x : Int)) (n := (y : Int)) (by omega))
  clear hd0
  have HD := Lib.hid hd
  clear hd
  have e2 : ¬ w.heap.size + 1 + 1 = w.heap.size := by omega
  go_enter Tryd.func43, Tryd.ntmps43
  go_wp2_with fail
  go_quiet ((go_at_call 70; first | exact qfirst (may (trim_any _ _ _ _ _ (hx.below (by repeat (first | exact Below.refl _ _ | refine Below.drew ?_ | refine below_drewN ?_ _ | refine Below.alloc ?_ (by simp <;> omega) _ | refine Below.setCell ?_ (by simp <;> omega) _))))) | exact qfirst (may (trim_any _ _ _ _ _ (hy.below (by repeat (first | exact Below.refl _ _ | refine Below.drew ?_ | refine below_drewN ?_ _ | refine Below.alloc ?_ (by simp <;> omega) _ | refine Below.setCell ?_ (by simp <;> omega) _))))) | exact qnext (may (trim_any _ _ _ _ _ (hx.below (by repeat (first | exact Below.refl _ _ | refine Below.drew ?_ | refine below_drewN ?_ _ | refine Below.alloc ?_ (by simp <;> omega) _ | refine Below.setCell ?_ (by simp <;> omega) _))))) | exact qnext (may (trim_any _ _ _ _ _ (hy.below (by repeat (first | exact Below.refl _ _ | refine Below.drew ?_ | refine below_drewN ?_ _ | refine Below.alloc ?_ (by simp <;> omega) _ | refine Below.setCell ?_ (by simp <;> omega) _)))))))
  go_wp2_with fail
  refine (compare_any _ _ _ _ _ _ _ _ _ (hx.below (by repeat (first | exact Below.refl _ _ | refine Below.drew ?_ | refine below_drewN ?_ _ | refine Below.alloc ?_ (by simp <;> omega) _ | refine Below.setCell ?_ (by simp <;> omega) _))).trim (hy.below (by repeat (first | exact Below.refl _ _ | refine Below.drew ?_ | refine below_drewN ?_ _ | refine Below.alloc ?_ (by simp <;> omega) _ | refine Below.setCell ?_ (by simp <;> omega) _))).trim rfl rfl).mono ?_
  rintro e w0 ⟨rfl, q, rfl⟩
  rw [HK.out]
  go_wp2_with fail
  go_region_held3 (fun w' => w'.cell? ⟨w.heap.size + 1, 0, none⟩ = some (.bool t)) (first | go_keep)
    (first | (go_at_call 74; refine (minus_any _ _ _ _ _ _ _ _ _ _ (hy.below (by repeat (first | exact Below.refl _ _ | refine Below.drew ?_ | refine below_drewN ?_ _ | refine Below.alloc ?_ (by simp <;> omega) _ | refine Below.setCell ?_ (by simp <;> omega) _))).trim (hx.below (by repeat (first | exact Below.refl _ _ | refine Below.drew ?_ | refine below_drewN ?_ _ | refine Below.alloc ?_ (by simp <;> omega) _ | refine Below.setCell ?_ (by simp <;> omega) _))).trim HD.out (by omega)).mono ?_; rintro e w1 ⟨a1, c1, rfl, hm1, hb1, hf1⟩; obtain ⟨hc1, hz1⟩ := bcell (hb1.mono (show w.heap.size + 3 ≤ _ by simp))) | (go_at_call 71; refine (big_any _ _ _ _ _ _ hm1).mono ?_; rintro e w2 ⟨a2, c2, rfl, hm2, hb2, hf2⟩; have hb := hb1.trans (hb2.mono hb1.size); obtain ⟨hc2, hz2⟩ := bcell (hb.mono (show w.heap.size + 3 ≤ _ by simp))))
  go_wp2_with fail
  refine bodyPost_ret (v := .agg #[.bool (t && decide (0 < d)), .slice a2 (nl d) c2]) (by simp [results, Tryd.results43, go_sem, hc2]) rfl ?_
  refine ret_sgn hm2 (fun h => ?_) (below_box (by repeat (first | exact Below.refl _ _ | refine Below.drew ?_ | refine below_drewN ?_ _ | refine Below.alloc ?_ (by simp <;> omega) _ | refine Below.setCell ?_ (by simp <;> omega) _)) hb) (by omega)
  rw [hf2 h]
  have := hf1 h
  simp at this; omega

/-- a + b -/
theorem add_any (w : World) (s t : Bool) (a a' : Option Addr) (n m cap cap' x y : Nat) (hx : Mag w a n cap x) (hy : Mag w a' m cap' y) (hn : n ≤ 1099511627776) (hm : m ≤ 1099511627776) :
    Calls Tryd.prog 43 #[.agg #[.bool s, .slice a n cap], .agg #[.bool t, .slice a' m cap']] w (RetBig w (sgn s x + sgn t y)) := by
  by_cases hst : s = t
  · subst hst; exact add_same w s a a' n m cap cap' x y hx hy hn hm
  · have ht : t = !s := by cases s <;> cases t <;> simp_all
    subst ht
    have hst' : (s == !s) = false := by cases s <;> rfl
    rcases Nat.lt_or_ge x y with h | h
    · rw [← sgn_add_diff' s x y (y - x) (by omega)]
      exact add_lt w s (!s) a a' n m cap cap' x y (y - x) hst' hx hy (by omega) (by omega) hm
    · rw [← sgn_add_diff s x y (x - y) (by omega)]
      exact add_ge w s (!s) a a' n m cap cap' x y (x - y) hst' hx hy (by omega) hn

theorem sgn_mul (s t : Bool) (x y : Nat) : sgn (s != t) (x * y) = sgn s x * sgn t y := by
  cases s <;> cases t <;> simp [sgn, Int.neg_mul, Int.mul_neg]

end Go.Proofs.YtjhngehajahbnaaDoor
