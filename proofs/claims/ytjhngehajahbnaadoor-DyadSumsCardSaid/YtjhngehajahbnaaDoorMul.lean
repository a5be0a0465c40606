/-
  Walks: package integer: Sub, Mul, Cmp, FromInt.
-/
import Derived.Test.YtjhngehajahbnaaDoorAdd
namespace Go.Proofs.YtjhngehajahbnaaDoor
open Go.RowKit Sp

theorem sgn_not (s : Bool) (x : Nat) : sgn (!s) x = -sgn s x := by cases s <;> simp [sgn]

set_option maxRecDepth 100000 in
set_option maxHeartbeats 2000000 in
theorem sub_any (w : World) (s t : Bool) (a a' : Option Addr) (n m cap cap' x y : Nat) (hx : Mag w a n cap x) (hy : Mag w a' m cap' y) (hn : n ≤ 1099511627776) (hm : m ≤ 1099511627776) :
    Calls Tryd.prog 110 #[.agg #[.bool s, .slice a n cap], .agg #[.bool t, .slice a' m cap']] w (RetBig w (sgn s x - sgn t y)) := by
  rw [Int.sub_eq_add_neg, ← sgn_not]
  have e2 : ¬ w.heap.size + 1 + 1 = w.heap.size := by omega
  go_enter Tryd.func110, Tryd.ntmps110
  go_wp2_with fail
  refine (add_any _ _ _ _ _ _ _ _ _ _ _ (hx.below (by repeat (first | exact Below.refl _ _ | refine Below.drew ?_ | refine below_drewN ?_ _ | refine Below.alloc ?_ (by simp <;> omega) _ | refine Below.setCell ?_ (by simp <;> omega) _))) (hy.below (by repeat (first | exact Below.refl _ _ | refine Below.drew ?_ | refine below_drewN ?_ _ | refine Below.alloc ?_ (by simp <;> omega) _ | refine Below.setCell ?_ (by simp <;> omega) _))) hn hm).mono ?_
  rintro e w1 ⟨a2, c2, rfl, hm2, hb, hf2⟩
  obtain ⟨hc2, hz2⟩ := bcell (hb.mono (show w.heap.size + 3 ≤ _ by simp))
  go_wp2_with fail
  obtain ⟨z, hz⟩ : ∃ z, z = sgn s x + sgn (!t) y := ⟨_, rfl⟩
  rw [← hz] at hm2 hf2 ⊢
  refine bodyPost_ret (v := .agg #[.bool (decide (z < 0)), .slice a2 (nl z.natAbs) c2]) (by simp [results, Tryd.results110, go_sem, hc2]) rfl ?_
  refine ret_big hm2 (fun h => ?_) (below_box (by repeat (first | exact Below.refl _ _ | refine Below.drew ?_ | refine below_drewN ?_ _ | refine Below.alloc ?_ (by simp <;> omega) _ | refine Below.setCell ?_ (by simp <;> omega) _)) hb) (by omega)
  have := hf2 h
  simp at this; omega

set_option maxRecDepth 100000 in
set_option maxHeartbeats 2000000 in
theorem mul_any (w : World) (s t : Bool) (a a' : Option Addr) (n m cap cap' x y : Nat) (hx : Mag w a n cap x) (hy : Mag w a' m cap' y) (hn : n ≤ 1099511627776) (hm : m ≤ 1099511627776) :
    Calls Tryd.prog 58 #[.agg #[.bool s, .slice a n cap], .agg #[.bool t, .slice a' m cap']] w (RetBig w (sgn s x * sgn t y)) := by
  rw [← sgn_mul]
  have nx := nl_le hx.lt
  have ny := nl_le hy.lt
  have e2 : ¬ w.heap.size + 1 + 1 = w.heap.size := by omega
  go_enter Tryd.func58, Tryd.ntmps58
  go_wp2_with fail
  go_region_held3 (fun w' => w'.cell? ⟨w.heap.size, 0, none⟩ = some (.bool s) ∧ w'.cell? ⟨w.heap.size + 1, 0, none⟩ = some (.bool t) ∧ w'.cell? ⟨w.heap.size, 1, none⟩ = some (.slice a n cap) ∧ w'.cell? ⟨w.heap.size + 1, 1, none⟩ = some (.slice a' m cap')) (first | go_keep)
    (first | (go_at_call_of 70 (Value.slice a n cap); refine (trim_any _ _ _ _ _ (hx.below (by repeat (first | exact Below.refl _ _ | refine Below.drew ?_ | refine below_drewN ?_ _ | refine Below.alloc ?_ (by simp <;> omega) _ | refine Below.setCell ?_ (by simp <;> omega) _)))).mono ?_; rintro e w' ⟨rfl, rfl⟩) | (go_at_call_of 70 (Value.slice a' m cap'); refine (trim_any _ _ _ _ _ (hy.below (by repeat (first | exact Below.refl _ _ | refine Below.drew ?_ | refine below_drewN ?_ _ | refine Below.alloc ?_ (by simp <;> omega) _ | refine Below.setCell ?_ (by simp <;> omega) _)))).mono ?_; rintro e w' ⟨rfl, rfl⟩) | (first | (go_at_call 93; refine (times_any _ _ _ _ _ _ _ _ _ (hx.below (by repeat (first | exact Below.refl _ _ | refine Below.drew ?_ | refine below_drewN ?_ _ | refine Below.alloc ?_ (by simp <;> omega) _ | refine Below.setCell ?_ (by simp <;> omega) _))).trim (hy.below (by repeat (first | exact Below.refl _ _ | refine Below.drew ?_ | refine below_drewN ?_ _ | refine Below.alloc ?_ (by simp <;> omega) _ | refine Below.setCell ?_ (by simp <;> omega) _))).trim (by omega) (by omega)).mono ?_; rintro e w1 ⟨a1, c1, rfl, hm1, hb1, hf1⟩; obtain ⟨hc1, hz1⟩ := bcell (hb1.mono (show w.heap.size + 3 ≤ _ by simp))) | (go_at_call 71; refine (big_any _ _ _ _ _ _ hm1).mono ?_; rintro e w2 ⟨a2, c2, rfl, hm2, hb2, hf2⟩; have hb := hb1.trans (hb2.mono hb1.size); obtain ⟨hc2, hz2⟩ := bcell (hb.mono (show w.heap.size + 3 ≤ _ by simp)))))
  go_wp2_with fail
  refine bodyPost_ret (v := .agg #[.bool ((s != t) && decide (0 < x * y)), .slice a2 (nl (x * y)) c2]) (by simp [results, Tryd.results58, go_sem, hc2]; cases s <;> cases t <;> rfl) rfl ?_
  refine ret_sgn hm2 (fun h => ?_) (below_box (by repeat (first | exact Below.refl _ _ | refine Below.drew ?_ | refine below_drewN ?_ _ | refine Below.alloc ?_ (by simp <;> omega) _ | refine Below.setCell ?_ (by simp <;> omega) _)) hb) (by omega)
  rw [hf2 h]
  have := hf1 h
  simp at this; omega

set_option maxRecDepth 100000 in
set_option maxHeartbeats 2000000 in
/-- the comparison, once the signs are known -/
theorem cmp_core (w : World) (s t : Bool) (a a' : Option Addr) (n m cap cap' x y : Nat) (p q : Int) (hx : Mag w a n cap x) (hy : Mag w a' m cap' y) (hp : sg (sgn s x) = p) (hq : sg (sgn t y) = q) (hp1 : -1 ≤ p ∧ p ≤ 1) (hpq : p < q ∨ q < p ∨ (p = -1 ∧ q = -1) ∨ (p = 0 ∧ q = 0) ∨ (p = 1 ∧ q = 1)) (r : Int) (hr : r = if p < q then -1 else if q < p then 1 else p * cmpI x y) :
    Calls Tryd.prog 57 #[.agg #[.bool s, .slice a n cap], .agg #[.bool t, .slice a' m cap']] w fun e w' => e = .returned (.int .i64 r) ∧ Below w.heap.size w w' := by
  have HS := fun W h => Lib.hid (sign_any W s a n cap x h)
  have HT := fun W h => Lib.hid (sign_any W t a' m cap' y h)
  rw [hp] at HS
  rw [hq] at HT
  obtain ⟨hk1, hk2⟩ : -1 ≤ cmpI (x : Int) (y : Int) ∧ cmpI (x : Int) (y : Int) ≤ 1 := by unfold cmpI; split <;> (try split) <;> omega
  have HR := Lib.hid hr
  clear hp hq hr
  rcases hpq with h | h | ⟨rfl, rfl⟩ | ⟨rfl, rfl⟩ | ⟨rfl, rfl⟩
  all_goals
    go_enter Tryd.func57, Tryd.ntmps57
    go_wp2_with fail
    go_region_held3 (fun w' => w'.cell? ⟨w.heap.size, 0, none⟩ = some (.bool s) ∧ w'.cell? ⟨w.heap.size + 1, 0, none⟩ = some (.bool t) ∧ w'.cell? ⟨w.heap.size, 1, none⟩ = some (.slice a n cap) ∧ w'.cell? ⟨w.heap.size + 1, 1, none⟩ = some (.slice a' m cap')) (first | go_keep)
      (first | (go_at_call_of 45 (Value.agg #[Value.bool s, Value.slice a n cap]); refine (HS _ (hx.below (by repeat (first | exact Below.refl _ _ | refine Below.drew ?_ | refine below_drewN ?_ _ | refine Below.alloc ?_ (by simp <;> omega) _ | refine Below.setCell ?_ (by simp <;> omega) _)))).out.mono ?_; rintro e w1 ⟨rfl, hb1⟩; obtain ⟨hc1, hz1⟩ := bcell (hb1.mono (show w.heap.size + 2 ≤ _ by simp))) | (go_at_call_of 45 (Value.agg #[Value.bool t, Value.slice a' m cap']); refine (HT _ (hy.below (below_box (by repeat (first | exact Below.refl _ _ | refine Below.drew ?_ | refine below_drewN ?_ _ | refine Below.alloc ?_ (by simp <;> omega) _ | refine Below.setCell ?_ (by simp <;> omega) _)) hb1))).out.mono ?_; rintro e w2 ⟨rfl, hb2⟩; have hb := hb1.trans (hb2.mono hb1.size); obtain ⟨hc2, hz2⟩ := bcell (hb.mono (show w.heap.size + 2 ≤ _ by simp))))
    go_wp2_with fail
  · have e : r = -1 := by rw [HR.out, if_pos h]
    subst e
    go_ret
    exact ⟨rfl, below_box (by repeat (first | exact Below.refl _ _ | refine Below.drew ?_ | refine below_drewN ?_ _ | refine Below.alloc ?_ (by simp <;> omega) _ | refine Below.setCell ?_ (by simp <;> omega) _)) hb⟩
  · have e : r = 1 := by rw [HR.out, if_neg (by omega), if_pos h]
    subst e
    go_ret
    exact ⟨rfl, below_box (by repeat (first | exact Below.refl _ _ | refine Below.drew ?_ | refine below_drewN ?_ _ | refine Below.alloc ?_ (by simp <;> omega) _ | refine Below.setCell ?_ (by simp <;> omega) _)) hb⟩
  all_goals
    have hbb := below_box (w := w) (by repeat (first | exact Below.refl _ _ | refine Below.drew ?_ | refine below_drewN ?_ _ | refine Below.alloc ?_ (by simp <;> omega) _ | refine Below.setCell ?_ (by simp <;> omega) _)) hb
    go_quiet ((first | (go_at_call 70; first | exact qfirst (may (trim_any _ _ _ _ _ ((hx.below hbb).drewN _))) | exact qfirst (may (trim_any _ _ _ _ _ ((hy.below hbb).drewN _))) | exact qnext (may (trim_any _ _ _ _ _ ((hx.below hbb).drewN _))) | exact qnext (may (trim_any _ _ _ _ _ ((hy.below hbb).drewN _)))) | (go_at_call 73; first | exact qfirst (compare_any _ _ _ _ _ _ _ _ _ ((hx.below hbb).trim.drewN _) ((hy.below hbb).trim.drewN _) rfl rfl))))
    go_wp2_with fail
    go_ret
  · have e : r = -cmpI x y := by rw [HR.out]; simp
    subst e
    exact ⟨rfl, below_drewN hbb _⟩
  · have e : r = 0 := by rw [HR.out]; simp
    subst e
    exact ⟨rfl, below_drewN hbb _⟩
  · have e : r = cmpI x y := by rw [HR.out]; simp
    subst e
    exact ⟨rfl, below_drewN hbb _⟩

theorem sg_cases (z : Int) : sg z = -1 ∧ z < 0 ∨ sg z = 0 ∧ z = 0 ∨ sg z = 1 ∧ 0 < z := by
  rcases Int.lt_trichotomy z 0 with h | h | h
  · exact .inl ⟨sg_neg h, h⟩
  · subst h; exact .inr (.inl ⟨sg_zero, rfl⟩)
  · exact .inr (.inr ⟨sg_pos h, h⟩)

theorem cmpI_neg (x y : Int) : cmpI (-x) (-y) = -1 * cmpI x y := by
  rcases Int.lt_trichotomy x y with h | h | h
  · rw [cmpI_gt (by omega), cmpI_lt h]; rfl
  · subst h; rw [cmpI_eq rfl, cmpI_eq rfl]; rfl
  · rw [cmpI_lt (by omega), cmpI_gt h]; rfl

theorem sgn_of_neg {s : Bool} {x : Nat} (h : sgn s x < 0) : sgn s x = -(x : Int) := by cases s <;> simp [sgn] at * ; omega
theorem sgn_of_pos {s : Bool} {x : Nat} (h : 0 < sgn s x) : sgn s x = (x : Int) := by cases s <;> simp [sgn] at * ; omega

theorem cmp_value (s t : Bool) (x y : Nat) : cmpI (sgn s x) (sgn t y) = if sg (sgn s x) < sg (sgn t y) then -1 else if sg (sgn t y) < sg (sgn s x) then 1 else sg (sgn s x) * cmpI x y := by
  rcases sg_cases (sgn s x) with ⟨h1, c1⟩ | ⟨h1, c1⟩ | ⟨h1, c1⟩ <;> rcases sg_cases (sgn t y) with ⟨h2, c2⟩ | ⟨h2, c2⟩ | ⟨h2, c2⟩ <;> rw [h1, h2]
  · rw [if_neg (by decide), if_neg (by decide), sgn_of_neg c1, sgn_of_neg c2, cmpI_neg]
  · rw [if_pos (by decide), cmpI_lt (by omega)]
  · rw [if_pos (by decide), cmpI_lt (by omega)]
  · rw [if_neg (by decide), if_pos (by decide), cmpI_gt (by omega)]
  · rw [if_neg (by decide), if_neg (by decide), Int.zero_mul, cmpI_eq (by omega)]
  · rw [if_pos (by decide), cmpI_lt (by omega)]
  · rw [if_neg (by decide), if_pos (by decide), cmpI_gt (by omega)]
  · rw [if_neg (by decide), if_pos (by decide), cmpI_gt (by omega)]
  · rw [if_neg (by decide), if_neg (by decide), Int.one_mul, sgn_of_pos c1, sgn_of_pos c2]

/-- the comparison -/
theorem cmp_any (w : World) (s t : Bool) (a a' : Option Addr) (n m cap cap' x y : Nat) (hx : Mag w a n cap x) (hy : Mag w a' m cap' y) :
    Calls Tryd.prog 57 #[.agg #[.bool s, .slice a n cap], .agg #[.bool t, .slice a' m cap']] w fun e w' => e = .returned (.int .i64 (cmpI (sgn s x) (sgn t y))) ∧ Below w.heap.size w w' := by
  refine cmp_core w s t a a' n m cap cap' x y _ _ hx hy rfl rfl ?_ ?_ _ (cmp_value s t x y)
  · rcases sg_cases (sgn s x) with h | h | h <;> omega
  · rcases sg_cases (sgn s x) with h | h | h <;> rcases sg_cases (sgn t y) with h' | h' | h' <;> omega

end Go.Proofs.YtjhngehajahbnaaDoor
