/-
  Plain law: intervals of floats: what the functions compute; sums and products. No program in sight.
  Plain law: intervals of floats: the order of sums, products and quotients of bounds. No program in sight.
  Plain law: intervals of floats: quotients of bounds; elements of results; the laws of sums, products and hulls. No program in sight.
  Plain law: intervals of floats: elements of results; narrower arguments. No program in sight.
  Plain law: intervals of floats: squares, roots, hulls, intersections, midpoints; the statements. No program in sight.
  Plain law: intervals of floats: midpoints; operations undone; the whole line. No program in sight.
  Plain law: bounds of intervals as the reference reads them. No program in sight.
-/
import Derived.Test.YtakbappmkdaioaaDoorZqFP
import Derived.Test.YtakbappmkdaioaaDoorZqBL
namespace Go.Proofs.YtakbappmkdaioaaDoor
open Go.RowKit Sp
set_option linter.unusedSimpArgs false

/-! ### what the functions compute -/
def fclean (f : Nat) : Nat := if f = 9223372036854775808 then 0 else f
def iok (x : Nat × Nat) : Bool := fcmpok x.1 x.2 && decide (fcmpv x.1 x.2 ≤ 0) && decide (x.1 ≠ fInf) && decide (x.2 ≠ fNInf)
def iall : Nat × Nat := (fNInf, fInf)
def ires (a b : Nat) : Nat × Nat := (fclean a, fclean b)
def fless (a b : Nat) : Bool := decide (fcmpv a b < 0)
def fmin2 (a b : Nat) : Nat := if fless b a then b else a
def fmax2 (a b : Nat) : Nat := if fless a b then b else a
def ipoint (f : Nat) : Nat × Nat := if ffin f then ires f f else iall
def iadd (x y : Nat × Nat) : Nat × Nat := if iok x && iok y then ires (fadd x.1 y.1 1) (fadd x.2 y.2 2) else iall
/-- a value at two bounds; where there is none it is 0 -/
def fat (op : Nat → Nat → Int → Nat) (a b : Nat) (m : Int) : Nat := if fnan (op a b m) then 0 else op a b m
def icor (op : Nat → Nat → Int → Nat) (x y : Nat × Nat) : Nat × Nat :=
  ires (fmin2 (fmin2 (fmin2 (fat op x.1 y.1 1) (fat op x.1 y.2 1)) (fat op x.2 y.1 1)) (fat op x.2 y.2 1))
    (fmax2 (fmax2 (fmax2 (fat op x.1 y.1 2) (fat op x.1 y.2 2)) (fat op x.2 y.1 2)) (fat op x.2 y.2 2))
def imul (x y : Nat × Nat) : Nat × Nat := if iok x && iok y then icor fmul x y else iall
def isubset (x y : Nat × Nat) : Bool := iok x && iok y && !fless x.1 y.1 && !fless y.2 x.2
/-! ### bounds of 64 bits -/
def Lt64 (x : Nat × Nat) : Prop := x.1 < 18446744073709551616 ∧ x.2 < 18446744073709551616
theorem fclean_lt {f : Nat} (h : f < 18446744073709551616) : fclean f < 18446744073709551616 := by unfold fclean; split <;> omega
theorem fmin2_lt {a b : Nat} (ha : a < 18446744073709551616) (hb : b < 18446744073709551616) : fmin2 a b < 18446744073709551616 := by unfold fmin2; split <;> assumption
theorem fmax2_lt {a b : Nat} (ha : a < 18446744073709551616) (hb : b < 18446744073709551616) : fmax2 a b < 18446744073709551616 := by unfold fmax2; split <;> assumption
theorem ires_lt {a b : Nat} (ha : a < 18446744073709551616) (hb : b < 18446744073709551616) : Lt64 (ires a b) := ⟨fclean_lt ha, fclean_lt hb⟩
theorem iall_lt : Lt64 iall := by constructor <;> decide
theorem fround_lt' (d : Option (Int × Int)) (mode : Int) : fround d mode < 18446744073709551616 := by
  unfold fround; split
  · decide
  · split
    · decide
    · exact fcut_lt _ _ _
theorem fnothing_lt (mode : Int) : fnothing mode < 18446744073709551616 := fsgn_lt (by decide)
theorem fadd_lt' {a b : Nat} (ha : a < 18446744073709551616) (hb : b < 18446744073709551616) (mode : Int) : fadd a b mode < 18446744073709551616 := by
  unfold fadd
  repeat' split
  all_goals first | assumption | decide | exact fnothing_lt _ | exact fround_lt' _ _
theorem fmul_lt' (a b : Nat) (mode : Int) : fmul a b mode < 18446744073709551616 := by
  unfold fmul
  repeat' split
  all_goals first | decide | exact fsgn_lt (by decide) | exact fround_lt' _ _
theorem fat_lt (op : Nat → Nat → Int → Nat) (h : ∀ a b m, op a b m < 18446744073709551616) (a b : Nat) (m : Int) : fat op a b m < 18446744073709551616 := by
  unfold fat; split
  · decide
  · exact h _ _ _

/-! ### places -/
def TT : Int := 9218868437227405312
theorem fplace_clean (f : Nat) : fplace (fclean f) = fplace f ∧ fnan (fclean f) = fnan f := by
  unfold fclean; split
  · rename_i h; subst h; decide
  · exact ⟨rfl, rfl⟩
theorem fless_place {a b : Nat} (ha : fnan a = false) (hb : fnan b = false) : fless a b = decide (fplace a < fplace b) := by
  unfold fless fcmpv; rw [ha, hb]; simp only [Bool.or_self, Bool.false_eq_true, if_false]
  exact decide_eq_decide.2 cmpI_neg_iff
theorem fmin2_nan {a b : Nat} (ha : fnan a = false) (hb : fnan b = false) : fnan (fmin2 a b) = false := by unfold fmin2; split <;> assumption
theorem fmax2_nan {a b : Nat} (ha : fnan a = false) (hb : fnan b = false) : fnan (fmax2 a b) = false := by unfold fmax2; split <;> assumption
theorem fmin2_place {a b : Nat} (ha : fnan a = false) (hb : fnan b = false) : fplace (fmin2 a b) = min (fplace a) (fplace b) := by
  unfold fmin2; rw [fless_place hb ha]
  by_cases h : fplace b < fplace a
  · rw [if_pos (by simpa using h)]; omega
  · rw [if_neg (by simpa using h)]; omega
theorem fmax2_place {a b : Nat} (ha : fnan a = false) (hb : fnan b = false) : fplace (fmax2 a b) = max (fplace a) (fplace b) := by
  unfold fmax2; rw [fless_place ha hb]
  by_cases h : fplace a < fplace b
  · rw [if_pos (by simpa using h)]; omega
  · rw [if_neg (by simpa using h)]; omega
theorem place_bound {f : Nat} (h : fnan f = false) : -TT ≤ fplace f ∧ fplace f ≤ TT := by
  have h1 : fM f ≤ 9218868437227405312 := by unfold fnan at h; simpa using h
  rw [fplace_eq]; unfold TT; split <;> omega
theorem place_fin {f : Nat} (h : fnan f = false) : ffin f = true ↔ (-TT < fplace f ∧ fplace f < TT) := by
  have h1 : fM f ≤ 9218868437227405312 := by unfold fnan at h; simpa using h
  unfold ffin; rw [fplace_eq]; unfold TT
  rw [decide_eq_true_eq]
  constructor
  · intro k; split <;> omega
  · intro k; split at k <;> omega
theorem place_top {f : Nat} (hf : f < 18446744073709551616) (h : fnan f = false) : fplace f = TT ↔ f = fInf := by
  have h1 : fM f ≤ 9218868437227405312 := by unfold fnan at h; simpa using h
  constructor
  · intro k
    rw [fplace_eq] at k; unfold TT at k
    unfold fInf
    cases hs : fS f with
    | true => rw [hs, if_pos rfl] at k; omega
    | false => rw [hs, if_neg (by decide)] at k; unfold fS at hs; unfold fM at k; simp at hs; omega
  · intro k; subst k; decide
theorem place_bot {f : Nat} (hf : f < 18446744073709551616) (h : fnan f = false) : fplace f = -TT ↔ f = fNInf := by
  have h1 : fM f ≤ 9218868437227405312 := by unfold fnan at h; simpa using h
  constructor
  · intro k
    rw [fplace_eq] at k; unfold TT at k
    unfold fNInf
    cases hs : fS f with
    | false => rw [hs, if_neg (by decide)] at k; omega
    | true => rw [hs, if_pos rfl] at k; unfold fS at hs; unfold fM at k; simp at hs; omega
  · intro k; subst k; decide
theorem place_inf {f : Nat} (h : finf f = true) : fplace f = TT ∨ fplace f = -TT := by
  have := inf_place h; unfold TT; split at this <;> omega
theorem fin_lt {f : Nat} (h : ffin f = true) : fnan f = false ∧ -TT < fplace f ∧ fplace f < TT := ⟨(fin_not h).1, (place_fin (fin_not h).1).1 h⟩

/-- a valid interval, by places -/
theorem iok_iff {x : Nat × Nat} (hx : Lt64 x) : iok x = true ↔ fnan x.1 = false ∧ fnan x.2 = false ∧ fplace x.1 ≤ fplace x.2 ∧ fplace x.1 < TT ∧ -TT < fplace x.2 := by
  unfold iok fcmpok fcmpv
  cases h1 : fnan x.1 with
  | true => simp
  | false =>
    cases h2 : fnan x.2 with
    | true => simp
    | false =>
      have a1 := place_top hx.1 h1
      have a2 := place_bot hx.2 h2
      have b1 := place_bound h1
      have b2 := place_bound h2
      simp only [Bool.or_self, Bool.not_false, Bool.true_and, Bool.false_eq_true, if_false, Bool.and_eq_true, decide_eq_true_eq, cmpI_le, ne_eq, true_and]
      rw [← a1, ← a2]
      omega
theorem iok_res {a b : Nat} (ha : a < 18446744073709551616) (hb : b < 18446744073709551616) (na : fnan a = false) (nb : fnan b = false) (h1 : fplace a ≤ fplace b) (h2 : fplace a < TT) (h3 : -TT < fplace b) : iok (ires a b) = true := by
  refine (iok_iff (ires_lt ha hb)).2 ?_
  have c1 := fplace_clean a
  have c2 := fplace_clean b
  unfold ires
  exact ⟨c1.2.trans na, c2.2.trans nb, by rw [c1.1, c2.1]; exact h1, by rw [c1.1]; exact h2, by rw [c2.1]; exact h3⟩
/-! ### directed roundings -/
end Go.Proofs.YtakbappmkdaioaaDoor

namespace Go.Proofs.YtakbappmkdaioaaDoor
open Go.RowKit Sp
set_option linter.unusedSimpArgs false

/-! ### sums -/
theorem fadd_fin_place {a b : Nat} (ha : ffin a = true) (hb : ffin b = true) (m : Int) : fnan (fadd a b m) = false ∧ fplace (fadd a b m) = fplace (fround (nrm (fz a + fz b) (-1074 - ((0 : Nat) : Int))) m) ∧ nrm (fz a + fz b) (-1074 - ((0 : Nat) : Int)) ≠ none := by
  have h := fadd_place ha hb m
  have v := (fadd_val ha hb).2
  rw [g0] at h v
  exact ⟨h.1, h.2, v⟩
/-- bounds that are no infinities of one side: their sum is no NaN -/
theorem fadd_lo_nan {a b : Nat} (ha : a < 18446744073709551616) (hb : b < 18446744073709551616) (na : fnan a = false) (nb : fnan b = false) (h : (fplace a < TT ∧ fplace b < TT) ∨ (-TT < fplace a ∧ -TT < fplace b)) (m : Int) : fnan (fadd a b m) = false := by
  unfold fadd
  rw [na, nb]
  have h1 : (finf a && finf b && decide (a ≠ b)) = false := by
    cases h2 : finf a with
    | false => rfl
    | true =>
      cases h3 : finf b with
      | false => rfl
      | true =>
        have k1 := place_inf h2
        have k2 := place_inf h3
        unfold TT at *
        have : a = b := by
          rcases h with h | h
          · rw [(place_bot ha na).1 (by unfold TT; omega), (place_bot hb nb).1 (by unfold TT; omega)]
          · rw [(place_top ha na).1 (by unfold TT; omega), (place_top hb nb).1 (by unfold TT; omega)]
        simp [this]
  rw [h1]
  simp only [Bool.or_self, Bool.false_eq_true, if_false]
  repeat' split
  all_goals first | assumption | skip
  · unfold fnothing; cases decide (m = 1) <;> decide
  · rename_i k1 k2 k3 k4
    have f1 : ffin a = true := by rcases f_cases a with c | ⟨_, c, _⟩ | ⟨_, _, c⟩ <;> simp_all
    have f2 : ffin b = true := by rcases f_cases b with c | ⟨_, c, _⟩ | ⟨_, _, c⟩ <;> simp_all
    have v := fadd_val f1 f2
    rw [v.1]
    have v2 := v.2
    rw [g0] at v2 ⊢
    exact (fround_place _ 0 m v2).1
/-! ### products; where there is none it is zero -/
def sgI (v : Int) : Int := if v < 0 then -1 else if 0 < v then 1 else 0
def pmul3 (a b : Nat) (m : Int) : Int := if ffin a && ffin b then fplace (fround (nrm (fz a * fz b) (-1074 - ((1074 : Nat) : Int))) m) else sgI (fplace a) * sgI (fplace b) * TT
theorem g1074 : (-2148 : Int) = -1074 - ((1074 : Nat) : Int) := by decide
theorem fz_sign (f : Nat) : (fz f < 0 ↔ fplace f < 0) ∧ (0 < fz f ↔ 0 < fplace f) ∧ (fz f = 0 ↔ fplace f = 0) := by
  have z0 : fz 0 = 0 := by decide
  have h1 := @fz_le f 0
  have h2 := @fz_le 0 f
  rw [z0, fplace_zero] at h1 h2
  omega
theorem place_sign (f : Nat) : (fplace f < 0 → fS f = true) ∧ (0 < fplace f → fS f = false) := by
  rw [fplace_eq]; cases fS f <;> simp <;> omega
theorem zero_place (f : Nat) : fzero f = true ↔ fplace f = 0 := by
  unfold fzero; rw [decide_eq_true_eq, fplace_eq]; split <;> omega
theorem place_sgn_inf (s : Bool) : fplace (fsgn s fInf) = if s then -TT else TT := by cases s <;> decide
theorem place_sgn_zero (s : Bool) : fplace (fsgn s 0) = 0 := by cases s <;> decide
theorem nan_sgn (s : Bool) : fnan (fsgn s fInf) = false ∧ fnan (fsgn s 0) = false := by cases s <;> decide
theorem nz_place {f : Nat} (h : fzero f = false) : fplace f ≠ 0 := fun h' => by rw [(zero_place f).2 h'] at h; cases h
theorem sgI_inf {a b : Nat} (ha : fplace a ≠ 0) (hb : fplace b ≠ 0) : fplace (fsgn (fS a != fS b) fInf) = sgI (fplace a) * sgI (fplace b) * TT := by
  rw [place_sgn_inf]
  have s1 := place_sign a
  have s2 := place_sign b
  unfold sgI
  rcases Int.lt_or_gt_of_ne ha with h1 | h1 <;> rcases Int.lt_or_gt_of_ne hb with h2 | h2
  · rw [s1.1 h1, s2.1 h2]; simp [h1, h2]
  · rw [s1.1 h1, s2.2 h2]; simp [h1, h2, show ¬ fplace b < 0 by omega]
  · rw [s1.2 h1, s2.1 h2]; simp [h1, h2, show ¬ fplace a < 0 by omega]
  · rw [s1.2 h1, s2.2 h2]; simp [h1, h2, show ¬ fplace a < 0 by omega, show ¬ fplace b < 0 by omega]
theorem fat_mul {a b : Nat} (na : fnan a = false) (nb : fnan b = false) (m : Int) : fnan (fat fmul a b m) = false ∧ fplace (fat fmul a b m) = pmul3 a b m := by
  unfold fat pmul3 fmul
  rw [na, nb]
  have ka := f_cases a
  have kb := f_cases b
  rw [na] at ka
  rw [nb] at kb
  have za := zero_place a
  have zb := zero_place b
  rcases ka with c | ⟨_, i1, f1, z1⟩ | ⟨_, i1, f1⟩
  · cases c
  · rw [i1, f1, z1]
    cases z2 : fzero b with
    | true =>
      have e0 := zb.1 z2
      have : finf b = false := by rcases kb with c | ⟨_, _, _, z⟩ | ⟨_, i, _⟩ <;> simp_all
      rw [e0]; simp [fnan_fNaN, sgI, fplace_zero, show fnan 0 = false by decide]
    | false =>
      simp only [Bool.or_self, Bool.and_false, Bool.false_and, Bool.or_false, Bool.false_eq_true, if_false, Bool.true_or, if_true, (nan_sgn _).1]
      exact ⟨trivial, sgI_inf (nz_place z1) (nz_place z2)⟩
  · rw [i1, f1]
    rcases kb with c | ⟨_, i2, f2, z2⟩ | ⟨_, i2, f2⟩
    · cases c
    · rw [i2, f2, z2]
      cases z1 : fzero a with
      | true =>
        have e0 := za.1 z1
        rw [e0]; simp [fnan_fNaN, sgI, fplace_zero, show fnan 0 = false by decide]
      | false =>
        simp only [Bool.or_self, Bool.and_false, Bool.false_and, Bool.and_true, Bool.or_false, Bool.false_eq_true, if_false, Bool.or_true, if_true, (nan_sgn _).1]
        exact ⟨trivial, sgI_inf (nz_place z1) (nz_place z2)⟩
    · have v := fmul_val f1 f2
      rw [i2, f2, v.1]
      have v2 := v.2
      rw [g1074] at v2 ⊢
      cases hz : (fzero a || fzero b) with
      | true =>
        have e0 : fz a * fz b = 0 := by
          rcases (show fzero a = true ∨ fzero b = true by simpa using hz) with h | h
          · rw [(fz_sign a).2.2.2 (za.1 h), Int.zero_mul]
          · rw [(fz_sign b).2.2.2 (zb.1 h), Int.mul_zero]
        rw [e0, fround_zero, fplace_zero]
        simp only [Bool.or_self, Bool.false_and, Bool.and_false, Bool.false_eq_true, if_false, if_true, (nan_sgn _).2, Bool.and_self]
        exact ⟨trivial, place_sgn_zero _⟩
      | false =>
        have p := (fround_place _ 1074 m v2).1
        simp only [Bool.or_self, Bool.false_and, Bool.and_false, Bool.false_eq_true, if_false, p, Bool.and_self, if_true]
        exact ⟨trivial, trivial⟩
/-- the bounds of four values -/
theorem icor_place {op : Nat → Nat → Int → Nat} {x y : Nat × Nat} (h : ∀ m, fnan (fat op x.1 y.1 m) = false ∧ fnan (fat op x.1 y.2 m) = false ∧ fnan (fat op x.2 y.1 m) = false ∧ fnan (fat op x.2 y.2 m) = false) :
    fnan (icor op x y).1 = false ∧ fnan (icor op x y).2 = false ∧
    fplace (icor op x y).1 = min (min (min (fplace (fat op x.1 y.1 1)) (fplace (fat op x.1 y.2 1))) (fplace (fat op x.2 y.1 1))) (fplace (fat op x.2 y.2 1)) ∧
    fplace (icor op x y).2 = max (max (max (fplace (fat op x.1 y.1 2)) (fplace (fat op x.1 y.2 2))) (fplace (fat op x.2 y.1 2))) (fplace (fat op x.2 y.2 2)) := by
  obtain ⟨a1, a2, a3, a4⟩ := h 1
  obtain ⟨b1, b2, b3, b4⟩ := h 2
  have n1 := fmin2_nan a1 a2
  have n2 := fmin2_nan n1 a3
  have n3 := fmin2_nan n2 a4
  have m1 := fmax2_nan b1 b2
  have m2 := fmax2_nan m1 b3
  have m3 := fmax2_nan m2 b4
  unfold icor ires
  have c1 := fplace_clean (fmin2 (fmin2 (fmin2 (fat op x.1 y.1 1) (fat op x.1 y.2 1)) (fat op x.2 y.1 1)) (fat op x.2 y.2 1))
  have c2 := fplace_clean (fmax2 (fmax2 (fmax2 (fat op x.1 y.1 2) (fat op x.1 y.2 2)) (fat op x.2 y.1 2)) (fat op x.2 y.2 2))
  refine ⟨c1.2.trans n3, c2.2.trans m3, ?_, ?_⟩
  · show fplace (fclean _) = _
    rw [c1.1, fmin2_place n2 a4, fmin2_place n1 a3, fmin2_place a1 a2]
  · show fplace (fclean _) = _
    rw [c2.1, fmax2_place m2 b4, fmax2_place m1 b3, fmax2_place b1 b2]

end Go.Proofs.YtakbappmkdaioaaDoor

namespace Go.Proofs.YtakbappmkdaioaaDoor
open Go.RowKit Sp
set_option linter.unusedSimpArgs false

/-! ### quotients; where there is none it is zero -/
end Go.Proofs.YtakbappmkdaioaaDoor

namespace Go.Proofs.YtakbappmkdaioaaDoor
open Go.RowKit Sp
set_option linter.unusedSimpArgs false

/-! ### results between whose bounds two values lie -/
theorem iadd_lt {x y : Nat × Nat} (hx : Lt64 x) (hy : Lt64 y) : Lt64 (iadd x y) := by
  unfold iadd; split
  · exact ires_lt (fadd_lt' hx.1 hy.1 _) (fadd_lt' hx.2 hy.2 _)
  · exact iall_lt
theorem icor_lt {op : Nat → Nat → Int → Nat} (h : ∀ a b m, op a b m < 18446744073709551616) (x y : Nat × Nat) : Lt64 (icor op x y) := by
  have f := fat_lt op h
  exact ires_lt (fmin2_lt (fmin2_lt (fmin2_lt (f _ _ _) (f _ _ _)) (f _ _ _)) (f _ _ _)) (fmax2_lt (fmax2_lt (fmax2_lt (f _ _ _) (f _ _ _)) (f _ _ _)) (f _ _ _))
theorem imul_lt (x y : Nat × Nat) : Lt64 (imul x y) := by unfold imul; split; exact icor_lt fmul_lt' x y; exact iall_lt
/-! ### sums -/
theorem iadd_place {x y : Nat × Nat} (hx : Lt64 x) (hy : Lt64 y) (h : iok x = true) (k : iok y = true) :
    fnan (iadd x y).1 = false ∧ fnan (iadd x y).2 = false ∧ fplace (iadd x y).1 = fplace (fadd x.1 y.1 1) ∧ fplace (iadd x y).2 = fplace (fadd x.2 y.2 2) := by
  obtain ⟨n1, n2, _, h2, h3⟩ := (iok_iff hx).1 h
  obtain ⟨m1, m2, _, k2, k3⟩ := (iok_iff hy).1 k
  unfold iadd ires
  rw [h, k]
  have c1 := fplace_clean (fadd x.1 y.1 1)
  have c2 := fplace_clean (fadd x.2 y.2 2)
  exact ⟨c1.2.trans (fadd_lo_nan hx.1 hy.1 n1 m1 (Or.inl ⟨h2, k2⟩) 1), c2.2.trans (fadd_lo_nan hx.2 hy.2 n2 m2 (Or.inr ⟨h3, k3⟩) 2), c1.1, c2.1⟩
/-! ### products -/
theorem imul_place {x y : Nat × Nat} (hx : Lt64 x) (hy : Lt64 y) (h : iok x = true) (k : iok y = true) :
    fnan (imul x y).1 = false ∧ fnan (imul x y).2 = false ∧ fplace (imul x y).1 = min (min (min (pmul3 x.1 y.1 1) (pmul3 x.1 y.2 1)) (pmul3 x.2 y.1 1)) (pmul3 x.2 y.2 1) ∧
    fplace (imul x y).2 = max (max (max (pmul3 x.1 y.1 2) (pmul3 x.1 y.2 2)) (pmul3 x.2 y.1 2)) (pmul3 x.2 y.2 2) := by
  obtain ⟨n1, n2, _⟩ := (iok_iff hx).1 h
  obtain ⟨m1, m2, _⟩ := (iok_iff hy).1 k
  have e : imul x y = icor fmul x y := by unfold imul; rw [h, k]; rfl
  rw [e]
  have p := @icor_place fmul x y (fun m => ⟨(fat_mul n1 m1 m).1, (fat_mul n1 m2 m).1, (fat_mul n2 m1 m).1, (fat_mul n2 m2 m).1⟩)
  refine ⟨p.1, p.2.1, ?_, ?_⟩
  · rw [p.2.2.1, (fat_mul n1 m1 1).2, (fat_mul n1 m2 1).2, (fat_mul n2 m1 1).2, (fat_mul n2 m2 1).2]
  · rw [p.2.2.2, (fat_mul n1 m1 2).2, (fat_mul n1 m2 2).2, (fat_mul n2 m1 2).2, (fat_mul n2 m2 2).2]
theorem pmul3_fin {a b : Nat} (ha : ffin a = true) (hb : ffin b = true) (m : Int) : pmul3 a b m = fplace (fround (nrm (fz a * fz b) (-1074 - ((1074 : Nat) : Int))) m) ∧ nrm (fz a * fz b) (-1074 - ((1074 : Nat) : Int)) ≠ none := by
  have v := (fmul_val ha hb).2
  rw [g1074] at v
  exact ⟨by unfold pmul3; rw [ha, hb]; rfl, v⟩
/-! ### quotients -/
end Go.Proofs.YtakbappmkdaioaaDoor

namespace Go.Proofs.YtakbappmkdaioaaDoor
open Go.RowKit Sp
set_option linter.unusedSimpArgs false

/-! ### absolute values -/
/-! ### squares -/
/-! ### hulls and intersections -/
/-! ### IntervalPoints -/
theorem ipoint_place {f : Nat} (hf : f < 18446744073709551616) (h : ffin f = true) : ipoint f = ires f f ∧ iok (ipoint f) = true ∧ Lt64 (ipoint f) := by
  have b := fin_lt h
  have e : ipoint f = ires f f := by unfold ipoint; rw [h]; rfl
  rw [e]
  exact ⟨rfl, iok_res hf hf b.1 b.1 (Int.le_refl _) b.2.2 b.2.1, ires_lt hf hf⟩
theorem fz_clean (f : Nat) : fz (fclean f) = fz f ∧ ffin (fclean f) = ffin f := by
  unfold fclean; split
  · rename_i h; subst h; decide
  · exact ⟨rfl, rfl⟩
theorem fcmp_same {a b : Nat} (na : fnan a = false) (nb : fnan b = false) (h : fplace a = fplace b) : fcmpok a b = true ∧ fcmpv a b = 0 := by
  unfold fcmpok fcmpv; rw [na, nb]; exact ⟨rfl, cmpI_eq0.2 h⟩
theorem points_law {a b : Nat} (ha : a < 18446744073709551616) (hb : b < 18446744073709551616) (fa : ffin a = true) (fb : ffin b = true) :
    (fcmpok (iadd (ipoint a) (ipoint b)).1 (fadd a b 1) = true ∧ fcmpv (iadd (ipoint a) (ipoint b)).1 (fadd a b 1) = 0) ∧ (fcmpok (iadd (ipoint a) (ipoint b)).2 (fadd a b 2) = true ∧ fcmpv (iadd (ipoint a) (ipoint b)).2 (fadd a b 2) = 0) ∧
    (fcmpok (imul (ipoint a) (ipoint b)).1 (fmul a b 1) = true ∧ fcmpv (imul (ipoint a) (ipoint b)).1 (fmul a b 1) = 0) ∧ (fcmpok (imul (ipoint a) (ipoint b)).2 (fmul a b 2) = true ∧ fcmpv (imul (ipoint a) (ipoint b)).2 (fmul a b 2) = 0) := by
  have pa := ipoint_place ha fa
  have pb := ipoint_place hb fb
  have ea : (ipoint a).1 = fclean a ∧ (ipoint a).2 = fclean a := by rw [pa.1]; exact ⟨rfl, rfl⟩
  have eb : (ipoint b).1 = fclean b ∧ (ipoint b).2 = fclean b := by rw [pb.1]; exact ⟨rfl, rfl⟩
  have s := iadd_place pa.2.2 pb.2.2 pa.2.1 pb.2.1
  have p := imul_place pa.2.2 pb.2.2 pa.2.1 pb.2.1
  rw [ea.1, ea.2, eb.1, eb.2] at s p
  have za := fz_clean a
  have zb := fz_clean b
  have fa' : ffin (fclean a) = true := za.2.trans fa
  have fb' : ffin (fclean b) = true := zb.2.trans fb
  have add : ∀ m, fplace (fadd (fclean a) (fclean b) m) = fplace (fadd a b m) := fun m => by
    rw [(fadd_fin_place fa' fb' m).2.1, (fadd_fin_place fa fb m).2.1, za.1, zb.1]
  have mulp : ∀ m, fnan (fmul a b m) = false ∧ pmul3 (fclean a) (fclean b) m = fplace (fmul a b m) := fun m => by
    have n1 := (fin_not fa).1
    have n2 := (fin_not fb).1
    have e := fat_mul n1 n2 m
    have k : fnan (fmul a b m) = false := by
      have v := fmul_val fa fb
      unfold fmul
      rw [n1, n2, (fin_not fa).2, (fin_not fb).2, v.1]
      have v2 := v.2
      rw [g1074] at v2
      have p := (fround_place _ 1074 m v2).1
      rw [← g1074] at p
      cases hz : (fzero a || fzero b)
      · simp [p]
      · simp [(nan_sgn _).2]
    unfold fat at e
    rw [k] at e
    refine ⟨k, ?_⟩
    have e2 : fplace (fmul a b m) = pmul3 a b m := by simpa using e.2
    rw [e2, (pmul3_fin fa' fb' m).1, (pmul3_fin fa fb m).1, za.1, zb.1]
  refine ⟨fcmp_same s.1 (fadd_fin_place fa fb 1).1 ?_, fcmp_same s.2.1 (fadd_fin_place fa fb 2).1 ?_, fcmp_same p.1 (mulp 1).1 ?_, fcmp_same p.2.1 (mulp 2).1 ?_⟩
  · rw [s.2.2.1, add]
  · rw [s.2.2.2, add]
  · rw [p.2.2.1, (mulp 1).2]; omega
  · rw [p.2.2.2, (mulp 2).2]; omega

/-! ### IntervalHolds -/
end Go.Proofs.YtakbappmkdaioaaDoor

namespace Go.Proofs.YtakbappmkdaioaaDoor
open Go.RowKit Sp
set_option linter.unusedSimpArgs false

/-! ### IntervalWhole -/
/-! ### IntervalMiddle -/
theorem g1 : (-1074 : Int) - 1 = -1074 - ((1 : Nat) : Int) := by decide
/-! ### IntervalUndone: sums -/
/-! ### IntervalUndone: quotients -/
/-! ### IntervalUndone: roots of squares -/
end Go.Proofs.YtakbappmkdaioaaDoor

namespace Go.Proofs.YtakbappmkdaioaaDoor
open Go.RowKit Sp
set_option linter.unusedSimpArgs false

end Go.Proofs.YtakbappmkdaioaaDoor

