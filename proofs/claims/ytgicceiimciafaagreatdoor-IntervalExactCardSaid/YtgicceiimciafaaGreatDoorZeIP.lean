/-
  Plain law: intervals of floats: what the functions compute; sums and products. No program in sight.
  Plain law: intervals of floats: the order of sums, products and quotients of bounds. No program in sight.
  Plain law: intervals of floats: quotients of bounds; elements of results; the laws of sums, products and hulls. No program in sight.
  Plain law: intervals of floats: elements of results; narrower arguments. No program in sight.
  Plain law: intervals of floats: squares, roots, hulls, intersections, midpoints; the statements. No program in sight.
  Plain law: intervals of floats: midpoints; operations undone; the whole line. No program in sight.
  Plain law: bounds of intervals as the reference reads them. No program in sight.
-/
import Derived.Test.YtgicceiimciafaaGreatDoorZeFP
import Derived.Test.YtgicceiimciafaaGreatDoorZeSU
namespace Go.Proofs.YtgicceiimciafaaGreatDoor
open Go.RowKit Sp
set_option linter.unusedSimpArgs false
def fclean (f : Nat) : Nat := if f = 9223372036854775808 then 0 else f
def iok (x : Nat × Nat) : Bool := fcmpok x.1 x.2 && decide (fcmpv x.1 x.2 ≤ 0) && decide (x.1 ≠ fInf) && decide (x.2 ≠ fNInf)
def iall : Nat × Nat := (fNInf, fInf)
def ires (a b : Nat) : Nat × Nat := (fclean a, fclean b)
def fless (a b : Nat) : Bool := decide (fcmpv a b < 0)
def fmin2 (a b : Nat) : Nat := if fless b a then b else a
def fmax2 (a b : Nat) : Nat := if fless a b then b else a
def izero (x : Nat × Nat) : Bool := !fless 0 x.1 && !fless x.2 0
def ipoint (f : Nat) : Nat × Nat := if ffin f then ires f f else iall
def ineg (x : Nat × Nat) : Nat × Nat := if iok x then ires (fneg x.2) (fneg x.1) else iall
def iadd (x y : Nat × Nat) : Nat × Nat := if iok x && iok y then ires (fadd x.1 y.1 1) (fadd x.2 y.2 2) else iall
def isub (x y : Nat × Nat) : Nat × Nat := if iok x && iok y then ires (fsub x.1 y.2 1) (fsub x.2 y.1 2) else iall
def fat (op : Nat → Nat → Int → Nat) (a b : Nat) (m : Int) : Nat := if fnan (op a b m) then 0 else op a b m
def icor (op : Nat → Nat → Int → Nat) (x y : Nat × Nat) : Nat × Nat :=
 ires (fmin2 (fmin2 (fmin2 (fat op x.1 y.1 1) (fat op x.1 y.2 1)) (fat op x.2 y.1 1)) (fat op x.2 y.2 1))
  (fmax2 (fmax2 (fmax2 (fat op x.1 y.1 2) (fat op x.1 y.2 2)) (fat op x.2 y.1 2)) (fat op x.2 y.2 2))
def imul (x y : Nat × Nat) : Nat × Nat := if iok x && iok y then icor fmul x y else iall
def idiv (x y : Nat × Nat) : Nat × Nat := if !(iok x && iok y) || izero y then iall else icor fdiv x y
def imag (x : Nat × Nat) : Nat := if iok x then fmax2 (fabs x.1) (fabs x.2) else fNaN
def imig (x : Nat × Nat) : Nat := if iok x then (if izero x then 0 else fmin2 (fabs x.1) (fabs x.2)) else fNaN
def isqr (x : Nat × Nat) : Nat × Nat := if iok x then ires (fmul (imig x) (imig x) 1) (fmul (imag x) (imag x) 2) else iall
noncomputable def isqrt (x : Nat × Nat) : Nat × Nat := if !iok x || fless x.2 0 then iall else ires (fsqrt (fmax2 x.1 0) 1) (fsqrt x.2 2)
def ihull (x y : Nat × Nat) : Nat × Nat := if iok x && iok y then ires (fmin2 x.1 y.1) (fmax2 x.2 y.2) else iall
def isubset (x y : Nat × Nat) : Bool := iok x && iok y && !fless x.1 y.1 && !fless y.2 x.2
def Lt64 (x : Nat × Nat) : Prop := x.1 < 18446744073709551616 ∧ x.2 < 18446744073709551616
theorem fclean_lt {f : Nat} (h : f < 18446744073709551616) : fclean f < 18446744073709551616 := by unfold fclean; split <;> omega
theorem fmin2_lt {a b : Nat} (ha : a < 18446744073709551616) (hb : b < 18446744073709551616) : fmin2 a b < 18446744073709551616 := by unfold fmin2; split <;> assumption
theorem fmax2_lt {a b : Nat} (ha : a < 18446744073709551616) (hb : b < 18446744073709551616) : fmax2 a b < 18446744073709551616 := by unfold fmax2; split <;> assumption
theorem ires_lt {a b : Nat} (ha : a < 18446744073709551616) (hb : b < 18446744073709551616) : Lt64 (ires a b) := ⟨fclean_lt ha, fclean_lt hb⟩
theorem iall_lt : Lt64 iall := by constructor <;> decide
theorem fround_lt' (d : Option (Int × Int)) (mode : Int) : fround d mode < 18446744073709551616 := by
 unfold fround; split
 · decide
 · split
   · decide
   · exact fcut_lt _ _ _
theorem fquo_lt' (d d' : Option (Int × Int)) (mode : Int) : fquo d d' mode < 18446744073709551616 := by
 unfold fquo; split
 · split
   · decide
   · split
     · decide
     · exact fcut_lt _ _ _
 · decide
theorem froot_lt' (d : Option (Int × Int)) (mode : Int) : froot d mode < 18446744073709551616 := by
 unfold froot; split
 · decide
 · split
   · decide
   · split
     · decide
     · exact fcut_lt _ _ _
theorem fnothing_lt (mode : Int) : fnothing mode < 18446744073709551616 := fsgn_lt (by decide)
theorem fadd_lt' {a b : Nat} (ha : a < 18446744073709551616) (hb : b < 18446744073709551616) (mode : Int) : fadd a b mode < 18446744073709551616 := by
 unfold fadd
 repeat' split
 all_goals first | assumption | decide | exact fnothing_lt _ | exact fround_lt' _ _
theorem fmul_lt' (a b : Nat) (mode : Int) : fmul a b mode < 18446744073709551616 := by
 unfold fmul
 repeat' split
 all_goals first | decide | exact fsgn_lt (by decide) | exact fround_lt' _ _
theorem fdiv_lt' (a b : Nat) (mode : Int) : fdiv a b mode < 18446744073709551616 := by
 unfold fdiv
 repeat' split
 all_goals first | decide | exact fsgn_lt (by decide) | exact fquo_lt' _ _ _
theorem fsqrt_lt' {a : Nat} (h : a < 18446744073709551616) (mode : Int) : fsqrt a mode < 18446744073709551616 := by
 unfold fsqrt
 repeat' split
 all_goals first | assumption | decide | exact froot_lt' _ _
theorem fabs_lt' (a : Nat) : fabs a < 9223372036854775808 := by
 unfold fabs; split
 · decide
 · exact fM_lt a
theorem fat_lt (op : Nat → Nat → Int → Nat) (h : ∀ a b m, op a b m < 18446744073709551616) (a b : Nat) (m : Int) : fat op a b m < 18446744073709551616 := by
 unfold fat; split
 · decide
 · exact h _ _ _
def TT : Int := 9218868437227405312
theorem fplace_clean (f : Nat) : fplace (fclean f) = fplace f ∧ fnan (fclean f) = fnan f := by
 unfold fclean; split
 · rename_i h; subst h; decide
 · exact ⟨rfl, rfl⟩
theorem fless_place {a b : Nat} (ha : fnan a = false) (hb : fnan b = false) : fless a b = decide (fplace a < fplace b) := by
 unfold fless fcmpv; rw [ha, hb]; simp only [Bool.or_self, Bool.false_eq_true, if_false]
 exact decide_eq_decide.2 cmpI_neg_iff
theorem fmin2_nan {a b : Nat} (ha : fnan a = false) (hb : fnan b = false) : fnan (fmin2 a b) = false := by unfold fmin2; split <;> assumption
theorem fmax2_nan {a b : Nat} (ha : fnan a = false) (hb : fnan b = false) : fnan (fmax2 a b) = false := by unfold fmax2; split <;> assumption
theorem fmin2_place {a b : Nat} (ha : fnan a = false) (hb : fnan b = false) : fplace (fmin2 a b) = min (fplace a) (fplace b) := by
 unfold fmin2; rw [fless_place hb ha]
 by_cases h : fplace b < fplace a
 · rw [if_pos (by simpa using h)]; omega
 · rw [if_neg (by simpa using h)]; omega
theorem fmax2_place {a b : Nat} (ha : fnan a = false) (hb : fnan b = false) : fplace (fmax2 a b) = max (fplace a) (fplace b) := by
 unfold fmax2; rw [fless_place ha hb]
 by_cases h : fplace a < fplace b
 · rw [if_pos (by simpa using h)]; omega
 · rw [if_neg (by simpa using h)]; omega
theorem place_bound {f : Nat} (h : fnan f = false) : -TT ≤ fplace f ∧ fplace f ≤ TT := by
 have h1 : fM f ≤ 9218868437227405312 := by unfold fnan at h; simpa using h
 rw [fplace_eq]; unfold TT; split <;> omega
theorem place_fin {f : Nat} (h : fnan f = false) : ffin f = true ↔ (-TT < fplace f ∧ fplace f < TT) := by
 have h1 : fM f ≤ 9218868437227405312 := by unfold fnan at h; simpa using h
 unfold ffin; rw [fplace_eq]; unfold TT
 rw [decide_eq_true_eq]
 constructor
 · intro k; split <;> omega
 · intro k; split at k <;> omega
theorem place_top {f : Nat} (hf : f < 18446744073709551616) (h : fnan f = false) : fplace f = TT ↔ f = fInf := by
 have h1 : fM f ≤ 9218868437227405312 := by unfold fnan at h; simpa using h
 constructor
 · intro k
   rw [fplace_eq] at k; unfold TT at k
   unfold fInf
   cases hs : fS f with
   | true => rw [hs, if_pos rfl] at k; omega
   | false => rw [hs, if_neg (by decide)] at k; unfold fS at hs; unfold fM at k; simp at hs; omega
 · intro k; subst k; decide
theorem place_bot {f : Nat} (hf : f < 18446744073709551616) (h : fnan f = false) : fplace f = -TT ↔ f = fNInf := by
 have h1 : fM f ≤ 9218868437227405312 := by unfold fnan at h; simpa using h
 constructor
 · intro k
   rw [fplace_eq] at k; unfold TT at k
   unfold fNInf
   cases hs : fS f with
   | false => rw [hs, if_neg (by decide)] at k; omega
   | true => rw [hs, if_pos rfl] at k; unfold fS at hs; unfold fM at k; simp at hs; omega
 · intro k; subst k; decide
theorem place_inf {f : Nat} (h : finf f = true) : fplace f = TT ∨ fplace f = -TT := by
 have := inf_place h; unfold TT; split at this <;> omega
theorem fin_of {f : Nat} (h : fnan f = false) (h1 : -TT < fplace f) (h2 : fplace f < TT) : ffin f = true := (place_fin h).2 ⟨h1, h2⟩
theorem fin_lt {f : Nat} (h : ffin f = true) : fnan f = false ∧ -TT < fplace f ∧ fplace f < TT := ⟨(fin_not h).1, (place_fin (fin_not h).1).1 h⟩
theorem iok_iff {x : Nat × Nat} (hx : Lt64 x) : iok x = true ↔ fnan x.1 = false ∧ fnan x.2 = false ∧ fplace x.1 ≤ fplace x.2 ∧ fplace x.1 < TT ∧ -TT < fplace x.2 := by
 unfold iok fcmpok fcmpv
 cases h1 : fnan x.1 with
 | true => simp
 | false =>
  cases h2 : fnan x.2 with
  | true => simp
  | false =>
   have a1 := place_top hx.1 h1
   have a2 := place_bot hx.2 h2
   have b1 := place_bound h1
   have b2 := place_bound h2
   simp only [Bool.or_self, Bool.not_false, Bool.true_and, Bool.false_eq_true, if_false, Bool.and_eq_true, decide_eq_true_eq, cmpI_le, ne_eq, true_and]
   rw [← a1, ← a2]
   omega
theorem iok_res {a b : Nat} (ha : a < 18446744073709551616) (hb : b < 18446744073709551616) (na : fnan a = false) (nb : fnan b = false) (h1 : fplace a ≤ fplace b) (h2 : fplace a < TT) (h3 : -TT < fplace b) : iok (ires a b) = true := by
 refine (iok_iff (ires_lt ha hb)).2 ?_
 have c1 := fplace_clean a
 have c2 := fplace_clean b
 unfold ires
 exact ⟨c1.2.trans na, c2.2.trans nb, by rw [c1.1, c2.1]; exact h1, by rw [c1.1]; exact h2, by rw [c2.1]; exact h3⟩
theorem fof_grid {f : Nat} (h : ffin f = true) (g : Nat) : fof f = nrm (fz f * 2 ^ g) (-1074 - (g : Int)) ∧ nrm (fz f * 2 ^ g) (-1074 - (g : Int)) ≠ none := by
 have e : fof f = nrm (fz f * 2 ^ g) (-1074 - (g : Int)) := by rw [nrm_scale, fof_fin h]; congr 1; omega
 exact ⟨e, by rw [← e, fof_fin h]; exact fof_some h⟩
set_option linter.unusedSimpArgs false
theorem fadd_fin_place {a b : Nat} (ha : ffin a = true) (hb : ffin b = true) (m : Int) : fnan (fadd a b m) = false ∧ fplace (fadd a b m) = fplace (fround (nrm (fz a + fz b) (-1074 - ((0 : Nat) : Int))) m) ∧ nrm (fz a + fz b) (-1074 - ((0 : Nat) : Int)) ≠ none := by
 have h := fadd_place ha hb m
 have v := (fadd_val ha hb).2
 rw [g0] at h v
 exact ⟨h.1, h.2, v⟩
theorem fadd_lo_nan {a b : Nat} (ha : a < 18446744073709551616) (hb : b < 18446744073709551616) (na : fnan a = false) (nb : fnan b = false) (h : (fplace a < TT ∧ fplace b < TT) ∨ (-TT < fplace a ∧ -TT < fplace b)) (m : Int) : fnan (fadd a b m) = false := by
 unfold fadd
 rw [na, nb]
 have h1 : (finf a && finf b && decide (a ≠ b)) = false := by
  cases h2 : finf a with
  | false => rfl
  | true =>
   cases h3 : finf b with
   | false => rfl
   | true =>
    have k1 := place_inf h2
    have k2 := place_inf h3
    unfold TT at *
    have : a = b := by
     rcases h with h | h
     · rw [(place_bot ha na).1 (by unfold TT; omega), (place_bot hb nb).1 (by unfold TT; omega)]
     · rw [(place_top ha na).1 (by unfold TT; omega), (place_top hb nb).1 (by unfold TT; omega)]
    simp [this]
 rw [h1]
 simp only [Bool.or_self, Bool.false_eq_true, if_false]
 repeat' split
 all_goals first | assumption | skip
 · unfold fnothing; cases decide (m = 1) <;> decide
 · rename_i k1 k2 k3 k4
   have f1 : ffin a = true := by rcases f_cases a with c | ⟨_, c, _⟩ | ⟨_, _, c⟩ <;> simp_all
   have f2 : ffin b = true := by rcases f_cases b with c | ⟨_, c, _⟩ | ⟨_, _, c⟩ <;> simp_all
   have v := fadd_val f1 f2
   rw [v.1]
   have v2 := v.2
   rw [g0] at v2 ⊢
   exact (fround_place _ 0 m v2).1
def sgI (v : Int) : Int := if v < 0 then -1 else if 0 < v then 1 else 0
def pmul3 (a b : Nat) (m : Int) : Int := if ffin a && ffin b then fplace (fround (nrm (fz a * fz b) (-1074 - ((1074 : Nat) : Int))) m) else sgI (fplace a) * sgI (fplace b) * TT
theorem g1074 : (-2148 : Int) = -1074 - ((1074 : Nat) : Int) := by decide
theorem fz_sign (f : Nat) : (fz f < 0 ↔ fplace f < 0) ∧ (0 < fz f ↔ 0 < fplace f) ∧ (fz f = 0 ↔ fplace f = 0) := by
 have z0 : fz 0 = 0 := by decide
 have h1 := @fz_le f 0
 have h2 := @fz_le 0 f
 rw [z0, fplace_zero] at h1 h2
 omega
theorem place_sign (f : Nat) : (fplace f < 0 → fS f = true) ∧ (0 < fplace f → fS f = false) := by
 rw [fplace_eq]; cases fS f <;> simp <;> omega
theorem zero_place (f : Nat) : fzero f = true ↔ fplace f = 0 := by
 unfold fzero; rw [decide_eq_true_eq, fplace_eq]; split <;> omega
theorem place_sgn_inf (s : Bool) : fplace (fsgn s fInf) = if s then -TT else TT := by cases s <;> decide
theorem place_sgn_zero (s : Bool) : fplace (fsgn s 0) = 0 := by cases s <;> decide
theorem nan_sgn (s : Bool) : fnan (fsgn s fInf) = false ∧ fnan (fsgn s 0) = false := by cases s <;> decide
theorem nz_place {f : Nat} (h : fzero f = false) : fplace f ≠ 0 := fun h' => by rw [(zero_place f).2 h'] at h; cases h
theorem sgI_inf {a b : Nat} (ha : fplace a ≠ 0) (hb : fplace b ≠ 0) : fplace (fsgn (fS a != fS b) fInf) = sgI (fplace a) * sgI (fplace b) * TT := by
 rw [place_sgn_inf]
 have s1 := place_sign a
 have s2 := place_sign b
 unfold sgI
 rcases Int.lt_or_gt_of_ne ha with h1 | h1 <;> rcases Int.lt_or_gt_of_ne hb with h2 | h2
 · rw [s1.1 h1, s2.1 h2]; simp [h1, h2]
 · rw [s1.1 h1, s2.2 h2]; simp [h1, h2, show ¬ fplace b < 0 by omega]
 · rw [s1.2 h1, s2.1 h2]; simp [h1, h2, show ¬ fplace a < 0 by omega]
 · rw [s1.2 h1, s2.2 h2]; simp [h1, h2, show ¬ fplace a < 0 by omega, show ¬ fplace b < 0 by omega]
theorem fat_mul {a b : Nat} (na : fnan a = false) (nb : fnan b = false) (m : Int) : fnan (fat fmul a b m) = false ∧ fplace (fat fmul a b m) = pmul3 a b m := by
 unfold fat pmul3 fmul
 rw [na, nb]
 have ka := f_cases a
 have kb := f_cases b
 rw [na] at ka
 rw [nb] at kb
 have za := zero_place a
 have zb := zero_place b
 rcases ka with c | ⟨_, i1, f1, z1⟩ | ⟨_, i1, f1⟩
 · cases c
 · rw [i1, f1, z1]
   cases z2 : fzero b with
   | true =>
    have e0 := zb.1 z2
    have : finf b = false := by rcases kb with c | ⟨_, _, _, z⟩ | ⟨_, i, _⟩ <;> simp_all
    rw [e0]; simp [fnan_fNaN, sgI, fplace_zero, show fnan 0 = false by decide]
   | false =>
    simp only [Bool.or_self, Bool.and_false, Bool.false_and, Bool.or_false, Bool.false_eq_true, if_false, Bool.true_or, if_true, (nan_sgn _).1]
    exact ⟨trivial, sgI_inf (nz_place z1) (nz_place z2)⟩
 · rw [i1, f1]
   rcases kb with c | ⟨_, i2, f2, z2⟩ | ⟨_, i2, f2⟩
   · cases c
   · rw [i2, f2, z2]
     cases z1 : fzero a with
     | true =>
      have e0 := za.1 z1
      rw [e0]; simp [fnan_fNaN, sgI, fplace_zero, show fnan 0 = false by decide]
     | false =>
      simp only [Bool.or_self, Bool.and_false, Bool.false_and, Bool.and_true, Bool.or_false, Bool.false_eq_true, if_false, Bool.or_true, if_true, (nan_sgn _).1]
      exact ⟨trivial, sgI_inf (nz_place z1) (nz_place z2)⟩
   · have v := fmul_val f1 f2
     rw [i2, f2, v.1]
     have v2 := v.2
     rw [g1074] at v2 ⊢
     cases hz : (fzero a || fzero b) with
     | true =>
      have e0 : fz a * fz b = 0 := by
       rcases (show fzero a = true ∨ fzero b = true by simpa using hz) with h | h
       · rw [(fz_sign a).2.2.2 (za.1 h), Int.zero_mul]
       · rw [(fz_sign b).2.2.2 (zb.1 h), Int.mul_zero]
      rw [e0, fround_zero, fplace_zero]
      simp only [Bool.or_self, Bool.false_and, Bool.and_false, Bool.false_eq_true, if_false, if_true, (nan_sgn _).2, Bool.and_self]
      exact ⟨trivial, place_sgn_zero _⟩
     | false =>
      have p := (fround_place _ 1074 m v2).1
      simp only [Bool.or_self, Bool.false_and, Bool.and_false, Bool.false_eq_true, if_false, p, Bool.and_self, if_true]
      exact ⟨trivial, trivial⟩
theorem pmul3_comm (a b : Nat) (m : Int) : pmul3 a b m = pmul3 b a m := by
 unfold pmul3
 rw [Bool.and_comm, Int.mul_comm (fz a), Int.mul_comm (sgI (fplace a))]
theorem pmul3_bound {a b : Nat} (m : Int) (_na : fnan a = false) (_nb : fnan b = false) : -TT ≤ pmul3 a b m ∧ pmul3 a b m ≤ TT := by
 unfold pmul3
 split
 · rename_i h
   simp only [Bool.and_eq_true] at h
   have v2 := (fmul_val h.1 h.2).2
   rw [g1074] at v2
   exact place_bound (fround_place _ 1074 m v2).1
 · unfold sgI TT; split <;> split <;> (try split) <;> (try split) <;> omega
theorem pmul3_sign {a b : Nat} (m : Int) : (0 ≤ fplace a → 0 ≤ fplace b → 0 ≤ pmul3 a b m) ∧ (fplace a ≤ 0 → 0 ≤ fplace b → pmul3 a b m ≤ 0) ∧ (0 ≤ fplace a → fplace b ≤ 0 → pmul3 a b m ≤ 0) ∧ (fplace a ≤ 0 → fplace b ≤ 0 → 0 ≤ pmul3 a b m) := by
 unfold pmul3
 split
 · rename_i h
   simp only [Bool.and_eq_true] at h
   have v2 := (fmul_val h.1 h.2).2
   rw [g1074] at v2
   have p := (fround_place _ 1074 m v2).2
   have s1 := fz_sign a
   have s2 := fz_sign b
   refine ⟨fun h1 h2 => p.1 (Int.mul_nonneg (by omega) (by omega)), fun h1 h2 => p.2 ?_, fun h1 h2 => p.2 ?_, fun h1 h2 => p.1 ?_⟩
   · exact Int.mul_nonpos_of_nonpos_of_nonneg (by omega) (by omega)
   · exact Int.mul_nonpos_of_nonneg_of_nonpos (by omega) (by omega)
   · exact Int.mul_nonneg_of_nonpos_of_nonpos (by omega) (by omega)
 · unfold sgI TT
   refine ⟨?_, ?_, ?_, ?_⟩ <;> intro h1 h2 <;> split <;> split <;> (try split) <;> (try split) <;> omega
theorem not_fin {a b : Nat} (h : ¬ (ffin a && ffin b) = true) : ffin a = false ∨ ffin b = false := by
 cases h1 : ffin a with
 | false => exact Or.inl rfl
 | true => right; rw [h1] at h; simpa using h
theorem inf_of {a : Nat} (na : fnan a = false) (h : ffin a = false) : fplace a = TT ∨ fplace a = -TT := by
 rcases f_cases a with c | ⟨_, i, _⟩ | ⟨_, _, f⟩
 · rw [na] at c; cases c
 · exact place_inf i
 · rw [h] at f; cases f
theorem pmul3_mono {a a' b : Nat} (m : Int) (na : fnan a = false) (na' : fnan a' = false) (nb : fnan b = false) (h : fplace a ≤ fplace a') :
 (0 ≤ fplace b → pmul3 a b m ≤ pmul3 a' b m) ∧ (fplace b ≤ 0 → pmul3 a' b m ≤ pmul3 a b m) := by
 have bd := pmul3_bound m na nb
 have bd' := pmul3_bound m na' nb
 by_cases hb0 : fplace b = 0
 · have s1 := @pmul3_sign a b m
   have s2 := @pmul3_sign a' b m
   have e1 : pmul3 a b m = 0 := by
    rcases Int.le_total 0 (fplace a) with k | k
    · have := s1.1 k (by omega); have := s1.2.2.1 k (by omega); omega
    · have := s1.2.1 k (by omega); have := s1.2.2.2 k (by omega); omega
   have e2 : pmul3 a' b m = 0 := by
    rcases Int.le_total 0 (fplace a') with k | k
    · have := s2.1 k (by omega); have := s2.2.2.1 k (by omega); omega
    · have := s2.2.1 k (by omega); have := s2.2.2.2 k (by omega); omega
   rw [e1, e2]; exact ⟨fun _ => Int.le_refl _, fun _ => Int.le_refl _⟩
 · by_cases hf : (ffin a && ffin b) = true
   · by_cases hf' : (ffin a' && ffin b) = true
     · unfold pmul3
       rw [if_pos hf, if_pos hf']
       simp only [Bool.and_eq_true] at hf hf'
       have v := (fmul_val hf.1 hf.2).2
       have v' := (fmul_val hf'.1 hf'.2).2
       rw [g1074] at v v'
       have hz := fz_le.2 h
       have sb := fz_sign b
       refine ⟨fun hb => fround_mono _ _ 1074 m v v' (Int.mul_le_mul_of_nonneg_right hz (by omega)), fun hb => fround_mono _ _ 1074 m v' v (Int.mul_le_mul_of_nonpos_right hz (by omega))⟩
     · -- b is finite, so a' is infinite, and positive
       simp only [Bool.and_eq_true] at hf
       have i := inf_of na' (by rcases not_fin hf' with k | k; exact k; rw [hf.2] at k; cases k)
       have fa := fin_lt hf.1
       have e : fplace a' = TT := by omega
       have k : pmul3 a' b m = sgI (fplace b) * TT := by unfold pmul3; rw [if_neg hf', e]; unfold sgI TT; simp
       unfold sgI TT at k
       unfold TT at bd
       refine ⟨fun hb => ?_, fun hb => ?_⟩
       · rw [if_neg (by omega), if_pos (by omega)] at k; omega
       · rw [if_pos (by omega)] at k; omega
   · by_cases hf' : (ffin a' && ffin b) = true
     · simp only [Bool.and_eq_true] at hf'
       have i := inf_of na (by rcases not_fin hf with k | k; exact k; rw [hf'.2] at k; cases k)
       have fa := fin_lt hf'.1
       have e : fplace a = -TT := by omega
       have k : pmul3 a b m = -(sgI (fplace b) * TT) := by unfold pmul3; rw [if_neg hf, e]; unfold sgI TT; simp [Int.neg_mul]
       unfold sgI TT at k
       unfold TT at bd'
       refine ⟨fun hb => ?_, fun hb => ?_⟩
       · rw [if_neg (by omega), if_pos (by omega)] at k; omega
       · rw [if_pos (by omega)] at k; omega
     · unfold pmul3
       rw [if_neg hf, if_neg hf']
       have hs : sgI (fplace a) ≤ sgI (fplace a') := by unfold sgI; split <;> split <;> (try split) <;> (try split) <;> omega
       have hl : -1 ≤ sgI (fplace a) ∧ sgI (fplace a') ≤ 1 := by unfold sgI; constructor <;> split <;> (try split) <;> omega
       refine ⟨fun hb => ?_, fun hb => ?_⟩
       · have : sgI (fplace b) = 1 := by unfold sgI; rw [if_neg (by omega), if_pos (by omega)]
         rw [this]; unfold TT; omega
       · have : sgI (fplace b) = -1 := by unfold sgI; rw [if_pos (by omega)]
         rw [this]; unfold TT; omega
theorem icor_place {op : Nat → Nat → Int → Nat} {x y : Nat × Nat} (h : ∀ m, fnan (fat op x.1 y.1 m) = false ∧ fnan (fat op x.1 y.2 m) = false ∧ fnan (fat op x.2 y.1 m) = false ∧ fnan (fat op x.2 y.2 m) = false) :
 fnan (icor op x y).1 = false ∧ fnan (icor op x y).2 = false ∧
 fplace (icor op x y).1 = min (min (min (fplace (fat op x.1 y.1 1)) (fplace (fat op x.1 y.2 1))) (fplace (fat op x.2 y.1 1))) (fplace (fat op x.2 y.2 1)) ∧
 fplace (icor op x y).2 = max (max (max (fplace (fat op x.1 y.1 2)) (fplace (fat op x.1 y.2 2))) (fplace (fat op x.2 y.1 2))) (fplace (fat op x.2 y.2 2)) := by
 obtain ⟨a1, a2, a3, a4⟩ := h 1
 obtain ⟨b1, b2, b3, b4⟩ := h 2
 have n1 := fmin2_nan a1 a2
 have n2 := fmin2_nan n1 a3
 have n3 := fmin2_nan n2 a4
 have m1 := fmax2_nan b1 b2
 have m2 := fmax2_nan m1 b3
 have m3 := fmax2_nan m2 b4
 unfold icor ires
 have c1 := fplace_clean (fmin2 (fmin2 (fmin2 (fat op x.1 y.1 1) (fat op x.1 y.2 1)) (fat op x.2 y.1 1)) (fat op x.2 y.2 1))
 have c2 := fplace_clean (fmax2 (fmax2 (fmax2 (fat op x.1 y.1 2) (fat op x.1 y.2 2)) (fat op x.2 y.1 2)) (fat op x.2 y.2 2))
 refine ⟨c1.2.trans n3, c2.2.trans m3, ?_, ?_⟩
 · show fplace (fclean _) = _
   rw [c1.1, fmin2_place n2 a4, fmin2_place n1 a3, fmin2_place a1 a2]
 · show fplace (fclean _) = _
   rw [c2.1, fmax2_place m2 b4, fmax2_place m1 b3, fmax2_place b1 b2]
set_option linter.unusedSimpArgs false
theorem cxQ_le2 {A A' D D' : Nat} (hD : 0 < D) (hD' : 0 < D') (h : A * D' ≤ A' * D) (j : Nat) : cxQ A D j ≤ cxQ A' D' j := by
 have e1 : cxQ A D j = cmpI ((2 * (A * D') : Nat) : Int) ((j * (D * D') : Nat) : Int) := by
  unfold cxQ
  exact cmpI_scale (p := D') (q := 1) hD' (by decide) (by rw [Nat.mul_one, Nat.mul_assoc]) (by rw [Nat.mul_one, Nat.mul_assoc])
 have e2 : cxQ A' D' j = cmpI ((2 * (A' * D) : Nat) : Int) ((j * (D * D') : Nat) : Int) := by
  unfold cxQ
  exact cmpI_scale (p := D) (q := 1) hD (by decide) (by rw [Nat.mul_one, Nat.mul_assoc]) (by rw [Nat.mul_one, Nat.mul_assoc, Nat.mul_comm D' D])
 rw [e1, e2]
 unfold cmpI; split <;> split <;> (try split) <;> (try split) <;> omega
def qv (a b : Nat) (m : Int) : Nat := fquo (nrm (fz a) (-1074)) (nrm (fz b) (-1074)) m
theorem qv_zero {a b : Nat} (m : Int) (hb : ffin b = true) (hb0 : fz b ≠ 0) (ha : fz a = 0) : qv a b m = 0 := by
 unfold qv
 rw [ha, nrm_zero]
 cases hd : nrm (fz b) (-1074) with
 | none => exact absurd hd (fof_some hb)
 | some p =>
  obtain ⟨n, f⟩ := p
  have hn : n ≠ 0 := fun h0 => by
   have := (dman_zero (fof_some hb)).1 (by rw [hd]; exact h0)
   exact hb0 this
  show (if n = 0 then fNaN else if (0 : Int) = 0 then 0 else _) = 0
  rw [if_neg hn, if_pos rfl]
theorem qv_cmp {a b a' b' : Nat} (m : Int) (ha : ffin a = true) (hb : ffin b = true) (ha' : ffin a' = true) (hb' : ffin b' = true) (za : fz a ≠ 0) (zb : fz b ≠ 0) (za' : fz a' ≠ 0) (zb' : fz b' ≠ 0) {s : Bool}
 (hs : (decide (fz a < 0) != decide (fz b < 0)) = s) (hs' : (decide (fz a' < 0) != decide (fz b' < 0)) = s) (h : (fz a).natAbs * (fz b').natAbs ≤ (fz a').natAbs * (fz b).natAbs) :
 fM (qv a b m) ≤ fM (qv a' b' m) ∧ fS (qv a b m) = s ∧ fS (qv a' b' m) = s ∧ fnan (qv a b m) = false ∧ fnan (qv a' b' m) = false := by
 obtain ⟨c, k1, k2⟩ := fquo_grid (fz a) (fz b) m za zb (fof_some ha) (fof_some hb)
 obtain ⟨c', k1', k2'⟩ := fquo_grid (fz a') (fz b') m za' zb' (fof_some ha') (fof_some hb')
 rw [hs] at k2
 rw [hs'] at k2'
 unfold qv
 rw [k2, k2']
 have pb : 0 < (fz b).natAbs := by omega
 have pb' : 0 < (fz b').natAbs := by omega
 refine ⟨fcut_mono s m (code_mono (cxQ_cx _ pb') (cxQ_le2 pb pb' ?_) k1 k1' s m), fcut_S _ _ _, fcut_S _ _ _, fcut_nan _ _ _, fcut_nan _ _ _⟩
 generalize (2 : Nat) ^ 1074 = D
 have := Nat.mul_le_mul_right D h
 rw [Nat.mul_right_comm, Nat.mul_right_comm (fz a').natAbs]
 exact this
def pdiv3 (a b : Nat) (m : Int) : Int := if ffin b then (if ffin a then fplace (qv a b m) else sgI (fplace a) * sgI (fplace b) * TT) else 0
theorem qv_sign {a b : Nat} (m : Int) (ha : ffin a = true) (hb : ffin b = true) (zb : fz b ≠ 0) : fnan (qv a b m) = false ∧ (fz a = 0 → fplace (qv a b m) = 0) ∧ (fz a ≠ 0 → fS (qv a b m) = (decide (fz a < 0) != decide (fz b < 0))) := by
 by_cases za : fz a = 0
 · rw [qv_zero m hb zb za]; exact ⟨by decide, fun _ => by decide, fun h => absurd za h⟩
 · have k := qv_cmp (a := a) (b := b) (a' := a) (b' := b) m ha hb ha hb za zb za zb rfl rfl (Nat.le_refl _)
   exact ⟨k.2.2.2.1, fun h => absurd h za, fun _ => k.2.1⟩
theorem fat_div {a b : Nat} (na : fnan a = false) (nb : fnan b = false) (hb0 : fplace b ≠ 0) (m : Int) : fnan (fat fdiv a b m) = false ∧ fplace (fat fdiv a b m) = pdiv3 a b m := by
 unfold fat pdiv3 fdiv
 rw [na, nb]
 have ka := f_cases a
 have kb := f_cases b
 rw [na] at ka
 rw [nb] at kb
 have z2 : fzero b = false := by
  cases h : fzero b with
  | false => rfl
  | true => exact absurd ((zero_place b).1 h) hb0
 rw [z2]
 rcases ka with c | ⟨_, i1, f1, z1⟩ | ⟨_, i1, f1⟩
 · cases c
 · rw [i1, f1, z1]
   rcases kb with c | ⟨_, i2, f2, _⟩ | ⟨_, i2, f2⟩
   · cases c
   · rw [i2, f2]
     simp [fnan_fNaN, fplace_zero, show fnan 0 = false by decide]
   · rw [i2, f2]
     simp only [Bool.or_self, Bool.and_false, Bool.false_and, Bool.or_false, Bool.false_eq_true, if_false, if_true, (nan_sgn _).1]
     exact ⟨trivial, sgI_inf (nz_place z1) hb0⟩
 · rw [i1, f1]
   rcases kb with c | ⟨_, i2, f2, _⟩ | ⟨_, i2, f2⟩
   · cases c
   · rw [i2, f2]
     simp only [Bool.or_self, Bool.false_and, Bool.and_false, Bool.or_true, Bool.false_eq_true, if_false, if_true, (nan_sgn _).2]
     exact ⟨trivial, place_sgn_zero _⟩
   · rw [i2, f2]
     have zb : fz b ≠ 0 := fun h => hb0 ((fz_sign b).2.2.1 h)
     cases z1 : fzero a with
     | true =>
      have e0 : fz a = 0 := (fz_sign a).2.2.2 ((zero_place a).1 z1)
      simp only [Bool.or_self, Bool.false_and, Bool.and_false, Bool.or_false, Bool.false_eq_true, if_false, if_true, (nan_sgn _).2]
      exact ⟨trivial, by rw [place_sgn_zero, (qv_sign m f1 f2 zb).2.1 e0]⟩
     | false =>
      simp only [Bool.or_self, Bool.false_and, Bool.and_false, Bool.or_false, Bool.false_eq_true, if_false, if_true, fof_fin f1, fof_fin f2]
      have k := (qv_sign m f1 f2 zb).1
      unfold qv at k ⊢
      rw [k]
      exact ⟨by simpa using k, by simp⟩
theorem pdiv3_bound {a b : Nat} (m : Int) (hb0 : fplace b ≠ 0) : -TT ≤ pdiv3 a b m ∧ pdiv3 a b m ≤ TT := by
 unfold pdiv3
 split
 · rename_i hb
   split
   · rename_i ha
     exact place_bound (qv_sign m ha hb (fun h => hb0 ((fz_sign b).2.2.1 h))).1
   · unfold sgI TT; split <;> split <;> (try split) <;> (try split) <;> omega
 · unfold TT; omega
theorem place_of {f : Nat} {s : Bool} (h : fS f = s) : fplace f = if s then -(fM f : Int) else (fM f : Int) := by rw [fplace_eq, h]
theorem pdiv3_sign {a b : Nat} (m : Int) (hb0 : fplace b ≠ 0) : (0 ≤ fplace a → 0 ≤ fplace b → 0 ≤ pdiv3 a b m) ∧ (fplace a ≤ 0 → 0 ≤ fplace b → pdiv3 a b m ≤ 0) ∧ (0 ≤ fplace a → fplace b ≤ 0 → pdiv3 a b m ≤ 0) ∧ (fplace a ≤ 0 → fplace b ≤ 0 → 0 ≤ pdiv3 a b m) := by
 unfold pdiv3
 split
 · rename_i hb
   split
   · rename_i ha
     have sa := fz_sign a
     have sb := fz_sign b
     have zb : fz b ≠ 0 := fun h => hb0 (sb.2.2.1 h)
     have k := qv_sign m ha hb zb
     by_cases za : fz a = 0
     · rw [k.2.1 za]; exact ⟨fun _ _ => Int.le_refl _, fun _ _ => Int.le_refl _, fun _ _ => Int.le_refl _, fun _ _ => Int.le_refl _⟩
     · rw [place_of (k.2.2 za)]
       rcases Int.lt_or_gt_of_ne za with h1 | h1 <;> rcases Int.lt_or_gt_of_ne zb with h2 | h2
       · rw [decide_eq_true h1, decide_eq_true h2]; simp only [bne_self_eq_false, Bool.false_eq_true, if_false]; omega
       · rw [decide_eq_true h1, decide_eq_false (show ¬ fz b < 0 by omega)]; simp only [Bool.bne_false, if_true]; omega
       · rw [decide_eq_false (show ¬ fz a < 0 by omega), decide_eq_true h2]; simp only [Bool.false_bne, if_true]; omega
       · rw [decide_eq_false (show ¬ fz a < 0 by omega), decide_eq_false (show ¬ fz b < 0 by omega)]; simp only [bne_self_eq_false, Bool.false_eq_true, if_false]; omega
   · unfold sgI TT
     refine ⟨?_, ?_, ?_, ?_⟩ <;> intro h1 h2 <;> split <;> split <;> (try split) <;> (try split) <;> omega
 · exact ⟨fun _ _ => Int.le_refl _, fun _ _ => Int.le_refl _, fun _ _ => Int.le_refl _, fun _ _ => Int.le_refl _⟩
theorem pdiv3_mono {a a' b : Nat} (m : Int) (na : fnan a = false) (na' : fnan a' = false) (hb0 : fplace b ≠ 0) (h : fplace a ≤ fplace a') :
 (0 ≤ fplace b → pdiv3 a b m ≤ pdiv3 a' b m) ∧ (fplace b ≤ 0 → pdiv3 a' b m ≤ pdiv3 a b m) := by
 have bd := @pdiv3_bound a b m hb0
 have bd' := @pdiv3_bound a' b m hb0
 have sg := @pdiv3_sign a b m hb0
 have sg' := @pdiv3_sign a' b m hb0
 by_cases hc : fplace a ≤ 0 ∧ 0 ≤ fplace a'
 · refine ⟨fun hb => ?_, fun hb => ?_⟩
   · have := sg.2.1 hc.1 hb; have := sg'.1 hc.2 hb; omega
   · have := sg.2.2.2 hc.1 hb; have := sg'.2.2.1 hc.2 hb; omega
 · cases fb : ffin b with
   | false => unfold pdiv3; rw [fb]; exact ⟨fun _ => Int.le_refl _, fun _ => Int.le_refl _⟩
   | true =>
    have sb := fz_sign b
    have zb : fz b ≠ 0 := fun h => hb0 (sb.2.2.1 h)
    cases fa : ffin a with
    | false =>
     have e : fplace a = -TT ∨ fplace a = TT := (inf_of na fa).symm
     have b' := place_bound na'
     rcases e with e | e
     · have k : pdiv3 a b m = -(sgI (fplace b) * TT) := by unfold pdiv3; rw [fb, fa, e]; unfold sgI TT; simp [Int.neg_mul]
       unfold sgI at k
       refine ⟨fun hb => ?_, fun hb => ?_⟩
       · rw [if_neg (by omega), if_pos (by omega)] at k; omega
       · rw [if_pos (by omega)] at k; omega
     · have e' : fplace a' = TT := by omega
       have f' : ffin a' = false := by
        cases h' : ffin a' with
        | false => rfl
        | true => have := fin_lt h'; omega
       unfold pdiv3; rw [fb, fa, f', e, e']; exact ⟨fun _ => Int.le_refl _, fun _ => Int.le_refl _⟩
    | true =>
     cases fa' : ffin a' with
     | false =>
      have b0 := fin_lt fa
      have e : fplace a' = TT := by rcases inf_of na' fa' with e | e <;> omega
      have k : pdiv3 a' b m = sgI (fplace b) * TT := by unfold pdiv3; rw [fb, fa', e]; unfold sgI TT; simp
      unfold sgI at k
      refine ⟨fun hb => ?_, fun hb => ?_⟩
      · rw [if_neg (by omega), if_pos (by omega)] at k; omega
      · rw [if_pos (by omega)] at k; omega
     | true =>
      have sa := fz_sign a
      have sa' := fz_sign a'
      have za : fz a ≠ 0 := by omega
      have za' : fz a' ≠ 0 := by omega
      have hle := fz_le.2 h
      unfold pdiv3
      rw [fb, fa, fa']
      simp only [if_true]
      rcases Int.lt_or_gt_of_ne za with h1 | h1
      · have h1' : fz a' < 0 := by omega
        have hab : (fz a').natAbs * (fz b).natAbs ≤ (fz a).natAbs * (fz b).natAbs := Nat.mul_le_mul_right _ (by omega)
        rcases Int.lt_or_gt_of_ne zb with h2 | h2
        · have k := qv_cmp m fa' fb fa fb za' zb za zb (s := false) (by rw [decide_eq_true h1', decide_eq_true h2]; rfl) (by rw [decide_eq_true h1, decide_eq_true h2]; rfl) hab
          rw [place_of k.2.1, place_of k.2.2.1]
          simp only [Bool.false_eq_true, if_false]; omega
        · have k := qv_cmp m fa' fb fa fb za' zb za zb (s := true) (by rw [decide_eq_true h1', decide_eq_false (show ¬ fz b < 0 by omega)]; rfl) (by rw [decide_eq_true h1, decide_eq_false (show ¬ fz b < 0 by omega)]; rfl) hab
          rw [place_of k.2.1, place_of k.2.2.1]
          simp only [if_true]; omega
      · have h1' : 0 < fz a' := by omega
        have hab : (fz a).natAbs * (fz b).natAbs ≤ (fz a').natAbs * (fz b).natAbs := Nat.mul_le_mul_right _ (by omega)
        rcases Int.lt_or_gt_of_ne zb with h2 | h2
        · have k := qv_cmp m fa fb fa' fb za zb za' zb (s := true) (by rw [decide_eq_false (show ¬ fz a < 0 by omega), decide_eq_true h2]; rfl) (by rw [decide_eq_false (show ¬ fz a' < 0 by omega), decide_eq_true h2]; rfl) hab
          rw [place_of k.2.1, place_of k.2.2.1]
          simp only [if_true]; omega
        · have k := qv_cmp m fa fb fa' fb za zb za' zb (s := false) (by rw [decide_eq_false (show ¬ fz a < 0 by omega), decide_eq_false (show ¬ fz b < 0 by omega)]; rfl) (by rw [decide_eq_false (show ¬ fz a' < 0 by omega), decide_eq_false (show ¬ fz b < 0 by omega)]; rfl) hab
          rw [place_of k.2.1, place_of k.2.2.1]
          simp only [Bool.false_eq_true, if_false]; omega
theorem pdiv3_anti {a b b' : Nat} (m : Int) (_na : fnan a = false) (nb : fnan b = false) (nb' : fnan b' = false) (h : fplace b ≤ fplace b') (hs : 0 < fplace b ∨ fplace b' < 0) :
 (0 ≤ fplace a → pdiv3 a b' m ≤ pdiv3 a b m) ∧ (fplace a ≤ 0 → pdiv3 a b m ≤ pdiv3 a b' m) := by
 have hb0 : fplace b ≠ 0 := by omega
 have hb0' : fplace b' ≠ 0 := by omega
 have bd := @pdiv3_bound a b m hb0
 have bd' := @pdiv3_bound a b' m hb0'
 have sg := @pdiv3_sign a b m hb0
 have sg' := @pdiv3_sign a b' m hb0'
 have i0 : ∀ c, ffin c = false → pdiv3 a c m = 0 := fun c hc => by unfold pdiv3; rw [hc]; rfl
 cases fb : ffin b with
 | false =>
  have e := inf_of nb fb
  have q := place_bound nb'
  cases fb' : ffin b' with
  | false => rw [i0 b fb, i0 b' fb']; exact ⟨fun _ => Int.le_refl _, fun _ => Int.le_refl _⟩
  | true =>
   have q' := fin_lt fb'
   rw [i0 b fb]
   exact ⟨fun ha => sg'.2.2.1 ha (by unfold TT at *; omega), fun ha => sg'.2.2.2 ha (by unfold TT at *; omega)⟩
 | true =>
  cases fb' : ffin b' with
  | false =>
   have e := inf_of nb' fb'
   have q' := fin_lt fb
   rw [i0 b' fb']
   exact ⟨fun ha => sg.1 ha (by unfold TT at *; omega), fun ha => sg.2.1 ha (by unfold TT at *; omega)⟩
  | true =>
   have sb := fz_sign b
   have sb' := fz_sign b'
   have zb : fz b ≠ 0 := fun h => hb0 (sb.2.2.1 h)
   have zb' : fz b' ≠ 0 := fun h => hb0' (sb'.2.2.1 h)
   have hle := fz_le.2 h
   cases fa : ffin a with
   | false =>
    have e : sgI (fplace b) = sgI (fplace b') := by
     unfold sgI
     rcases hs with k | k
     · rw [if_neg (by omega), if_pos k, if_neg (by omega), if_pos (by omega)]
     · rw [if_pos (by omega), if_pos (by omega)]
    unfold pdiv3; rw [fb, fb', fa, e]; exact ⟨fun _ => Int.le_refl _, fun _ => Int.le_refl _⟩
   | true =>
    have sa := fz_sign a
    by_cases za : fz a = 0
    · unfold pdiv3; rw [fb, fb', fa]
      simp only [if_true]
      rw [(qv_sign m fa fb zb).2.1 za, (qv_sign m fa fb' zb').2.1 za]; exact ⟨fun _ => Int.le_refl _, fun _ => Int.le_refl _⟩
    · unfold pdiv3
      rw [fb, fb', fa]
      simp only [if_true]
      rcases hs with h2 | h2
      · -- both positive: the greater divisor gives the lesser magnitude
        have hab : (fz a).natAbs * (fz b).natAbs ≤ (fz a).natAbs * (fz b').natAbs := Nat.mul_le_mul_left _ (by omega)
        rcases Int.lt_or_gt_of_ne za with h1 | h1
        · have k := qv_cmp m fa fb' fa fb za zb' za zb (s := true) (by rw [decide_eq_true h1, decide_eq_false (show ¬ fz b' < 0 by omega)]; rfl) (by rw [decide_eq_true h1, decide_eq_false (show ¬ fz b < 0 by omega)]; rfl) hab
          rw [place_of k.2.1, place_of k.2.2.1]
          simp only [if_true]; omega
        · have k := qv_cmp m fa fb' fa fb za zb' za zb (s := false) (by rw [decide_eq_false (show ¬ fz a < 0 by omega), decide_eq_false (show ¬ fz b' < 0 by omega)]; rfl) (by rw [decide_eq_false (show ¬ fz a < 0 by omega), decide_eq_false (show ¬ fz b < 0 by omega)]; rfl) hab
          rw [place_of k.2.1, place_of k.2.2.1]
          simp only [Bool.false_eq_true, if_false]; omega
      · have hab : (fz a).natAbs * (fz b').natAbs ≤ (fz a).natAbs * (fz b).natAbs := Nat.mul_le_mul_left _ (by omega)
        have g1 : fz b < 0 := by omega
        have g2 : fz b' < 0 := by omega
        rcases Int.lt_or_gt_of_ne za with h1 | h1
        · have k := qv_cmp m fa fb fa fb' za zb za zb' (s := false) (by rw [decide_eq_true h1, decide_eq_true g1]; rfl) (by rw [decide_eq_true h1, decide_eq_true g2]; rfl) hab
          rw [place_of k.2.1, place_of k.2.2.1]
          simp only [Bool.false_eq_true, if_false]; omega
        · have k := qv_cmp m fa fb fa fb' za zb za zb' (s := true) (by rw [decide_eq_false (show ¬ fz a < 0 by omega), decide_eq_true g1]; rfl) (by rw [decide_eq_false (show ¬ fz a < 0 by omega), decide_eq_true g2]; rfl) hab
          rw [place_of k.2.1, place_of k.2.2.1]
          simp only [if_true]; omega
set_option linter.unusedSimpArgs false
theorem neg_place {f : Nat} (h : fnan f = false) : fnan (fneg f) = false ∧ fplace (fneg f) = -fplace f := fplace_fneg h
def inegr (x : Nat × Nat) : Nat × Nat := (fneg x.2, fneg x.1)
theorem inegr_lt (x : Nat × Nat) : Lt64 (inegr x) := ⟨fneg_lt _, fneg_lt _⟩
theorem iok_inegr {x : Nat × Nat} (hx : Lt64 x) : iok (inegr x) = iok x := by
 rw [Bool.eq_iff_iff, iok_iff hx, iok_iff (inegr_lt x)]
 unfold inegr
 have k1 := (fneg_kinds x.1).1
 have k2 := (fneg_kinds x.2).1
 constructor
 · rintro ⟨n1, n2, h⟩
   rw [k2] at n1; rw [k1] at n2
   rw [(neg_place n1).2, (neg_place n2).2] at h
   exact ⟨n2, n1, by omega⟩
 · rintro ⟨n1, n2, h⟩
   rw [(neg_place n1).2, (neg_place n2).2]
   exact ⟨by rw [k2]; exact n2, by rw [k1]; exact n1, by omega⟩
theorem isub_eq {x y : Nat × Nat} (hy : Lt64 y) : isub x y = iadd x (inegr y) := by
 unfold isub iadd; rw [iok_inegr hy]; rfl
theorem imag_lt {x : Nat × Nat} : imag x < 18446744073709551616 := by
 unfold imag; split
 · exact fmax2_lt (by have := fabs_lt' x.1; omega) (by have := fabs_lt' x.2; omega)
 · decide
theorem imig_lt {x : Nat × Nat} : imig x < 18446744073709551616 := by
 unfold imig; split
 · split
   · decide
   · exact fmin2_lt (by have := fabs_lt' x.1; omega) (by have := fabs_lt' x.2; omega)
 · decide
theorem iall_ok : iok iall = true := by decide
theorem iadd_place {x y : Nat × Nat} (hx : Lt64 x) (hy : Lt64 y) (h : iok x = true) (k : iok y = true) :
 fnan (iadd x y).1 = false ∧ fnan (iadd x y).2 = false ∧ fplace (iadd x y).1 = fplace (fadd x.1 y.1 1) ∧ fplace (iadd x y).2 = fplace (fadd x.2 y.2 2) := by
 obtain ⟨n1, n2, _, h2, h3⟩ := (iok_iff hx).1 h
 obtain ⟨m1, m2, _, k2, k3⟩ := (iok_iff hy).1 k
 unfold iadd ires
 rw [h, k]
 have c1 := fplace_clean (fadd x.1 y.1 1)
 have c2 := fplace_clean (fadd x.2 y.2 2)
 exact ⟨c1.2.trans (fadd_lo_nan hx.1 hy.1 n1 m1 (Or.inl ⟨h2, k2⟩) 1), c2.2.trans (fadd_lo_nan hx.2 hy.2 n2 m2 (Or.inr ⟨h3, k3⟩) 2), c1.1, c2.1⟩
theorem imul_place {x y : Nat × Nat} (hx : Lt64 x) (hy : Lt64 y) (h : iok x = true) (k : iok y = true) :
 fnan (imul x y).1 = false ∧ fnan (imul x y).2 = false ∧ fplace (imul x y).1 = min (min (min (pmul3 x.1 y.1 1) (pmul3 x.1 y.2 1)) (pmul3 x.2 y.1 1)) (pmul3 x.2 y.2 1) ∧
 fplace (imul x y).2 = max (max (max (pmul3 x.1 y.1 2) (pmul3 x.1 y.2 2)) (pmul3 x.2 y.1 2)) (pmul3 x.2 y.2 2) := by
 obtain ⟨n1, n2, _⟩ := (iok_iff hx).1 h
 obtain ⟨m1, m2, _⟩ := (iok_iff hy).1 k
 have e : imul x y = icor fmul x y := by unfold imul; rw [h, k]; rfl
 rw [e]
 have p := @icor_place fmul x y (fun m => ⟨(fat_mul n1 m1 m).1, (fat_mul n1 m2 m).1, (fat_mul n2 m1 m).1, (fat_mul n2 m2 m).1⟩)
 refine ⟨p.1, p.2.1, ?_, ?_⟩
 · rw [p.2.2.1, (fat_mul n1 m1 1).2, (fat_mul n1 m2 1).2, (fat_mul n2 m1 1).2, (fat_mul n2 m2 1).2]
 · rw [p.2.2.2, (fat_mul n1 m1 2).2, (fat_mul n1 m2 2).2, (fat_mul n2 m1 2).2, (fat_mul n2 m2 2).2]
theorem izero_iff {x : Nat × Nat} (hx : Lt64 x) (h : iok x = true) : izero x = true ↔ fplace x.1 ≤ 0 ∧ 0 ≤ fplace x.2 := by
 obtain ⟨n1, n2, _⟩ := (iok_iff hx).1 h
 unfold izero
 rw [fless_place (by decide) n1, fless_place n2 (by decide), fplace_zero]
 simp
theorem idiv_place {x y : Nat × Nat} (hx : Lt64 x) (hy : Lt64 y) (h : iok x = true) (k : iok y = true) (hz : izero y = false) :
 fnan (idiv x y).1 = false ∧ fnan (idiv x y).2 = false ∧ fplace (idiv x y).1 = min (min (min (pdiv3 x.1 y.1 1) (pdiv3 x.1 y.2 1)) (pdiv3 x.2 y.1 1)) (pdiv3 x.2 y.2 1) ∧
 fplace (idiv x y).2 = max (max (max (pdiv3 x.1 y.1 2) (pdiv3 x.1 y.2 2)) (pdiv3 x.2 y.1 2)) (pdiv3 x.2 y.2 2) ∧ (0 < fplace y.1 ∨ fplace y.2 < 0) := by
 obtain ⟨n1, n2, _⟩ := (iok_iff hx).1 h
 obtain ⟨m1, m2, hy12, _⟩ := (iok_iff hy).1 k
 have hs : 0 < fplace y.1 ∨ fplace y.2 < 0 := by
  have := izero_iff hy k
  rw [hz] at this
  simp only [Bool.false_eq_true, false_iff] at this
  omega
 have e : idiv x y = icor fdiv x y := by unfold idiv; rw [h, k, hz]; rfl
 rw [e]
 have d1 : fplace y.1 ≠ 0 := by omega
 have d2 : fplace y.2 ≠ 0 := by omega
 have p := @icor_place fdiv x y (fun m => ⟨(fat_div n1 m1 d1 m).1, (fat_div n1 m2 d2 m).1, (fat_div n2 m1 d1 m).1, (fat_div n2 m2 d2 m).1⟩)
 refine ⟨p.1, p.2.1, ?_, ?_, hs⟩
 · rw [p.2.2.1, (fat_div n1 m1 d1 1).2, (fat_div n1 m2 d2 1).2, (fat_div n2 m1 d1 1).2, (fat_div n2 m2 d2 1).2]
 · rw [p.2.2.2, (fat_div n1 m1 d1 2).2, (fat_div n1 m2 d2 2).2, (fat_div n2 m1 d1 2).2, (fat_div n2 m2 d2 2).2]
set_option linter.unusedSimpArgs false
theorem fabs_place {f : Nat} (h : fnan f = false) : fnan (fabs f) = false ∧ fplace (fabs f) = ((fplace f).natAbs : Int) := by
 have e : fabs f = fM f := by unfold fabs; rw [h]; rfl
 have hl := fM_lt f
 have e1 : fM (fM f) = fM f := by unfold fM; omega
 have s1 : fS (fM f) = false := by unfold fS; simp; omega
 rw [e]
 refine ⟨by unfold fnan at h ⊢; rw [e1]; exact h, ?_⟩
 rw [fplace_eq, fplace_eq, s1, e1]; simp only [Bool.false_eq_true, if_false]; split <;> omega
theorem imag_place {x : Nat × Nat} (hx : Lt64 x) (h : iok x = true) : fnan (imag x) = false ∧ fplace (imag x) = max ((fplace x.1).natAbs : Int) ((fplace x.2).natAbs : Int) := by
 obtain ⟨n1, n2, _⟩ := (iok_iff hx).1 h
 have a1 := fabs_place n1
 have a2 := fabs_place n2
 unfold imag; rw [h, if_pos rfl, fmax2_place a1.1 a2.1, a1.2, a2.2]
 exact ⟨fmax2_nan a1.1 a2.1, rfl⟩
theorem imig_place {x : Nat × Nat} (hx : Lt64 x) (h : iok x = true) : fnan (imig x) = false ∧ fplace (imig x) = if fplace x.1 ≤ 0 ∧ 0 ≤ fplace x.2 then 0 else min ((fplace x.1).natAbs : Int) ((fplace x.2).natAbs : Int) := by
 obtain ⟨n1, n2, _⟩ := (iok_iff hx).1 h
 have a1 := fabs_place n1
 have a2 := fabs_place n2
 have z := izero_iff hx h
 unfold imig; rw [h, if_pos rfl]
 by_cases hz : izero x = true
 · rw [if_pos hz, if_pos (z.1 hz)]; exact ⟨by decide, by decide⟩
 · rw [if_neg hz, if_neg (fun k => hz (z.2 k)), fmin2_place a1.1 a2.1, a1.2, a2.2]
   exact ⟨fmin2_nan a1.1 a2.1, rfl⟩
theorem fmul_sq {f : Nat} (h : fnan f = false) (m : Int) : fnan (fmul f f m) = false ∧ fplace (fmul f f m) = pmul3 f f m := by
 have k : fnan (fmul f f m) = false := by
  have k := f_cases f
  rcases k with c | ⟨_, i, g, z⟩ | ⟨_, i, g⟩
  · rw [h] at c; cases c
  · unfold fmul; rw [h, i, z]; simp [(nan_sgn _).1]
  · have v := fmul_val g g
    unfold fmul; rw [h, i, v.1]
    have v2 := v.2
    rw [g1074] at v2
    have p := (fround_place _ 1074 m v2).1
    rw [← g1074] at p
    cases fzero f
    · simp [p]
    · simp [(nan_sgn _).2]
 have e := fat_mul h h m
 unfold fat at e
 rw [k] at e
 exact ⟨k, by simpa using e.2⟩
theorem isqr_place {x : Nat × Nat} (hx : Lt64 x) (h : iok x = true) : fnan (isqr x).1 = false ∧ fnan (isqr x).2 = false ∧ fplace (isqr x).1 = pmul3 (imig x) (imig x) 1 ∧ fplace (isqr x).2 = pmul3 (imag x) (imag x) 2 := by
 have p := imag_place hx h
 have q := imig_place hx h
 have e : isqr x = ires (fmul (imig x) (imig x) 1) (fmul (imag x) (imag x) 2) := by unfold isqr; rw [h]; rfl
 rw [e]
 have c1 := fplace_clean (fmul (imig x) (imig x) 1)
 have c2 := fplace_clean (fmul (imag x) (imag x) 2)
 have s1 := fmul_sq q.1 1
 have s2 := fmul_sq p.1 2
 exact ⟨c1.2.trans s1.1, c2.2.trans s2.1, c1.1.trans s1.2, c2.1.trans s2.2⟩
theorem pmul3_sq {f g : Nat} (m : Int) (nf : fnan f = false) (ng : fnan g = false) (h0 : 0 ≤ fplace f) (h : fplace f ≤ fplace g) : pmul3 f f m ≤ pmul3 g g m := by
 have k1 := (pmul3_mono m nf ng nf h).1 h0
 have k2 := (pmul3_mono m nf ng ng h).1 (by omega)
 rw [pmul3_comm f g] at k2
 omega
theorem pmul3_abs {a : Nat} (m : Int) (h : fnan a = false) : pmul3 (fabs a) (fabs a) m = pmul3 a a m := by
 have p := fabs_place h
 have f1 : ffin (fabs a) = ffin a := by
  rw [Bool.eq_iff_iff, place_fin h, place_fin p.1, p.2]; unfold TT; omega
 unfold pmul3
 rw [f1]
 cases hf : ffin a with
 | false =>
  simp only [Bool.and_self, Bool.false_eq_true, if_false]
  rw [p.2]; unfold sgI TT
  split <;> split <;> (try split) <;> (try split) <;> omega
 | true =>
  simp only [Bool.and_self, if_true]
  have hl := fM_lt a
  have e : fabs a = fM a := by unfold fabs; rw [h]; rfl
  have lt : fM a < 9218868437227405312 := by unfold ffin at hf; simpa using hf
  have e2 : fz (fabs a) = (fzN (fM a) : Int) := by rw [e]; exact (fin_code lt).2
  have e3 : fz (fabs a) * fz (fabs a) = fz a * fz a := by
   rw [e2]; unfold fz sgn; cases fS a
   · rfl
   · exact (Int.neg_mul_neg _ _).symm
  rw [e3]
theorem ihull_place {x y : Nat × Nat} (hx : Lt64 x) (hy : Lt64 y) (h : iok x = true) (k : iok y = true) : iok (ihull x y) = true ∧ fplace (ihull x y).1 = min (fplace x.1) (fplace y.1) ∧ fplace (ihull x y).2 = max (fplace x.2) (fplace y.2) := by
 obtain ⟨n1, n2, h1, h2, h3⟩ := (iok_iff hx).1 h
 obtain ⟨m1, m2, k1, k2, k3⟩ := (iok_iff hy).1 k
 have e : ihull x y = ires (fmin2 x.1 y.1) (fmax2 x.2 y.2) := by unfold ihull; rw [h, k]; rfl
 have p := fmin2_place n1 m1
 have q := fmax2_place n2 m2
 rw [e]
 refine ⟨iok_res (fmin2_lt hx.1 hy.1) (fmax2_lt hx.2 hy.2) (fmin2_nan n1 m1) (fmax2_nan n2 m2) (by omega) (by omega) (by omega), ?_, ?_⟩
 · show fplace (fclean _) = _; rw [(fplace_clean _).1, p]
 · show fplace (fclean _) = _; rw [(fplace_clean _).1, q]
theorem fz_clean (f : Nat) : fz (fclean f) = fz f ∧ ffin (fclean f) = ffin f := by
 unfold fclean; split
 · rename_i h; subst h; decide
 · exact ⟨rfl, rfl⟩
set_option linter.unusedSimpArgs false
theorem g1 : (-1074 : Int) - 1 = -1074 - ((1 : Nat) : Int) := by decide
theorem not_fin_of {a : Nat} (h : fplace a = TT ∨ fplace a = -TT) : ffin a = false := by
 cases hf : ffin a with
 | false => rfl
 | true => have := fin_lt hf; omega
theorem TT_pos : -TT < 0 ∧ 0 < TT := by decide
theorem fsqrt_zero {f : Nat} (h : fzero f = true) (m : Int) : fsqrt f m = f := by
 have hn : fnan f = false := by unfold fzero at h; unfold fnan; simp at h ⊢; omega
 unfold fsqrt; rw [hn, h]; rfl
theorem fsqrt_inf (m : Int) : fsqrt fInf m = fInf := by
 unfold fsqrt; rw [show fnan fInf = false by decide]; simp
theorem fsqrt_pos {f : Nat} (hf : ffin f = true) (h : 0 < fplace f) (m : Int) : fsqrt f m = froot (nrm (fz f) (-1074)) m := by
 have k := fin_not hf
 have hz : fzero f = false := by
  cases hc : fzero f with
  | false => rfl
  | true => have := (zero_place f).1 hc; omega
 have hs := (place_sign f).2 h
 have hi : decide (f = fInf) = false := by
  rw [decide_eq_false_iff_not]; intro e; rw [e] at hf; exact absurd hf (by decide)
 unfold fsqrt; rw [k.1, hz, hi, hs, fof_fin hf]; rfl
set_option linter.unusedSimpArgs false
def nin (f : Nat) : Int := if f = fInf then 1 else if f = fNInf then -1 else 0
def nof (f : Nat) : Option (Int × Int) := if f = fInf then some (0, 0) else if f = fNInf then some (0, 0) else fof f
def nless (i : Int) (d : Option (Int × Int)) (j : Int) (e : Option (Int × Int)) : Bool := if (i != 0) || (j != 0) then decide (i < j) else decide (dcmp d e < 0)
theorem isN_00 : IsN (some (0, 0)) := by
 have h := isN_nrm 0 0
 rwa [show nrm 0 0 = some (0, 0) by decide] at h
theorem isN_nof (f : Nat) : IsN (nof f) := by
 unfold nof
 split
 · exact isN_00
 · split
   · exact isN_00
   · exact isN_fof _
theorem bound_cases {a : Nat} (ha : a < 18446744073709551616) (na : fnan a = false) :
 (nin a = 1 ∧ fplace a = TT) ∨ (nin a = -1 ∧ fplace a = -TT) ∨ (nin a = 0 ∧ nof a = fof a ∧ ffin a = true ∧ -TT < fplace a ∧ fplace a < TT) := by
 by_cases h1 : a = fInf
 · left; exact ⟨by unfold nin; rw [if_pos h1], (place_top ha na).2 h1⟩
 · by_cases h2 : a = fNInf
   · right; left; exact ⟨by unfold nin; rw [if_neg h1, if_pos h2], (place_bot ha na).2 h2⟩
   · right; right
     have b := place_bound na
     have t : fplace a ≠ TT := fun h => h1 ((place_top ha na).1 h)
     have t' : fplace a ≠ -TT := fun h => h2 ((place_bot ha na).1 h)
     refine ⟨by unfold nin; rw [if_neg h1, if_neg h2], by unfold nof; rw [if_neg h1, if_neg h2], fin_of na (by omega) (by omega), by omega, by omega⟩
end Go.Proofs.YtgicceiimciafaaGreatDoor
