/-
  Plain law: intervals of floats: what the functions compute; sums and products. No program in sight.
  Plain law: intervals of floats: the order of sums, products and quotients of bounds. No program in sight.
  Plain law: intervals of floats: quotients of bounds; elements of results; the laws of sums, products and hulls. No program in sight.
  Plain law: intervals of floats: elements of results; narrower arguments. No program in sight.
  Plain law: intervals of floats: squares, roots, hulls, intersections, midpoints; the statements. No program in sight.
  Plain law: intervals of floats: midpoints; operations undone; the whole line. No program in sight.
  Plain law: bounds of intervals as the reference reads them. No program in sight.
-/
import Derived.Test.YtakbappmkdaioaaGreatDoorZlAP
namespace Go.Proofs.YtakbappmkdaioaaGreatDoor
open Go.RowKit Sp
set_option linter.unusedSimpArgs false

/-! ### what the functions compute -/
def fclean (f : Nat) : Nat := if f = 9223372036854775808 then 0 else f
def iok (x : Nat × Nat) : Bool := fcmpok x.1 x.2 && decide (fcmpv x.1 x.2 ≤ 0) && decide (x.1 ≠ fInf) && decide (x.2 ≠ fNInf)
def iall : Nat × Nat := (fNInf, fInf)
def ires (a b : Nat) : Nat × Nat := (fclean a, fclean b)
def fless (a b : Nat) : Bool := decide (fcmpv a b < 0)
def fmin2 (a b : Nat) : Nat := if fless b a then b else a
def fmax2 (a b : Nat) : Nat := if fless a b then b else a
def izero (x : Nat × Nat) : Bool := !fless 0 x.1 && !fless x.2 0
def ipoint (f : Nat) : Nat × Nat := if ffin f then ires f f else iall
def iadd (x y : Nat × Nat) : Nat × Nat := if iok x && iok y then ires (fadd x.1 y.1 1) (fadd x.2 y.2 2) else iall
/-- a value at two bounds; where there is none it is 0 -/
def fat (op : Nat → Nat → Int → Nat) (a b : Nat) (m : Int) : Nat := if fnan (op a b m) then 0 else op a b m
def icor (op : Nat → Nat → Int → Nat) (x y : Nat × Nat) : Nat × Nat :=
  ires (fmin2 (fmin2 (fmin2 (fat op x.1 y.1 1) (fat op x.1 y.2 1)) (fat op x.2 y.1 1)) (fat op x.2 y.2 1))
    (fmax2 (fmax2 (fmax2 (fat op x.1 y.1 2) (fat op x.1 y.2 2)) (fat op x.2 y.1 2)) (fat op x.2 y.2 2))
def imul (x y : Nat × Nat) : Nat × Nat := if iok x && iok y then icor fmul x y else iall
def imag (x : Nat × Nat) : Nat := if iok x then fmax2 (fabs x.1) (fabs x.2) else fNaN
def imig (x : Nat × Nat) : Nat := if iok x then (if izero x then 0 else fmin2 (fabs x.1) (fabs x.2)) else fNaN
def imeetok (x y : Nat × Nat) : Bool := iok x && iok y && !fless (fmin2 x.2 y.2) (fmax2 x.1 y.1)
def imeet (x y : Nat × Nat) : Nat × Nat := if imeetok x y then ires (fmax2 x.1 y.1) (fmin2 x.2 y.2) else (0, 0)
def icont (x : Nat × Nat) (d : Option (Int × Int)) : Bool :=
  iok x && !dbad d && (decide (x.1 = fNInf) || decide (dcmp (fof x.1) d ≤ 0)) && (decide (x.2 = fInf) || decide (0 ≤ dcmp (fof x.2) d))
def isubset (x y : Nat × Nat) : Bool := iok x && iok y && !fless x.1 y.1 && !fless y.2 x.2
def iinside (x y : Nat × Nat) : Bool := iok x && iok y && (decide (y.1 = fNInf) || fless y.1 x.1) && (decide (y.2 = fInf) || fless x.2 y.2)
def imid (x : Nat × Nat) : Nat :=
  if !iok x then fNaN else if decide (x.1 = fNInf) && decide (x.2 = fInf) then 0 else if decide (x.1 = fNInf) then fneg fMax else if decide (x.2 = fInf) then fMax
  else fclean (fround (dscale (dadd (fof x.1) (fof x.2)) (-1)) 0)
def irad (x : Nat × Nat) : Nat :=
  if !iok x then fNaN else if decide (x.1 = fNInf) || decide (x.2 = fInf) then fInf
  else fmax2 (fround (dadd (fof (imid x)) (dneg (fof x.1))) 2) (fround (dadd (fof x.2) (dneg (fof (imid x)))) 2)

/-! ### bounds of 64 bits -/
def Lt64 (x : Nat × Nat) : Prop := x.1 < 18446744073709551616 ∧ x.2 < 18446744073709551616
theorem fclean_lt {f : Nat} (h : f < 18446744073709551616) : fclean f < 18446744073709551616 := by unfold fclean; split <;> omega
theorem fmin2_lt {a b : Nat} (ha : a < 18446744073709551616) (hb : b < 18446744073709551616) : fmin2 a b < 18446744073709551616 := by unfold fmin2; split <;> assumption
theorem fmax2_lt {a b : Nat} (ha : a < 18446744073709551616) (hb : b < 18446744073709551616) : fmax2 a b < 18446744073709551616 := by unfold fmax2; split <;> assumption
theorem fround_lt' (d : Option (Int × Int)) (mode : Int) : fround d mode < 18446744073709551616 := by
  unfold fround; split
  · decide
  · split
    · decide
    · exact fcut_lt _ _ _
theorem fnothing_lt (mode : Int) : fnothing mode < 18446744073709551616 := fsgn_lt (by decide)
theorem fadd_lt' {a b : Nat} (ha : a < 18446744073709551616) (hb : b < 18446744073709551616) (mode : Int) : fadd a b mode < 18446744073709551616 := by
  unfold fadd
  repeat' split
  all_goals first | assumption | decide | exact fnothing_lt _ | exact fround_lt' _ _
theorem fmul_lt' (a b : Nat) (mode : Int) : fmul a b mode < 18446744073709551616 := by
  unfold fmul
  repeat' split
  all_goals first | decide | exact fsgn_lt (by decide) | exact fround_lt' _ _
theorem fabs_lt' (a : Nat) : fabs a < 9223372036854775808 := by
  unfold fabs; split
  · decide
  · exact fM_lt a
theorem fat_lt (op : Nat → Nat → Int → Nat) (h : ∀ a b m, op a b m < 18446744073709551616) (a b : Nat) (m : Int) : fat op a b m < 18446744073709551616 := by
  unfold fat; split
  · decide
  · exact h _ _ _

/-! ### places -/
def TT : Int := 9218868437227405312
theorem fplace_clean (f : Nat) : fplace (fclean f) = fplace f ∧ fnan (fclean f) = fnan f := by
  unfold fclean; split
  · rename_i h; subst h; decide
  · exact ⟨rfl, rfl⟩
theorem fless_place {a b : Nat} (ha : fnan a = false) (hb : fnan b = false) : fless a b = decide (fplace a < fplace b) := by
  unfold fless fcmpv; rw [ha, hb]; simp only [Bool.or_self, Bool.false_eq_true, if_false]
  exact decide_eq_decide.2 cmpI_neg_iff
theorem place_bound {f : Nat} (h : fnan f = false) : -TT ≤ fplace f ∧ fplace f ≤ TT := by
  have h1 : fM f ≤ 9218868437227405312 := by unfold fnan at h; simpa using h
  rw [fplace_eq]; unfold TT; split <;> omega
theorem place_fin {f : Nat} (h : fnan f = false) : ffin f = true ↔ (-TT < fplace f ∧ fplace f < TT) := by
  have h1 : fM f ≤ 9218868437227405312 := by unfold fnan at h; simpa using h
  unfold ffin; rw [fplace_eq]; unfold TT
  rw [decide_eq_true_eq]
  constructor
  · intro k; split <;> omega
  · intro k; split at k <;> omega
theorem place_top {f : Nat} (hf : f < 18446744073709551616) (h : fnan f = false) : fplace f = TT ↔ f = fInf := by
  have h1 : fM f ≤ 9218868437227405312 := by unfold fnan at h; simpa using h
  constructor
  · intro k
    rw [fplace_eq] at k; unfold TT at k
    unfold fInf
    cases hs : fS f with
    | true => rw [hs, if_pos rfl] at k; omega
    | false => rw [hs, if_neg (by decide)] at k; unfold fS at hs; unfold fM at k; simp at hs; omega
  · intro k; subst k; decide
theorem place_bot {f : Nat} (hf : f < 18446744073709551616) (h : fnan f = false) : fplace f = -TT ↔ f = fNInf := by
  have h1 : fM f ≤ 9218868437227405312 := by unfold fnan at h; simpa using h
  constructor
  · intro k
    rw [fplace_eq] at k; unfold TT at k
    unfold fNInf
    cases hs : fS f with
    | false => rw [hs, if_neg (by decide)] at k; omega
    | true => rw [hs, if_pos rfl] at k; unfold fS at hs; unfold fM at k; simp at hs; omega
  · intro k; subst k; decide
theorem fin_of {f : Nat} (h : fnan f = false) (h1 : -TT < fplace f) (h2 : fplace f < TT) : ffin f = true := (place_fin h).2 ⟨h1, h2⟩
theorem fin_lt {f : Nat} (h : ffin f = true) : fnan f = false ∧ -TT < fplace f ∧ fplace f < TT := ⟨(fin_not h).1, (place_fin (fin_not h).1).1 h⟩

/-- a valid interval, by places -/
theorem iok_iff {x : Nat × Nat} (hx : Lt64 x) : iok x = true ↔ fnan x.1 = false ∧ fnan x.2 = false ∧ fplace x.1 ≤ fplace x.2 ∧ fplace x.1 < TT ∧ -TT < fplace x.2 := by
  unfold iok fcmpok fcmpv
  cases h1 : fnan x.1 with
  | true => simp
  | false =>
    cases h2 : fnan x.2 with
    | true => simp
    | false =>
      have a1 := place_top hx.1 h1
      have a2 := place_bot hx.2 h2
      have b1 := place_bound h1
      have b2 := place_bound h2
      simp only [Bool.or_self, Bool.not_false, Bool.true_and, Bool.false_eq_true, if_false, Bool.and_eq_true, decide_eq_true_eq, cmpI_le, ne_eq, true_and]
      rw [← a1, ← a2]
      omega
/-! ### directed roundings -/
theorem fof_grid {f : Nat} (h : ffin f = true) (g : Nat) : fof f = nrm (fz f * 2 ^ g) (-1074 - (g : Int)) ∧ nrm (fz f * 2 ^ g) (-1074 - (g : Int)) ≠ none := by
  have e : fof f = nrm (fz f * 2 ^ g) (-1074 - (g : Int)) := by rw [nrm_scale, fof_fin h]; congr 1; omega
  exact ⟨e, by rw [← e, fof_fin h]; exact fof_some h⟩
end Go.Proofs.YtakbappmkdaioaaGreatDoor

namespace Go.Proofs.YtakbappmkdaioaaGreatDoor
open Go.RowKit Sp
set_option linter.unusedSimpArgs false

/-! ### sums -/
/-! ### products; where there is none it is zero -/
theorem fz_sign (f : Nat) : (fz f < 0 ↔ fplace f < 0) ∧ (0 < fz f ↔ 0 < fplace f) ∧ (fz f = 0 ↔ fplace f = 0) := by
  have z0 : fz 0 = 0 := by decide
  have h1 := @fz_le f 0
  have h2 := @fz_le 0 f
  rw [z0, fplace_zero] at h1 h2
  omega
theorem place_sign (f : Nat) : (fplace f < 0 → fS f = true) ∧ (0 < fplace f → fS f = false) := by
  rw [fplace_eq]; cases fS f <;> simp <;> omega
end Go.Proofs.YtakbappmkdaioaaGreatDoor

namespace Go.Proofs.YtakbappmkdaioaaGreatDoor
open Go.RowKit Sp
set_option linter.unusedSimpArgs false

/-! ### quotients; where there is none it is zero -/
end Go.Proofs.YtakbappmkdaioaaGreatDoor

namespace Go.Proofs.YtakbappmkdaioaaGreatDoor
open Go.RowKit Sp
set_option linter.unusedSimpArgs false

/-! ### results between whose bounds two values lie -/
/-! ### sums -/
/-! ### products -/
/-! ### quotients -/
theorem izero_iff {x : Nat × Nat} (hx : Lt64 x) (h : iok x = true) : izero x = true ↔ fplace x.1 ≤ 0 ∧ 0 ≤ fplace x.2 := by
  obtain ⟨n1, n2, _⟩ := (iok_iff hx).1 h
  unfold izero
  rw [fless_place (by decide) n1, fless_place n2 (by decide), fplace_zero]
  simp
end Go.Proofs.YtakbappmkdaioaaGreatDoor

namespace Go.Proofs.YtakbappmkdaioaaGreatDoor
open Go.RowKit Sp
set_option linter.unusedSimpArgs false

/-! ### absolute values -/
theorem fabs_place {f : Nat} (h : fnan f = false) : fnan (fabs f) = false ∧ fplace (fabs f) = ((fplace f).natAbs : Int) := by
  have e : fabs f = fM f := by unfold fabs; rw [h]; rfl
  have hl := fM_lt f
  have e1 : fM (fM f) = fM f := by unfold fM; omega
  have s1 : fS (fM f) = false := by unfold fS; simp; omega
  rw [e]
  refine ⟨by unfold fnan at h ⊢; rw [e1]; exact h, ?_⟩
  rw [fplace_eq, fplace_eq, s1, e1]; simp only [Bool.false_eq_true, if_false]; split <;> omega
/-! ### squares -/
/-! ### hulls and intersections -/
/-! ### IntervalPoints -/
/-! ### IntervalHolds -/
end Go.Proofs.YtakbappmkdaioaaGreatDoor

namespace Go.Proofs.YtakbappmkdaioaaGreatDoor
open Go.RowKit Sp
set_option linter.unusedSimpArgs false

/-! ### IntervalWhole -/
/-! ### IntervalMiddle -/
theorem fround_self {f : Nat} (h : ffin f = true) (g : Nat) (m : Int) : fplace (fround (nrm (fz f * 2 ^ g) (-1074 - (g : Int))) m) = fplace f := by
  rw [← (fof_grid h g).1]
  by_cases h0 : fM f = 0
  · have z := fz_zero.2 h0
    rw [fof_fin h, z, fround_zero, fplace_zero, (fz_sign f).2.2.1 z]
  · rw [fof_fin h]
    have hlt : fM f < 9218868437227405312 := by unfold ffin at h; simpa using h
    have hab := fz_abs f
    have hz : fz f ≠ 0 := fun h' => h0 (fz_zero.1 h')
    rw [fround_exact hz hab hlt]
    have s := fz_sign f
    have p := place_sign f
    by_cases hn : fz f < 0
    · rw [decide_eq_true hn, fplace_eq, fplace_eq, fS_fsgn (by omega), fM_fsgn (by omega), p.1 (by omega)]
    · rw [decide_eq_false hn, fplace_eq, fplace_eq, fS_fsgn (by omega), fM_fsgn (by omega), p.2 (by omega)]
theorem dscale_half {z E : Int} (h : nrm z E ≠ none) : dscale (nrm z E) (-1) = nrm z (E - 1) := by
  cases hd : nrm z E with
  | none => exact absurd hd h
  | some p =>
    obtain ⟨m, e⟩ := p
    show nrm m (e + max (min (-1) 262144) (-262144)) = _
    rw [show max (min (-1 : Int) 262144) (-262144) = -1 by decide]
    by_cases h0 : z = 0
    · subst h0; rw [nrm_zero] at hd; injection hd with hd; injection hd with h1 h2; subst h1; rw [nrm_zero, nrm_zero]
    · obtain ⟨t, ht, he, _⟩ := nrm_some h0 hd
      conv => rhs; rw [ht, nrm_scale]
      rw [he]; congr 1; omega
theorem g1 : (-1074 : Int) - 1 = -1074 - ((1 : Nat) : Int) := by decide
/-- the midpoint of finite bounds -/
theorem imid_fin {x : Nat × Nat} (hx : Lt64 x) (h : iok x = true) (f1 : ffin x.1 = true) (f2 : ffin x.2 = true) :
    imid x = fclean (fround (dscale (dadd (fof x.1) (fof x.2)) (-1)) 0) ∧ ffin (imid x) = true ∧ fplace x.1 ≤ fplace (imid x) ∧ fplace (imid x) ≤ fplace x.2 := by
  obtain ⟨n1, n2, h12, _⟩ := (iok_iff hx).1 h
  have p1 := fin_lt f1
  have p2 := fin_lt f2
  have e1 : decide (x.1 = fNInf) = false := by
    rw [decide_eq_false_iff_not]; intro k; have := (place_bot hx.1 n1).2 k; omega
  have e2 : decide (x.2 = fInf) = false := by
    rw [decide_eq_false_iff_not]; intro k; have := (place_top hx.2 n2).2 k; omega
  have e : imid x = fclean (fround (dscale (dadd (fof x.1) (fof x.2)) (-1)) 0) := by unfold imid; rw [h, e1, e2]; rfl
  have v := fadd_val f1 f2
  have hb := blen_fz_add f1 f2
  have w : nrm (fz x.1 + fz x.2) (-1074 - ((1 : Nat) : Int)) ≠ none := nrm_valid (by omega) (by omega)
  have w1 := fof_grid f1 1
  have w2 := fof_grid f2 1
  have hz := fz_le.2 h12
  have m1 := fround_mono (fz x.1 * 2 ^ 1) (fz x.1 + fz x.2) 1 0 w1.2 w (by omega)
  have m2 := fround_mono (fz x.1 + fz x.2) (fz x.2 * 2 ^ 1) 1 0 w w2.2 (by omega)
  rw [fround_self f1] at m1
  rw [fround_self f2] at m2
  have nn := (fround_place _ 1 0 w).1
  rw [e, v.1, dscale_half v.2, g1]
  have c := fplace_clean (fround (nrm (fz x.1 + fz x.2) (-1074 - ((1 : Nat) : Int))) 0)
  refine ⟨rfl, ?_, ?_, ?_⟩
  · exact fin_of (c.2.trans nn) (by rw [c.1]; omega) (by rw [c.1]; omega)
  · rw [c.1]; exact m1
  · rw [c.1]; exact m2
theorem max_place : ffin fMax = true ∧ fplace fMax = TT - 1 ∧ ffin (fneg fMax) = true ∧ fplace (fneg fMax) = -(TT - 1) := by decide
/-- the midpoint is an element -/
theorem imid_in {x : Nat × Nat} (hx : Lt64 x) (h : iok x = true) : ffin (imid x) = true ∧ fplace x.1 ≤ fplace (imid x) ∧ fplace (imid x) ≤ fplace x.2 := by
  obtain ⟨n1, n2, h12, h2, h3⟩ := (iok_iff hx).1 h
  have b1 := place_bound n1
  have b2 := place_bound n2
  have t1 := place_bot hx.1 n1
  have t2 := place_top hx.2 n2
  have mp := max_place
  by_cases k1 : x.1 = fNInf
  · have e1 := t1.2 k1
    by_cases k2 : x.2 = fInf
    · have e2 := t2.2 k2
      have e : imid x = 0 := by unfold imid; rw [h, decide_eq_true k1, decide_eq_true k2]; rfl
      rw [e, fplace_zero, e1, e2]; unfold TT; exact ⟨by decide, by decide, by decide⟩
    · have e : imid x = fneg fMax := by unfold imid; rw [h, decide_eq_true k1, decide_eq_false k2]; rfl
      rw [e, mp.2.2.2]
      exact ⟨mp.2.2.1, by omega, by omega⟩
  · by_cases k2 : x.2 = fInf
    · have e2 := t2.2 k2
      have e : imid x = fMax := by unfold imid; rw [h, decide_eq_false k1, decide_eq_true k2]; rfl
      rw [e, mp.2.1]
      exact ⟨mp.1, by omega, by omega⟩
    · have f1 := fin_of n1 (by have : ¬ fplace x.1 = -TT := fun k => k1 (t1.1 k); omega) h2
      have f2 := fin_of n2 h3 (by have : ¬ fplace x.2 = TT := fun k => k2 (t2.1 k); omega)
      exact (imid_fin hx h f1 f2).2
theorem blen_fz_sub {a b : Nat} (ha : ffin a = true) (hb : ffin b = true) : blen (fz a - fz b).natAbs ≤ 2099 := by
  have h := bl_add (fz a) (-fz b)
  rw [Int.natAbs_neg] at h
  rw [Int.sub_eq_add_neg]
  have := blen_fz ha; have := blen_fz hb; omega
theorem fsub_val {a b : Nat} (ha : ffin a = true) (hb : ffin b = true) : dadd (fof a) (dneg (fof b)) = nrm (fz a - fz b) (-1074) ∧ nrm (fz a - fz b) (-1074) ≠ none := by
  have w := nrm_valid (m := fz a - fz b) (e := -1074) (by omega) (by have := blen_fz_sub ha hb; omega)
  refine ⟨?_, w⟩
  rw [fof_fin ha, fof_fin hb]
  exact dsub_nrm _ _ _ (fof_some ha) (fof_some hb) (nrm_neg_valid (fof_some hb))
/-! ### IntervalUndone: sums -/
/-! ### IntervalUndone: quotients -/
theorem TT_pos : -TT < 0 ∧ 0 < TT := by decide
/-! ### IntervalUndone: roots of squares -/
theorem place_nat {q : Nat} (hq : q < 9223372036854775808) : fplace q = (q : Int) := by
  have hs : fS q = false := by unfold fS; simp; omega
  rw [fplace_eq, hs]; unfold fM; simp; omega
end Go.Proofs.YtakbappmkdaioaaGreatDoor

namespace Go.Proofs.YtakbappmkdaioaaGreatDoor
open Go.RowKit Sp
set_option linter.unusedSimpArgs false

/-- what 'of' tells of a bound: an infinity, and the number -/
def nin (f : Nat) : Int := if f = fInf then 1 else if f = fNInf then -1 else 0
def nof (f : Nat) : Option (Int × Int) := if f = fInf then some (0, 0) else if f = fNInf then some (0, 0) else fof f
def nless (i : Int) (d : Option (Int × Int)) (j : Int) (e : Option (Int × Int)) : Bool := if (i != 0) || (j != 0) then decide (i < j) else decide (dcmp d e < 0)
theorem isN_00 : IsN (some (0, 0)) := by
  have h := isN_nrm 0 0
  rwa [show nrm 0 0 = some (0, 0) by decide] at h
theorem isN_nof (f : Nat) : IsN (nof f) := by
  unfold nof
  split
  · exact isN_00
  · split
    · exact isN_00
    · exact isN_fof _
theorem bound_cases {a : Nat} (ha : a < 18446744073709551616) (na : fnan a = false) :
    (nin a = 1 ∧ fplace a = TT) ∨ (nin a = -1 ∧ fplace a = -TT) ∨ (nin a = 0 ∧ nof a = fof a ∧ ffin a = true ∧ -TT < fplace a ∧ fplace a < TT) := by
  by_cases h1 : a = fInf
  · left; exact ⟨by unfold nin; rw [if_pos h1], (place_top ha na).2 h1⟩
  · by_cases h2 : a = fNInf
    · right; left; exact ⟨by unfold nin; rw [if_neg h1, if_pos h2], (place_bot ha na).2 h2⟩
    · right; right
      have b := place_bound na
      have t : fplace a ≠ TT := fun h => h1 ((place_top ha na).1 h)
      have t' : fplace a ≠ -TT := fun h => h2 ((place_bot ha na).1 h)
      refine ⟨by unfold nin; rw [if_neg h1, if_neg h2], by unfold nof; rw [if_neg h1, if_neg h2], fin_of na (by omega) (by omega), by omega, by omega⟩
theorem nless_of {a b : Nat} (ha : a < 18446744073709551616) (hb : b < 18446744073709551616) (na : fnan a = false) (nb : fnan b = false) :
    nless (nin a) (nof a) (nin b) (nof b) = decide (fplace a < fplace b) := by
  have t := TT_pos
  unfold nless
  rcases bound_cases ha na with ⟨i1, p1⟩ | ⟨i1, p1⟩ | ⟨i1, e1, f1, l1, g1⟩ <;> rcases bound_cases hb nb with ⟨i2, p2⟩ | ⟨i2, p2⟩ | ⟨i2, e2, f2, l2, g2⟩ <;> rw [i1, i2]
  · rw [p1, p2]; simp
  · rw [p1, p2, if_pos (by decide), Bool.eq_iff_iff, decide_eq_true_eq, decide_eq_true_eq]; omega
  · rw [p1, if_pos (by decide), Bool.eq_iff_iff, decide_eq_true_eq, decide_eq_true_eq]; omega
  · rw [p1, p2, if_pos (by decide), Bool.eq_iff_iff, decide_eq_true_eq, decide_eq_true_eq]; omega
  · rw [p1, p2]; simp
  · rw [p1, if_pos (by decide), Bool.eq_iff_iff, decide_eq_true_eq, decide_eq_true_eq]; omega
  · rw [p2, if_pos (by decide), Bool.eq_iff_iff, decide_eq_true_eq, decide_eq_true_eq]; omega
  · rw [p2, if_pos (by decide), Bool.eq_iff_iff, decide_eq_true_eq, decide_eq_true_eq]; omega
  · rw [if_neg (by decide), e1, e2, fof_fin f1, fof_fin f2, dcmp_nrm _ _ _ (fof_some f1) (fof_some f2), Bool.eq_iff_iff, decide_eq_true_eq, decide_eq_true_eq]
    have h1 := @cmpI_ge (fz a) (fz b)
    have h2 := @fz_le b a
    omega
def rcont (x : Nat × Nat) (d : Option (Int × Int)) : Bool := iok x && !dbad d && !nless 0 d (nin x.1) (nof x.1) && !nless (nin x.2) (nof x.2) 0 d
def rsub (x y : Nat × Nat) : Bool := iok x && iok y && !nless (nin x.1) (nof x.1) (nin y.1) (nof y.1) && !nless (nin y.2) (nof y.2) (nin x.2) (nof x.2)
theorem rsub_eq {x y : Nat × Nat} (hx : Lt64 x) (hy : Lt64 y) : rsub x y = isubset x y := by
  unfold rsub isubset
  cases h : iok x
  · rfl
  · cases k : iok y
    · rfl
    · obtain ⟨n1, n2, _⟩ := (iok_iff hx).1 h
      obtain ⟨m1, m2, _⟩ := (iok_iff hy).1 k
      rw [nless_of hx.1 hy.1 n1 m1, nless_of hy.2 hx.2 m2 n2, fless_place n1 m1, fless_place m2 n2]
end Go.Proofs.YtakbappmkdaioaaGreatDoor

