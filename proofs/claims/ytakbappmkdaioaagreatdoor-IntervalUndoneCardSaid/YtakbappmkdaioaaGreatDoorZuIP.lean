/-
  Plain law: intervals of floats: what the functions compute; sums and products. No program in sight.
  Plain law: intervals of floats: the order of sums, products and quotients of bounds. No program in sight.
  Plain law: intervals of floats: quotients of bounds; elements of results; the laws of sums, products and hulls. No program in sight.
  Plain law: intervals of floats: elements of results; narrower arguments. No program in sight.
  Plain law: intervals of floats: squares, roots, hulls, intersections, midpoints; the statements. No program in sight.
  Plain law: intervals of floats: midpoints; operations undone; the whole line. No program in sight.
  Plain law: bounds of intervals as the reference reads them. No program in sight.
-/
import Derived.Test.YtakbappmkdaioaaGreatDoorZuFP
import Derived.Test.YtakbappmkdaioaaGreatDoorZuBL
namespace Go.Proofs.YtakbappmkdaioaaGreatDoor
open Go.RowKit Sp
set_option linter.unusedSimpArgs false

/-! ### what the functions compute -/
def fclean (f : Nat) : Nat := if f = 9223372036854775808 then 0 else f
def iok (x : Nat × Nat) : Bool := fcmpok x.1 x.2 && decide (fcmpv x.1 x.2 ≤ 0) && decide (x.1 ≠ fInf) && decide (x.2 ≠ fNInf)
def iall : Nat × Nat := (fNInf, fInf)
def ires (a b : Nat) : Nat × Nat := (fclean a, fclean b)
def fless (a b : Nat) : Bool := decide (fcmpv a b < 0)
def fmin2 (a b : Nat) : Nat := if fless b a then b else a
def fmax2 (a b : Nat) : Nat := if fless a b then b else a
def izero (x : Nat × Nat) : Bool := !fless 0 x.1 && !fless x.2 0
def ipoint (f : Nat) : Nat × Nat := if ffin f then ires f f else iall
def iadd (x y : Nat × Nat) : Nat × Nat := if iok x && iok y then ires (fadd x.1 y.1 1) (fadd x.2 y.2 2) else iall
def isub (x y : Nat × Nat) : Nat × Nat := if iok x && iok y then ires (fsub x.1 y.2 1) (fsub x.2 y.1 2) else iall
/-- a value at two bounds; where there is none it is 0 -/
def fat (op : Nat → Nat → Int → Nat) (a b : Nat) (m : Int) : Nat := if fnan (op a b m) then 0 else op a b m
def icor (op : Nat → Nat → Int → Nat) (x y : Nat × Nat) : Nat × Nat :=
  ires (fmin2 (fmin2 (fmin2 (fat op x.1 y.1 1) (fat op x.1 y.2 1)) (fat op x.2 y.1 1)) (fat op x.2 y.2 1))
    (fmax2 (fmax2 (fmax2 (fat op x.1 y.1 2) (fat op x.1 y.2 2)) (fat op x.2 y.1 2)) (fat op x.2 y.2 2))
def imul (x y : Nat × Nat) : Nat × Nat := if iok x && iok y then icor fmul x y else iall
def idiv (x y : Nat × Nat) : Nat × Nat := if !(iok x && iok y) || izero y then iall else icor fdiv x y
def imag (x : Nat × Nat) : Nat := if iok x then fmax2 (fabs x.1) (fabs x.2) else fNaN
def imig (x : Nat × Nat) : Nat := if iok x then (if izero x then 0 else fmin2 (fabs x.1) (fabs x.2)) else fNaN
def isqr (x : Nat × Nat) : Nat × Nat := if iok x then ires (fmul (imig x) (imig x) 1) (fmul (imag x) (imag x) 2) else iall
noncomputable def isqrt (x : Nat × Nat) : Nat × Nat := if !iok x || fless x.2 0 then iall else ires (fsqrt (fmax2 x.1 0) 1) (fsqrt x.2 2)
def icont (x : Nat × Nat) (d : Option (Int × Int)) : Bool :=
  iok x && !dbad d && (decide (x.1 = fNInf) || decide (dcmp (fof x.1) d ≤ 0)) && (decide (x.2 = fInf) || decide (0 ≤ dcmp (fof x.2) d))
def isubset (x y : Nat × Nat) : Bool := iok x && iok y && !fless x.1 y.1 && !fless y.2 x.2
/-! ### bounds of 64 bits -/
def Lt64 (x : Nat × Nat) : Prop := x.1 < 18446744073709551616 ∧ x.2 < 18446744073709551616
theorem fclean_lt {f : Nat} (h : f < 18446744073709551616) : fclean f < 18446744073709551616 := by unfold fclean; split <;> omega
theorem fmin2_lt {a b : Nat} (ha : a < 18446744073709551616) (hb : b < 18446744073709551616) : fmin2 a b < 18446744073709551616 := by unfold fmin2; split <;> assumption
theorem fmax2_lt {a b : Nat} (ha : a < 18446744073709551616) (hb : b < 18446744073709551616) : fmax2 a b < 18446744073709551616 := by unfold fmax2; split <;> assumption
theorem ires_lt {a b : Nat} (ha : a < 18446744073709551616) (hb : b < 18446744073709551616) : Lt64 (ires a b) := ⟨fclean_lt ha, fclean_lt hb⟩
theorem iall_lt : Lt64 iall := by constructor <;> decide
theorem fround_lt' (d : Option (Int × Int)) (mode : Int) : fround d mode < 18446744073709551616 := by
  unfold fround; split
  · decide
  · split
    · decide
    · exact fcut_lt _ _ _
theorem fquo_lt' (d d' : Option (Int × Int)) (mode : Int) : fquo d d' mode < 18446744073709551616 := by
  unfold fquo; split
  · split
    · decide
    · split
      · decide
      · exact fcut_lt _ _ _
  · decide
theorem froot_lt' (d : Option (Int × Int)) (mode : Int) : froot d mode < 18446744073709551616 := by
  unfold froot; split
  · decide
  · split
    · decide
    · split
      · decide
      · exact fcut_lt _ _ _
theorem fnothing_lt (mode : Int) : fnothing mode < 18446744073709551616 := fsgn_lt (by decide)
theorem fadd_lt' {a b : Nat} (ha : a < 18446744073709551616) (hb : b < 18446744073709551616) (mode : Int) : fadd a b mode < 18446744073709551616 := by
  unfold fadd
  repeat' split
  all_goals first | assumption | decide | exact fnothing_lt _ | exact fround_lt' _ _
theorem fmul_lt' (a b : Nat) (mode : Int) : fmul a b mode < 18446744073709551616 := by
  unfold fmul
  repeat' split
  all_goals first | decide | exact fsgn_lt (by decide) | exact fround_lt' _ _
theorem fdiv_lt' (a b : Nat) (mode : Int) : fdiv a b mode < 18446744073709551616 := by
  unfold fdiv
  repeat' split
  all_goals first | decide | exact fsgn_lt (by decide) | exact fquo_lt' _ _ _
theorem fsqrt_lt' {a : Nat} (h : a < 18446744073709551616) (mode : Int) : fsqrt a mode < 18446744073709551616 := by
  unfold fsqrt
  repeat' split
  all_goals first | assumption | decide | exact froot_lt' _ _
theorem fabs_lt' (a : Nat) : fabs a < 9223372036854775808 := by
  unfold fabs; split
  · decide
  · exact fM_lt a
theorem fat_lt (op : Nat → Nat → Int → Nat) (h : ∀ a b m, op a b m < 18446744073709551616) (a b : Nat) (m : Int) : fat op a b m < 18446744073709551616 := by
  unfold fat; split
  · decide
  · exact h _ _ _

/-! ### places -/
def TT : Int := 9218868437227405312
theorem fplace_clean (f : Nat) : fplace (fclean f) = fplace f ∧ fnan (fclean f) = fnan f := by
  unfold fclean; split
  · rename_i h; subst h; decide
  · exact ⟨rfl, rfl⟩
theorem fless_place {a b : Nat} (ha : fnan a = false) (hb : fnan b = false) : fless a b = decide (fplace a < fplace b) := by
  unfold fless fcmpv; rw [ha, hb]; simp only [Bool.or_self, Bool.false_eq_true, if_false]
  exact decide_eq_decide.2 cmpI_neg_iff
theorem fmin2_nan {a b : Nat} (ha : fnan a = false) (hb : fnan b = false) : fnan (fmin2 a b) = false := by unfold fmin2; split <;> assumption
theorem fmax2_nan {a b : Nat} (ha : fnan a = false) (hb : fnan b = false) : fnan (fmax2 a b) = false := by unfold fmax2; split <;> assumption
theorem fmin2_place {a b : Nat} (ha : fnan a = false) (hb : fnan b = false) : fplace (fmin2 a b) = min (fplace a) (fplace b) := by
  unfold fmin2; rw [fless_place hb ha]
  by_cases h : fplace b < fplace a
  · rw [if_pos (by simpa using h)]; omega
  · rw [if_neg (by simpa using h)]; omega
theorem fmax2_place {a b : Nat} (ha : fnan a = false) (hb : fnan b = false) : fplace (fmax2 a b) = max (fplace a) (fplace b) := by
  unfold fmax2; rw [fless_place ha hb]
  by_cases h : fplace a < fplace b
  · rw [if_pos (by simpa using h)]; omega
  · rw [if_neg (by simpa using h)]; omega
theorem place_bound {f : Nat} (h : fnan f = false) : -TT ≤ fplace f ∧ fplace f ≤ TT := by
  have h1 : fM f ≤ 9218868437227405312 := by unfold fnan at h; simpa using h
  rw [fplace_eq]; unfold TT; split <;> omega
theorem place_fin {f : Nat} (h : fnan f = false) : ffin f = true ↔ (-TT < fplace f ∧ fplace f < TT) := by
  have h1 : fM f ≤ 9218868437227405312 := by unfold fnan at h; simpa using h
  unfold ffin; rw [fplace_eq]; unfold TT
  rw [decide_eq_true_eq]
  constructor
  · intro k; split <;> omega
  · intro k; split at k <;> omega
theorem place_top {f : Nat} (hf : f < 18446744073709551616) (h : fnan f = false) : fplace f = TT ↔ f = fInf := by
  have h1 : fM f ≤ 9218868437227405312 := by unfold fnan at h; simpa using h
  constructor
  · intro k
    rw [fplace_eq] at k; unfold TT at k
    unfold fInf
    cases hs : fS f with
    | true => rw [hs, if_pos rfl] at k; omega
    | false => rw [hs, if_neg (by decide)] at k; unfold fS at hs; unfold fM at k; simp at hs; omega
  · intro k; subst k; decide
theorem place_bot {f : Nat} (hf : f < 18446744073709551616) (h : fnan f = false) : fplace f = -TT ↔ f = fNInf := by
  have h1 : fM f ≤ 9218868437227405312 := by unfold fnan at h; simpa using h
  constructor
  · intro k
    rw [fplace_eq] at k; unfold TT at k
    unfold fNInf
    cases hs : fS f with
    | false => rw [hs, if_neg (by decide)] at k; omega
    | true => rw [hs, if_pos rfl] at k; unfold fS at hs; unfold fM at k; simp at hs; omega
  · intro k; subst k; decide
theorem place_inf {f : Nat} (h : finf f = true) : fplace f = TT ∨ fplace f = -TT := by
  have := inf_place h; unfold TT; split at this <;> omega
theorem fin_of {f : Nat} (h : fnan f = false) (h1 : -TT < fplace f) (h2 : fplace f < TT) : ffin f = true := (place_fin h).2 ⟨h1, h2⟩
theorem fin_lt {f : Nat} (h : ffin f = true) : fnan f = false ∧ -TT < fplace f ∧ fplace f < TT := ⟨(fin_not h).1, (place_fin (fin_not h).1).1 h⟩

/-- a valid interval, by places -/
theorem iok_iff {x : Nat × Nat} (hx : Lt64 x) : iok x = true ↔ fnan x.1 = false ∧ fnan x.2 = false ∧ fplace x.1 ≤ fplace x.2 ∧ fplace x.1 < TT ∧ -TT < fplace x.2 := by
  unfold iok fcmpok fcmpv
  cases h1 : fnan x.1 with
  | true => simp
  | false =>
    cases h2 : fnan x.2 with
    | true => simp
    | false =>
      have a1 := place_top hx.1 h1
      have a2 := place_bot hx.2 h2
      have b1 := place_bound h1
      have b2 := place_bound h2
      simp only [Bool.or_self, Bool.not_false, Bool.true_and, Bool.false_eq_true, if_false, Bool.and_eq_true, decide_eq_true_eq, cmpI_le, ne_eq, true_and]
      rw [← a1, ← a2]
      omega
theorem iok_res {a b : Nat} (ha : a < 18446744073709551616) (hb : b < 18446744073709551616) (na : fnan a = false) (nb : fnan b = false) (h1 : fplace a ≤ fplace b) (h2 : fplace a < TT) (h3 : -TT < fplace b) : iok (ires a b) = true := by
  refine (iok_iff (ires_lt ha hb)).2 ?_
  have c1 := fplace_clean a
  have c2 := fplace_clean b
  unfold ires
  exact ⟨c1.2.trans na, c2.2.trans nb, by rw [c1.1, c2.1]; exact h1, by rw [c1.1]; exact h2, by rw [c2.1]; exact h3⟩
/-- a valid interval has a finite element -/
theorem iok_mem {x : Nat × Nat} (hx : Lt64 x) (h : iok x = true) : ∃ a, a < 18446744073709551616 ∧ ffin a = true ∧ fplace x.1 ≤ fplace a ∧ fplace a ≤ fplace x.2 := by
  obtain ⟨n1, n2, h1, h2, h3⟩ := (iok_iff hx).1 h
  have b1 := place_bound n1
  have b2 := place_bound n2
  by_cases k1 : -TT < fplace x.1
  · exact ⟨x.1, hx.1, fin_of n1 k1 h2, Int.le_refl _, h1⟩
  · by_cases k2 : fplace x.2 < TT
    · exact ⟨x.2, hx.2, fin_of n2 h3 k2, h1, Int.le_refl _⟩
    · have z := fplace_zero
      exact ⟨0, by decide, by decide, by rw [z]; unfold TT at *; omega, by rw [z]; unfold TT at *; omega⟩
theorem isubset_iff {x y : Nat × Nat} (hx : Lt64 x) (hy : Lt64 y) : isubset x y = true ↔ iok x = true ∧ iok y = true ∧ fplace y.1 ≤ fplace x.1 ∧ fplace x.2 ≤ fplace y.2 := by
  unfold isubset
  cases h1 : iok x with
  | false => simp
  | true =>
    cases h2 : iok y with
    | false => simp
    | true =>
      obtain ⟨n1, n2, _⟩ := (iok_iff hx).1 h1
      obtain ⟨m1, m2, _⟩ := (iok_iff hy).1 h2
      rw [fless_place n1 m1, fless_place m2 n2]
      simp

/-! ### directed roundings -/
set_option maxHeartbeats 1000000 in
/-- a number M 2^(-1074 - g), rounded downward and upward -/
theorem fround_dir (M : Int) (g : Nat) (h : nrm M (-1074 - (g : Int)) ≠ none) :
    (fplace (fround (nrm M (-1074 - (g : Int))) 1) < TT ∧ (ffin (fround (nrm M (-1074 - (g : Int))) 1) = true → fz (fround (nrm M (-1074 - (g : Int))) 1) * 2 ^ g ≤ M)) ∧
    (-TT < fplace (fround (nrm M (-1074 - (g : Int))) 2) ∧ (ffin (fround (nrm M (-1074 - (g : Int))) 2) = true → M ≤ fz (fround (nrm M (-1074 - (g : Int))) 2) * 2 ^ g)) ∧
    fplace (fround (nrm M (-1074 - (g : Int))) 1) ≤ fplace (fround (nrm M (-1074 - (g : Int))) 2) := by
  by_cases h0 : M = 0
  · subst h0
    rw [fround_zero, fround_zero, fplace_zero, show fz 0 = 0 by decide, Int.zero_mul]
    unfold TT
    exact ⟨⟨by decide, fun _ => Int.le_refl _⟩, ⟨by decide, fun _ => Int.le_refl _⟩, Int.le_refl _⟩
  · obtain ⟨c, k1, k2⟩ := fround_grid M g 1 h0 h
    obtain ⟨c', k1', k2'⟩ := fround_grid M g 2 h0 h
    obtain rfl := IsLo.uniq (cxQ_cx _ (two_pow_pos g)) k1 k1'
    clear k1'
    have q1 := cmpI_ge.1 k1.1
    have q2 := cmpI_m1.1 k1.2
    have hz : cxQ M.natAbs (2 ^ g) (2 * fzN c) = 0 ↔ fzN c * 2 ^ g = M.natAbs := by unfold cxQ; rw [cmpI_eq0, Nat.mul_assoc]; omega
    rw [Nat.mul_assoc] at q1 q2
    have q3 : fzN c * 2 ^ g ≤ M.natAbs := by omega
    have q4 : M.natAbs < fzN (c + 1) * 2 ^ g := by omega
    clear q1 q2 h
    rw [k2, k2']
    clear k2 k2' k1
    have hpow := pow2_nat g
    have P := sgn_mul_pow
    have vN : ∀ {N : Nat}, N = min (c + if (if cxQ M.natAbs (2 ^ g) (2 * fzN c) = 0 then false else true) = true then 1 else 0) 9218868437227405312 → N < 9218868437227405312 → M.natAbs ≤ fzN N * 2 ^ g := by
      intro N hN hlt
      by_cases hh : cxQ M.natAbs (2 ^ g) (2 * fzN c) = 0
      · simp only [hh, if_true, Bool.false_eq_true, if_false, Nat.add_zero] at hN
        have e : N = c := by omega
        rw [e]; have := hz.1 hh; omega
      · simp only [hh, if_false, if_true] at hN
        have e : N = c + 1 := by omega
        rw [e]; omega
    rcases Int.lt_trichotomy M 0 with hM | hM | hM
    · have e1 : decide (M < 0) = true := by simpa using hM
      rw [e1]
      have a1 : awx true c (cxQ M.natAbs (2 ^ g)) 2 = false := by unfold awx; split <;> rfl
      have a2 : awx true c (cxQ M.natAbs (2 ^ g)) 1 = if cxQ M.natAbs (2 ^ g) (2 * fzN c) = 0 then false else true := by unfold awx; split <;> rfl
      rw [a1, a2, (fcut_dir _).2.2.2.1, (fcut_dir _).2.2.2.2.1]
      have l1 : min (c + if (if cxQ M.natAbs (2 ^ g) (2 * fzN c) = 0 then false else true) = true then 1 else 0) 9218868437227405312 < 9223372036854775808 := Nat.lt_of_le_of_lt (Nat.min_le_right _ _) (by decide)
      have l2 : min (c + if false = true then 1 else 0) 9218868437227405311 < 9218868437227405312 := Nat.lt_of_le_of_lt (Nat.min_le_right _ _) (by decide)
      obtain ⟨N, hN⟩ : ∃ N, N = min (c + if (if cxQ M.natAbs (2 ^ g) (2 * fzN c) = 0 then false else true) = true then 1 else 0) 9218868437227405312 := ⟨_, rfl⟩
      obtain ⟨K, hK⟩ : ∃ K, K = min (c + if false = true then 1 else 0) 9218868437227405311 := ⟨_, rfl⟩
      rw [← hN] at l1 ⊢
      rw [← hK] at l2 ⊢
      simp only [Bool.false_eq_true, if_false, Nat.add_zero] at hK
      have bN : N ≤ 9218868437227405312 := by rw [hN]; exact Nat.min_le_right _ _
      have KN : K ≤ N := by rw [hK, hN]; clear hN hK bN q3 q4 hz P; omega
      have HN := Lib.hid hN
      have HK := Lib.hid hK
      clear hN hK
      have p1 : fplace (fsgn true N) = -(N : Int) := by unfold fplace; rw [fS_fsgn l1, fM_fsgn l1]; rfl
      have p2 : fplace (fsgn true K) = -(K : Int) := by unfold fplace; rw [fS_fsgn (by omega), fM_fsgn (by omega)]; rfl
      rw [p1, p2]
      unfold TT
      refine ⟨⟨by omega, fun hf => ?_⟩, ⟨by omega, fun _ => ?_⟩, ?_⟩
      · have hlt : N < 9218868437227405312 := by unfold ffin at hf; rw [fM_fsgn l1] at hf; simpa using hf
        rw [(fof_fsgn hlt).2, P]
        have hM2 : M.natAbs ≤ fzN N * 2 ^ g := vN HN.out hlt
        show -((fzN N * 2 ^ g : Nat) : Int) ≤ M
        omega
      · rw [(fof_fsgn l2).2, P]
        have hM2 : fzN K * 2 ^ g ≤ M.natAbs := Nat.le_trans (Nat.mul_le_mul_right _ (fzN_le_iff.2 (by rw [HK.out]; exact Nat.min_le_left _ _))) q3
        show M ≤ -((fzN K * 2 ^ g : Nat) : Int)
        omega
      · omega
    · exact absurd hM h0
    · have e1 : decide (M < 0) = false := by simp; omega
      rw [e1]
      rw [(awx_dir c _).1, (awx_dir c _).2, (fcut_dir _).1, (fcut_dir _).2.1]
      obtain ⟨N, hN⟩ : ∃ N, N = min (c + if (if cxQ M.natAbs (2 ^ g) (2 * fzN c) = 0 then false else true) = true then 1 else 0) 9218868437227405312 := ⟨_, rfl⟩
      obtain ⟨K, hK⟩ : ∃ K, K = min (c + if false = true then 1 else 0) 9218868437227405311 := ⟨_, rfl⟩
      rw [← hN, ← hK]
      simp only [Bool.false_eq_true, if_false, Nat.add_zero] at hK
      have bN : N ≤ 9218868437227405312 := by rw [hN]; exact Nat.min_le_right _ _
      have bK : K ≤ 9218868437227405311 := by rw [hK]; exact Nat.min_le_right _ _
      have KN : K ≤ N := by rw [hK, hN]; clear hN hK bN bK q3 q4 hz P; omega
      have HN := Lib.hid hN
      have HK := Lib.hid hK
      clear hN hK
      have pl : ∀ q : Nat, q < 9223372036854775808 → fplace q = (q : Int) := fun q hq => by
        have hs : fS q = false := by unfold fS; simp; omega
        rw [fplace_eq, hs]; unfold fM; simp; omega
      rw [pl N (by omega), pl K (by omega)]
      unfold TT
      refine ⟨⟨by omega, fun _ => ?_⟩, ⟨by omega, fun hf => ?_⟩, ?_⟩
      · rw [(fin_code (c := K) (by omega)).2]
        have hM2 : fzN K * 2 ^ g ≤ M.natAbs := Nat.le_trans (Nat.mul_le_mul_right _ (fzN_le_iff.2 (by rw [HK.out]; exact Nat.min_le_left _ _))) q3
        rw [← hpow, ← Int.natCast_mul]; omega
      · have hlt : N < 9218868437227405312 := by unfold ffin fM at hf; simp only [decide_eq_true_eq] at hf; omega
        rw [(fin_code hlt).2]
        have hM2 : M.natAbs ≤ fzN N * 2 ^ g := vN HN.out hlt
        rw [← hpow, ← Int.natCast_mul]; omega
      · omega
/-- a float that is not above the rounding downward is not above the number -/
theorem below_dir {M : Int} {g : Nat} (h : nrm M (-1074 - (g : Int)) ≠ none) {f : Nat} (hf : f < 18446744073709551616) (nf : fnan f = false) (hle : fplace f ≤ fplace (fround (nrm M (-1074 - (g : Int))) 1)) :
    f = fNInf ∨ (ffin f = true ∧ fz f * 2 ^ g ≤ M) := by
  have d := (fround_dir M g h).1
  have n1 := (fround_place M g 1 h).1
  have b := place_bound nf
  by_cases k : -TT < fplace f
  · right
    have f1 := fin_of nf k (by omega)
    have f2 := fin_of n1 (by omega) d.1
    refine ⟨f1, Int.le_trans (Int.mul_le_mul_of_nonneg_right (fz_le.2 hle) (Int.le_of_lt (pow2_pos g))) (d.2 f2)⟩
  · left; exact (place_bot hf nf).1 (by omega)
theorem above_dir {M : Int} {g : Nat} (h : nrm M (-1074 - (g : Int)) ≠ none) {f : Nat} (hf : f < 18446744073709551616) (nf : fnan f = false) (hle : fplace (fround (nrm M (-1074 - (g : Int))) 2) ≤ fplace f) :
    f = fInf ∨ (ffin f = true ∧ M ≤ fz f * 2 ^ g) := by
  have d := (fround_dir M g h).2.1
  have n1 := (fround_place M g 2 h).1
  have b := place_bound nf
  by_cases k : fplace f < TT
  · right
    have f1 := fin_of nf (by omega) k
    have f2 := fin_of n1 d.1 (by omega)
    refine ⟨f1, Int.le_trans (d.2 f2) (Int.mul_le_mul_of_nonneg_right (fz_le.2 hle) (Int.le_of_lt (pow2_pos g)))⟩
  · left; exact (place_top hf nf).1 (by omega)
theorem fof_grid {f : Nat} (h : ffin f = true) (g : Nat) : fof f = nrm (fz f * 2 ^ g) (-1074 - (g : Int)) ∧ nrm (fz f * 2 ^ g) (-1074 - (g : Int)) ≠ none := by
  have e : fof f = nrm (fz f * 2 ^ g) (-1074 - (g : Int)) := by rw [nrm_scale, fof_fin h]; congr 1; omega
  exact ⟨e, by rw [← e, fof_fin h]; exact fof_some h⟩
/-- a is an element -/
def imem (a : Nat) (x : Nat × Nat) : Prop := iok x = true ∧ ffin a = true ∧ fplace x.1 ≤ fplace a ∧ fplace a ≤ fplace x.2

end Go.Proofs.YtakbappmkdaioaaGreatDoor

namespace Go.Proofs.YtakbappmkdaioaaGreatDoor
open Go.RowKit Sp
set_option linter.unusedSimpArgs false

/-! ### sums -/
theorem fadd_fin_place {a b : Nat} (ha : ffin a = true) (hb : ffin b = true) (m : Int) : fnan (fadd a b m) = false ∧ fplace (fadd a b m) = fplace (fround (nrm (fz a + fz b) (-1074 - ((0 : Nat) : Int))) m) ∧ nrm (fz a + fz b) (-1074 - ((0 : Nat) : Int)) ≠ none := by
  have h := fadd_place ha hb m
  have v := (fadd_val ha hb).2
  rw [g0] at h v
  exact ⟨h.1, h.2, v⟩
theorem fadd_fin_dir {a b : Nat} (ha : ffin a = true) (hb : ffin b = true) : fplace (fadd a b 1) < TT ∧ -TT < fplace (fadd a b 2) ∧ fplace (fadd a b 1) ≤ fplace (fadd a b 2) := by
  have p1 := fadd_fin_place ha hb 1
  have p2 := fadd_fin_place ha hb 2
  have d := fround_dir _ 0 p1.2.2
  rw [p1.2.1, p2.2.1]
  exact ⟨d.1.1, d.2.1.1, d.2.2⟩
/-- bounds that are no infinities of one side: their sum is no NaN -/
theorem fadd_lo_nan {a b : Nat} (ha : a < 18446744073709551616) (hb : b < 18446744073709551616) (na : fnan a = false) (nb : fnan b = false) (h : (fplace a < TT ∧ fplace b < TT) ∨ (-TT < fplace a ∧ -TT < fplace b)) (m : Int) : fnan (fadd a b m) = false := by
  unfold fadd
  rw [na, nb]
  have h1 : (finf a && finf b && decide (a ≠ b)) = false := by
    cases h2 : finf a with
    | false => rfl
    | true =>
      cases h3 : finf b with
      | false => rfl
      | true =>
        have k1 := place_inf h2
        have k2 := place_inf h3
        unfold TT at *
        have : a = b := by
          rcases h with h | h
          · rw [(place_bot ha na).1 (by unfold TT; omega), (place_bot hb nb).1 (by unfold TT; omega)]
          · rw [(place_top ha na).1 (by unfold TT; omega), (place_top hb nb).1 (by unfold TT; omega)]
        simp [this]
  rw [h1]
  simp only [Bool.or_self, Bool.false_eq_true, if_false]
  repeat' split
  all_goals first | assumption | skip
  · unfold fnothing; cases decide (m = 1) <;> decide
  · rename_i k1 k2 k3 k4
    have f1 : ffin a = true := by rcases f_cases a with c | ⟨_, c, _⟩ | ⟨_, _, c⟩ <;> simp_all
    have f2 : ffin b = true := by rcases f_cases b with c | ⟨_, c, _⟩ | ⟨_, _, c⟩ <;> simp_all
    have v := fadd_val f1 f2
    rw [v.1]
    have v2 := v.2
    rw [g0] at v2 ⊢
    exact (fround_place _ 0 m v2).1
theorem fadd_mono1 {a a' b : Nat} {m : Int} (h : fplace a ≤ fplace a') (n1 : fnan (fadd a b m) = false) (n2 : fnan (fadd a' b m) = false) : fplace (fadd a b m) ≤ fplace (fadd a' b m) := by
  have m1 := fadd_nan n1
  have m2 := fadd_nan n2
  have k := fmono_add (f := a) (g := a') (h := b) m (by unfold fcmpok; rw [m1.1, m2.1]; rfl) (by unfold fcmpv; rw [m1.1, m2.1]; exact cmpI_le.2 h) (by unfold fcmpok; rw [n1, n2]; rfl)
  unfold fcmpv at k
  rw [n1, n2] at k
  exact cmpI_le.1 k
/-- the lower bound of a sum is not above the sum of elements; the upper not below it -/
theorem fadd_lo {a b x y : Nat} (hx : x < 18446744073709551616) (hy : y < 18446744073709551616) (nx : fnan x = false) (ny : fnan y = false) (tx : fplace x < TT) (ty : fplace y < TT) (na : fnan a = false) (nb : fnan b = false) (ha : a < 18446744073709551616) (hb : b < 18446744073709551616)
    (ta : fplace a < TT) (tb : fplace b < TT) (h1 : fplace x ≤ fplace a) (h2 : fplace y ≤ fplace b) (m : Int) : fplace (fadd x y m) ≤ fplace (fadd a b m) := by
  have k1 := fadd_mono1 (m := m) h1 (fadd_lo_nan hx hy nx ny (Or.inl ⟨tx, ty⟩) m) (fadd_lo_nan ha hy na ny (Or.inl ⟨ta, ty⟩) m)
  have k2 := fadd_mono1 (a := y) (a' := b) (b := a) (m := m) h2 (fadd_lo_nan hy ha ny na (Or.inl ⟨ty, ta⟩) m) (fadd_lo_nan hb ha nb na (Or.inl ⟨tb, ta⟩) m)
  rw [fadd_comm y a, fadd_comm b a] at k2
  omega
theorem fadd_hi {a b x y : Nat} (hx : x < 18446744073709551616) (hy : y < 18446744073709551616) (nx : fnan x = false) (ny : fnan y = false) (tx : -TT < fplace x) (ty : -TT < fplace y) (na : fnan a = false) (nb : fnan b = false) (ha : a < 18446744073709551616) (hb : b < 18446744073709551616)
    (ta : -TT < fplace a) (tb : -TT < fplace b) (h1 : fplace a ≤ fplace x) (h2 : fplace b ≤ fplace y) (m : Int) : fplace (fadd a b m) ≤ fplace (fadd x y m) := by
  have k1 := fadd_mono1 (a := a) (a' := x) (b := b) (m := m) h1 (fadd_lo_nan ha hb na nb (Or.inr ⟨ta, tb⟩) m) (fadd_lo_nan hx hb nx nb (Or.inr ⟨tx, tb⟩) m)
  have k2 := fadd_mono1 (a := b) (a' := y) (b := x) (m := m) h2 (fadd_lo_nan hb hx nb nx (Or.inr ⟨tb, tx⟩) m) (fadd_lo_nan hy hx ny nx (Or.inr ⟨ty, tx⟩) m)
  rw [fadd_comm b x, fadd_comm y x] at k2
  omega

/-! ### products; where there is none it is zero -/
def sgI (v : Int) : Int := if v < 0 then -1 else if 0 < v then 1 else 0
def pmul3 (a b : Nat) (m : Int) : Int := if ffin a && ffin b then fplace (fround (nrm (fz a * fz b) (-1074 - ((1074 : Nat) : Int))) m) else sgI (fplace a) * sgI (fplace b) * TT
theorem g1074 : (-2148 : Int) = -1074 - ((1074 : Nat) : Int) := by decide
theorem fz_sign (f : Nat) : (fz f < 0 ↔ fplace f < 0) ∧ (0 < fz f ↔ 0 < fplace f) ∧ (fz f = 0 ↔ fplace f = 0) := by
  have z0 : fz 0 = 0 := by decide
  have h1 := @fz_le f 0
  have h2 := @fz_le 0 f
  rw [z0, fplace_zero] at h1 h2
  omega
theorem place_sign (f : Nat) : (fplace f < 0 → fS f = true) ∧ (0 < fplace f → fS f = false) := by
  rw [fplace_eq]; cases fS f <;> simp <;> omega
theorem zero_place (f : Nat) : fzero f = true ↔ fplace f = 0 := by
  unfold fzero; rw [decide_eq_true_eq, fplace_eq]; split <;> omega
theorem place_sgn_inf (s : Bool) : fplace (fsgn s fInf) = if s then -TT else TT := by cases s <;> decide
theorem place_sgn_zero (s : Bool) : fplace (fsgn s 0) = 0 := by cases s <;> decide
theorem nan_sgn (s : Bool) : fnan (fsgn s fInf) = false ∧ fnan (fsgn s 0) = false := by cases s <;> decide
theorem nz_place {f : Nat} (h : fzero f = false) : fplace f ≠ 0 := fun h' => by rw [(zero_place f).2 h'] at h; cases h
theorem sgI_inf {a b : Nat} (ha : fplace a ≠ 0) (hb : fplace b ≠ 0) : fplace (fsgn (fS a != fS b) fInf) = sgI (fplace a) * sgI (fplace b) * TT := by
  rw [place_sgn_inf]
  have s1 := place_sign a
  have s2 := place_sign b
  unfold sgI
  rcases Int.lt_or_gt_of_ne ha with h1 | h1 <;> rcases Int.lt_or_gt_of_ne hb with h2 | h2
  · rw [s1.1 h1, s2.1 h2]; simp [h1, h2]
  · rw [s1.1 h1, s2.2 h2]; simp [h1, h2, show ¬ fplace b < 0 by omega]
  · rw [s1.2 h1, s2.1 h2]; simp [h1, h2, show ¬ fplace a < 0 by omega]
  · rw [s1.2 h1, s2.2 h2]; simp [h1, h2, show ¬ fplace a < 0 by omega, show ¬ fplace b < 0 by omega]
theorem fat_mul {a b : Nat} (na : fnan a = false) (nb : fnan b = false) (m : Int) : fnan (fat fmul a b m) = false ∧ fplace (fat fmul a b m) = pmul3 a b m := by
  unfold fat pmul3 fmul
  rw [na, nb]
  have ka := f_cases a
  have kb := f_cases b
  rw [na] at ka
  rw [nb] at kb
  have za := zero_place a
  have zb := zero_place b
  rcases ka with c | ⟨_, i1, f1, z1⟩ | ⟨_, i1, f1⟩
  · cases c
  · rw [i1, f1, z1]
    cases z2 : fzero b with
    | true =>
      have e0 := zb.1 z2
      have : finf b = false := by rcases kb with c | ⟨_, _, _, z⟩ | ⟨_, i, _⟩ <;> simp_all
      rw [e0]; simp [fnan_fNaN, sgI, fplace_zero, show fnan 0 = false by decide]
    | false =>
      simp only [Bool.or_self, Bool.and_false, Bool.false_and, Bool.or_false, Bool.false_eq_true, if_false, Bool.true_or, if_true, (nan_sgn _).1]
      exact ⟨trivial, sgI_inf (nz_place z1) (nz_place z2)⟩
  · rw [i1, f1]
    rcases kb with c | ⟨_, i2, f2, z2⟩ | ⟨_, i2, f2⟩
    · cases c
    · rw [i2, f2, z2]
      cases z1 : fzero a with
      | true =>
        have e0 := za.1 z1
        rw [e0]; simp [fnan_fNaN, sgI, fplace_zero, show fnan 0 = false by decide]
      | false =>
        simp only [Bool.or_self, Bool.and_false, Bool.false_and, Bool.and_true, Bool.or_false, Bool.false_eq_true, if_false, Bool.or_true, if_true, (nan_sgn _).1]
        exact ⟨trivial, sgI_inf (nz_place z1) (nz_place z2)⟩
    · have v := fmul_val f1 f2
      rw [i2, f2, v.1]
      have v2 := v.2
      rw [g1074] at v2 ⊢
      cases hz : (fzero a || fzero b) with
      | true =>
        have e0 : fz a * fz b = 0 := by
          rcases (show fzero a = true ∨ fzero b = true by simpa using hz) with h | h
          · rw [(fz_sign a).2.2.2 (za.1 h), Int.zero_mul]
          · rw [(fz_sign b).2.2.2 (zb.1 h), Int.mul_zero]
        rw [e0, fround_zero, fplace_zero]
        simp only [Bool.or_self, Bool.false_and, Bool.and_false, Bool.false_eq_true, if_false, if_true, (nan_sgn _).2, Bool.and_self]
        exact ⟨trivial, place_sgn_zero _⟩
      | false =>
        have p := (fround_place _ 1074 m v2).1
        simp only [Bool.or_self, Bool.false_and, Bool.and_false, Bool.false_eq_true, if_false, p, Bool.and_self, if_true]
        exact ⟨trivial, trivial⟩
theorem pmul3_comm (a b : Nat) (m : Int) : pmul3 a b m = pmul3 b a m := by
  unfold pmul3
  rw [Bool.and_comm, Int.mul_comm (fz a), Int.mul_comm (sgI (fplace a))]
theorem pmul3_bound {a b : Nat} (m : Int) (_na : fnan a = false) (_nb : fnan b = false) : -TT ≤ pmul3 a b m ∧ pmul3 a b m ≤ TT := by
  unfold pmul3
  split
  · rename_i h
    simp only [Bool.and_eq_true] at h
    have v2 := (fmul_val h.1 h.2).2
    rw [g1074] at v2
    exact place_bound (fround_place _ 1074 m v2).1
  · unfold sgI TT; split <;> split <;> (try split) <;> (try split) <;> omega
theorem pmul3_sign {a b : Nat} (m : Int) : (0 ≤ fplace a → 0 ≤ fplace b → 0 ≤ pmul3 a b m) ∧ (fplace a ≤ 0 → 0 ≤ fplace b → pmul3 a b m ≤ 0) ∧ (0 ≤ fplace a → fplace b ≤ 0 → pmul3 a b m ≤ 0) ∧ (fplace a ≤ 0 → fplace b ≤ 0 → 0 ≤ pmul3 a b m) := by
  unfold pmul3
  split
  · rename_i h
    simp only [Bool.and_eq_true] at h
    have v2 := (fmul_val h.1 h.2).2
    rw [g1074] at v2
    have p := (fround_place _ 1074 m v2).2
    have s1 := fz_sign a
    have s2 := fz_sign b
    refine ⟨fun h1 h2 => p.1 (Int.mul_nonneg (by omega) (by omega)), fun h1 h2 => p.2 ?_, fun h1 h2 => p.2 ?_, fun h1 h2 => p.1 ?_⟩
    · exact Int.mul_nonpos_of_nonpos_of_nonneg (by omega) (by omega)
    · exact Int.mul_nonpos_of_nonneg_of_nonpos (by omega) (by omega)
    · exact Int.mul_nonneg_of_nonpos_of_nonpos (by omega) (by omega)
  · unfold sgI TT
    refine ⟨?_, ?_, ?_, ?_⟩ <;> intro h1 h2 <;> split <;> split <;> (try split) <;> (try split) <;> omega
theorem not_fin {a b : Nat} (h : ¬ (ffin a && ffin b) = true) : ffin a = false ∨ ffin b = false := by
  cases h1 : ffin a with
  | false => exact Or.inl rfl
  | true => right; rw [h1] at h; simpa using h
theorem inf_of {a : Nat} (na : fnan a = false) (h : ffin a = false) : fplace a = TT ∨ fplace a = -TT := by
  rcases f_cases a with c | ⟨_, i, _⟩ | ⟨_, _, f⟩
  · rw [na] at c; cases c
  · exact place_inf i
  · rw [h] at f; cases f
/-- products keep the order of a factor, or turn it -/
theorem pmul3_mono {a a' b : Nat} (m : Int) (na : fnan a = false) (na' : fnan a' = false) (nb : fnan b = false) (h : fplace a ≤ fplace a') :
    (0 ≤ fplace b → pmul3 a b m ≤ pmul3 a' b m) ∧ (fplace b ≤ 0 → pmul3 a' b m ≤ pmul3 a b m) := by
  have bd := pmul3_bound m na nb
  have bd' := pmul3_bound m na' nb
  by_cases hb0 : fplace b = 0
  · have s1 := @pmul3_sign a b m
    have s2 := @pmul3_sign a' b m
    have e1 : pmul3 a b m = 0 := by
      rcases Int.le_total 0 (fplace a) with k | k
      · have := s1.1 k (by omega); have := s1.2.2.1 k (by omega); omega
      · have := s1.2.1 k (by omega); have := s1.2.2.2 k (by omega); omega
    have e2 : pmul3 a' b m = 0 := by
      rcases Int.le_total 0 (fplace a') with k | k
      · have := s2.1 k (by omega); have := s2.2.2.1 k (by omega); omega
      · have := s2.2.1 k (by omega); have := s2.2.2.2 k (by omega); omega
    rw [e1, e2]; exact ⟨fun _ => Int.le_refl _, fun _ => Int.le_refl _⟩
  · by_cases hf : (ffin a && ffin b) = true
    · by_cases hf' : (ffin a' && ffin b) = true
      · unfold pmul3
        rw [if_pos hf, if_pos hf']
        simp only [Bool.and_eq_true] at hf hf'
        have v := (fmul_val hf.1 hf.2).2
        have v' := (fmul_val hf'.1 hf'.2).2
        rw [g1074] at v v'
        have hz := fz_le.2 h
        have sb := fz_sign b
        refine ⟨fun hb => fround_mono _ _ 1074 m v v' (Int.mul_le_mul_of_nonneg_right hz (by omega)), fun hb => fround_mono _ _ 1074 m v' v (Int.mul_le_mul_of_nonpos_right hz (by omega))⟩
      · -- b is finite, so a' is infinite, and positive
        simp only [Bool.and_eq_true] at hf
        have i := inf_of na' (by rcases not_fin hf' with k | k; exact k; rw [hf.2] at k; cases k)
        have fa := fin_lt hf.1
        have e : fplace a' = TT := by omega
        have k : pmul3 a' b m = sgI (fplace b) * TT := by unfold pmul3; rw [if_neg hf', e]; unfold sgI TT; simp
        unfold sgI TT at k
        unfold TT at bd
        refine ⟨fun hb => ?_, fun hb => ?_⟩
        · rw [if_neg (by omega), if_pos (by omega)] at k; omega
        · rw [if_pos (by omega)] at k; omega
    · by_cases hf' : (ffin a' && ffin b) = true
      · simp only [Bool.and_eq_true] at hf'
        have i := inf_of na (by rcases not_fin hf with k | k; exact k; rw [hf'.2] at k; cases k)
        have fa := fin_lt hf'.1
        have e : fplace a = -TT := by omega
        have k : pmul3 a b m = -(sgI (fplace b) * TT) := by unfold pmul3; rw [if_neg hf, e]; unfold sgI TT; simp [Int.neg_mul]
        unfold sgI TT at k
        unfold TT at bd'
        refine ⟨fun hb => ?_, fun hb => ?_⟩
        · rw [if_neg (by omega), if_pos (by omega)] at k; omega
        · rw [if_pos (by omega)] at k; omega
      · unfold pmul3
        rw [if_neg hf, if_neg hf']
        have hs : sgI (fplace a) ≤ sgI (fplace a') := by unfold sgI; split <;> split <;> (try split) <;> (try split) <;> omega
        have hl : -1 ≤ sgI (fplace a) ∧ sgI (fplace a') ≤ 1 := by unfold sgI; constructor <;> split <;> (try split) <;> omega
        refine ⟨fun hb => ?_, fun hb => ?_⟩
        · have : sgI (fplace b) = 1 := by unfold sgI; rw [if_neg (by omega), if_pos (by omega)]
          rw [this]; unfold TT; omega
        · have : sgI (fplace b) = -1 := by unfold sgI; rw [if_pos (by omega)]
          rw [this]; unfold TT; omega
/-- the product of two elements lies between those of the bounds -/
theorem pmul3_corner {a b x x' y y' : Nat} (m : Int) (na : fnan a = false) (nb : fnan b = false) (nx : fnan x = false) (nx' : fnan x' = false) (ny : fnan y = false) (ny' : fnan y' = false)
    (h1 : fplace x ≤ fplace a) (h2 : fplace a ≤ fplace x') (h3 : fplace y ≤ fplace b) (h4 : fplace b ≤ fplace y') :
    min (min (min (pmul3 x y m) (pmul3 x y' m)) (pmul3 x' y m)) (pmul3 x' y' m) ≤ pmul3 a b m ∧ pmul3 a b m ≤ max (max (max (pmul3 x y m) (pmul3 x y' m)) (pmul3 x' y m)) (pmul3 x' y' m) := by
  have k1 := pmul3_mono m nx na nb h1
  have k2 := pmul3_mono m na nx' nb h2
  have j1 := pmul3_mono m ny nb nx h3
  have j2 := pmul3_mono m nb ny' nx h4
  have i1 := pmul3_mono m ny nb nx' h3
  have i2 := pmul3_mono m nb ny' nx' h4
  rw [pmul3_comm y x, pmul3_comm b x] at j1
  rw [pmul3_comm b x, pmul3_comm y' x] at j2
  rw [pmul3_comm y x', pmul3_comm b x'] at i1
  rw [pmul3_comm b x', pmul3_comm y' x'] at i2
  rcases Int.le_total 0 (fplace b) with hb | hb <;> rcases Int.le_total 0 (fplace x) with hx | hx <;> rcases Int.le_total 0 (fplace x') with hx' | hx' <;> omega

/-- the bounds of four values -/
theorem icor_place {op : Nat → Nat → Int → Nat} {x y : Nat × Nat} (h : ∀ m, fnan (fat op x.1 y.1 m) = false ∧ fnan (fat op x.1 y.2 m) = false ∧ fnan (fat op x.2 y.1 m) = false ∧ fnan (fat op x.2 y.2 m) = false) :
    fnan (icor op x y).1 = false ∧ fnan (icor op x y).2 = false ∧
    fplace (icor op x y).1 = min (min (min (fplace (fat op x.1 y.1 1)) (fplace (fat op x.1 y.2 1))) (fplace (fat op x.2 y.1 1))) (fplace (fat op x.2 y.2 1)) ∧
    fplace (icor op x y).2 = max (max (max (fplace (fat op x.1 y.1 2)) (fplace (fat op x.1 y.2 2))) (fplace (fat op x.2 y.1 2))) (fplace (fat op x.2 y.2 2)) := by
  obtain ⟨a1, a2, a3, a4⟩ := h 1
  obtain ⟨b1, b2, b3, b4⟩ := h 2
  have n1 := fmin2_nan a1 a2
  have n2 := fmin2_nan n1 a3
  have n3 := fmin2_nan n2 a4
  have m1 := fmax2_nan b1 b2
  have m2 := fmax2_nan m1 b3
  have m3 := fmax2_nan m2 b4
  unfold icor ires
  have c1 := fplace_clean (fmin2 (fmin2 (fmin2 (fat op x.1 y.1 1) (fat op x.1 y.2 1)) (fat op x.2 y.1 1)) (fat op x.2 y.2 1))
  have c2 := fplace_clean (fmax2 (fmax2 (fmax2 (fat op x.1 y.1 2) (fat op x.1 y.2 2)) (fat op x.2 y.1 2)) (fat op x.2 y.2 2))
  refine ⟨c1.2.trans n3, c2.2.trans m3, ?_, ?_⟩
  · show fplace (fclean _) = _
    rw [c1.1, fmin2_place n2 a4, fmin2_place n1 a3, fmin2_place a1 a2]
  · show fplace (fclean _) = _
    rw [c2.1, fmax2_place m2 b4, fmax2_place m1 b3, fmax2_place b1 b2]

end Go.Proofs.YtakbappmkdaioaaGreatDoor

namespace Go.Proofs.YtakbappmkdaioaaGreatDoor
open Go.RowKit Sp
set_option linter.unusedSimpArgs false

/-! ### quotients; where there is none it is zero -/
theorem cxQ_le2 {A A' D D' : Nat} (hD : 0 < D) (hD' : 0 < D') (h : A * D' ≤ A' * D) (j : Nat) : cxQ A D j ≤ cxQ A' D' j := by
  have e1 : cxQ A D j = cmpI ((2 * (A * D') : Nat) : Int) ((j * (D * D') : Nat) : Int) := by
    unfold cxQ
    exact cmpI_scale (p := D') (q := 1) hD' (by decide) (by rw [Nat.mul_one, Nat.mul_assoc]) (by rw [Nat.mul_one, Nat.mul_assoc])
  have e2 : cxQ A' D' j = cmpI ((2 * (A' * D) : Nat) : Int) ((j * (D * D') : Nat) : Int) := by
    unfold cxQ
    exact cmpI_scale (p := D) (q := 1) hD (by decide) (by rw [Nat.mul_one, Nat.mul_assoc]) (by rw [Nat.mul_one, Nat.mul_assoc, Nat.mul_comm D' D])
  rw [e1, e2]
  unfold cmpI; split <;> split <;> (try split) <;> (try split) <;> omega
def qv (a b : Nat) (m : Int) : Nat := fquo (nrm (fz a) (-1074)) (nrm (fz b) (-1074)) m
theorem qv_zero {a b : Nat} (m : Int) (hb : ffin b = true) (hb0 : fz b ≠ 0) (ha : fz a = 0) : qv a b m = 0 := by
  unfold qv
  rw [ha, nrm_zero]
  cases hd : nrm (fz b) (-1074) with
  | none => exact absurd hd (fof_some hb)
  | some p =>
    obtain ⟨n, f⟩ := p
    have hn : n ≠ 0 := fun h0 => by
      have := (dman_zero (fof_some hb)).1 (by rw [hd]; exact h0)
      exact hb0 this
    show (if n = 0 then fNaN else if (0 : Int) = 0 then 0 else _) = 0
    rw [if_neg hn, if_pos rfl]
theorem qv_cmp {a b a' b' : Nat} (m : Int) (ha : ffin a = true) (hb : ffin b = true) (ha' : ffin a' = true) (hb' : ffin b' = true) (za : fz a ≠ 0) (zb : fz b ≠ 0) (za' : fz a' ≠ 0) (zb' : fz b' ≠ 0) {s : Bool}
    (hs : (decide (fz a < 0) != decide (fz b < 0)) = s) (hs' : (decide (fz a' < 0) != decide (fz b' < 0)) = s) (h : (fz a).natAbs * (fz b').natAbs ≤ (fz a').natAbs * (fz b).natAbs) :
    fM (qv a b m) ≤ fM (qv a' b' m) ∧ fS (qv a b m) = s ∧ fS (qv a' b' m) = s ∧ fnan (qv a b m) = false ∧ fnan (qv a' b' m) = false := by
  obtain ⟨c, k1, k2⟩ := fquo_grid (fz a) (fz b) m za zb (fof_some ha) (fof_some hb)
  obtain ⟨c', k1', k2'⟩ := fquo_grid (fz a') (fz b') m za' zb' (fof_some ha') (fof_some hb')
  rw [hs] at k2
  rw [hs'] at k2'
  unfold qv
  rw [k2, k2']
  have pb : 0 < (fz b).natAbs := by omega
  have pb' : 0 < (fz b').natAbs := by omega
  refine ⟨fcut_mono s m (code_mono (cxQ_cx _ pb') (cxQ_le2 pb pb' ?_) k1 k1' s m), fcut_S _ _ _, fcut_S _ _ _, fcut_nan _ _ _, fcut_nan _ _ _⟩
  generalize (2 : Nat) ^ 1074 = D
  have := Nat.mul_le_mul_right D h
  rw [Nat.mul_right_comm, Nat.mul_right_comm (fz a').natAbs]
  exact this
def pdiv3 (a b : Nat) (m : Int) : Int := if ffin b then (if ffin a then fplace (qv a b m) else sgI (fplace a) * sgI (fplace b) * TT) else 0
theorem qv_sign {a b : Nat} (m : Int) (ha : ffin a = true) (hb : ffin b = true) (zb : fz b ≠ 0) : fnan (qv a b m) = false ∧ (fz a = 0 → fplace (qv a b m) = 0) ∧ (fz a ≠ 0 → fS (qv a b m) = (decide (fz a < 0) != decide (fz b < 0))) := by
  by_cases za : fz a = 0
  · rw [qv_zero m hb zb za]; exact ⟨by decide, fun _ => by decide, fun h => absurd za h⟩
  · have k := qv_cmp (a := a) (b := b) (a' := a) (b' := b) m ha hb ha hb za zb za zb rfl rfl (Nat.le_refl _)
    exact ⟨k.2.2.2.1, fun h => absurd h za, fun _ => k.2.1⟩
theorem fat_div {a b : Nat} (na : fnan a = false) (nb : fnan b = false) (hb0 : fplace b ≠ 0) (m : Int) : fnan (fat fdiv a b m) = false ∧ fplace (fat fdiv a b m) = pdiv3 a b m := by
  unfold fat pdiv3 fdiv
  rw [na, nb]
  have ka := f_cases a
  have kb := f_cases b
  rw [na] at ka
  rw [nb] at kb
  have z2 : fzero b = false := by
    cases h : fzero b with
    | false => rfl
    | true => exact absurd ((zero_place b).1 h) hb0
  rw [z2]
  rcases ka with c | ⟨_, i1, f1, z1⟩ | ⟨_, i1, f1⟩
  · cases c
  · rw [i1, f1, z1]
    rcases kb with c | ⟨_, i2, f2, _⟩ | ⟨_, i2, f2⟩
    · cases c
    · rw [i2, f2]
      simp [fnan_fNaN, fplace_zero, show fnan 0 = false by decide]
    · rw [i2, f2]
      simp only [Bool.or_self, Bool.and_false, Bool.false_and, Bool.or_false, Bool.false_eq_true, if_false, if_true, (nan_sgn _).1]
      exact ⟨trivial, sgI_inf (nz_place z1) hb0⟩
  · rw [i1, f1]
    rcases kb with c | ⟨_, i2, f2, _⟩ | ⟨_, i2, f2⟩
    · cases c
    · rw [i2, f2]
      simp only [Bool.or_self, Bool.false_and, Bool.and_false, Bool.or_true, Bool.false_eq_true, if_false, if_true, (nan_sgn _).2]
      exact ⟨trivial, place_sgn_zero _⟩
    · rw [i2, f2]
      have zb : fz b ≠ 0 := fun h => hb0 ((fz_sign b).2.2.1 h)
      cases z1 : fzero a with
      | true =>
        have e0 : fz a = 0 := (fz_sign a).2.2.2 ((zero_place a).1 z1)
        simp only [Bool.or_self, Bool.false_and, Bool.and_false, Bool.or_false, Bool.false_eq_true, if_false, if_true, (nan_sgn _).2]
        exact ⟨trivial, by rw [place_sgn_zero, (qv_sign m f1 f2 zb).2.1 e0]⟩
      | false =>
        simp only [Bool.or_self, Bool.false_and, Bool.and_false, Bool.or_false, Bool.false_eq_true, if_false, if_true, fof_fin f1, fof_fin f2]
        have k := (qv_sign m f1 f2 zb).1
        unfold qv at k ⊢
        rw [k]
        exact ⟨by simpa using k, by simp⟩
theorem pdiv3_bound {a b : Nat} (m : Int) (hb0 : fplace b ≠ 0) : -TT ≤ pdiv3 a b m ∧ pdiv3 a b m ≤ TT := by
  unfold pdiv3
  split
  · rename_i hb
    split
    · rename_i ha
      exact place_bound (qv_sign m ha hb (fun h => hb0 ((fz_sign b).2.2.1 h))).1
    · unfold sgI TT; split <;> split <;> (try split) <;> (try split) <;> omega
  · unfold TT; omega
theorem place_of {f : Nat} {s : Bool} (h : fS f = s) : fplace f = if s then -(fM f : Int) else (fM f : Int) := by rw [fplace_eq, h]
theorem pdiv3_sign {a b : Nat} (m : Int) (hb0 : fplace b ≠ 0) : (0 ≤ fplace a → 0 ≤ fplace b → 0 ≤ pdiv3 a b m) ∧ (fplace a ≤ 0 → 0 ≤ fplace b → pdiv3 a b m ≤ 0) ∧ (0 ≤ fplace a → fplace b ≤ 0 → pdiv3 a b m ≤ 0) ∧ (fplace a ≤ 0 → fplace b ≤ 0 → 0 ≤ pdiv3 a b m) := by
  unfold pdiv3
  split
  · rename_i hb
    split
    · rename_i ha
      have sa := fz_sign a
      have sb := fz_sign b
      have zb : fz b ≠ 0 := fun h => hb0 (sb.2.2.1 h)
      have k := qv_sign m ha hb zb
      by_cases za : fz a = 0
      · rw [k.2.1 za]; exact ⟨fun _ _ => Int.le_refl _, fun _ _ => Int.le_refl _, fun _ _ => Int.le_refl _, fun _ _ => Int.le_refl _⟩
      · rw [place_of (k.2.2 za)]
        rcases Int.lt_or_gt_of_ne za with h1 | h1 <;> rcases Int.lt_or_gt_of_ne zb with h2 | h2
        · rw [decide_eq_true h1, decide_eq_true h2]; simp only [bne_self_eq_false, Bool.false_eq_true, if_false]; omega
        · rw [decide_eq_true h1, decide_eq_false (show ¬ fz b < 0 by omega)]; simp only [Bool.bne_false, if_true]; omega
        · rw [decide_eq_false (show ¬ fz a < 0 by omega), decide_eq_true h2]; simp only [Bool.false_bne, if_true]; omega
        · rw [decide_eq_false (show ¬ fz a < 0 by omega), decide_eq_false (show ¬ fz b < 0 by omega)]; simp only [bne_self_eq_false, Bool.false_eq_true, if_false]; omega
    · unfold sgI TT
      refine ⟨?_, ?_, ?_, ?_⟩ <;> intro h1 h2 <;> split <;> split <;> (try split) <;> (try split) <;> omega
  · exact ⟨fun _ _ => Int.le_refl _, fun _ _ => Int.le_refl _, fun _ _ => Int.le_refl _, fun _ _ => Int.le_refl _⟩
/-- quotients keep the order of the dividend, or turn it -/
theorem pdiv3_mono {a a' b : Nat} (m : Int) (na : fnan a = false) (na' : fnan a' = false) (hb0 : fplace b ≠ 0) (h : fplace a ≤ fplace a') :
    (0 ≤ fplace b → pdiv3 a b m ≤ pdiv3 a' b m) ∧ (fplace b ≤ 0 → pdiv3 a' b m ≤ pdiv3 a b m) := by
  have bd := @pdiv3_bound a b m hb0
  have bd' := @pdiv3_bound a' b m hb0
  have sg := @pdiv3_sign a b m hb0
  have sg' := @pdiv3_sign a' b m hb0
  by_cases hc : fplace a ≤ 0 ∧ 0 ≤ fplace a'
  · refine ⟨fun hb => ?_, fun hb => ?_⟩
    · have := sg.2.1 hc.1 hb; have := sg'.1 hc.2 hb; omega
    · have := sg.2.2.2 hc.1 hb; have := sg'.2.2.1 hc.2 hb; omega
  · cases fb : ffin b with
    | false => unfold pdiv3; rw [fb]; exact ⟨fun _ => Int.le_refl _, fun _ => Int.le_refl _⟩
    | true =>
      have sb := fz_sign b
      have zb : fz b ≠ 0 := fun h => hb0 (sb.2.2.1 h)
      cases fa : ffin a with
      | false =>
        have e : fplace a = -TT ∨ fplace a = TT := (inf_of na fa).symm
        have b' := place_bound na'
        rcases e with e | e
        · have k : pdiv3 a b m = -(sgI (fplace b) * TT) := by unfold pdiv3; rw [fb, fa, e]; unfold sgI TT; simp [Int.neg_mul]
          unfold sgI at k
          refine ⟨fun hb => ?_, fun hb => ?_⟩
          · rw [if_neg (by omega), if_pos (by omega)] at k; omega
          · rw [if_pos (by omega)] at k; omega
        · have e' : fplace a' = TT := by omega
          have f' : ffin a' = false := by
            cases h' : ffin a' with
            | false => rfl
            | true => have := fin_lt h'; omega
          unfold pdiv3; rw [fb, fa, f', e, e']; exact ⟨fun _ => Int.le_refl _, fun _ => Int.le_refl _⟩
      | true =>
        cases fa' : ffin a' with
        | false =>
          have b0 := fin_lt fa
          have e : fplace a' = TT := by rcases inf_of na' fa' with e | e <;> omega
          have k : pdiv3 a' b m = sgI (fplace b) * TT := by unfold pdiv3; rw [fb, fa', e]; unfold sgI TT; simp
          unfold sgI at k
          refine ⟨fun hb => ?_, fun hb => ?_⟩
          · rw [if_neg (by omega), if_pos (by omega)] at k; omega
          · rw [if_pos (by omega)] at k; omega
        | true =>
          have sa := fz_sign a
          have sa' := fz_sign a'
          have za : fz a ≠ 0 := by omega
          have za' : fz a' ≠ 0 := by omega
          have hle := fz_le.2 h
          unfold pdiv3
          rw [fb, fa, fa']
          simp only [if_true]
          rcases Int.lt_or_gt_of_ne za with h1 | h1
          · have h1' : fz a' < 0 := by omega
            have hab : (fz a').natAbs * (fz b).natAbs ≤ (fz a).natAbs * (fz b).natAbs := Nat.mul_le_mul_right _ (by omega)
            rcases Int.lt_or_gt_of_ne zb with h2 | h2
            · have k := qv_cmp m fa' fb fa fb za' zb za zb (s := false) (by rw [decide_eq_true h1', decide_eq_true h2]; rfl) (by rw [decide_eq_true h1, decide_eq_true h2]; rfl) hab
              rw [place_of k.2.1, place_of k.2.2.1]
              simp only [Bool.false_eq_true, if_false]; omega
            · have k := qv_cmp m fa' fb fa fb za' zb za zb (s := true) (by rw [decide_eq_true h1', decide_eq_false (show ¬ fz b < 0 by omega)]; rfl) (by rw [decide_eq_true h1, decide_eq_false (show ¬ fz b < 0 by omega)]; rfl) hab
              rw [place_of k.2.1, place_of k.2.2.1]
              simp only [if_true]; omega
          · have h1' : 0 < fz a' := by omega
            have hab : (fz a).natAbs * (fz b).natAbs ≤ (fz a').natAbs * (fz b).natAbs := Nat.mul_le_mul_right _ (by omega)
            rcases Int.lt_or_gt_of_ne zb with h2 | h2
            · have k := qv_cmp m fa fb fa' fb za zb za' zb (s := true) (by rw [decide_eq_false (show ¬ fz a < 0 by omega), decide_eq_true h2]; rfl) (by rw [decide_eq_false (show ¬ fz a' < 0 by omega), decide_eq_true h2]; rfl) hab
              rw [place_of k.2.1, place_of k.2.2.1]
              simp only [if_true]; omega
            · have k := qv_cmp m fa fb fa' fb za zb za' zb (s := false) (by rw [decide_eq_false (show ¬ fz a < 0 by omega), decide_eq_false (show ¬ fz b < 0 by omega)]; rfl) (by rw [decide_eq_false (show ¬ fz a' < 0 by omega), decide_eq_false (show ¬ fz b < 0 by omega)]; rfl) hab
              rw [place_of k.2.1, place_of k.2.2.1]
              simp only [Bool.false_eq_true, if_false]; omega
/-- quotients turn the order of divisors of one sign, or keep it -/
theorem pdiv3_anti {a b b' : Nat} (m : Int) (_na : fnan a = false) (nb : fnan b = false) (nb' : fnan b' = false) (h : fplace b ≤ fplace b') (hs : 0 < fplace b ∨ fplace b' < 0) :
    (0 ≤ fplace a → pdiv3 a b' m ≤ pdiv3 a b m) ∧ (fplace a ≤ 0 → pdiv3 a b m ≤ pdiv3 a b' m) := by
  have hb0 : fplace b ≠ 0 := by omega
  have hb0' : fplace b' ≠ 0 := by omega
  have bd := @pdiv3_bound a b m hb0
  have bd' := @pdiv3_bound a b' m hb0'
  have sg := @pdiv3_sign a b m hb0
  have sg' := @pdiv3_sign a b' m hb0'
  have i0 : ∀ c, ffin c = false → pdiv3 a c m = 0 := fun c hc => by unfold pdiv3; rw [hc]; rfl
  cases fb : ffin b with
  | false =>
    have e := inf_of nb fb
    have q := place_bound nb'
    cases fb' : ffin b' with
    | false => rw [i0 b fb, i0 b' fb']; exact ⟨fun _ => Int.le_refl _, fun _ => Int.le_refl _⟩
    | true =>
      have q' := fin_lt fb'
      rw [i0 b fb]
      exact ⟨fun ha => sg'.2.2.1 ha (by unfold TT at *; omega), fun ha => sg'.2.2.2 ha (by unfold TT at *; omega)⟩
  | true =>
    cases fb' : ffin b' with
    | false =>
      have e := inf_of nb' fb'
      have q' := fin_lt fb
      rw [i0 b' fb']
      exact ⟨fun ha => sg.1 ha (by unfold TT at *; omega), fun ha => sg.2.1 ha (by unfold TT at *; omega)⟩
    | true =>
      have sb := fz_sign b
      have sb' := fz_sign b'
      have zb : fz b ≠ 0 := fun h => hb0 (sb.2.2.1 h)
      have zb' : fz b' ≠ 0 := fun h => hb0' (sb'.2.2.1 h)
      have hle := fz_le.2 h
      cases fa : ffin a with
      | false =>
        have e : sgI (fplace b) = sgI (fplace b') := by
          unfold sgI
          rcases hs with k | k
          · rw [if_neg (by omega), if_pos k, if_neg (by omega), if_pos (by omega)]
          · rw [if_pos (by omega), if_pos (by omega)]
        unfold pdiv3; rw [fb, fb', fa, e]; exact ⟨fun _ => Int.le_refl _, fun _ => Int.le_refl _⟩
      | true =>
        have sa := fz_sign a
        by_cases za : fz a = 0
        · unfold pdiv3; rw [fb, fb', fa]
          simp only [if_true]
          rw [(qv_sign m fa fb zb).2.1 za, (qv_sign m fa fb' zb').2.1 za]; exact ⟨fun _ => Int.le_refl _, fun _ => Int.le_refl _⟩
        · unfold pdiv3
          rw [fb, fb', fa]
          simp only [if_true]
          rcases hs with h2 | h2
          · -- both positive: the greater divisor gives the lesser magnitude
            have hab : (fz a).natAbs * (fz b).natAbs ≤ (fz a).natAbs * (fz b').natAbs := Nat.mul_le_mul_left _ (by omega)
            rcases Int.lt_or_gt_of_ne za with h1 | h1
            · have k := qv_cmp m fa fb' fa fb za zb' za zb (s := true) (by rw [decide_eq_true h1, decide_eq_false (show ¬ fz b' < 0 by omega)]; rfl) (by rw [decide_eq_true h1, decide_eq_false (show ¬ fz b < 0 by omega)]; rfl) hab
              rw [place_of k.2.1, place_of k.2.2.1]
              simp only [if_true]; omega
            · have k := qv_cmp m fa fb' fa fb za zb' za zb (s := false) (by rw [decide_eq_false (show ¬ fz a < 0 by omega), decide_eq_false (show ¬ fz b' < 0 by omega)]; rfl) (by rw [decide_eq_false (show ¬ fz a < 0 by omega), decide_eq_false (show ¬ fz b < 0 by omega)]; rfl) hab
              rw [place_of k.2.1, place_of k.2.2.1]
              simp only [Bool.false_eq_true, if_false]; omega
          · have hab : (fz a).natAbs * (fz b').natAbs ≤ (fz a).natAbs * (fz b).natAbs := Nat.mul_le_mul_left _ (by omega)
            have g1 : fz b < 0 := by omega
            have g2 : fz b' < 0 := by omega
            rcases Int.lt_or_gt_of_ne za with h1 | h1
            · have k := qv_cmp m fa fb fa fb' za zb za zb' (s := false) (by rw [decide_eq_true h1, decide_eq_true g1]; rfl) (by rw [decide_eq_true h1, decide_eq_true g2]; rfl) hab
              rw [place_of k.2.1, place_of k.2.2.1]
              simp only [Bool.false_eq_true, if_false]; omega
            · have k := qv_cmp m fa fb fa fb' za zb za zb' (s := true) (by rw [decide_eq_false (show ¬ fz a < 0 by omega), decide_eq_true g1]; rfl) (by rw [decide_eq_false (show ¬ fz a < 0 by omega), decide_eq_true g2]; rfl) hab
              rw [place_of k.2.1, place_of k.2.2.1]
              simp only [if_true]; omega
/-- the quotient of two elements lies between those of the bounds -/
theorem pdiv3_corner {a b x x' y y' : Nat} (m : Int) (na : fnan a = false) (nb : fnan b = false) (nx : fnan x = false) (nx' : fnan x' = false) (ny : fnan y = false) (ny' : fnan y' = false)
    (h1 : fplace x ≤ fplace a) (h2 : fplace a ≤ fplace x') (h3 : fplace y ≤ fplace b) (h4 : fplace b ≤ fplace y') (hs : 0 < fplace y ∨ fplace y' < 0) :
    min (min (min (pdiv3 x y m) (pdiv3 x y' m)) (pdiv3 x' y m)) (pdiv3 x' y' m) ≤ pdiv3 a b m ∧ pdiv3 a b m ≤ max (max (max (pdiv3 x y m) (pdiv3 x y' m)) (pdiv3 x' y m)) (pdiv3 x' y' m) := by
  have hb0 : fplace b ≠ 0 := by omega
  have k1 := pdiv3_mono m nx na hb0 h1
  have k2 := pdiv3_mono m na nx' hb0 h2
  have j1 := pdiv3_anti (a := x) m nx ny nb h3 (by omega)
  have j2 := pdiv3_anti (a := x) m nx nb ny' h4 (by omega)
  have i1 := pdiv3_anti (a := x') m nx' ny nb h3 (by omega)
  have i2 := pdiv3_anti (a := x') m nx' nb ny' h4 (by omega)
  rcases Int.le_total 0 (fplace b) with hb | hb <;> rcases Int.le_total 0 (fplace x) with hx | hx <;> rcases Int.le_total 0 (fplace x') with hx' | hx' <;> omega

end Go.Proofs.YtakbappmkdaioaaGreatDoor

namespace Go.Proofs.YtakbappmkdaioaaGreatDoor
open Go.RowKit Sp
set_option linter.unusedSimpArgs false

/-! ### results between whose bounds two values lie -/
theorem mem_parts {a : Nat} {x : Nat × Nat} (hx : Lt64 x) (h : imem a x) : fnan x.1 = false ∧ fnan x.2 = false ∧ fplace x.1 < TT ∧ -TT < fplace x.2 ∧ fnan a = false ∧ -TT < fplace a ∧ fplace a < TT := by
  obtain ⟨n1, n2, _, h2, h3⟩ := (iok_iff hx).1 h.1
  have f := fin_lt h.2.1
  exact ⟨n1, n2, h2, h3, f.1, f.2.1, f.2.2⟩
theorem neg_place {f : Nat} (h : fnan f = false) : fnan (fneg f) = false ∧ fplace (fneg f) = -fplace f := fplace_fneg h
/-- an interval with opposite bounds -/
def inegr (x : Nat × Nat) : Nat × Nat := (fneg x.2, fneg x.1)
theorem inegr_lt (x : Nat × Nat) : Lt64 (inegr x) := ⟨fneg_lt _, fneg_lt _⟩
theorem iok_inegr {x : Nat × Nat} (hx : Lt64 x) : iok (inegr x) = iok x := by
  rw [Bool.eq_iff_iff, iok_iff hx, iok_iff (inegr_lt x)]
  unfold inegr
  have k1 := (fneg_kinds x.1).1
  have k2 := (fneg_kinds x.2).1
  constructor
  · rintro ⟨n1, n2, h⟩
    rw [k2] at n1; rw [k1] at n2
    rw [(neg_place n1).2, (neg_place n2).2] at h
    exact ⟨n2, n1, by omega⟩
  · rintro ⟨n1, n2, h⟩
    rw [(neg_place n1).2, (neg_place n2).2]
    exact ⟨by rw [k2]; exact n2, by rw [k1]; exact n1, by omega⟩
theorem isub_eq {x y : Nat × Nat} (hy : Lt64 y) : isub x y = iadd x (inegr y) := by
  unfold isub iadd; rw [iok_inegr hy]; rfl
theorem iadd_lt {x y : Nat × Nat} (hx : Lt64 x) (hy : Lt64 y) : Lt64 (iadd x y) := by
  unfold iadd; split
  · exact ires_lt (fadd_lt' hx.1 hy.1 _) (fadd_lt' hx.2 hy.2 _)
  · exact iall_lt
theorem isub_lt {x y : Nat × Nat} (hx : Lt64 x) (hy : Lt64 y) : Lt64 (isub x y) := by rw [isub_eq hy]; exact iadd_lt hx (inegr_lt y)
theorem icor_lt {op : Nat → Nat → Int → Nat} (h : ∀ a b m, op a b m < 18446744073709551616) (x y : Nat × Nat) : Lt64 (icor op x y) := by
  have f := fat_lt op h
  exact ires_lt (fmin2_lt (fmin2_lt (fmin2_lt (f _ _ _) (f _ _ _)) (f _ _ _)) (f _ _ _)) (fmax2_lt (fmax2_lt (fmax2_lt (f _ _ _) (f _ _ _)) (f _ _ _)) (f _ _ _))
theorem imul_lt (x y : Nat × Nat) : Lt64 (imul x y) := by unfold imul; split; exact icor_lt fmul_lt' x y; exact iall_lt
theorem idiv_lt (x y : Nat × Nat) : Lt64 (idiv x y) := by unfold idiv; split; exact iall_lt; exact icor_lt fdiv_lt' x y
theorem imag_lt {x : Nat × Nat} : imag x < 18446744073709551616 := by
  unfold imag; split
  · exact fmax2_lt (by have := fabs_lt' x.1; omega) (by have := fabs_lt' x.2; omega)
  · decide
theorem imig_lt {x : Nat × Nat} : imig x < 18446744073709551616 := by
  unfold imig; split
  · split
    · decide
    · exact fmin2_lt (by have := fabs_lt' x.1; omega) (by have := fabs_lt' x.2; omega)
  · decide
theorem isqr_lt (x : Nat × Nat) : Lt64 (isqr x) := by unfold isqr; split; exact ires_lt (fmul_lt' _ _ _) (fmul_lt' _ _ _); exact iall_lt
theorem isqrt_lt {x : Nat × Nat} (hx : Lt64 x) : Lt64 (isqrt x) := by
  unfold isqrt; split
  · exact iall_lt
  · exact ires_lt (fsqrt_lt' (fmax2_lt hx.1 (by decide)) _) (fsqrt_lt' hx.2 _)
theorem iall_ok : iok iall = true := by decide
/-! ### sums -/
theorem iadd_place {x y : Nat × Nat} (hx : Lt64 x) (hy : Lt64 y) (h : iok x = true) (k : iok y = true) :
    fnan (iadd x y).1 = false ∧ fnan (iadd x y).2 = false ∧ fplace (iadd x y).1 = fplace (fadd x.1 y.1 1) ∧ fplace (iadd x y).2 = fplace (fadd x.2 y.2 2) := by
  obtain ⟨n1, n2, _, h2, h3⟩ := (iok_iff hx).1 h
  obtain ⟨m1, m2, _, k2, k3⟩ := (iok_iff hy).1 k
  unfold iadd ires
  rw [h, k]
  have c1 := fplace_clean (fadd x.1 y.1 1)
  have c2 := fplace_clean (fadd x.2 y.2 2)
  exact ⟨c1.2.trans (fadd_lo_nan hx.1 hy.1 n1 m1 (Or.inl ⟨h2, k2⟩) 1), c2.2.trans (fadd_lo_nan hx.2 hy.2 n2 m2 (Or.inr ⟨h3, k3⟩) 2), c1.1, c2.1⟩
theorem iadd_in {x y : Nat × Nat} {a b : Nat} (hx : Lt64 x) (hy : Lt64 y) (ha : a < 18446744073709551616) (hb : b < 18446744073709551616) (h : imem a x) (k : imem b y) :
    fplace (iadd x y).1 ≤ fplace (fadd a b 1) ∧ fplace (fadd a b 2) ≤ fplace (iadd x y).2 := by
  have p := iadd_place hx hy h.1 k.1
  obtain ⟨n1, n2, h2, h3, na, a1, a2⟩ := mem_parts hx h
  obtain ⟨m1, m2, k2, k3, nb, b1, b2⟩ := mem_parts hy k
  rw [p.2.2.1, p.2.2.2]
  exact ⟨fadd_lo hx.1 hy.1 n1 m1 h2 k2 na nb ha hb a2 b2 h.2.2.1 k.2.2.1 1, fadd_hi hx.2 hy.2 n2 m2 h3 k3 na nb ha hb a1 b1 h.2.2.2 k.2.2.2 2⟩
theorem iadd_ok {x y : Nat × Nat} (hx : Lt64 x) (hy : Lt64 y) : iok (iadd x y) = true := by
  cases h : iok x with
  | false => unfold iadd; rw [h]; exact iall_ok
  | true =>
    cases k : iok y with
    | false => unfold iadd; rw [h, k]; exact iall_ok
    | true =>
      obtain ⟨a, ha, a1, a2, a3⟩ := iok_mem hx h
      obtain ⟨b, hb, b1, b2, b3⟩ := iok_mem hy k
      have p := iadd_place hx hy h k
      have i := iadd_in hx hy ha hb ⟨h, a1, a2, a3⟩ ⟨k, b1, b2, b3⟩
      have d := fadd_fin_dir a1 b1
      exact (iok_iff (iadd_lt hx hy)).2 ⟨p.1, p.2.1, by omega, by omega, by omega⟩
/-! ### products -/
theorem imul_place {x y : Nat × Nat} (hx : Lt64 x) (hy : Lt64 y) (h : iok x = true) (k : iok y = true) :
    fnan (imul x y).1 = false ∧ fnan (imul x y).2 = false ∧ fplace (imul x y).1 = min (min (min (pmul3 x.1 y.1 1) (pmul3 x.1 y.2 1)) (pmul3 x.2 y.1 1)) (pmul3 x.2 y.2 1) ∧
    fplace (imul x y).2 = max (max (max (pmul3 x.1 y.1 2) (pmul3 x.1 y.2 2)) (pmul3 x.2 y.1 2)) (pmul3 x.2 y.2 2) := by
  obtain ⟨n1, n2, _⟩ := (iok_iff hx).1 h
  obtain ⟨m1, m2, _⟩ := (iok_iff hy).1 k
  have e : imul x y = icor fmul x y := by unfold imul; rw [h, k]; rfl
  rw [e]
  have p := @icor_place fmul x y (fun m => ⟨(fat_mul n1 m1 m).1, (fat_mul n1 m2 m).1, (fat_mul n2 m1 m).1, (fat_mul n2 m2 m).1⟩)
  refine ⟨p.1, p.2.1, ?_, ?_⟩
  · rw [p.2.2.1, (fat_mul n1 m1 1).2, (fat_mul n1 m2 1).2, (fat_mul n2 m1 1).2, (fat_mul n2 m2 1).2]
  · rw [p.2.2.2, (fat_mul n1 m1 2).2, (fat_mul n1 m2 2).2, (fat_mul n2 m1 2).2, (fat_mul n2 m2 2).2]
theorem pmul3_fin {a b : Nat} (ha : ffin a = true) (hb : ffin b = true) (m : Int) : pmul3 a b m = fplace (fround (nrm (fz a * fz b) (-1074 - ((1074 : Nat) : Int))) m) ∧ nrm (fz a * fz b) (-1074 - ((1074 : Nat) : Int)) ≠ none := by
  have v := (fmul_val ha hb).2
  rw [g1074] at v
  exact ⟨by unfold pmul3; rw [ha, hb]; rfl, v⟩
theorem pmul3_dir {a b : Nat} (ha : ffin a = true) (hb : ffin b = true) : pmul3 a b 1 < TT ∧ -TT < pmul3 a b 2 ∧ pmul3 a b 1 ≤ pmul3 a b 2 := by
  have p1 := pmul3_fin ha hb 1
  have p2 := pmul3_fin ha hb 2
  have d := fround_dir _ 1074 p1.2
  rw [p1.1, p2.1]
  exact ⟨d.1.1, d.2.1.1, d.2.2⟩
theorem imul_in {x y : Nat × Nat} {a b : Nat} (hx : Lt64 x) (hy : Lt64 y) (h : imem a x) (k : imem b y) :
    fplace (imul x y).1 ≤ pmul3 a b 1 ∧ pmul3 a b 2 ≤ fplace (imul x y).2 := by
  have p := imul_place hx hy h.1 k.1
  obtain ⟨n1, n2, _, _, na, _⟩ := mem_parts hx h
  obtain ⟨m1, m2, _, _, nb, _⟩ := mem_parts hy k
  have c1 := pmul3_corner 1 na nb n1 n2 m1 m2 h.2.2.1 h.2.2.2 k.2.2.1 k.2.2.2
  have c2 := pmul3_corner 2 na nb n1 n2 m1 m2 h.2.2.1 h.2.2.2 k.2.2.1 k.2.2.2
  rw [p.2.2.1, p.2.2.2]
  exact ⟨c1.1, c2.2⟩
theorem imul_ok {x y : Nat × Nat} (hx : Lt64 x) (hy : Lt64 y) : iok (imul x y) = true := by
  cases h : iok x with
  | false => unfold imul; rw [h]; exact iall_ok
  | true =>
    cases k : iok y with
    | false => unfold imul; rw [h, k]; exact iall_ok
    | true =>
      obtain ⟨a, ha, a1, a2, a3⟩ := iok_mem hx h
      obtain ⟨b, hb, b1, b2, b3⟩ := iok_mem hy k
      have p := imul_place hx hy h k
      have i := imul_in hx hy ⟨h, a1, a2, a3⟩ ⟨k, b1, b2, b3⟩
      have d := pmul3_dir a1 b1
      exact (iok_iff (imul_lt x y)).2 ⟨p.1, p.2.1, by omega, by omega, by omega⟩
/-! ### quotients -/
theorem izero_iff {x : Nat × Nat} (hx : Lt64 x) (h : iok x = true) : izero x = true ↔ fplace x.1 ≤ 0 ∧ 0 ≤ fplace x.2 := by
  obtain ⟨n1, n2, _⟩ := (iok_iff hx).1 h
  unfold izero
  rw [fless_place (by decide) n1, fless_place n2 (by decide), fplace_zero]
  simp
theorem idiv_place {x y : Nat × Nat} (hx : Lt64 x) (hy : Lt64 y) (h : iok x = true) (k : iok y = true) (hz : izero y = false) :
    fnan (idiv x y).1 = false ∧ fnan (idiv x y).2 = false ∧ fplace (idiv x y).1 = min (min (min (pdiv3 x.1 y.1 1) (pdiv3 x.1 y.2 1)) (pdiv3 x.2 y.1 1)) (pdiv3 x.2 y.2 1) ∧
    fplace (idiv x y).2 = max (max (max (pdiv3 x.1 y.1 2) (pdiv3 x.1 y.2 2)) (pdiv3 x.2 y.1 2)) (pdiv3 x.2 y.2 2) ∧ (0 < fplace y.1 ∨ fplace y.2 < 0) := by
  obtain ⟨n1, n2, _⟩ := (iok_iff hx).1 h
  obtain ⟨m1, m2, hy12, _⟩ := (iok_iff hy).1 k
  have hs : 0 < fplace y.1 ∨ fplace y.2 < 0 := by
    have := izero_iff hy k
    rw [hz] at this
    simp only [Bool.false_eq_true, false_iff] at this
    omega
  have e : idiv x y = icor fdiv x y := by unfold idiv; rw [h, k, hz]; rfl
  rw [e]
  have d1 : fplace y.1 ≠ 0 := by omega
  have d2 : fplace y.2 ≠ 0 := by omega
  have p := @icor_place fdiv x y (fun m => ⟨(fat_div n1 m1 d1 m).1, (fat_div n1 m2 d2 m).1, (fat_div n2 m1 d1 m).1, (fat_div n2 m2 d2 m).1⟩)
  refine ⟨p.1, p.2.1, ?_, ?_, hs⟩
  · rw [p.2.2.1, (fat_div n1 m1 d1 1).2, (fat_div n1 m2 d2 1).2, (fat_div n2 m1 d1 1).2, (fat_div n2 m2 d2 1).2]
  · rw [p.2.2.2, (fat_div n1 m1 d1 2).2, (fat_div n1 m2 d2 2).2, (fat_div n2 m1 d1 2).2, (fat_div n2 m2 d2 2).2]
/-- a quotient rounded downward and upward -/
theorem qv_dir {a b : Nat} (ha : ffin a = true) (hb : ffin b = true) (zb : fz b ≠ 0) : fplace (qv a b 1) < TT ∧ -TT < fplace (qv a b 2) ∧ fplace (qv a b 1) ≤ fplace (qv a b 2) ∧
    (ffin (qv a b 1) = true → (0 < fz b → fz (qv a b 1) * fz b ≤ fz a * 2 ^ 1074) ∧ (fz b < 0 → fz a * 2 ^ 1074 ≤ fz (qv a b 1) * fz b)) ∧
    (ffin (qv a b 2) = true → (0 < fz b → fz a * 2 ^ 1074 ≤ fz (qv a b 2) * fz b) ∧ (fz b < 0 → fz (qv a b 2) * fz b ≤ fz a * 2 ^ 1074)) := by
  by_cases za : fz a = 0
  · rw [qv_zero 1 hb zb za, qv_zero 2 hb zb za, za, Int.zero_mul, show fz 0 = 0 by decide, Int.zero_mul, fplace_zero]
    unfold TT
    exact ⟨by decide, by decide, Int.le_refl _, fun _ => ⟨fun _ => Int.le_refl _, fun _ => Int.le_refl _⟩, fun _ => ⟨fun _ => Int.le_refl _, fun _ => Int.le_refl _⟩⟩
  · obtain ⟨c, k1, k2⟩ := fquo_grid (fz a) (fz b) 1 za zb (fof_some ha) (fof_some hb)
    obtain ⟨c', k1', k2'⟩ := fquo_grid (fz a) (fz b) 2 za zb (fof_some ha) (fof_some hb)
    have pb : 0 < (fz b).natAbs := by omega
    obtain rfl := IsLo.uniq (cxQ_cx _ pb) k1 k1'
    clear k1'
    unfold qv
    rw [k2, k2']
    obtain ⟨D, hD⟩ : ∃ D : Nat, D = 2 ^ 1074 := ⟨_, rfl⟩
    have hI : (2 : Int) ^ 1074 = (D : Int) := by rw [hD]; exact (pow2_nat 1074).symm
    rw [← hD] at k1 ⊢
    rw [hI]
    clear hD hI
    clear k2 k2'
    have q1 := cmpI_ge.1 k1.1
    have q2 := cmpI_m1.1 k1.2
    clear k1
    have hz : cxQ ((fz a).natAbs * D) (fz b).natAbs (2 * fzN c) = 0 ↔ fzN c * (fz b).natAbs = (fz a).natAbs * D := by unfold cxQ; rw [cmpI_eq0, Nat.mul_assoc 2 (fzN c)]; omega
    obtain ⟨Z, hZ⟩ : ∃ Z, Z = decide (cxQ ((fz a).natAbs * D) (fz b).natAbs (2 * fzN c) = 0) := ⟨_, rfl⟩
    have a1 : ∀ s, awx s c (cxQ ((fz a).natAbs * D) (fz b).natAbs) 1 = (s && !Z) := fun s => by unfold awx; rw [hZ]; by_cases h : cxQ ((fz a).natAbs * D) (fz b).natAbs (2 * fzN c) = 0 <;> simp [h]
    have a2 : ∀ s, awx s c (cxQ ((fz a).natAbs * D) (fz b).natAbs) 2 = (!s && !Z) := fun s => by unfold awx; rw [hZ]; by_cases h : cxQ ((fz a).natAbs * D) (fz b).natAbs (2 * fzN c) = 0 <;> simp [h]
    have hzz : Z = true → fzN c * (fz b).natAbs = (fz a).natAbs * D := fun h => hz.1 (by rw [hZ] at h; simpa using h)
    rw [a1, a2]
    clear hz hZ a1 a2
    rw [Nat.mul_assoc] at q1 q2
    have q3 : fzN c * (fz b).natAbs ≤ (fz a).natAbs * D := by omega
    have q4 : (fz a).natAbs * D < fzN (c + 1) * (fz b).natAbs := by omega
    clear q1 q2
    obtain ⟨A, hA⟩ : ∃ A, A = (fz a).natAbs := ⟨_, rfl⟩
    obtain ⟨B, hB⟩ : ∃ B, B = (fz b).natAbs := ⟨_, rfl⟩
    rw [← hA, ← hB] at q3 q4 hzz
    -- the code rounded to zero (K) and away from zero (N)
    obtain ⟨K, hK⟩ : ∃ K, K = min c 9218868437227405311 := ⟨_, rfl⟩
    obtain ⟨N, hN⟩ : ∃ N, N = min (c + if (!Z) = true then 1 else 0) 9218868437227405312 := ⟨_, rfl⟩
    have cut1 : fcut false (c + if (false && !Z) = true then 1 else 0) 1 = K := by rw [(fcut_dir _).1, hK]; simp
    have cut2 : fcut false (c + if (!false && !Z) = true then 1 else 0) 2 = N := by rw [(fcut_dir _).2.1, hN]; simp
    have cut3 : fcut true (c + if (true && !Z) = true then 1 else 0) 1 = fsgn true N := by rw [(fcut_dir _).2.2.2.1, hN]; simp
    have cut4 : fcut true (c + if (!true && !Z) = true then 1 else 0) 2 = fsgn true K := by rw [(fcut_dir _).2.2.2.2.1, hK]; simp
    have lK : K < 9218868437227405312 := by omega
    have lN : N < 9223372036854775808 := by omega
    have vK : fzN K * B ≤ A * D := Nat.le_trans (Nat.mul_le_mul_right _ (fzN_le_iff.2 (by rw [hK]; exact Nat.min_le_left _ _))) q3
    have vN : N < 9218868437227405312 → A * D ≤ fzN N * B := fun h => by
      rw [hN] at h ⊢
      rw [Nat.min_eq_left (by omega)]
      cases Z with
      | true => simp only [Bool.not_true, Bool.false_eq_true, if_false, Nat.add_zero]; exact Nat.le_of_eq (hzz rfl).symm
      | false => simp only [Bool.not_false, if_true]; exact Nat.le_of_lt q4
    have hKN : K ≤ N := by
      rw [hK, hN]
      generalize (if (!Z) = true then (1 : Nat) else 0) = q
      have h1 := Nat.min_le_left c 9218868437227405311
      have h2 := Nat.min_le_right c 9218868437227405311
      exact Nat.le_min.2 ⟨by omega, by omega⟩
    have pl : ∀ q : Nat, q < 9223372036854775808 → fplace q = (q : Int) := fun q hq => by
      have hs : fS q = false := by unfold fS; simp; omega
      rw [fplace_eq, hs]; unfold fM; simp; omega
    have pn : ∀ q : Nat, q < 9223372036854775808 → fplace (fsgn true q) = -(q : Int) := fun q hq => by unfold fplace; rw [fS_fsgn hq, fM_fsgn hq]; rfl
    have mK : (fzN K : Int) * B ≤ (A : Int) * D := by rw [← Int.natCast_mul, ← Int.natCast_mul]; omega
    have mN : N < 9218868437227405312 → (A : Int) * D ≤ (fzN N : Int) * B := fun h => by have := vN h; rw [← Int.natCast_mul, ← Int.natCast_mul]; omega
    clear vK vN q3 q4 hzz
    have zN : ∀ {s}, ffin (fsgn s N) = true → N < 9218868437227405312 := fun {s} h => by unfold ffin at h; rw [fM_fsgn lN] at h; simpa using h
    have zN0 : ffin N = true → N < 9218868437227405312 := fun h => by unfold ffin fM at h; simp only [decide_eq_true_eq] at h; omega
    have fzneg : ∀ q : Nat, q < 9218868437227405312 → fz (fsgn true q) = -(fzN q : Int) := fun q hq => (fof_fsgn hq).2
    unfold TT
    rcases Int.lt_or_gt_of_ne za with h1 | h1 <;> rcases Int.lt_or_gt_of_ne zb with h2 | h2
    · have ea : fz a = -(A : Int) := by omega
      have eb : fz b = -(B : Int) := by omega
      rw [decide_eq_true h1, decide_eq_true h2, show (true != true) = false from rfl, cut1, cut2, pl K (by omega), pl N lN, ea, eb]
      refine ⟨by omega, by omega, by omega, fun _ => ⟨fun h => by omega, fun _ => ?_⟩, fun h => ⟨fun h => by omega, fun _ => ?_⟩⟩
      · rw [(fin_code lK).2, Int.mul_neg, Int.neg_mul]; omega
      · rw [(fin_code (zN0 h)).2, Int.mul_neg, Int.neg_mul]; have := mN (zN0 h); omega
    · have ea : fz a = -(A : Int) := by omega
      have eb : fz b = (B : Int) := by omega
      rw [decide_eq_true h1, decide_eq_false (show ¬ fz b < 0 by omega), show (true != false) = true from rfl, cut3, cut4, pn K (by omega), pn N lN, ea, eb]
      refine ⟨by omega, by omega, by omega, fun h => ⟨fun _ => ?_, fun h => by omega⟩, fun _ => ⟨fun _ => ?_, fun h => by omega⟩⟩
      · rw [fzneg N (zN h), Int.neg_mul, Int.neg_mul]; have := mN (zN h); omega
      · rw [fzneg K lK, Int.neg_mul, Int.neg_mul]; omega
    · have ea : fz a = (A : Int) := by omega
      have eb : fz b = -(B : Int) := by omega
      rw [decide_eq_false (show ¬ fz a < 0 by omega), decide_eq_true h2, show (false != true) = true from rfl, cut3, cut4, pn K (by omega), pn N lN, ea, eb]
      refine ⟨by omega, by omega, by omega, fun h => ⟨fun h => by omega, fun _ => ?_⟩, fun _ => ⟨fun h => by omega, fun _ => ?_⟩⟩
      · rw [fzneg N (zN h), Int.neg_mul_neg]; exact mN (zN h)
      · rw [fzneg K lK, Int.neg_mul_neg]; exact mK
    · have ea : fz a = (A : Int) := by omega
      have eb : fz b = (B : Int) := by omega
      rw [decide_eq_false (show ¬ fz a < 0 by omega), decide_eq_false (show ¬ fz b < 0 by omega), show (false != false) = false from rfl, cut1, cut2, pl K (by omega), pl N lN, ea, eb]
      refine ⟨by omega, by omega, by omega, fun _ => ⟨fun _ => ?_, fun h => by omega⟩, fun h => ⟨fun _ => ?_, fun h => by omega⟩⟩
      · rw [(fin_code lK).2]; exact mK
      · rw [(fin_code (zN0 h)).2]; exact mN (zN0 h)
theorem pdiv3_fin {a b : Nat} (ha : ffin a = true) (hb : ffin b = true) (m : Int) : pdiv3 a b m = fplace (qv a b m) := by unfold pdiv3; rw [ha, hb]; rfl
theorem pdiv3_dir {a b : Nat} (ha : ffin a = true) (hb : ffin b = true) (zb : fz b ≠ 0) : pdiv3 a b 1 < TT ∧ -TT < pdiv3 a b 2 ∧ pdiv3 a b 1 ≤ pdiv3 a b 2 := by
  have d := qv_dir ha hb zb
  rw [pdiv3_fin ha hb, pdiv3_fin ha hb]
  exact ⟨d.1, d.2.1, d.2.2.1⟩
theorem idiv_in {x y : Nat × Nat} {a b : Nat} (hx : Lt64 x) (hy : Lt64 y) (h : imem a x) (k : imem b y) (hz : izero y = false) :
    fplace (idiv x y).1 ≤ pdiv3 a b 1 ∧ pdiv3 a b 2 ≤ fplace (idiv x y).2 := by
  have p := idiv_place hx hy h.1 k.1 hz
  obtain ⟨n1, n2, _, _, na, _⟩ := mem_parts hx h
  obtain ⟨m1, m2, _, _, nb, _⟩ := mem_parts hy k
  have c1 := pdiv3_corner 1 na nb n1 n2 m1 m2 h.2.2.1 h.2.2.2 k.2.2.1 k.2.2.2 p.2.2.2.2
  have c2 := pdiv3_corner 2 na nb n1 n2 m1 m2 h.2.2.1 h.2.2.2 k.2.2.1 k.2.2.2 p.2.2.2.2
  rw [p.2.2.1, p.2.2.2.1]
  exact ⟨c1.1, c2.2⟩
theorem idiv_all {x y : Nat × Nat} (h : (iok x && iok y) = false ∨ izero y = true) : idiv x y = iall := by
  unfold idiv; rw [if_pos]; rcases h with h | h <;> rw [h] <;> simp
theorem idiv_ok {x y : Nat × Nat} (hx : Lt64 x) (hy : Lt64 y) : iok (idiv x y) = true := by
  cases h : iok x with
  | false => rw [idiv_all (Or.inl (by rw [h]; rfl))]; exact iall_ok
  | true =>
    cases k : iok y with
    | false => rw [idiv_all (Or.inl (by rw [h, k]; rfl))]; exact iall_ok
    | true =>
      cases hz : izero y with
      | true => rw [idiv_all (Or.inr hz)]; exact iall_ok
      | false =>
        obtain ⟨a, ha, a1, a2, a3⟩ := iok_mem hx h
        obtain ⟨b, hb, b1, b2, b3⟩ := iok_mem hy k
        have p := idiv_place hx hy h k hz
        have i := idiv_in hx hy ⟨h, a1, a2, a3⟩ ⟨k, b1, b2, b3⟩ hz
        have d := pdiv3_dir a1 b1 (fun h0 => by have := (fz_sign b).2.2.1 h0; have := p.2.2.2.2; omega)
        exact (iok_iff (idiv_lt x y)).2 ⟨p.1, p.2.1, by omega, by omega, by omega⟩
end Go.Proofs.YtakbappmkdaioaaGreatDoor

namespace Go.Proofs.YtakbappmkdaioaaGreatDoor
open Go.RowKit Sp
set_option linter.unusedSimpArgs false

/-! ### absolute values -/
theorem fabs_place {f : Nat} (h : fnan f = false) : fnan (fabs f) = false ∧ fplace (fabs f) = ((fplace f).natAbs : Int) := by
  have e : fabs f = fM f := by unfold fabs; rw [h]; rfl
  have hl := fM_lt f
  have e1 : fM (fM f) = fM f := by unfold fM; omega
  have s1 : fS (fM f) = false := by unfold fS; simp; omega
  rw [e]
  refine ⟨by unfold fnan at h ⊢; rw [e1]; exact h, ?_⟩
  rw [fplace_eq, fplace_eq, s1, e1]; simp only [Bool.false_eq_true, if_false]; split <;> omega
theorem imag_place {x : Nat × Nat} (hx : Lt64 x) (h : iok x = true) : fnan (imag x) = false ∧ fplace (imag x) = max ((fplace x.1).natAbs : Int) ((fplace x.2).natAbs : Int) := by
  obtain ⟨n1, n2, _⟩ := (iok_iff hx).1 h
  have a1 := fabs_place n1
  have a2 := fabs_place n2
  unfold imag; rw [h, if_pos rfl, fmax2_place a1.1 a2.1, a1.2, a2.2]
  exact ⟨fmax2_nan a1.1 a2.1, rfl⟩
theorem imig_place {x : Nat × Nat} (hx : Lt64 x) (h : iok x = true) : fnan (imig x) = false ∧ fplace (imig x) = if fplace x.1 ≤ 0 ∧ 0 ≤ fplace x.2 then 0 else min ((fplace x.1).natAbs : Int) ((fplace x.2).natAbs : Int) := by
  obtain ⟨n1, n2, _⟩ := (iok_iff hx).1 h
  have a1 := fabs_place n1
  have a2 := fabs_place n2
  have z := izero_iff hx h
  unfold imig; rw [h, if_pos rfl]
  by_cases hz : izero x = true
  · rw [if_pos hz, if_pos (z.1 hz)]; exact ⟨by decide, by decide⟩
  · rw [if_neg hz, if_neg (fun k => hz (z.2 k)), fmin2_place a1.1 a2.1, a1.2, a2.2]
    exact ⟨fmin2_nan a1.1 a2.1, rfl⟩
/-- mignitude and magnitude bound the absolute values of the elements -/
theorem mig_mag {x : Nat × Nat} {a : Nat} (hx : Lt64 x) (h : iok x = true) (_na : fnan a = false) (h1 : fplace x.1 ≤ fplace a) (h2 : fplace a ≤ fplace x.2) : fplace (imig x) ≤ ((fplace a).natAbs : Int) ∧ ((fplace a).natAbs : Int) ≤ fplace (imag x) := by
  have p := imag_place hx h
  have q := imig_place hx h
  rw [p.2, q.2]
  split <;> omega

/-! ### squares -/
theorem fmul_sq {f : Nat} (h : fnan f = false) (m : Int) : fnan (fmul f f m) = false ∧ fplace (fmul f f m) = pmul3 f f m := by
  have k : fnan (fmul f f m) = false := by
    have k := f_cases f
    rcases k with c | ⟨_, i, g, z⟩ | ⟨_, i, g⟩
    · rw [h] at c; cases c
    · unfold fmul; rw [h, i, z]; simp [(nan_sgn _).1]
    · have v := fmul_val g g
      unfold fmul; rw [h, i, v.1]
      have v2 := v.2
      rw [g1074] at v2
      have p := (fround_place _ 1074 m v2).1
      rw [← g1074] at p
      cases fzero f
      · simp [p]
      · simp [(nan_sgn _).2]
  have e := fat_mul h h m
  unfold fat at e
  rw [k] at e
  exact ⟨k, by simpa using e.2⟩
theorem isqr_place {x : Nat × Nat} (hx : Lt64 x) (h : iok x = true) : fnan (isqr x).1 = false ∧ fnan (isqr x).2 = false ∧ fplace (isqr x).1 = pmul3 (imig x) (imig x) 1 ∧ fplace (isqr x).2 = pmul3 (imag x) (imag x) 2 := by
  have p := imag_place hx h
  have q := imig_place hx h
  have e : isqr x = ires (fmul (imig x) (imig x) 1) (fmul (imag x) (imag x) 2) := by unfold isqr; rw [h]; rfl
  rw [e]
  have c1 := fplace_clean (fmul (imig x) (imig x) 1)
  have c2 := fplace_clean (fmul (imag x) (imag x) 2)
  have s1 := fmul_sq q.1 1
  have s2 := fmul_sq p.1 2
  exact ⟨c1.2.trans s1.1, c2.2.trans s2.1, c1.1.trans s1.2, c2.1.trans s2.2⟩
/-- squares of numbers that are not negative keep the order -/
theorem pmul3_sq {f g : Nat} (m : Int) (nf : fnan f = false) (ng : fnan g = false) (h0 : 0 ≤ fplace f) (h : fplace f ≤ fplace g) : pmul3 f f m ≤ pmul3 g g m := by
  have k1 := (pmul3_mono m nf ng nf h).1 h0
  have k2 := (pmul3_mono m nf ng ng h).1 (by omega)
  rw [pmul3_comm f g] at k2
  omega
theorem imig_nonneg {x : Nat × Nat} (hx : Lt64 x) (h : iok x = true) : 0 ≤ fplace (imig x) := by
  rw [(imig_place hx h).2]; split <;> omega
/-- the square of an element: by its absolute value -/
theorem pmul3_abs {a : Nat} (m : Int) (h : fnan a = false) : pmul3 (fabs a) (fabs a) m = pmul3 a a m := by
  have p := fabs_place h
  have f1 : ffin (fabs a) = ffin a := by
    rw [Bool.eq_iff_iff, place_fin h, place_fin p.1, p.2]; unfold TT; omega
  unfold pmul3
  rw [f1]
  cases hf : ffin a with
  | false =>
    simp only [Bool.and_self, Bool.false_eq_true, if_false]
    rw [p.2]; unfold sgI TT
    split <;> split <;> (try split) <;> (try split) <;> omega
  | true =>
    simp only [Bool.and_self, if_true]
    have hl := fM_lt a
    have e : fabs a = fM a := by unfold fabs; rw [h]; rfl
    have lt : fM a < 9218868437227405312 := by unfold ffin at hf; simpa using hf
    have e2 : fz (fabs a) = (fzN (fM a) : Int) := by rw [e]; exact (fin_code lt).2
    have e3 : fz (fabs a) * fz (fabs a) = fz a * fz a := by
      rw [e2]; unfold fz sgn; cases fS a
      · rfl
      · exact (Int.neg_mul_neg _ _).symm
    rw [e3]
theorem isqr_in {x : Nat × Nat} {a : Nat} (hx : Lt64 x) (h : iok x = true) (na : fnan a = false) (h1 : fplace x.1 ≤ fplace a) (h2 : fplace a ≤ fplace x.2) : fplace (isqr x).1 ≤ pmul3 a a 1 ∧ pmul3 a a 2 ≤ fplace (isqr x).2 := by
  have s := isqr_place hx h
  have p := imag_place hx h
  have q := imig_place hx h
  have b := mig_mag hx h na h1 h2
  have f := fabs_place na
  rw [s.2.2.1, s.2.2.2, ← pmul3_abs 1 na, ← pmul3_abs 2 na]
  exact ⟨pmul3_sq 1 q.1 f.1 (imig_nonneg hx h) (by rw [f.2]; exact b.1), pmul3_sq 2 f.1 p.1 (by rw [f.2]; omega) (by rw [f.2]; exact b.2)⟩
theorem isqr_ok {x : Nat × Nat} (hx : Lt64 x) : iok (isqr x) = true := by
  cases h : iok x with
  | false => unfold isqr; rw [h]; exact iall_ok
  | true =>
    obtain ⟨a, ha, a1, a2, a3⟩ := iok_mem hx h
    have p := isqr_place hx h
    have i := isqr_in hx h (fin_not a1).1 a2 a3
    have d := pmul3_dir a1 a1
    exact (iok_iff (isqr_lt x)).2 ⟨p.1, p.2.1, by omega, by omega, by omega⟩
/-- squares are products -/
theorem isqr_imul {x : Nat × Nat} (hx : Lt64 x) (h : iok x = true) : isubset (isqr x) (imul x x) = true := by
  obtain ⟨n1, n2, h12, _⟩ := (iok_iff hx).1 h
  have s := isqr_place hx h
  have p := imul_place hx hx h h
  have pm := imag_place hx h
  have qm := imig_place hx h
  have f1 := fabs_place n1
  have f2 := fabs_place n2
  refine (isubset_iff (isqr_lt _) (imul_lt _ _)).2 ⟨isqr_ok hx, imul_ok hx hx, ?_, ?_⟩
  · rw [s.2.2.1, p.2.2.1]
    by_cases hz : fplace x.1 ≤ 0 ∧ 0 ≤ fplace x.2
    · have k := (@pmul3_sign x.1 x.2 1).2.1 hz.1 hz.2
      have k2 := (@pmul3_sign (imig x) (imig x) 1).1 (imig_nonneg hx h) (imig_nonneg hx h)
      omega
    · rw [if_neg hz] at qm
      rcases Int.le_total ((fplace x.1).natAbs : Int) ((fplace x.2).natAbs : Int) with k | k
      · have := pmul3_sq 1 f1.1 qm.1 (by rw [f1.2]; omega) (by rw [f1.2, qm.2]; omega)
        rw [pmul3_abs 1 n1] at this; omega
      · have := pmul3_sq 1 f2.1 qm.1 (by rw [f2.2]; omega) (by rw [f2.2, qm.2]; omega)
        rw [pmul3_abs 1 n2] at this; omega
  · rw [s.2.2.2, p.2.2.2]
    rcases Int.le_total ((fplace x.1).natAbs : Int) ((fplace x.2).natAbs : Int) with k | k
    · have := pmul3_sq 2 pm.1 f2.1 (by rw [pm.2]; omega) (by rw [f2.2, pm.2]; omega)
      rw [pmul3_abs 2 n2] at this; omega
    · have := pmul3_sq 2 pm.1 f1.1 (by rw [pm.2]; omega) (by rw [f1.2, pm.2]; omega)
      rw [pmul3_abs 2 n1] at this; omega

/-! ### hulls and intersections -/
/-! ### IntervalPoints -/
/-! ### IntervalHolds -/
end Go.Proofs.YtakbappmkdaioaaGreatDoor

namespace Go.Proofs.YtakbappmkdaioaaGreatDoor
open Go.RowKit Sp
set_option linter.unusedSimpArgs false

/-! ### IntervalWhole -/
theorem dcmp_zero {f : Nat} (h : ffin f = true) : dcmp (fof f) (some (0, 0)) = cmpI (fz f) 0 ∧ dcmp (some (0, 0)) (fof f) = cmpI 0 (fz f) := by
  have e : (some (0, 0) : Option (Int × Int)) = nrm 0 (-1074) := (nrm_zero _).symm
  have v : nrm 0 (-1074) ≠ none := by rw [nrm_zero]; simp
  rw [e, fof_fin h]
  exact ⟨dcmp_nrm _ _ _ (fof_some h) v, dcmp_nrm _ _ _ v (fof_some h)⟩
theorem icont_zero {y : Nat × Nat} (hy : Lt64 y) (h : iok y = true) : icont y (some (0, 0)) = izero y := by
  obtain ⟨n1, n2, _, h2, h3⟩ := (iok_iff hy).1 h
  have z := izero_iff hy h
  have b1 := place_bound n1
  have b2 := place_bound n2
  rw [Bool.eq_iff_iff, z]
  unfold icont
  rw [h]
  simp only [dbad, Option.isNone_some, Bool.not_false, Bool.true_and, Bool.and_eq_true, Bool.or_eq_true, decide_eq_true_eq]
  have s1 := fz_sign y.1
  have s2 := fz_sign y.2
  constructor
  · rintro ⟨k1, k2⟩
    refine ⟨?_, ?_⟩
    · rcases k1 with k1 | k1
      · rw [(place_bot hy.1 n1).2 k1]; unfold TT; omega
      · by_cases hb : -TT < fplace y.1
        · rw [(dcmp_zero (fin_of n1 hb h2)).1] at k1; have := cmpI_le.1 k1; omega
        · unfold TT at *; omega
    · rcases k2 with k2 | k2
      · rw [(place_top hy.2 n2).2 k2]; unfold TT; omega
      · by_cases hb : fplace y.2 < TT
        · rw [(dcmp_zero (fin_of n2 h3 hb)).1] at k2; have := cmpI_ge.1 k2; omega
        · unfold TT at *; omega
  · rintro ⟨k1, k2⟩
    refine ⟨?_, ?_⟩
    · by_cases hb : -TT < fplace y.1
      · right; rw [(dcmp_zero (fin_of n1 hb h2)).1]; exact cmpI_le.2 (by omega)
      · left; exact (place_bot hy.1 n1).1 (by omega)
    · by_cases hb : fplace y.2 < TT
      · right; rw [(dcmp_zero (fin_of n2 h3 hb)).1]; exact cmpI_ge.2 (by omega)
      · left; exact (place_top hy.2 n2).1 (by omega)
/-! ### IntervalMiddle -/
theorem fround_self {f : Nat} (h : ffin f = true) (g : Nat) (m : Int) : fplace (fround (nrm (fz f * 2 ^ g) (-1074 - (g : Int))) m) = fplace f := by
  rw [← (fof_grid h g).1]
  by_cases h0 : fM f = 0
  · have z := fz_zero.2 h0
    rw [fof_fin h, z, fround_zero, fplace_zero, (fz_sign f).2.2.1 z]
  · rw [fof_fin h]
    have hlt : fM f < 9218868437227405312 := by unfold ffin at h; simpa using h
    have hab := fz_abs f
    have hz : fz f ≠ 0 := fun h' => h0 (fz_zero.1 h')
    rw [fround_exact hz hab hlt]
    have s := fz_sign f
    have p := place_sign f
    by_cases hn : fz f < 0
    · rw [decide_eq_true hn, fplace_eq, fplace_eq, fS_fsgn (by omega), fM_fsgn (by omega), p.1 (by omega)]
    · rw [decide_eq_false hn, fplace_eq, fplace_eq, fS_fsgn (by omega), fM_fsgn (by omega), p.2 (by omega)]
theorem g1 : (-1074 : Int) - 1 = -1074 - ((1 : Nat) : Int) := by decide
/-! ### IntervalUndone: sums -/
theorem undo_add_lo {x y1 y2 s : Nat} (hx : x < 18446744073709551616) (hy1 : y1 < 18446744073709551616) (hs : s < 18446744073709551616) (nx : fnan x = false) (n1 : fnan y1 = false) (n2 : fnan y2 = false) (ns : fnan s = false) (tx : fplace x < TT) (t1 : fplace y1 < TT) (t2 : -TT < fplace y2)
    (h12 : fplace y1 ≤ fplace y2) (es : fplace s = fplace (fadd x y1 1)) : fplace (fadd s (fneg y2) 1) ≤ fplace x := by
  have bx := place_bound nx
  have b2 := place_bound n2
  have nn := neg_place n2
  have na := fadd_lo_nan hx hy1 nx n1 (Or.inl ⟨tx, t1⟩) 1
  have bs := place_bound ns
  have ts : fplace s < TT := by
    rw [es]
    by_cases k1 : -TT < fplace x
    · by_cases k2 : -TT < fplace y1
      · exact (fadd_fin_dir (fin_of nx k1 tx) (fin_of n1 k2 t1)).1
      · have i : finf y1 = true := by rw [(place_bot hy1 n1).1 (by have := place_bound n1; omega)]; decide
        rw [fadd_infr (fin_not (fin_of nx k1 tx)).2 i na]; exact t1
    · have i : finf x = true := by rw [(place_bot hx nx).1 (by omega)]; decide
      rw [fadd_infl i na]; exact tx
  have ns2 := fadd_lo_nan hs (fneg_lt y2) ns nn.1 (Or.inl ⟨ts, by rw [nn.2]; omega⟩) 1
  by_cases k3 : -TT < fplace s
  · have fs := fin_of ns k3 ts
    by_cases k4 : fplace y2 < TT
    · have f2 := fin_of n2 t2 k4
      by_cases k1 : -TT < fplace x
      · have fx := fin_of nx k1 tx
        have f1 : ffin y1 = true := by
          by_cases k2 : -TT < fplace y1
          · exact fin_of n1 k2 t1
          · exfalso
            have i : finf y1 = true := by rw [(place_bot hy1 n1).1 (by have := place_bound n1; omega)]; decide
            rw [es, fadd_infr (fin_not fx).2 i na] at k3; exact k2 k3
        have q := fadd_fin_place fx f1 1
        have lo : fz s ≤ fz x + fz y1 := by
          rcases below_dir q.2.2 hs ns (by rw [es, q.2.1]; exact Int.le_refl _) with r | ⟨_, r⟩
          · rw [r] at fs; exact absurd fs (by decide)
          · simpa using r
        have f2n := fz_fneg f2
        have q2 := fadd_fin_place fs f2n.1 1
        have gx := fof_grid fx 0
        rw [q2.2.1, ← fround_self fx 0 1]
        refine fround_mono _ _ 0 1 q2.2.2 gx.2 ?_
        rw [f2n.2]
        have := fz_le.2 h12
        simp; omega
      · -- x is minus infinity: so is s
        exfalso
        have i : finf x = true := by rw [(place_bot hx nx).1 (by omega)]; decide
        rw [es, fadd_infl i na] at k3; exact k1 k3
    · have i : finf (fneg y2) = true := by
        have := (place_bot (fneg_lt y2) nn.1).1 (by rw [nn.2]; omega)
        rw [this]; decide
      rw [fadd_infr (fin_not fs).2 i ns2, nn.2]; omega
  · have i : finf s = true := by rw [(place_bot hs ns).1 (by omega)]; decide
    rw [fadd_infl i ns2]; omega
theorem undo_add_hi {x y1 y2 s : Nat} (hx : x < 18446744073709551616) (hy2 : y2 < 18446744073709551616) (hs : s < 18446744073709551616) (nx : fnan x = false) (n1 : fnan y1 = false) (n2 : fnan y2 = false) (ns : fnan s = false) (tx : -TT < fplace x) (t1 : fplace y1 < TT) (t2 : -TT < fplace y2)
    (h12 : fplace y1 ≤ fplace y2) (es : fplace s = fplace (fadd x y2 2)) : fplace x ≤ fplace (fadd s (fneg y1) 2) := by
  have bx := place_bound nx
  have b1 := place_bound n1
  have nn := neg_place n1
  have na := fadd_lo_nan hx hy2 nx n2 (Or.inr ⟨tx, t2⟩) 2
  have bs := place_bound ns
  have ts : -TT < fplace s := by
    rw [es]
    by_cases k1 : fplace x < TT
    · by_cases k2 : fplace y2 < TT
      · exact (fadd_fin_dir (fin_of nx tx k1) (fin_of n2 t2 k2)).2.1
      · have i : finf y2 = true := by rw [(place_top hy2 n2).1 (by have := place_bound n2; omega)]; decide
        rw [fadd_infr (fin_not (fin_of nx tx k1)).2 i na]; exact t2
    · have i : finf x = true := by rw [(place_top hx nx).1 (by omega)]; decide
      rw [fadd_infl i na]; exact tx
  have ns2 := fadd_lo_nan hs (fneg_lt y1) ns nn.1 (Or.inr ⟨ts, by rw [nn.2]; omega⟩) 2
  by_cases k3 : fplace s < TT
  · have fs := fin_of ns ts k3
    by_cases k4 : -TT < fplace y1
    · have f1 := fin_of n1 k4 t1
      by_cases k1 : fplace x < TT
      · have fx := fin_of nx tx k1
        have f2 : ffin y2 = true := by
          by_cases k2 : fplace y2 < TT
          · exact fin_of n2 t2 k2
          · exfalso
            have i : finf y2 = true := by rw [(place_top hy2 n2).1 (by have := place_bound n2; omega)]; decide
            rw [es, fadd_infr (fin_not fx).2 i na] at k3; exact k2 k3
        have q := fadd_fin_place fx f2 2
        have lo : fz x + fz y2 ≤ fz s := by
          rcases above_dir q.2.2 hs ns (by rw [es, q.2.1]; exact Int.le_refl _) with r | ⟨_, r⟩
          · rw [r] at fs; exact absurd fs (by decide)
          · simpa using r
        have f1n := fz_fneg f1
        have q2 := fadd_fin_place fs f1n.1 2
        have gx := fof_grid fx 0
        rw [q2.2.1, ← fround_self fx 0 2]
        refine fround_mono _ _ 0 2 gx.2 q2.2.2 ?_
        rw [f1n.2]
        have := fz_le.2 h12
        simp; omega
      · exfalso
        have i : finf x = true := by rw [(place_top hx nx).1 (by omega)]; decide
        rw [es, fadd_infl i na] at k3; exact k1 k3
    · have i : finf (fneg y1) = true := by
        have := (place_top (fneg_lt y1) nn.1).1 (by rw [nn.2]; omega)
        rw [this]; decide
      rw [fadd_infr (fin_not fs).2 i ns2, nn.2]; omega
  · have i : finf s = true := by rw [(place_top hs ns).1 (by omega)]; decide
    rw [fadd_infl i ns2]; omega
theorem undo_add {x y : Nat × Nat} (hx : Lt64 x) (hy : Lt64 y) (h : iok x = true) (k : iok y = true) : isubset x (isub (iadd x y) y) = true := by
  obtain ⟨n1, n2, h12, h2, h3⟩ := (iok_iff hx).1 h
  obtain ⟨m1, m2, k12, k2, k3⟩ := (iok_iff hy).1 k
  have ls := iadd_lt hx hy
  have oks := iadd_ok hx hy
  have p := iadd_place hx hy h k
  rw [isub_eq hy]
  have okn : iok (inegr y) = true := by rw [iok_inegr hy]; exact k
  have q := iadd_place ls (inegr_lt y) oks okn
  refine (isubset_iff hx (iadd_lt ls (inegr_lt y))).2 ⟨h, iadd_ok ls (inegr_lt y), ?_, ?_⟩
  · rw [q.2.2.1]
    exact undo_add_lo hx.1 hy.1 ls.1 n1 m1 m2 p.1 h2 k2 k3 k12 p.2.2.1
  · rw [q.2.2.2]
    exact undo_add_hi hx.2 hy.2 ls.2 n2 m1 m2 p.2.1 h3 k2 k3 k12 p.2.2.2

/-! ### IntervalUndone: quotients -/
theorem pmul3_inf {a b : Nat} (m : Int) (h : ffin a = false) : pmul3 a b m = sgI (fplace a) * sgI (fplace b) * TT := by unfold pmul3; rw [h]; rfl
theorem pdiv3_inf {a b : Nat} (m : Int) (h : ffin a = false) (hb : ffin b = true) : pdiv3 a b m = sgI (fplace a) * sgI (fplace b) * TT := by unfold pdiv3; rw [h, hb]; rfl
theorem not_fin_of {a : Nat} (h : fplace a = TT ∨ fplace a = -TT) : ffin a = false := by
  cases hf : ffin a with
  | false => rfl
  | true => have := fin_lt hf; omega
/-- a lower bound x of the dividend: the product of its quotient (q not above it, or not below, as b's sign is) and b is not above it -/
theorem undo_lo {x b q : Nat} (nx : fnan x = false) (nq : fnan q = false) (tx : fplace x < TT) (fb : ffin b = true) (hs : (0 < fplace b ∧ fplace q ≤ pdiv3 x b 1) ∨ (fplace b < 0 ∧ pdiv3 x b 2 ≤ fplace q)) : pmul3 q b 1 ≤ fplace x := by
  have bx := place_bound nx
  have bq := place_bound nq
  have sb := fz_sign b
  have zb : fz b ≠ 0 := by omega
  by_cases k1 : -TT < fplace x
  · have fx := fin_of nx k1 tx
    have d := qv_dir fx fb zb
    rw [pdiv3_fin fx fb, pdiv3_fin fx fb] at hs
    have gx := fof_grid fx 1074
    cases fq : ffin q with
    | false =>
      rw [pmul3_inf 1 fq]
      rcases inf_of nq fq with e | e
      · rcases hs with ⟨s1, s2⟩ | ⟨s1, s2⟩
        · omega
        · rw [e]; unfold sgI TT; rw [if_neg (by decide), if_pos (by decide), if_pos s1]; unfold TT at *; omega
      · rcases hs with ⟨s1, s2⟩ | ⟨s1, s2⟩
        · rw [e]; unfold sgI TT; rw [if_pos (by decide), if_neg (by omega), if_pos s1]; unfold TT at *; omega
        · omega
    | true =>
      have p := pmul3_fin fq fb 1
      rw [p.1, ← fround_self fx 1074 1]
      refine fround_mono _ _ 1074 1 p.2 gx.2 ?_
      rcases hs with ⟨s1, s2⟩ | ⟨s1, s2⟩
      · have fr := fin_of (qv_sign 1 fx fb zb).1 (by have := fin_lt fq; omega) d.1
        exact Int.le_trans (Int.mul_le_mul_of_nonneg_right (fz_le.2 s2) (by omega)) ((d.2.2.2.1 fr).1 (by omega))
      · have fr := fin_of (qv_sign 2 fx fb zb).1 d.2.1 (by have := fin_lt fq; omega)
        exact Int.le_trans (Int.mul_le_mul_of_nonpos_right (fz_le.2 s2) (by omega)) ((d.2.2.2.2 fr).2 (by omega))
  · have e : fplace x = -TT := by omega
    have nfx := not_fin_of (Or.inr e)
    rw [pdiv3_inf 1 nfx fb, pdiv3_inf 2 nfx fb, e] at hs
    have e2 : pmul3 q b 1 = -TT := by
      rcases hs with ⟨s1, s2⟩ | ⟨s1, s2⟩
      · have eq : fplace q = -TT := by
          have : sgI (-TT) * sgI (fplace b) * TT = -TT := by unfold sgI TT; rw [if_pos (by decide), if_neg (by omega), if_pos s1]; decide
          omega
        rw [pmul3_inf 1 (not_fin_of (Or.inr eq)), eq]; unfold sgI TT; rw [if_pos (by decide), if_neg (by omega), if_pos s1]; decide
      · have eq : fplace q = TT := by
          have : sgI (-TT) * sgI (fplace b) * TT = TT := by unfold sgI TT; rw [if_pos (by decide), if_pos s1]; decide
          omega
        rw [pmul3_inf 1 (not_fin_of (Or.inl eq)), eq]; unfold sgI TT; rw [if_neg (by decide), if_pos (by decide), if_pos s1]; decide
    omega
theorem undo_hi {x b q : Nat} (nx : fnan x = false) (nq : fnan q = false) (tx : -TT < fplace x) (fb : ffin b = true) (hs : (0 < fplace b ∧ pdiv3 x b 2 ≤ fplace q) ∨ (fplace b < 0 ∧ fplace q ≤ pdiv3 x b 1)) : fplace x ≤ pmul3 q b 2 := by
  have bx := place_bound nx
  have bq := place_bound nq
  have sb := fz_sign b
  have zb : fz b ≠ 0 := by omega
  by_cases k1 : fplace x < TT
  · have fx := fin_of nx tx k1
    have d := qv_dir fx fb zb
    rw [pdiv3_fin fx fb, pdiv3_fin fx fb] at hs
    have gx := fof_grid fx 1074
    cases fq : ffin q with
    | false =>
      rw [pmul3_inf 2 fq]
      rcases inf_of nq fq with e | e
      · rcases hs with ⟨s1, s2⟩ | ⟨s1, s2⟩
        · rw [e]; unfold sgI TT; rw [if_neg (by decide), if_pos (by decide), if_neg (by omega), if_pos s1]; unfold TT at *; omega
        · omega
      · rcases hs with ⟨s1, s2⟩ | ⟨s1, s2⟩
        · omega
        · rw [e]; unfold sgI TT; rw [if_pos (by decide), if_pos s1]; unfold TT at *; omega
    | true =>
      have p := pmul3_fin fq fb 2
      rw [p.1, ← fround_self fx 1074 2]
      refine fround_mono _ _ 1074 2 gx.2 p.2 ?_
      rcases hs with ⟨s1, s2⟩ | ⟨s1, s2⟩
      · have fr := fin_of (qv_sign 2 fx fb zb).1 d.2.1 (by have := fin_lt fq; omega)
        exact Int.le_trans ((d.2.2.2.2 fr).1 (by omega)) (Int.mul_le_mul_of_nonneg_right (fz_le.2 s2) (by omega))
      · have fr := fin_of (qv_sign 1 fx fb zb).1 (by have := fin_lt fq; omega) d.1
        exact Int.le_trans ((d.2.2.2.1 fr).2 (by omega)) (Int.mul_le_mul_of_nonpos_right (fz_le.2 s2) (by omega))
  · have e : fplace x = TT := by omega
    have nfx := not_fin_of (Or.inl e)
    rw [pdiv3_inf 1 nfx fb, pdiv3_inf 2 nfx fb, e] at hs
    have e2 : pmul3 q b 2 = TT := by
      rcases hs with ⟨s1, s2⟩ | ⟨s1, s2⟩
      · have eq : fplace q = TT := by
          have : sgI TT * sgI (fplace b) * TT = TT := by unfold sgI TT; rw [if_neg (by decide), if_pos (by decide), if_neg (by omega), if_pos s1]; decide
          omega
        rw [pmul3_inf 2 (not_fin_of (Or.inl eq)), eq]; unfold sgI TT; rw [if_neg (by decide), if_pos (by decide), if_neg (by omega), if_pos s1]; decide
      · have eq : fplace q = -TT := by
          have : sgI TT * sgI (fplace b) * TT = -TT := by unfold sgI TT; rw [if_neg (by decide), if_pos (by decide), if_pos s1]; decide
          omega
        rw [pmul3_inf 2 (not_fin_of (Or.inr eq)), eq]; unfold sgI TT; rw [if_pos (by decide), if_pos s1]; decide
    omega
theorem min4_le (a b c d : Int) : min (min (min a b) c) d ≤ a ∧ min (min (min a b) c) d ≤ b ∧ min (min (min a b) c) d ≤ c ∧ min (min (min a b) c) d ≤ d := by omega
theorem le_max4 (a b c d : Int) : a ≤ max (max (max a b) c) d ∧ b ≤ max (max (max a b) c) d ∧ c ≤ max (max (max a b) c) d ∧ d ≤ max (max (max a b) c) d := by omega
theorem TT_pos : -TT < 0 ∧ 0 < TT := by decide
theorem undo_div {x y : Nat × Nat} (hx : Lt64 x) (hy : Lt64 y) (h : iok x = true) (k : iok y = true) (hz : izero y = false) : isubset x (imul (idiv x y) y) = true := by
  obtain ⟨n1, n2, h12, h2, h3⟩ := (iok_iff hx).1 h
  obtain ⟨m1, m2, k12, k2, k3⟩ := (iok_iff hy).1 k
  have d := idiv_place hx hy h k hz
  have okd := idiv_ok hx hy
  have p := imul_place (idiv_lt x y) hy okd k
  have d1 := min4_le (pdiv3 x.1 y.1 1) (pdiv3 x.1 y.2 1) (pdiv3 x.2 y.1 1) (pdiv3 x.2 y.2 1)
  have d2 := le_max4 (pdiv3 x.1 y.1 2) (pdiv3 x.1 y.2 2) (pdiv3 x.2 y.1 2) (pdiv3 x.2 y.2 2)
  rw [← d.2.2.1] at d1
  rw [← d.2.2.2.1] at d2
  have p1 := min4_le (pmul3 (idiv x y).1 y.1 1) (pmul3 (idiv x y).1 y.2 1) (pmul3 (idiv x y).2 y.1 1) (pmul3 (idiv x y).2 y.2 1)
  have p2 := le_max4 (pmul3 (idiv x y).1 y.1 2) (pmul3 (idiv x y).1 y.2 2) (pmul3 (idiv x y).2 y.1 2) (pmul3 (idiv x y).2 y.2 2)
  rw [← p.2.2.1] at p1
  rw [← p.2.2.2] at p2
  have t := TT_pos
  refine (isubset_iff hx (imul_lt _ _)).2 ⟨h, imul_ok (idiv_lt x y) hy, ?_, ?_⟩
  · rcases d.2.2.2.2 with s | s
    · exact Int.le_trans p1.1 (undo_lo (x := x.1) (b := y.1) (q := (idiv x y).1) n1 d.1 h2 (fin_of m1 (Int.lt_trans t.1 s) k2) (Or.inl ⟨s, d1.1⟩))
    · exact Int.le_trans p1.2.2.2 (undo_lo (x := x.1) (b := y.2) (q := (idiv x y).2) n1 d.2.1 h2 (fin_of m2 k3 (Int.lt_trans s t.2)) (Or.inr ⟨s, d2.2.1⟩))
  · rcases d.2.2.2.2 with s | s
    · exact Int.le_trans (undo_hi (x := x.2) (b := y.1) (q := (idiv x y).2) n2 d.2.1 h3 (fin_of m1 (Int.lt_trans t.1 s) k2) (Or.inl ⟨s, d2.2.2.1⟩)) p2.2.2.1
    · exact Int.le_trans (undo_hi (x := x.2) (b := y.2) (q := (idiv x y).1) n2 d.1 h3 (fin_of m2 k3 (Int.lt_trans s t.2)) (Or.inr ⟨s, d1.2.2.2⟩)) p2.2.1

/-! ### IntervalUndone: roots of squares -/
theorem fsqrt_zero {f : Nat} (h : fzero f = true) (m : Int) : fsqrt f m = f := by
  have hn : fnan f = false := by unfold fzero at h; unfold fnan; simp at h ⊢; omega
  unfold fsqrt; rw [hn, h]; rfl
theorem fsqrt_inf (m : Int) : fsqrt fInf m = fInf := by
  unfold fsqrt; rw [show fnan fInf = false by decide]; simp
theorem fsqrt_pos {f : Nat} (hf : ffin f = true) (h : 0 < fplace f) (m : Int) : fsqrt f m = froot (nrm (fz f) (-1074)) m := by
  have k := fin_not hf
  have hz : fzero f = false := by
    cases hc : fzero f with
    | false => rfl
    | true => have := (zero_place f).1 hc; omega
  have hs := (place_sign f).2 h
  have hi : decide (f = fInf) = false := by
    rw [decide_eq_false_iff_not]; intro e; rw [e] at hf; exact absurd hf (by decide)
  unfold fsqrt; rw [k.1, hz, hi, hs, fof_fin hf]; rfl
theorem place_nat {q : Nat} (hq : q < 9223372036854775808) : fplace q = (q : Int) := by
  have hs : fS q = false := by unfold fS; simp; omega
  rw [fplace_eq, hs]; unfold fM; simp; omega
theorem sq_cancel {a b : Nat} (h : a * a ≤ b * b) : a ≤ b := by
  by_cases hc : a ≤ b
  · exact hc
  · exfalso
    have := Nat.mul_lt_mul'' (show b < a by omega) (show b < a by omega)
    omega
theorem fz_nonneg {g : Nat} (h : 0 ≤ fplace g) : fz g = (fzN (fM g) : Int) := by
  have s := fz_sign g
  have a := fz_abs g
  omega
theorem place_fM {g : Nat} (h : 0 ≤ fplace g) : fplace g = (fM g : Int) := by
  rw [fplace_eq] at h ⊢
  cases hs : fS g with
  | false => rfl
  | true => rw [hs, if_pos rfl] at h; rw [if_pos rfl]; omega
theorem sqrt_lo {f g : Nat} (hf : f < 18446744073709551616) (nf : fnan f = false) (ng : fnan g = false) (h0 : 0 ≤ fplace f) (hg : 0 ≤ fplace g) (h : fplace f ≤ pmul3 g g 1) : fnan (fsqrt f 1) = false ∧ fplace (fsqrt f 1) ≤ fplace g := by
  have bg := place_bound ng
  have bf := place_bound nf
  by_cases kz : fzero f = true
  · rw [fsqrt_zero kz]; exact ⟨nf, by rw [(zero_place f).1 kz]; exact hg⟩
  · have pf : 0 < fplace f := by have : ¬ fplace f = 0 := fun h => kz ((zero_place f).2 h); omega
    by_cases kg : fplace g < TT
    · have fg := fin_of ng (by unfold TT at *; omega) kg
      have p := pmul3_fin fg fg 1
      rw [p.1] at h
      have hb : ffin f = true ∧ fz f * 2 ^ 1074 ≤ fz g * fz g := by
        rcases below_dir p.2 hf nf h with e | e
        · exfalso; have := (place_bot hf nf).2 e; unfold TT at *; omega
        · exact e
      rw [fsqrt_pos hb.1 pf]
      have zf := fz_sign f
      obtain ⟨c, k1, k2⟩ := froot_grid (fz f) 1 (by omega) (fof_some hb.1)
      rw [(awx_dir c _).1] at k2
      rw [k2, (fcut_dir _).1]
      have q1 := cmpI_ge.1 k1.1
      have e1 := fz_nonneg hg
      have e2 : fz f = ((fz f).natAbs : Int) := by omega
      have hle := hb.2
      rw [e1, e2, ← pow2_nat, ← Int.natCast_mul, ← Int.natCast_mul] at hle
      have hsq : fzN c * fzN c ≤ fzN (fM g) * fzN (fM g) := by
        generalize (2 : Nat) ^ 1074 = D at q1 hle
        have sq : 2 * fzN c * (2 * fzN c) = 4 * (fzN c * fzN c) := by rw [Nat.mul_mul_mul_comm]
        rw [sq, Nat.mul_assoc] at q1
        omega
      have hc := fzN_le_iff.1 (sq_cancel hsq)
      have lt := fM_lt g
      simp only [Bool.false_eq_true, if_false, Nat.add_zero]
      have l2 : min c 9218868437227405311 < 9218868437227405312 := by omega
      refine ⟨(fin_not (fin_code l2).1).1, ?_⟩
      rw [place_nat (q := min c 9218868437227405311) (by omega), place_fM hg]; omega
    · have e : fplace g = TT := by omega
      rw [e]
      by_cases kf : fplace f < TT
      · have ff := fin_of nf (by unfold TT at *; omega) kf
        rw [fsqrt_pos ff pf]
        obtain ⟨c, k1, k2⟩ := froot_grid (fz f) 1 (by have := fz_sign f; omega) (fof_some ff)
        have nn : fnan (froot (nrm (fz f) (-1074)) 1) = false := by rw [k2]; exact fcut_nan _ _ _
        exact ⟨nn, (place_bound nn).2⟩
      · have ef := (place_top hf nf).1 (by omega)
        rw [ef, fsqrt_inf]; exact ⟨by decide, by decide⟩
theorem sqrt_hi {f g : Nat} (hf : f < 18446744073709551616) (nf : fnan f = false) (ng : fnan g = false) (hg : 0 ≤ fplace g) (h : pmul3 g g 2 ≤ fplace f) : fnan (fsqrt f 2) = false ∧ fplace g ≤ fplace (fsqrt f 2) := by
  have bg := place_bound ng
  have bf := place_bound nf
  have s0 := (@pmul3_sign g g 2).1 hg hg
  by_cases kf : fplace f < TT
  · have ff := fin_of nf (by unfold TT at *; omega) kf
    have fg : ffin g = true := by
      by_cases kg : fplace g < TT
      · exact fin_of ng (by unfold TT at *; omega) kg
      · exfalso
        have e : fplace g = TT := by omega
        rw [pmul3_inf 2 (not_fin_of (Or.inl e)), e] at h
        have : sgI TT * sgI TT * TT = TT := by decide
        omega
    have p := pmul3_fin fg fg 2
    rw [p.1] at h
    have hb : fz g * fz g ≤ fz f * 2 ^ 1074 := by
      rcases above_dir p.2 hf nf h with e | e
      · exfalso; have := (place_top hf nf).2 e; omega
      · exact e.2
    have e1 := fz_nonneg hg
    by_cases kz : fzero f = true
    · rw [fsqrt_zero kz, (zero_place f).1 kz]
      refine ⟨nf, ?_⟩
      have z0 := (fz_sign f).2.2.2 ((zero_place f).1 kz)
      rw [z0, Int.zero_mul, e1, ← Int.natCast_mul] at hb
      have h0 : fzN (fM g) * fzN (fM g) ≤ fzN 0 * fzN 0 := by rw [fzN_zero]; omega
      have := fzN_le_iff.1 (sq_cancel h0)
      rw [place_fM hg]; omega
    · have pf : 0 < fplace f := by have : ¬ fplace f = 0 := fun h => kz ((zero_place f).2 h); omega
      rw [fsqrt_pos ff pf]
      have zf := fz_sign f
      obtain ⟨c, k1, k2⟩ := froot_grid (fz f) 2 (by omega) (fof_some ff)
      rw [(awx_dir c _).2] at k2
      have nn : fnan (froot (nrm (fz f) (-1074)) 2) = false := by rw [k2]; exact fcut_nan _ _ _
      refine ⟨nn, ?_⟩
      rw [k2, (fcut_dir _).2.1]
      have q1 := cmpI_ge.1 k1.1
      have q2 := cmpI_m1.1 k1.2
      have hz : cxR (fz f).natAbs (2 * fzN c) = 0 ↔ ((4 * (fz f).natAbs * 2 ^ 1074 : Nat) : Int) = ((2 * fzN c * (2 * fzN c) : Nat) : Int) := by unfold cxR; exact cmpI_eq0
      have e2 : fz f = ((fz f).natAbs : Int) := by omega
      rw [e1, e2, ← pow2_nat, ← Int.natCast_mul, ← Int.natCast_mul] at hb
      generalize (2 : Nat) ^ 1074 = D at q1 q2 hb hz
      have sq : ∀ x : Nat, 2 * x * (2 * x) = 4 * (x * x) := by intro x; rw [Nat.mul_mul_mul_comm]
      rw [sq, Nat.mul_assoc] at q1 q2 hz
      have lt := fM_lt g
      have lg : fM g < 9218868437227405312 := by unfold ffin at fg; simpa using fg
      obtain ⟨N, hN⟩ : ∃ N, N = c + (if (if cxR (fz f).natAbs (2 * fzN c) = 0 then false else true) = true then 1 else 0) := ⟨_, rfl⟩
      rw [← hN]
      have hsq : fzN (fM g) * fzN (fM g) ≤ fzN N * fzN N := by
        rw [hN]
        by_cases hh : cxR (fz f).natAbs (2 * fzN c) = 0
        · simp only [hh, if_true, Bool.false_eq_true, if_false, Nat.add_zero]
          have := hz.1 hh; omega
        · simp only [hh, if_false, if_true]; omega
      have hc := fzN_le_iff.1 (sq_cancel hsq)
      clear hN hz q1 q2
      rw [place_nat (q := min N 9218868437227405312) (by omega), place_fM hg]; omega
  · have ef := (place_top hf nf).1 (by omega)
    rw [ef, fsqrt_inf]; exact ⟨by decide, bg.2⟩
theorem undo_sqrt {x : Nat × Nat} (hx : Lt64 x) (h : iok x = true) (h0 : 0 ≤ fplace x.1) : isubset x (isqrt (isqr x)) = true := by
  obtain ⟨n1, n2, h12, h2, h3⟩ := (iok_iff hx).1 h
  have ls := isqr_lt x
  have oks := isqr_ok hx
  have s := isqr_place hx h
  have pm := imag_place hx h
  have qm := imig_place hx h
  have em : fplace (imag x) = fplace x.2 := by rw [pm.2]; omega
  have eq : fplace (imig x) = fplace x.1 := by rw [qm.2]; split <;> omega
  have z1 := (@pmul3_sign (imig x) (imig x) 1).1 (by omega) (by omega)
  have z2 := (@pmul3_sign (imag x) (imag x) 2).1 (by omega) (by omega)
  have hl : fless (isqr x).2 0 = false := by rw [fless_place s.2.1 (by decide), fplace_zero]; simp; omega
  have mx := fmax2_place s.1 (show fnan 0 = false by decide)
  have mn := fmax2_nan s.1 (show fnan 0 = false by decide)
  rw [fplace_zero] at mx
  have e : isqrt (isqr x) = ires (fsqrt (fmax2 (isqr x).1 0) 1) (fsqrt (isqr x).2 2) := by unfold isqrt; rw [oks, hl]; rfl
  have lo := sqrt_lo (fmax2_lt ls.1 (by decide)) mn qm.1 (by omega) (by omega) (by rw [mx, s.2.2.1]; omega)
  have hi := sqrt_hi ls.2 s.2.1 pm.1 (by omega) (by rw [s.2.2.2]; exact Int.le_refl _)
  have l1 := fsqrt_lt' (fmax2_lt ls.1 (show 0 < 18446744073709551616 by decide)) 1
  have l2 := fsqrt_lt' ls.2 2
  have c1 := fplace_clean (fsqrt (fmax2 (isqr x).1 0) 1)
  have c2 := fplace_clean (fsqrt (isqr x).2 2)
  have okr : iok (isqrt (isqr x)) = true := by rw [e]; exact iok_res l1 l2 lo.1 hi.1 (by omega) (by omega) (by omega)
  refine (isubset_iff hx (isqrt_lt ls)).2 ⟨h, okr, ?_, ?_⟩
  · rw [e]; show fplace (fclean _) ≤ _; rw [c1.1]; omega
  · rw [e]; show _ ≤ fplace (fclean _); rw [c2.1]; omega

end Go.Proofs.YtakbappmkdaioaaGreatDoor

namespace Go.Proofs.YtakbappmkdaioaaGreatDoor
open Go.RowKit Sp
set_option linter.unusedSimpArgs false

theorem isN_00 : IsN (some (0, 0)) := by
  have h := isN_nrm 0 0
  rwa [show nrm 0 0 = some (0, 0) by decide] at h
end Go.Proofs.YtakbappmkdaioaaGreatDoor

