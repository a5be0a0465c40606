/-
  Plain law: relations, midpoints, radii, magnitudes of intervals as the reference reads them are the program's. No program in sight.
  Plain law: sums, products, quotients, squares, roots and hulls of intervals as the reference computes them are the program's. No program in sight.
-/
import Derived.Test.YtgicceiimciafaaGreatDoorZeIP
namespace Go.Proofs.YtgicceiimciafaaGreatDoor
open Go.RowKit Sp
set_option linter.unusedSimpArgs false
def nsg (i : Int) (d : Option (Int × Int)) : Int := if i ≠ 0 then i else sg (dman d)
noncomputable def nrnd (i : Int) (d : Option (Int × Int)) (m : Int) : Nat := if i = 1 then fInf else if i = -1 then fNInf else fclean (fround d m)
theorem nrnd_of {f : Nat} (hf : f < 18446744073709551616) (nf : fnan f = false) (m : Int) : nrnd (nin f) (nof f) m = fclean f := by
 unfold nrnd
 rcases bound_cases hf nf with ⟨i, p⟩ | ⟨i, p⟩ | ⟨i, e, ff, _, _⟩
 · have := (place_top hf nf).1 p; subst this; rw [i, if_pos rfl]; decide
 · have := (place_bot hf nf).1 p; subst this; rw [i, if_neg (by decide), if_pos rfl]; decide
 · rw [i, e, if_neg (by decide), if_neg (by decide)]
   by_cases h0 : fM f = 0
   · rw [fof_fin ff, fz_zero.2 h0, fround_zero]
     have : f = 0 ∨ f = 9223372036854775808 := by unfold fM at h0; omega
     rcases this with h | h <;> subst h <;> decide
   · rw [fround_of hf ff h0]
theorem dman_sgn {M E : Int} (h : nrm M E ≠ none) : (dman (nrm M E) < 0 ↔ M < 0) ∧ (0 < dman (nrm M E) ↔ 0 < M) := by
 have h0 : nrm 0 E = some (0, 0) := nrm_zero E
 have v0 : nrm 0 E ≠ none := by rw [h0]; simp
 have c1 := dcmp_nrm M 0 E h v0
 rw [h0] at c1
 cases k : nrm M E with
 | none => exact absurd k h
 | some p =>
  obtain ⟨m, e⟩ := p
  rw [k] at c1
  have e1 : dcmp (some (m, e)) (some (0, 0)) = cmpI (up m e (min e 0)) (up 0 0 (min e 0)) := rfl
  rw [e1] at c1
  have hp : (0 : Int) < 2 ^ (e - min e 0).toNat := Int.pow_pos (by decide)
  have e2 : up 0 0 (min e 0) = 0 := by unfold up; exact Int.zero_mul _
  rw [e2] at c1
  unfold up at c1
  show (m < 0 ↔ M < 0) ∧ (0 < m ↔ 0 < M)
  have g1 := @cmpI_neg_iff (m * 2 ^ (e - min e 0).toNat) 0
  have g2 := @cmpI_pos_iff (m * 2 ^ (e - min e 0).toNat) 0
  have g3 := @cmpI_neg_iff M 0
  have g4 := @cmpI_pos_iff M 0
  rw [c1] at g1 g2
  refine ⟨?_, ?_⟩
  · rw [← g3, g1]
    constructor
    · intro h; exact Int.mul_neg_of_neg_of_pos h hp
    · intro h
      by_cases hm : m < 0
      · exact hm
      · exact absurd h (Int.not_lt.2 (Int.mul_nonneg (by omega) (Int.le_of_lt hp)))
  · rw [← g4, g2]
    constructor
    · intro h; exact Int.mul_pos h hp
    · intro h
      by_cases hm : 0 < m
      · exact hm
      · exact absurd h (Int.not_lt.2 (Int.mul_nonpos_of_nonpos_of_nonneg (by omega) (Int.le_of_lt hp)))
theorem nsg_of {f : Nat} (hf : f < 18446744073709551616) (nf : fnan f = false) : (nsg (nin f) (nof f) ≤ 0 ↔ fplace f ≤ 0) ∧ (0 ≤ nsg (nin f) (nof f) ↔ 0 ≤ fplace f) := by
 have t := TT_pos
 unfold nsg
 rcases bound_cases hf nf with ⟨i, p⟩ | ⟨i, p⟩ | ⟨i, e, ff, _, _⟩
 · rw [i, p, if_pos (by decide)]; constructor <;> constructor <;> intro h <;> omega
 · rw [i, p, if_pos (by decide)]; constructor <;> constructor <;> intro h <;> omega
 · rw [i, e, if_neg (by decide), fof_fin ff]
   have d := dman_sgn (fof_some ff)
   have z := fz_sign f
   rcases sg_cases (dman (nrm (fz f) (-1074))) with ⟨s, q⟩ | ⟨s, q⟩ | ⟨s, q⟩ <;> rw [s] <;> constructor <;> constructor <;> intro h <;> omega
set_option linter.unusedSimpArgs false
def Cl (f : Nat) : Prop := f < 18446744073709551616 ∧ f ≠ 9223372036854775808
theorem cl_clean {f : Nat} (h : f < 18446744073709551616) : Cl (fclean f) := by unfold Cl fclean; split <;> omega
theorem cl_ext {f g : Nat} (hf : Cl f) (hg : Cl g) (h : fplace f = fplace g) : f = g := by
 have e1 := fsgn_self hf.1
 have e2 := fsgn_self hg.1
 have n1 := hf.2
 have n2 := hg.2
 have z : fsgn true 0 = 9223372036854775808 := by decide
 rw [fplace_eq, fplace_eq] at h
 cases s1 : fS f <;> cases s2 : fS g <;> rw [s1, s2] at h <;> rw [s1] at e1 <;> rw [s2] at e2
 · have h' : (fM f : Int) = (fM g : Int) := h
   rw [← e1, ← e2, Int.ofNat.inj h']
 · have h' : (fM f : Int) = -(fM g : Int) := h
   have : fM g = 0 := by omega
   rw [this, z] at e2; exact absurd e2.symm n2
 · have h' : -(fM f : Int) = (fM g : Int) := h
   have : fM f = 0 := by omega
   rw [this, z] at e1; exact absurd e1.symm n1
 · have h' : -(fM f : Int) = -(fM g : Int) := h
   rw [← e1, ← e2, show fM f = fM g by omega]
def Clp (x : Nat × Nat) : Prop := Cl x.1 ∧ Cl x.2
theorem clp_res {a b : Nat} (ha : a < 18446744073709551616) (hb : b < 18446744073709551616) : Clp (ires a b) := ⟨cl_clean ha, cl_clean hb⟩
theorem clp_all : Clp iall := ⟨⟨by decide, by decide⟩, ⟨by decide, by decide⟩⟩
theorem clp_ext {x y : Nat × Nat} (hx : Clp x) (hy : Clp y) (h1 : fplace x.1 = fplace y.1) (h2 : fplace x.2 = fplace y.2) : x = y := Prod.ext (cl_ext hx.1 hy.1 h1) (cl_ext hx.2 hy.2 h2)
theorem fplace_fInf : fplace fInf = TT := by decide
theorem fplace_fNInf : fplace fNInf = -TT := by decide
def nb (f : Nat) : Int × Option (Int × Int) := (nin f, nof f)
def n00 : Int × Option (Int × Int) := (0, some (0, 0))
def nsum (p q : Int × Option (Int × Int)) : Int × Option (Int × Int) := if p.1 ≠ 0 then p else if q.1 ≠ 0 then q else (0, dadd p.2 q.2)
def nprod (p q : Int × Option (Int × Int)) : Int × Option (Int × Int) :=
 if nsg p.1 p.2 * nsg q.1 q.2 ≠ 0 ∧ (p.1 ≠ 0 ∨ q.1 ≠ 0) then (nsg p.1 p.2 * nsg q.1 q.2, some (0, 0)) else if nsg p.1 p.2 * nsg q.1 q.2 = 0 then n00 else (0, dmul p.2 q.2)
def nmin (p q : Int × Option (Int × Int)) : Int × Option (Int × Int) := if nless q.1 q.2 p.1 p.2 then q else p
def nmax (p q : Int × Option (Int × Int)) : Int × Option (Int × Int) := if nless p.1 p.2 q.1 q.2 then q else p
noncomputable def nout (p q : Int × Option (Int × Int)) : Nat × Nat := (nrnd p.1 p.2 1, nrnd q.1 q.2 2)
noncomputable def npl (p : Int × Option (Int × Int)) (m : Int) : Int := fplace (nrnd p.1 p.2 m)
theorem cl_nrnd (i : Int) (d : Option (Int × Int)) (m : Int) : Cl (nrnd i d m) := by
 unfold nrnd
 split
 · exact ⟨by decide, by decide⟩
 · split
   · exact ⟨by decide, by decide⟩
   · exact cl_clean (fround_lt' _ _)
theorem clp_out (p q : Int × Option (Int × Int)) : Clp (nout p q) := ⟨cl_nrnd _ _ _, cl_nrnd _ _ _⟩
theorem npl_top (d : Option (Int × Int)) (m : Int) : npl (1, d) m = TT := by unfold npl nrnd; rw [if_pos rfl, fplace_fInf]
theorem npl_bot (d : Option (Int × Int)) (m : Int) : npl (-1, d) m = -TT := by unfold npl nrnd; rw [if_neg (show ¬ ((-1 : Int) = 1) by decide), if_pos rfl, fplace_fNInf]
theorem npl_fin (d : Option (Int × Int)) (m : Int) : npl (0, d) m = fplace (fround d m) := by unfold npl nrnd; rw [if_neg (show ¬ ((0 : Int) = 1) by decide), if_neg (show ¬ ((0 : Int) = -1) by decide), (fplace_clean _).1]
theorem npl_zero (m : Int) : npl n00 m = 0 := by
 have := fround_zero 0 m
 rw [show nrm 0 0 = some (0, 0) by decide] at this
 unfold n00; rw [npl_fin, this, fplace_zero]
def Gr (p : Int × Option (Int × Int)) : Prop := (∃ d, p = (1, d)) ∨ (∃ d, p = (-1, d)) ∨ ∃ M : Int, p = (0, nrm M (-1074 - ((1074 : Nat) : Int))) ∧ nrm M (-1074 - ((1074 : Nat) : Int)) ≠ none
theorem gr_zero : Gr n00 := Or.inr (Or.inr ⟨0, by rw [nrm_zero]; rfl, by rw [nrm_zero]; simp⟩)
theorem gr_bound {p : Int × Option (Int × Int)} (h : Gr p) (m : Int) : -TT ≤ npl p m ∧ npl p m ≤ TT := by
 have t := TT_pos
 rcases h with ⟨d, rfl⟩ | ⟨d, rfl⟩ | ⟨M, rfl, h⟩
 · rw [npl_top]; omega
 · rw [npl_bot]; omega
 · rw [npl_fin]; exact place_bound (fround_place M 1074 m h).1
theorem less_npl {p q : Int × Option (Int × Int)} (hp : Gr p) (hq : Gr q) (m : Int) : (nless p.1 p.2 q.1 q.2 = true → npl p m ≤ npl q m) ∧ (nless p.1 p.2 q.1 q.2 = false → npl q m ≤ npl p m) := by
 have t := TT_pos
 have b1 := gr_bound hp m
 have b2 := gr_bound hq m
 unfold nless
 rcases hp with ⟨d, rfl⟩ | ⟨d, rfl⟩ | ⟨M, rfl, h⟩ <;> rcases hq with ⟨e, rfl⟩ | ⟨e, rfl⟩ | ⟨N, rfl, k⟩
 · rw [npl_top, npl_top]; exact ⟨fun _ => Int.le_refl _, fun _ => Int.le_refl _⟩
 · rw [npl_top, npl_bot]; exact ⟨fun h => absurd h (by show ¬ decide ((1 : Int) < -1) = true; decide), fun _ => by omega⟩
 · rw [npl_top] at b1 ⊢; exact ⟨fun h => absurd h (by show ¬ decide ((1 : Int) < 0) = true; decide), fun _ => b2.2⟩
 · rw [npl_top, npl_bot]; exact ⟨fun _ => by omega, fun h => absurd h (by show ¬ decide ((-1 : Int) < 1) = false; decide)⟩
 · rw [npl_bot, npl_bot]; exact ⟨fun _ => Int.le_refl _, fun _ => Int.le_refl _⟩
 · rw [npl_bot] at b1 ⊢; exact ⟨fun _ => b2.1, fun h => absurd h (by show ¬ decide ((-1 : Int) < 0) = false; decide)⟩
 · rw [npl_top] at b2 ⊢; exact ⟨fun _ => b1.2, fun h => absurd h (by show ¬ decide ((0 : Int) < 1) = false; decide)⟩
 · rw [npl_bot] at b2 ⊢; exact ⟨fun h => absurd h (by show ¬ decide ((0 : Int) < -1) = true; decide), fun _ => b1.1⟩
 · rw [if_neg (show ¬ ((0 : Int) != 0 || (0 : Int) != 0) = true by decide)]
   show (decide (dcmp (nrm M _) (nrm N _) < 0) = true → _) ∧ (decide (dcmp (nrm M _) (nrm N _) < 0) = false → _)
   rw [dcmp_nrm _ _ _ h k, npl_fin, npl_fin, decide_eq_true_eq, decide_eq_false_iff_not]
   have g := @cmpI_neg_iff M N
   exact ⟨fun c => fround_mono M N 1074 m h k (by have := g.1 c; omega), fun c => fround_mono N M 1074 m k h (by have : ¬ M < N := fun q => c (g.2 q); omega)⟩
theorem nmin_pl {p q : Int × Option (Int × Int)} (hp : Gr p) (hq : Gr q) : Gr (nmin p q) ∧ ∀ m, npl (nmin p q) m = min (npl p m) (npl q m) := by
 unfold nmin
 cases h : nless q.1 q.2 p.1 p.2 with
 | true => exact ⟨hq, fun m => by have := (less_npl hq hp m).1 h; show npl q m = _; omega⟩
 | false => exact ⟨hp, fun m => by have := (less_npl hq hp m).2 h; show npl p m = _; omega⟩
theorem nmax_pl {p q : Int × Option (Int × Int)} (hp : Gr p) (hq : Gr q) : Gr (nmax p q) ∧ ∀ m, npl (nmax p q) m = max (npl p m) (npl q m) := by
 unfold nmax
 cases h : nless p.1 p.2 q.1 q.2 with
 | true => exact ⟨hq, fun m => by have := (less_npl hp hq m).1 h; show npl q m = _; omega⟩
 | false => exact ⟨hp, fun m => by have := (less_npl hp hq m).2 h; show npl p m = _; omega⟩
def nlo4 (a b c d : Int × Option (Int × Int)) : Int × Option (Int × Int) := nmin (nmin (nmin a b) c) d
def nhi4 (a b c d : Int × Option (Int × Int)) : Int × Option (Int × Int) := nmax (nmax (nmax a b) c) d
theorem nlo4_pl {a b c d : Int × Option (Int × Int)} (ha : Gr a) (hb : Gr b) (hc : Gr c) (hd : Gr d) (m : Int) : npl (nlo4 a b c d) m = min (min (min (npl a m) (npl b m)) (npl c m)) (npl d m) := by
 have h1 := nmin_pl ha hb
 have h2 := nmin_pl h1.1 hc
 have h3 := nmin_pl h2.1 hd
 unfold nlo4; rw [h3.2, h2.2, h1.2]
theorem nhi4_pl {a b c d : Int × Option (Int × Int)} (ha : Gr a) (hb : Gr b) (hc : Gr c) (hd : Gr d) (m : Int) : npl (nhi4 a b c d) m = max (max (max (npl a m) (npl b m)) (npl c m)) (npl d m) := by
 have h1 := nmax_pl ha hb
 have h2 := nmax_pl h1.1 hc
 have h3 := nmax_pl h2.1 hd
 unfold nhi4; rw [h3.2, h2.2, h1.2]
theorem gr_nb {f : Nat} (hf : f < 18446744073709551616) (nf : fnan f = false) : Gr (nb f) ∧ ∀ m, npl (nb f) m = fplace f := by
 refine ⟨?_, fun m => ?_⟩
 · unfold nb
   rcases bound_cases hf nf with ⟨i, p⟩ | ⟨i, p⟩ | ⟨i, e, ff, _, _⟩
   · rw [i]; exact Or.inl ⟨_, rfl⟩
   · rw [i]; exact Or.inr (Or.inl ⟨_, rfl⟩)
   · obtain ⟨g1, g2⟩ := fof_grid ff 1074
     rw [i, e, g1]; exact Or.inr (Or.inr ⟨_, rfl, g2⟩)
 · show fplace (nrnd (nin f) (nof f) m) = _
   rw [nrnd_of hf nf m, (fplace_clean f).1]
theorem nsg_val {f : Nat} (hf : f < 18446744073709551616) (nf : fnan f = false) : nsg (nin f) (nof f) = sgI (fplace f) := by
 have t := TT_pos
 have s := nsg_of hf nf
 have r : nsg (nin f) (nof f) = -1 ∨ nsg (nin f) (nof f) = 0 ∨ nsg (nin f) (nof f) = 1 := by
  unfold nsg
  rcases bound_cases hf nf with ⟨i, p⟩ | ⟨i, p⟩ | ⟨i, e, ff, _, _⟩
  · rw [i]; right; right; rfl
  · rw [i]; left; rfl
  · rw [i, if_neg (by decide)]; exact cmpI_range _ _
 unfold sgI
 split
 · omega
 · split <;> omega
theorem sgI_cases (v : Int) : (sgI v = -1 ∧ v < 0) ∨ (sgI v = 0 ∧ v = 0) ∨ (sgI v = 1 ∧ 0 < v) := by
 unfold sgI; split
 · left; exact ⟨rfl, by assumption⟩
 · split
   · right; right; exact ⟨rfl, by assumption⟩
   · right; left; exact ⟨rfl, by omega⟩
theorem nprod_pl {a b : Nat} (ha : a < 18446744073709551616) (hb : b < 18446744073709551616) (na : fnan a = false) (nb' : fnan b = false) :
 Gr (nprod (nb a) (nb b)) ∧ ∀ m, npl (nprod (nb a) (nb b)) m = pmul3 a b m := by
 have ea : nsg (nb a).1 (nb a).2 = sgI (fplace a) := nsg_val ha na
 have eb : nsg (nb b).1 (nb b).2 = sgI (fplace b) := nsg_val hb nb'
 have za := fz_sign a
 have zb := fz_sign b
 unfold nprod
 rw [ea, eb]
 by_cases hs : sgI (fplace a) * sgI (fplace b) = 0
 · rw [if_neg (fun h => h.1 hs), if_pos hs]
   refine ⟨gr_zero, fun m => ?_⟩
   rw [npl_zero]
   unfold pmul3
   split
   · have hz : fz a * fz b = 0 := by
      rcases sgI_cases (fplace a) with ⟨s, q⟩ | ⟨s, q⟩ | ⟨s, q⟩ <;> rcases sgI_cases (fplace b) with ⟨s', q'⟩ | ⟨s', q'⟩ | ⟨s', q'⟩ <;> rw [s, s'] at hs <;>
       first | (exact absurd hs (by decide)) | (rw [za.2.2.2 q, Int.zero_mul]) | (rw [zb.2.2.2 q', Int.mul_zero])
     rw [hz, fround_zero, fplace_zero]
   · rw [hs, Int.zero_mul]
 · by_cases hf : (ffin a && ffin b) = true
   · have fa : ffin a = true := by revert hf; cases ffin a <;> simp
     have fb : ffin b = true := by revert hf; cases ffin b <;> simp
     have ia : nin a = 0 ∧ nof a = fof a := by
      have := fin_lt fa
      rcases bound_cases ha na with ⟨i, p⟩ | ⟨i, p⟩ | ⟨i, e, _⟩
      · omega
      · omega
      · exact ⟨i, e⟩
     have ib : nin b = 0 ∧ nof b = fof b := by
      have := fin_lt fb
      rcases bound_cases hb nb' with ⟨i, p⟩ | ⟨i, p⟩ | ⟨i, e, _⟩
      · omega
      · omega
      · exact ⟨i, e⟩
     have v := fmul_val fa fb
     rw [if_neg (fun h => by rcases h.2 with q | q; exact q ia.1; exact q ib.1), if_neg hs]
     show Gr (0, dmul (nof a) (nof b)) ∧ ∀ m, npl (0, dmul (nof a) (nof b)) m = _
     rw [ia.2, ib.2, v.1, g1074]
     rw [g1074] at v
     refine ⟨Or.inr (Or.inr ⟨_, rfl, v.2⟩), fun m => ?_⟩
     rw [npl_fin]; unfold pmul3; rw [if_pos hf]
   · have hi : (nb a).1 ≠ 0 ∨ (nb b).1 ≠ 0 := by
      rcases not_fin hf with k | k
      · left; show nin a ≠ 0
        rcases bound_cases ha na with ⟨i, p⟩ | ⟨i, p⟩ | ⟨i, e, f, _⟩
        · omega
        · omega
        · rw [k] at f; cases f
      · right; show nin b ≠ 0
        rcases bound_cases hb nb' with ⟨i, p⟩ | ⟨i, p⟩ | ⟨i, e, f, _⟩
        · omega
        · omega
        · rw [k] at f; cases f
     rw [if_pos ⟨hs, hi⟩]
     have hp : ∀ m, pmul3 a b m = sgI (fplace a) * sgI (fplace b) * TT := fun m => by unfold pmul3; rw [if_neg hf]
     rcases sgI_cases (fplace a) with ⟨s, q⟩ | ⟨s, q⟩ | ⟨s, q⟩ <;> rcases sgI_cases (fplace b) with ⟨s', q'⟩ | ⟨s', q'⟩ | ⟨s', q'⟩ <;> rw [s, s'] at hs hp ⊢
     all_goals first
      | (exact absurd rfl hs)
      | (refine ⟨Or.inl ⟨_, rfl⟩, fun m => ?_⟩; rw [hp]; show npl (1, _) m = 1 * TT; rw [npl_top, Int.one_mul]; done)
      | (refine ⟨Or.inr (Or.inl ⟨_, rfl⟩), fun m => ?_⟩; rw [hp]; show npl (-1, _) m = -1 * TT; rw [npl_bot, Int.neg_mul, Int.one_mul]; done)
theorem nsum_pl {a b : Nat} (ha : a < 18446744073709551616) (hb : b < 18446744073709551616) (na : fnan a = false) (nb' : fnan b = false)
 (h : (fplace a < TT ∧ fplace b < TT) ∨ (-TT < fplace a ∧ -TT < fplace b)) (m : Int) : npl (nsum (nb a) (nb b)) m = fplace (fadd a b m) := by
 have n := fadd_lo_nan ha hb na nb' h m
 have pa := (gr_nb ha na).2 m
 have pb := (gr_nb hb nb').2 m
 unfold nsum
 rcases f_cases a with c | ⟨_, i, _, _⟩ | ⟨_, i, fa⟩
 · rw [na] at c; cases c
 · have : (nb a).1 ≠ 0 := by
    show nin a ≠ 0
    rcases bound_cases ha na with ⟨k, p⟩ | ⟨k, p⟩ | ⟨k, e, f, _⟩
    · omega
    · omega
    · rw [(fin_not f).2] at i; cases i
   rw [if_pos this, pa, fadd_infl i n]
 · have ia : nin a = 0 ∧ nof a = fof a := by
    have := fin_lt fa
    rcases bound_cases ha na with ⟨i, p⟩ | ⟨i, p⟩ | ⟨i, e, _⟩
    · omega
    · omega
    · exact ⟨i, e⟩
   rw [if_neg (fun h => h ia.1)]
   rcases f_cases b with c | ⟨_, j, _, _⟩ | ⟨_, j, fb⟩
   · rw [nb'] at c; cases c
   · have : (nb b).1 ≠ 0 := by
      show nin b ≠ 0
      rcases bound_cases hb nb' with ⟨k, p⟩ | ⟨k, p⟩ | ⟨k, e, f, _⟩
      · omega
      · omega
      · rw [(fin_not f).2] at j; cases j
     rw [if_pos this, pb, fadd_infr i j n]
   · have ib : nin b = 0 ∧ nof b = fof b := by
      have := fin_lt fb
      rcases bound_cases hb nb' with ⟨i, p⟩ | ⟨i, p⟩ | ⟨i, e, _⟩
      · omega
      · omega
      · exact ⟨i, e⟩
     rw [if_neg (fun h => h ib.1)]
     show npl (0, dadd (nof a) (nof b)) m = _
     rw [ia.2, ib.2, npl_fin, (fadd_val fa fb).1, (fadd_fin_place fa fb m).2.1]
     rfl
noncomputable def raddI (x y : Nat × Nat) : Nat × Nat := if iok x && iok y then nout (nsum (nb x.1) (nb y.1)) (nsum (nb x.2) (nb y.2)) else iall
theorem clp_iadd {x y : Nat × Nat} (hx : Lt64 x) (hy : Lt64 y) : Clp (iadd x y) := by
 unfold iadd; split
 · exact clp_res (fadd_lt' hx.1 hy.1 _) (fadd_lt' hx.2 hy.2 _)
 · exact clp_all
theorem raddI_eq {x y : Nat × Nat} (hx : Lt64 x) (hy : Lt64 y) : raddI x y = iadd x y := by
 cases h : iok x with
 | false => unfold raddI iadd; rw [h]; rfl
 | true =>
  cases k : iok y with
  | false => unfold raddI iadd; rw [h, k]; rfl
  | true =>
   obtain ⟨n1, n2, _, h2, h3⟩ := (iok_iff hx).1 h
   obtain ⟨m1, m2, _, k2, k3⟩ := (iok_iff hy).1 k
   obtain ⟨_, _, p1, p2⟩ := iadd_place hx hy h k
   have e : raddI x y = nout (nsum (nb x.1) (nb y.1)) (nsum (nb x.2) (nb y.2)) := by unfold raddI; rw [h, k]; rfl
   refine clp_ext (by rw [e]; exact clp_out _ _) (clp_iadd hx hy) ?_ ?_
   · rw [e, p1]; exact nsum_pl hx.1 hy.1 n1 m1 (Or.inl ⟨h2, k2⟩) 1
   · rw [e, p2]; exact nsum_pl hx.2 hy.2 n2 m2 (Or.inr ⟨h3, k3⟩) 2
theorem fadd_clean {a b : Nat} {m : Int} (n : fnan (fadd a b m) = false) : fplace (fadd a (fclean b) m) = fplace (fadd a b m) := by
 by_cases hb : b = 9223372036854775808
 · obtain ⟨na, _, _⟩ := fadd_nan n
   have fb : ffin b = true := by rw [hb]; decide
   have zb := fz_clean b
   have fb' : ffin (fclean b) = true := zb.2.trans fb
   rcases f_cases a with c | ⟨_, i, _, _⟩ | ⟨_, i, fa⟩
   · rw [na] at c; cases c
   · rw [fadd_infl i n]
     have : fnan (fadd a (fclean b) m) = false := by
      unfold fadd; rw [na, (fin_not fb').1, (fin_not fb').2, i]; simp [na]
     rw [fadd_infl i this]
   · rw [(fadd_fin_place fa fb' m).2.1, (fadd_fin_place fa fb m).2.1, zb.1]
 · unfold fclean; rw [if_neg hb]
theorem iok_ineg {y : Nat × Nat} (hy : Lt64 y) : iok (ineg y) = true := by
 unfold ineg
 cases k : iok y with
 | false => exact iall_ok
 | true =>
  obtain ⟨n1, n2, h1, h2, h3⟩ := (iok_iff hy).1 k
  have q1 := neg_place n1
  have q2 := neg_place n2
  exact iok_res (fneg_lt _) (fneg_lt _) q2.1 q1.1 (by rw [q1.2, q2.2]; omega) (by rw [q2.2]; omega) (by rw [q1.2]; omega)
noncomputable def rsubI (x y : Nat × Nat) : Nat × Nat := if iok x && iok y then raddI x (ineg y) else iall
theorem rsubI_eq {x y : Nat × Nat} (hx : Lt64 x) (hy : Lt64 y) : rsubI x y = isub x y := by
 cases h : iok x with
 | false => unfold rsubI isub; rw [h]; rfl
 | true =>
  cases k : iok y with
  | false => unfold rsubI isub; rw [h, k]; rfl
  | true =>
   have e : rsubI x y = raddI x (ineg y) := by unfold rsubI; rw [h, k]; rfl
   have en : ineg y = ires (fneg y.2) (fneg y.1) := by unfold ineg; rw [k]; rfl
   have ln : Lt64 (ineg y) := by rw [en]; exact ires_lt (fneg_lt _) (fneg_lt _)
   rw [e, raddI_eq hx ln, isub_eq hy]
   have okn := iok_ineg hy
   have okr : iok (inegr y) = true := by rw [iok_inegr hy]; exact k
   obtain ⟨_, _, p1, p2⟩ := iadd_place hx ln h okn
   obtain ⟨r1, r2, q1, q2⟩ := iadd_place hx (inegr_lt y) h okr
   have c1 := fplace_clean (fadd x.1 (inegr y).1 1)
   have c2 := fplace_clean (fadd x.2 (inegr y).2 2)
   have ei : iadd x (inegr y) = ires (fadd x.1 (inegr y).1 1) (fadd x.2 (inegr y).2 2) := by unfold iadd; rw [h, okr]; rfl
   rw [ei] at r1 r2
   refine clp_ext (clp_iadd hx ln) (clp_iadd hx (inegr_lt y)) ?_ ?_
   · rw [p1, q1, en]; exact fadd_clean (c1.2.symm.trans r1)
   · rw [p2, q2, en]; exact fadd_clean (c2.2.symm.trans r2)
noncomputable def rmulI (x y : Nat × Nat) : Nat × Nat :=
 if iok x && iok y then nout (nlo4 (nprod (nb x.1) (nb y.1)) (nprod (nb x.1) (nb y.2)) (nprod (nb x.2) (nb y.1)) (nprod (nb x.2) (nb y.2))) (nhi4 (nprod (nb x.1) (nb y.1)) (nprod (nb x.1) (nb y.2)) (nprod (nb x.2) (nb y.1)) (nprod (nb x.2) (nb y.2))) else iall
theorem clp_cor {op : Nat → Nat → Int → Nat} (h : ∀ a b m, op a b m < 18446744073709551616) (x y : Nat × Nat) : Clp (icor op x y) := by
 have l := fun a b m => fat_lt op h a b m
 exact clp_res (fmin2_lt (fmin2_lt (fmin2_lt (l _ _ _) (l _ _ _)) (l _ _ _)) (l _ _ _)) (fmax2_lt (fmax2_lt (fmax2_lt (l _ _ _) (l _ _ _)) (l _ _ _)) (l _ _ _))
theorem rmulI_eq {x y : Nat × Nat} (hx : Lt64 x) (hy : Lt64 y) : rmulI x y = imul x y := by
 cases h : iok x with
 | false => unfold rmulI imul; rw [h]; rfl
 | true =>
  cases k : iok y with
  | false => unfold rmulI imul; rw [h, k]; rfl
  | true =>
   obtain ⟨n1, n2, _⟩ := (iok_iff hx).1 h
   obtain ⟨m1, m2, _⟩ := (iok_iff hy).1 k
   have p := imul_place hx hy h k
   have q11 := nprod_pl hx.1 hy.1 n1 m1
   have q12 := nprod_pl hx.1 hy.2 n1 m2
   have q21 := nprod_pl hx.2 hy.1 n2 m1
   have q22 := nprod_pl hx.2 hy.2 n2 m2
   have e : rmulI x y = nout (nlo4 (nprod (nb x.1) (nb y.1)) (nprod (nb x.1) (nb y.2)) (nprod (nb x.2) (nb y.1)) (nprod (nb x.2) (nb y.2))) (nhi4 (nprod (nb x.1) (nb y.1)) (nprod (nb x.1) (nb y.2)) (nprod (nb x.2) (nb y.1)) (nprod (nb x.2) (nb y.2))) := by
    unfold rmulI; rw [h, k]; rfl
   have ei : imul x y = icor fmul x y := by unfold imul; rw [h, k]; rfl
   refine clp_ext (by rw [e]; exact clp_out _ _) (by rw [ei]; exact clp_cor fmul_lt' x y) ?_ ?_
   · rw [e, p.2.2.1]
     refine (nlo4_pl q11.1 q12.1 q21.1 q22.1 1).trans ?_
     rw [q11.2, q12.2, q21.2, q22.2]
   · rw [e, p.2.2.2]
     refine (nhi4_pl q11.1 q12.1 q21.1 q22.1 2).trans ?_
     rw [q11.2, q12.2, q21.2, q22.2]
noncomputable def rhullI (x y : Nat × Nat) : Nat × Nat := if iok x && iok y then nout (nlo4 (nb x.1) (nb x.2) (nb y.1) (nb y.2)) (nhi4 (nb x.1) (nb x.2) (nb y.1) (nb y.2)) else iall
theorem clp_hull {x y : Nat × Nat} (hx : Lt64 x) (hy : Lt64 y) : Clp (ihull x y) := by
 unfold ihull; split
 · exact clp_res (fmin2_lt hx.1 hy.1) (fmax2_lt hx.2 hy.2)
 · exact clp_all
theorem rhullI_eq {x y : Nat × Nat} (hx : Lt64 x) (hy : Lt64 y) : rhullI x y = ihull x y := by
 cases h : iok x with
 | false => unfold rhullI ihull; rw [h]; rfl
 | true =>
  cases k : iok y with
  | false => unfold rhullI ihull; rw [h, k]; rfl
  | true =>
   obtain ⟨n1, n2, h1, _⟩ := (iok_iff hx).1 h
   obtain ⟨m1, m2, k1, _⟩ := (iok_iff hy).1 k
   have p := ihull_place hx hy h k
   have e : rhullI x y = nout (nlo4 (nb x.1) (nb x.2) (nb y.1) (nb y.2)) (nhi4 (nb x.1) (nb x.2) (nb y.1) (nb y.2)) := by unfold rhullI; rw [h, k]; rfl
   have g1 := gr_nb hx.1 n1
   have g2 := gr_nb hx.2 n2
   have g3 := gr_nb hy.1 m1
   have g4 := gr_nb hy.2 m2
   refine clp_ext (by rw [e]; exact clp_out _ _) (clp_hull hx hy) ?_ ?_
   · rw [e, p.2.1]
     refine (nlo4_pl g1.1 g2.1 g3.1 g4.1 1).trans ?_
     rw [g1.2, g2.2, g3.2, g4.2]; omega
   · rw [e, p.2.2]
     refine (nhi4_pl g1.1 g2.1 g3.1 g4.1 2).trans ?_
     rw [g1.2, g2.2, g3.2, g4.2]; omega
noncomputable def rsqrI (x : Nat × Nat) : Nat × Nat :=
 if iok x then nout (if nsg (nin x.1) (nof x.1) ≤ 0 ∧ 0 ≤ nsg (nin x.2) (nof x.2) then n00 else nlo4 (nprod (nb x.1) (nb x.1)) (nprod (nb x.2) (nb x.2)) (nprod (nb x.1) (nb x.1)) (nprod (nb x.2) (nb x.2)))
  (nhi4 (nprod (nb x.1) (nb x.1)) (nprod (nb x.2) (nb x.2)) (nprod (nb x.1) (nb x.1)) (nprod (nb x.2) (nb x.2))) else iall
theorem pmul3_place {f g : Nat} (m : Int) (nf : fnan f = false) (ng : fnan g = false) (h : (fplace f).natAbs = (fplace g).natAbs) : pmul3 f f m = pmul3 g g m := by
 rw [← pmul3_abs m nf, ← pmul3_abs m ng]
 obtain ⟨a1, p1⟩ := fabs_place nf
 obtain ⟨a2, p2⟩ := fabs_place ng
 have l1 := pmul3_sq m a1 a2 (by omega) (by omega)
 have l2 := pmul3_sq m a2 a1 (by omega) (by omega)
 omega
theorem pmul3_le {f g : Nat} (m : Int) (nf : fnan f = false) (ng : fnan g = false) (h : (fplace f).natAbs ≤ (fplace g).natAbs) : pmul3 f f m ≤ pmul3 g g m := by
 rw [← pmul3_abs m nf, ← pmul3_abs m ng]
 obtain ⟨a1, p1⟩ := fabs_place nf
 obtain ⟨a2, p2⟩ := fabs_place ng
 exact pmul3_sq m a1 a2 (by omega) (by omega)
theorem rsqrI_eq {x : Nat × Nat} (hx : Lt64 x) : rsqrI x = isqr x := by
 cases h : iok x with
 | false => unfold rsqrI isqr; rw [h]; rfl
 | true =>
  obtain ⟨n1, n2, h1, _⟩ := (iok_iff hx).1 h
  have p := isqr_place hx h
  have g := imag_place hx h
  have i := imig_place hx h
  have q1 := nprod_pl hx.1 hx.1 n1 n1
  have q2 := nprod_pl hx.2 hx.2 n2 n2
  have s1 := (nsg_of hx.1 n1).1
  have s2 := (nsg_of hx.2 n2).2
  have ei : isqr x = ires (fmul (imig x) (imig x) 1) (fmul (imag x) (imag x) 2) := by unfold isqr; rw [h]; rfl
  have cl : Clp (isqr x) := by rw [ei]; exact clp_res (fmul_lt' _ _ _) (fmul_lt' _ _ _)
  have e : rsqrI x = nout (if nsg (nin x.1) (nof x.1) ≤ 0 ∧ 0 ≤ nsg (nin x.2) (nof x.2) then n00 else nlo4 (nprod (nb x.1) (nb x.1)) (nprod (nb x.2) (nb x.2)) (nprod (nb x.1) (nb x.1)) (nprod (nb x.2) (nb x.2)))
   (nhi4 (nprod (nb x.1) (nb x.1)) (nprod (nb x.2) (nb x.2)) (nprod (nb x.1) (nb x.1)) (nprod (nb x.2) (nb x.2))) := by unfold rsqrI; rw [h]; rfl
  refine clp_ext (by rw [e]; exact clp_out _ _) cl ?_ ?_
  · rw [e, p.2.2.1]
    show npl (if _ then n00 else nlo4 _ _ _ _) 1 = _
    by_cases c : fplace x.1 ≤ 0 ∧ 0 ≤ fplace x.2
    · rw [if_pos ⟨s1.2 c.1, s2.2 c.2⟩, npl_zero]
      have z : fplace (imig x) = 0 := by rw [i.2, if_pos c]
      have := pmul3_place 1 i.1 (show fnan 0 = false by decide) (by rw [z, fplace_zero])
      rw [this]; unfold pmul3
      rw [if_pos (by decide), show fz 0 * fz 0 = 0 by rw [fz_zero.2 (by decide), Int.zero_mul], fround_zero, fplace_zero]
    · rw [if_neg (fun k => c ⟨s1.1 k.1, s2.1 k.2⟩)]
      refine (nlo4_pl q1.1 q2.1 q1.1 q2.1 1).trans ?_
      rw [q1.2, q2.2]
      have z : fplace (imig x) = min ((fplace x.1).natAbs : Int) ((fplace x.2).natAbs : Int) := by rw [i.2, if_neg c]
      rcases Nat.le_total (fplace x.1).natAbs (fplace x.2).natAbs with l | l
      · have a1 := pmul3_le 1 n1 n2 l
        have a2 := pmul3_place 1 i.1 n1 (by omega)
        omega
      · have a1 := pmul3_le 1 n2 n1 l
        have a2 := pmul3_place 1 i.1 n2 (by omega)
        omega
  · rw [e, p.2.2.2]
    refine (nhi4_pl q1.1 q2.1 q1.1 q2.1 2).trans ?_
    rw [q1.2, q2.2]
    rcases Nat.le_total (fplace x.1).natAbs (fplace x.2).natAbs with l | l
    · have a1 := pmul3_le 2 n1 n2 l
      have a2 := pmul3_place 2 g.1 n2 (by have := g.2; omega)
      omega
    · have a1 := pmul3_le 2 n2 n1 l
      have a2 := pmul3_place 2 g.1 n1 (by have := g.2; omega)
      omega
noncomputable def nquo (p q : Int × Option (Int × Int)) (m : Int) : Nat :=
 if q.1 ≠ 0 then 0 else if p.1 ≠ 0 ∧ 0 < nsg p.1 p.2 * nsg q.1 q.2 then fInf else if p.1 ≠ 0 then fNInf else fclean (fquo p.2 q.2 m)
noncomputable def rdivP (x y : Nat × Nat) : Nat × Nat :=
 (if 0 ≤ nsg (nin x.1) (nof x.1) then nquo (nb x.1) (nb y.2) 1 else nquo (nb x.1) (nb y.1) 1, if 0 ≤ nsg (nin x.2) (nof x.2) then nquo (nb x.2) (nb y.1) 2 else nquo (nb x.2) (nb y.2) 2)
noncomputable def rdivI (x y : Nat × Nat) : Nat × Nat :=
 if iok x && iok y then (if nsg (nin y.1) (nof y.1) ≤ 0 ∧ 0 ≤ nsg (nin y.2) (nof y.2) then iall else if nsg (nin y.2) (nof y.2) < 0 then rdivP (ineg x) (ineg y) else rdivP x y) else iall
theorem cl_nquo (p q : Int × Option (Int × Int)) (m : Int) : Cl (nquo p q m) := by
 unfold nquo
 repeat' split
 · exact ⟨by decide, by decide⟩
 · exact ⟨by decide, by decide⟩
 · exact ⟨by decide, by decide⟩
 · exact cl_clean (fquo_lt' _ _ _)
theorem nquo_pl {a b : Nat} (ha : a < 18446744073709551616) (hb : b < 18446744073709551616) (na : fnan a = false) (nb' : fnan b = false) (hp : 0 < fplace b) (m : Int) : fplace (nquo (nb a) (nb b) m) = pdiv3 a b m := by
 have t := TT_pos
 have ea : nsg (nb a).1 (nb a).2 = sgI (fplace a) := nsg_val ha na
 have eb : nsg (nb b).1 (nb b).2 = sgI (fplace b) := nsg_val hb nb'
 unfold nquo pdiv3
 rw [ea, eb]
 rcases bound_cases hb nb' with ⟨j, q⟩ | ⟨j, q⟩ | ⟨j, e, fb, _⟩
 · rw [if_pos (show (nb b).1 ≠ 0 by show nin b ≠ 0; omega), fplace_zero]
   have : ffin b = false := not_fin_of (Or.inl q)
   rw [this]; rfl
 · omega
 · rw [if_neg (show ¬ (nb b).1 ≠ 0 from fun h => h j), fb]
   have sb : sgI (fplace b) = 1 := by rcases sgI_cases (fplace b) with ⟨s, q⟩ | ⟨s, q⟩ | ⟨s, q⟩ <;> omega
   rcases bound_cases ha na with ⟨i, p⟩ | ⟨i, p⟩ | ⟨i, e', fa, _⟩
   · have sa : sgI (fplace a) = 1 := by rcases sgI_cases (fplace a) with ⟨s, q⟩ | ⟨s, q⟩ | ⟨s, q⟩ <;> omega
     have : ffin a = false := not_fin_of (Or.inl p)
     rw [if_pos ⟨show (nb a).1 ≠ 0 by show nin a ≠ 0; omega, by rw [sa, sb]; decide⟩, this, sa, sb, fplace_fInf]
     show TT = 1 * 1 * TT
     omega
   · have sa : sgI (fplace a) = -1 := by rcases sgI_cases (fplace a) with ⟨s, q⟩ | ⟨s, q⟩ | ⟨s, q⟩ <;> omega
     have : ffin a = false := not_fin_of (Or.inr p)
     rw [if_neg (fun h => by rw [sa, sb] at h; exact absurd h.2 (by decide)), if_pos (show (nb a).1 ≠ 0 by show nin a ≠ 0; omega), this, sa, sb, fplace_fNInf]
     show -TT = -1 * 1 * TT
     omega
   · rw [if_neg (fun h => h.1 i), if_neg (show ¬ (nb a).1 ≠ 0 from fun h => h i), fa, (fplace_clean _).1]
     show fplace (fquo (nof a) (nof b) m) = fplace (qv a b m)
     rw [e, e', fof_fin fa, fof_fin fb]; rfl
theorem rdivP_pl {x y : Nat × Nat} (hx : Lt64 x) (hy : Lt64 y) (n1 : fnan x.1 = false) (n2 : fnan x.2 = false) (m1 : fnan y.1 = false) (m2 : fnan y.2 = false) (hx12 : fplace x.1 ≤ fplace x.2) (hy12 : fplace y.1 ≤ fplace y.2) (hp : 0 < fplace y.1) :
 fplace (rdivP x y).1 = min (min (min (pdiv3 x.1 y.1 1) (pdiv3 x.1 y.2 1)) (pdiv3 x.2 y.1 1)) (pdiv3 x.2 y.2 1) ∧ fplace (rdivP x y).2 = max (max (max (pdiv3 x.1 y.1 2) (pdiv3 x.1 y.2 2)) (pdiv3 x.2 y.1 2)) (pdiv3 x.2 y.2 2) := by
 have s1 := (nsg_of hx.1 n1).2
 have s2 := (nsg_of hx.2 n2).2
 have hp2 : 0 < fplace y.2 := by omega
 have d1 : fplace y.1 ≠ 0 := by omega
 have d2 : fplace y.2 ≠ 0 := by omega
 have c1 := fun m => (pdiv3_mono m n1 n2 d1 hx12).1 (by omega)
 have c2 := fun m => (pdiv3_mono m n1 n2 d2 hx12).1 (by omega)
 have a1 := fun m => pdiv3_anti m n1 m1 m2 hy12 (Or.inl hp)
 have a2 := fun m => pdiv3_anti m n2 m1 m2 hy12 (Or.inl hp)
 constructor
 · show fplace (if _ then _ else _) = _
   by_cases h : 0 ≤ fplace x.1
   · rw [if_pos (s1.2 h), nquo_pl hx.1 hy.2 n1 m2 hp2]
     have := c1 1; have := c2 1; have := (a1 1).1 h; have := (a2 1).1 (by omega); omega
   · rw [if_neg (fun k => h (s1.1 k)), nquo_pl hx.1 hy.1 n1 m1 hp]
     have := c1 1; have := c2 1; have := (a1 1).2 (by omega); omega
 · show fplace (if _ then _ else _) = _
   by_cases h : 0 ≤ fplace x.2
   · rw [if_pos (s2.2 h), nquo_pl hx.2 hy.1 n2 m1 hp]
     have := c1 2; have := c2 2; have := (a2 2).1 h; omega
   · rw [if_neg (fun k => h (s2.1 k)), nquo_pl hx.2 hy.2 n2 m2 hp2]
     have := c1 2; have := c2 2; have := (a1 2).2 (by omega); have := (a2 2).2 (by omega); omega
theorem ineg_pl {y : Nat × Nat} (hy : Lt64 y) (k : iok y = true) : Lt64 (ineg y) ∧ fnan (ineg y).1 = false ∧ fnan (ineg y).2 = false ∧ fplace (ineg y).1 = -fplace y.2 ∧ fplace (ineg y).2 = -fplace y.1 := by
 obtain ⟨n1, n2, _⟩ := (iok_iff hy).1 k
 have q1 := neg_place n1
 have q2 := neg_place n2
 have e : ineg y = ires (fneg y.2) (fneg y.1) := by unfold ineg; rw [k]; rfl
 have c1 := fplace_clean (fneg y.1)
 have c2 := fplace_clean (fneg y.2)
 rw [e]
 exact ⟨ires_lt (fneg_lt _) (fneg_lt _), c2.2.trans q2.1, c1.2.trans q1.1, c2.1.trans q2.2, c1.1.trans q1.2⟩
theorem fquo_neg2 (z z' : Int) (E : Int) (m : Int) (h : nrm z E ≠ none) (h' : nrm z' E ≠ none) : fquo (nrm (-z) E) (nrm (-z') E) m = fquo (nrm z E) (nrm z' E) m := by
 have e1 : nrm (-z) E = dneg (nrm z E) := by
  by_cases h0 : z = 0
  · subst h0; rfl
  · cases k : nrm z E with
    | none => exact absurd k h
    | some p =>
     obtain ⟨a, f⟩ := p
     obtain ⟨t, q1, q2, _⟩ := nrm_some h0 k
     rw [q1, ← Int.neg_mul, nrm_scale, ← q2]
     exact nrm_self (okd_neg (nrm_ok k))
 have e2 : nrm (-z') E = dneg (nrm z' E) := by
  by_cases h0 : z' = 0
  · subst h0; rfl
  · cases k : nrm z' E with
    | none => exact absurd k h'
    | some p =>
     obtain ⟨a, f⟩ := p
     obtain ⟨t, q1, q2, _⟩ := nrm_some h0 k
     rw [q1, ← Int.neg_mul, nrm_scale, ← q2]
     exact nrm_self (okd_neg (nrm_ok k))
 rw [e1, e2]
 cases k : nrm z E with
 | none => exact absurd k h
 | some p =>
  cases k' : nrm z' E with
  | none => exact absurd k' h'
  | some p' =>
   obtain ⟨a, e⟩ := p
   obtain ⟨b, f⟩ := p'
   show (if -b = 0 then fNaN else if -a = 0 then 0 else frnd (decide (-a < 0) != decide (-b < 0)) ((-a).natAbs * 2 ^ qsh (-a) (-b) 56 / (-b).natAbs) (e - qsh (-a) (-b) 56 - f) (decide ((-a).natAbs * 2 ^ qsh (-a) (-b) 56 % (-b).natAbs ≠ 0)) m) =
    (if b = 0 then fNaN else if a = 0 then 0 else frnd (decide (a < 0) != decide (b < 0)) (a.natAbs * 2 ^ qsh a b 56 / b.natAbs) (e - qsh a b 56 - f) (decide (a.natAbs * 2 ^ qsh a b 56 % b.natAbs ≠ 0)) m)
   have hq : qsh (-a) (-b) 56 = qsh a b 56 := by unfold qsh; rw [Int.natAbs_neg, Int.natAbs_neg]
   rw [hq, Int.natAbs_neg, Int.natAbs_neg]
   by_cases hb : b = 0
   · rw [if_pos hb, if_pos (by omega)]
   · by_cases ha : a = 0
     · rw [if_neg hb, if_neg (by omega), if_pos ha, if_pos (by omega)]
     · rw [if_neg hb, if_neg (by omega), if_neg ha, if_neg (by omega), dec_neg ha, dec_neg hb]
       congr 1
       cases decide (a < 0) <;> cases decide (b < 0) <;> rfl
theorem pdiv3_neg {a b a' b' : Nat} (m : Int) (na : fnan a = false) (nb' : fnan b = false) (na' : fnan a' = false) (nb2 : fnan b' = false) (ha : fplace a' = -fplace a) (hb : fplace b' = -fplace b) : pdiv3 a' b' m = pdiv3 a b m := by
 have fa := place_fin na
 have fa' := place_fin na'
 have fb := place_fin nb'
 have fb' := place_fin nb2
 have ea : ffin a' = ffin a := by rw [Bool.eq_iff_iff, fa, fa']; omega
 have eb : ffin b' = ffin b := by rw [Bool.eq_iff_iff, fb, fb']; omega
 unfold pdiv3
 rw [ea, eb, ha, hb]
 cases kb : ffin b with
 | false => rfl
 | true =>
  cases ka : ffin a with
  | false =>
   show sgI (-fplace a) * sgI (-fplace b) * TT = sgI (fplace a) * sgI (fplace b) * TT
   congr 1
   unfold sgI
   repeat' split
   all_goals omega
  | true =>
   show fplace (qv a' b' m) = fplace (qv a b m)
   have za : fz a' = -fz a := by
    have h1 := (@fz_le a' (fneg a)).2 (by rw [ha, (neg_place na).2]; exact Int.le_refl _)
    have h2 := (@fz_le (fneg a) a').2 (by rw [ha, (neg_place na).2]; exact Int.le_refl _)
    rw [(fz_fneg ka).2] at h1 h2; omega
   have zb : fz b' = -fz b := by
    have h1 := (@fz_le b' (fneg b)).2 (by rw [hb, (neg_place nb').2]; exact Int.le_refl _)
    have h2 := (@fz_le (fneg b) b').2 (by rw [hb, (neg_place nb').2]; exact Int.le_refl _)
    rw [(fz_fneg kb).2] at h1 h2; omega
   unfold qv
   rw [za, zb, fquo_neg2 _ _ _ _ (fof_some ka) (fof_some kb)]
theorem min_swap (a b c d : Int) : min (min (min d c) b) a = min (min (min a b) c) d := by omega
theorem max_swap (a b c d : Int) : max (max (max d c) b) a = max (max (max a b) c) d := by omega
theorem clp_idiv (x y : Nat × Nat) : Clp (idiv x y) := by
 unfold idiv; split
 · exact clp_all
 · exact clp_cor fdiv_lt' x y
theorem rdivI_eq {x y : Nat × Nat} (hx : Lt64 x) (hy : Lt64 y) : rdivI x y = idiv x y := by
 cases h : iok x with
 | false => unfold rdivI idiv; rw [h]; rfl
 | true =>
  cases k : iok y with
  | false => unfold rdivI idiv; rw [h, k]; rfl
  | true =>
   obtain ⟨n1, n2, h1, _⟩ := (iok_iff hx).1 h
   obtain ⟨m1, m2, k1, _⟩ := (iok_iff hy).1 k
   have z := izero_iff hy k
   have s1 := (nsg_of hy.1 m1).1
   have s2 := (nsg_of hy.2 m2).2
   have e : rdivI x y = if nsg (nin y.1) (nof y.1) ≤ 0 ∧ 0 ≤ nsg (nin y.2) (nof y.2) then iall else if nsg (nin y.2) (nof y.2) < 0 then rdivP (ineg x) (ineg y) else rdivP x y := by unfold rdivI; rw [h, k]; rfl
   rw [e]
   cases hz : izero y with
   | true =>
    have c := z.1 hz
    rw [if_pos ⟨s1.2 c.1, s2.2 c.2⟩]
    unfold idiv; rw [h, k, hz]; rfl
   | false =>
    have c : ¬ (fplace y.1 ≤ 0 ∧ 0 ≤ fplace y.2) := fun q => by rw [z.2 q] at hz; cases hz
    obtain ⟨_, _, p1, p2, _⟩ := idiv_place hx hy h k hz
    rw [if_neg (fun q => c ⟨s1.1 q.1, s2.1 q.2⟩)]
    by_cases ng : fplace y.2 < 0
    · rw [if_pos (by omega)]
      obtain ⟨lx, a1, a2, a3, a4⟩ := ineg_pl hx h
      obtain ⟨ly, b1, b2, b3, b4⟩ := ineg_pl hy k
      have q := rdivP_pl lx ly a1 a2 b1 b2 (by omega) (by omega) (by omega)
      refine clp_ext ⟨?_, ?_⟩ (clp_idiv _ _) ?_ ?_
      · show Cl (if _ then _ else _); split <;> exact cl_nquo _ _ _
      · show Cl (if _ then _ else _); split <;> exact cl_nquo _ _ _
      · rw [q.1, p1, pdiv3_neg 1 n2 m2 a1 b1 a3 b3, pdiv3_neg 1 n2 m1 a1 b2 a3 b4, pdiv3_neg 1 n1 m2 a2 b1 a4 b3, pdiv3_neg 1 n1 m1 a2 b2 a4 b4]; exact min_swap _ _ _ _
      · rw [q.2, p2, pdiv3_neg 2 n2 m2 a1 b1 a3 b3, pdiv3_neg 2 n2 m1 a1 b2 a3 b4, pdiv3_neg 2 n1 m2 a2 b1 a4 b3, pdiv3_neg 2 n1 m1 a2 b2 a4 b4]; exact max_swap _ _ _ _
    · rw [if_neg (by omega)]
      have q := rdivP_pl hx hy n1 n2 m1 m2 h1 k1 (by omega)
      refine clp_ext ⟨?_, ?_⟩ (clp_idiv _ _) (by rw [q.1, p1]) (by rw [q.2, p2])
      · show Cl (if _ then _ else _); split <;> exact cl_nquo _ _ _
      · show Cl (if _ then _ else _); split <;> exact cl_nquo _ _ _
noncomputable def rsqrtI (x : Nat × Nat) : Nat × Nat :=
 if !iok x || decide (nsg (nin x.2) (nof x.2) < 0) then iall
 else (if 0 < nsg (nin x.1) (nof x.1) then fsqrt x.1 1 else 0, if x.2 = fInf then x.2 else fclean (fsqrt x.2 2))
theorem rsqrtI_eq {x : Nat × Nat} (hx : Lt64 x) : rsqrtI x = isqrt x := by
 cases h : iok x with
 | false => unfold rsqrtI isqrt; rw [h]; rfl
 | true =>
  obtain ⟨n1, n2, h1, h2, h3⟩ := (iok_iff hx).1 h
  have s1 := (nsg_of hx.1 n1).1
  have s2 := (nsg_of hx.2 n2).2
  have l := fless_place n2 (show fnan 0 = false by decide)
  rw [fplace_zero] at l
  unfold rsqrtI isqrt
  rw [h, l]
  by_cases c : fplace x.2 < 0
  · rw [decide_eq_true (show nsg (nin x.2) (nof x.2) < 0 by omega), decide_eq_true c]; rfl
  · rw [decide_eq_false (show ¬ nsg (nin x.2) (nof x.2) < 0 by omega), decide_eq_false c]
    show (_, _) = ires _ _
    unfold ires
    refine Prod.ext ?_ ?_
    · show (if _ then _ else _) = fclean _
      have m0 : fmax2 x.1 0 = if fplace x.1 < 0 then 0 else x.1 := by
       unfold fmax2; rw [fless_place n1 (by decide), fplace_zero]
       by_cases q : fplace x.1 < 0
       · rw [if_pos q, if_pos (decide_eq_true q)]
       · rw [if_neg q, if_neg (fun k => q (of_decide_eq_true k))]
      by_cases g : 0 < fplace x.1
      · rw [if_pos (by omega), m0, if_neg (by omega)]
        have f1 : ffin x.1 = true := fin_of n1 (by have := TT_pos; omega) h2
        have e := fsqrt_pos f1 g 1
        refine cl_ext ⟨fsqrt_lt' hx.1 1, ?_⟩ (cl_clean (fsqrt_lt' hx.1 1)) (fplace_clean _).1.symm
        intro q
        have hz : 0 < fz x.1 := (fz_sign x.1).2.1.2 g
        obtain ⟨_, _, q3⟩ := froot_grid (fz x.1) 1 hz (fof_some f1)
        rw [e, q3] at q
        have := congrArg fS q
        rw [fcut_S] at this
        revert this; decide
      · rw [if_neg (by omega), m0]
        have z : fzero (if fplace x.1 < 0 then 0 else x.1) = true := by
         split
         · decide
         · exact (zero_place _).2 (by omega)
        rw [fsqrt_zero z]
        split
        · decide
        · refine cl_ext ⟨by decide, by decide⟩ (cl_clean hx.1) ?_
          rw [(fplace_clean _).1, fplace_zero]; omega
    · show (if _ then _ else _) = fclean _
      by_cases g : x.2 = fInf
      · rw [if_pos g, g, fsqrt_inf]; decide
      · rw [if_neg g]
end Go.Proofs.YtgicceiimciafaaGreatDoor
