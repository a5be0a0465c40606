/-
  Walks: package sparseref23: left.
-/
import Derived.Test.YtablcbgeeeboeaaGreatDoorZaPj
import Derived.Test.YtablcbgeeeboeaaGreatDoorZaS3
import Derived.Test.YtablcbgeeeboeaaGreatDoorZaPa
import Derived.Test.YtablcbgeeeboeaaGreatDoorZaRd
import Derived.Test.YtablcbgeeeboeaaGreatDoorZaRt
import Derived.Test.YtablcbgeeeboeaaGreatDoorZaRa
import Derived.Deep.LoopGhost
import Derived.Test.YtablcbgeeeboeaaGreatDoorZaCs
import Derived.Test.YtablcbgeeeboeaaGreatDoorZaFP
import Derived.Test.YtablcbgeeeboeaaGreatDoorZaBg
import Derived.Test.YtablcbgeeeboeaaGreatDoorZaBf
import Derived.Test.YtablcbgeeeboeaaGreatDoorZaCm
import Derived.Test.YtablcbgeeeboeaaGreatDoorZaRsum
import Derived.Test.YtablcbgeeeboeaaGreatDoorZaGq
import Derived.Test.YtablcbgeeeboeaaGreatDoorZaPz
namespace Go.Proofs.YtablcbgeeeboeaaGreatDoor
open Go.RowKit Sp
theorem dms_rsum {w : World} {base : Nat} {v : Value} {k : Nat} {d : Nat → Option (Int × Int)} {A : Nat → Option Addr} {C : Nat → Nat} (hT : Tab w) (h : Dms w base v k d A C) (hd : ∀ i, IsN (d i)) (hk : k ≤ 1048576) :
 ∃ a cap, v = .slice a k cap ∧ Calls Tryz.prog 22 #[.slice a k cap] w (RetDy w (dsum d k)) := by
 obtain ⟨a, cap, hv, hD⟩ := h.dys hd
 refine ⟨a, cap, hv, ?_⟩
 have s := rsum_any w hT a k cap _ hD hk (fun i hi => by
  have := isN_bounds (hd i)
  refine ⟨Nat.le_trans (nl_le_blen _) (by omega), ?_⟩
  show blen (dman (d i)).natAbs ≤ 1048576
  omega)
 rwa [els_d hd] at s
theorem N3.grown {W W' : World} {b : Nat} {x0 x1 x2 : Value} (h : N3 W b x0 x1 x2) {row : Option Nat} (hg : W.grownBy W' row) (hne : some b ≠ row) : N3 W' b x0 x1 x2 := by
 have hblk := hg.block b h.lt hne
 have hc : ∀ i, W'.cell? ⟨b, i, none⟩ = W.cell? ⟨b, i, none⟩ := fun i => World.cell?_of_block (a := ⟨b, i, none⟩) hblk
 exact ⟨(hc 0).trans h.c0, (hc 1).trans h.c1, (hc 2).trans h.c2, fun i => (World.frozen?_of_block (a := ⟨b, i, none⟩) hblk).trans (h.z i), Nat.lt_of_lt_of_le h.lt hg.size⟩
attribute [local irreducible] Calls
end Go.Proofs.YtablcbgeeeboeaaGreatDoor
namespace Go.Proofs.YtablcbgeeeboeaaGreatDoor
open Go.RowKit Sp
set_option linter.unusedSimpArgs false
theorem fround_lt' (d : Option (Int × Int)) (mode : Int) : fround d mode < 18446744073709551616 := by
 unfold fround; split
 · decide
 · split
   · decide
   · exact fcut_lt _ _ _
def TT : Int := 9218868437227405312
theorem place_fin {f : Nat} (h : fnan f = false) : ffin f = true ↔ (-TT < fplace f ∧ fplace f < TT) := by
 have h1 : fM f ≤ 9218868437227405312 := by unfold fnan at h; simpa using h
 unfold ffin; rw [fplace_eq]; unfold TT
 rw [decide_eq_true_eq]
 constructor
 · intro k; split <;> omega
 · intro k; split at k <;> omega
theorem fin_of {f : Nat} (h : fnan f = false) (h1 : -TT < fplace f) (h2 : fplace f < TT) : ffin f = true := (place_fin h).2 ⟨h1, h2⟩
theorem fin_lt {f : Nat} (h : ffin f = true) : fnan f = false ∧ -TT < fplace f ∧ fplace f < TT := ⟨(fin_not h).1, (place_fin (fin_not h).1).1 h⟩
set_option linter.unusedSimpArgs false
set_option linter.unusedSimpArgs false
set_option linter.unusedSimpArgs false
set_option linter.unusedSimpArgs false
set_option linter.unusedSimpArgs false
theorem g1 : (-1074 : Int) - 1 = -1074 - ((1 : Nat) : Int) := by decide
set_option linter.unusedSimpArgs false
end Go.Proofs.YtablcbgeeeboeaaGreatDoor
namespace Go.Proofs.YtablcbgeeeboeaaGreatDoor
open Go.RowKit Sp
def skp (i q : Nat) : Nat := if q < i then q else q + 1
def dtrm (S I F : Nat → Nat) (i : Nat) : Nat → Option (Int × Int)
 | 0 => nrm 1 0
 | q + 1 => dabs (fof (atv S I F (max i (skp i q)) (min i (skp i q))))
def ddiag (n : Nat) (S I F : Nat → Nat) (i : Nat) : Nat := fround (dsum (dtrm S I F i) n) 2
def dEN (n : Nat) (S I F : Nat → Nat) (i j : Nat) : Option Nat := if i = j then some (ddiag n S I F i) else if stv S I F i j then some (atv S I F i j) else none
def dM (S I F : Nat → Nat) (i : Nat) : Nat → Int
 | 0 => 2 ^ 1074
 | q + 1 => ((fz (atv S I F (max i (skp i q)) (min i (skp i q)))).natAbs : Int)
theorem isN_dtrm (S I F : Nat → Nat) (i q : Nat) : IsN (dtrm S I F i q) := by
 cases q with
 | zero => exact isN_nrm _ _
 | succ q => exact isN_abs (isN_fof _)
theorem p1115 : fzN 4791830003522207744 = 2 ^ 1115 := by
 have h := fzN_code 1063 4503599627370496 (by omega) (by omega)
 rw [show 1063 * 4503599627370496 + 4503599627370496 = 4791830003522207744 by decide] at h
 rw [h]; exact p52 1063 1115 (by decide)
theorem bnd_blen {f : Nat} (h : fM f < 4791830003522207744) : blen (fz f).natAbs ≤ 1115 := by
 refine blen_le ?_
 rw [fz_abs, ← p1115]; exact fzN_lt h
theorem one_up : nrm 1 0 = nrm ((2 : Int) ^ 1074) (-1074) := by
 have := nrm_scale 1 (-1074) 1074
 rw [Int.one_mul] at this
 rw [this]; rfl
theorem dtrm_val {r c q : Nat} {S I F : Nat → Nat} (h : Val r c q S I F) (hb : ∀ x, fM (F x) < 4791830003522207744) (i t : Nat) :
 dtrm S I F i t = nrm (dM S I F i t) (-1074) ∧ nrm (dM S I F i t) (-1074) ≠ none ∧ blen (dM S I F i t).natAbs ≤ 1115 := by
 cases t with
 | zero =>
  have hv : nrm 1 0 ≠ none := nrm_valid (by omega) (by decide)
  refine ⟨one_up, by show nrm ((2 : Int) ^ 1074) (-1074) ≠ none; rw [← one_up]; exact hv, ?_⟩
  show blen ((2 : Int) ^ 1074).natAbs ≤ 1115
  have := blen_mulpow (z := 1) (k := 1) 1074 (by decide)
  rw [Int.one_mul] at this; omega
 | succ t =>
  have hf := (atv_fin h (max i (skp i t)) (min i (skp i t))).2
  have hB : fM (atv S I F (max i (skp i t)) (min i (skp i t))) < 4791830003522207744 := atv_pred (P := fun y => fM y < 4791830003522207744) (by decide) hb _ _
  show dabs (fof _) = _ ∧ _
  rw [fof_fin hf]
  obtain ⟨h1, h2⟩ := dabs_nrm _ _ (fof_some hf)
  refine ⟨h1, h2, ?_⟩
  show blen ((fz _).natAbs : Int).natAbs ≤ 1115
  rw [Int.natAbs_natCast]; exact bnd_blen hB
theorem big_code : fzN 5408823152471965696 = 2 ^ 1252 := by
 have h := fzN_code 1200 4503599627370496 (by omega) (by omega)
 rw [show 1200 * 4503599627370496 + 4503599627370496 = 5408823152471965696 by decide] at h
 rw [h]; exact p52 1200 1252 (by decide)
theorem cast_pow (a : Nat) : (2 : Int) ^ a = ((2 ^ a : Nat) : Int) := by rw [Int.natCast_pow]; rfl
theorem round_fin {M : Int} (h0 : 0 ≤ M) (hM : M ≤ 2 ^ 1252) (hv : nrm M (-1074) ≠ none) (mode : Int) : ffin (fround (nrm M (-1074)) mode) = true := by
 have e0 : (-1074 : Int) = -1074 - ((0 : Nat) : Int) := by omega
 have hc := fround_code (R := (2 : Int) ^ 1252) (r := 5408823152471965696) (by rw [big_code, cast_pow, Int.natAbs_natCast]) (by decide) mode
 have v2 : nrm ((2 : Int) ^ 1252) (-1074) ≠ none := nrm_valid (by omega) (by
  have := blen_mulpow (z := 1) (k := 1) 1252 (by decide)
  rw [Int.one_mul] at this; omega)
 have v0 : nrm 0 (-1074) ≠ none := nrm_valid (by omega) (by decide)
 have m1 := fround_mono M ((2 : Int) ^ 1252) 0 mode (by rw [← e0]; exact hv) (by rw [← e0]; exact v2) hM
 have m0 := fround_mono 0 M 0 mode (by rw [← e0]; exact v0) (by rw [← e0]; exact hv) h0
 have p := (fround_place M 0 mode (by rw [← e0]; exact hv)).1
 rw [← e0] at m1 m0 p
 have hl := (fin_lt hc.1).2.2
 rw [fround_zero] at m0
 have z0 : fplace 0 = 0 := by decide
 exact fin_of p (by unfold TT at *; omega) (by omega)
theorem sumI_nonneg {M : Nat → Int} : ∀ n, (∀ i, i < n → 0 ≤ M i) → 0 ≤ sumI M n := by
 intro n
 induction n with
 | zero => intro _; exact Int.le_refl _
 | succ n ih => intro h; have h1 := ih fun i hi => h i (by omega); have h2 := h n (by omega); show 0 ≤ sumI M n + M n; omega
theorem dM_nonneg (S I F : Nat → Nat) (i t : Nat) : 0 ≤ dM S I F i t := by
 cases t with
 | zero => show (0 : Int) ≤ 2 ^ 1074; exact Int.le_of_lt (Int.pow_pos (by decide))
 | succ t => exact Int.natCast_nonneg _
theorem pow_step (a b : Nat) (h : a ≤ b) : (2 : Nat) ^ a ≤ 2 ^ b := Nat.pow_le_pow_right (by decide) h
theorem ddiag_fin {r c q : Nat} {S I F : Nat → Nat} (h : Val r c q S I F) (hb : ∀ x, fM (F x) < 4791830003522207744) {n : Nat} (hn : n ≤ 15) (i : Nat) :
 dsum (dtrm S I F i) n = nrm (sumI (dM S I F i) n) (-1074) ∧ nrm (sumI (dM S I F i) n) (-1074) ≠ none ∧ ffin (ddiag n S I F i) = true := by
 have hs := dsum_nrm (dtrm S I F i) (dM S I F i) (by omega) n fun t _ => ⟨(dtrm_val h hb i t).1, (dtrm_val h hb i t).2.1⟩
 have hbl := sumI_blen (dM S I F i) hn (P := 1115) fun t _ => (dtrm_val h hb i t).2.2
 have hv : nrm (sumI (dM S I F i) n) (-1074) ≠ none := nrm_valid (by omega) (by omega)
 refine ⟨hs, hv, ?_⟩
 unfold ddiag
 rw [hs]
 have h0 := sumI_nonneg n fun t _ => dM_nonneg S I F i t
 have h1 := lt_blen (sumI (dM S I F i) n).natAbs
 have h2 := pow_step _ _ (show blen (sumI (dM S I F i) n).natAbs ≤ 1252 by omega)
 refine round_fin h0 ?_ hv 2
 rw [cast_pow]
 generalize (2 : Nat) ^ 1252 = D at *
 omega
end Go.Proofs.YtablcbgeeeboeaaGreatDoor
