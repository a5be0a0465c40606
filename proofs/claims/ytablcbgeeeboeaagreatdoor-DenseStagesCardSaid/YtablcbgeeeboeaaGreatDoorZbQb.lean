/-
  Walks: the law DenseStages.
-/
import Derived.WalkKit
import Derived.Lib.Hide
import Derived.Deep.QuietTactic
import Derived.Laws.CopyOwn
import Derived.WalkLawsBesides
import Derived.WalkSpells
import Derived.BigQuiet
import Derived.Lib.Strings
import Derived.Lib.Slices
import Derived.Lib.Small
import Derived.Lib.Walk
import Derived.Lib.BitFns
import Derived.Deep.DeepCutAuto
import Derived.Deep.CutBlock
import Derived.Deep.LoopGhost
import Derived.Deep.RegionHeld3
import Derived.ProofKit
import Derived.OpenShut
import Derived.Carry
import Derived.Laws.LoneSync
import Derived.Deep.DeepHandedRow
import Derived.Lib.LaidTab
import Derived.Deep.RegionWith
import Derived.Maps.AppendAt
import Derived.Deep.AppendLies
import Derived.Deep.RegionLaw
import Derived.Test.YtablcbgeeeboeaaGreatDoorZaBL
import Derived.Test.YtablcbgeeeboeaaGreatDoorZaBa
import Derived.Test.YtablcbgeeeboeaaGreatDoorZaBb
import Derived.Test.YtablcbgeeeboeaaGreatDoorZaBc
import Derived.Test.YtablcbgeeeboeaaGreatDoorZaBd
import Derived.Test.YtablcbgeeeboeaaGreatDoorZaBe
import Derived.Test.YtablcbgeeeboeaaGreatDoorZaBf
import Derived.Test.YtablcbgeeeboeaaGreatDoorZaBg
import Derived.Test.YtablcbgeeeboeaaGreatDoorZaBh
import Derived.Test.YtablcbgeeeboeaaGreatDoorZaCm
import Derived.Test.YtablcbgeeeboeaaGreatDoorZaCs
import Derived.Test.YtablcbgeeeboeaaGreatDoorZaFP
import Derived.Test.YtablcbgeeeboeaaGreatDoorZaGo
import Derived.Test.YtablcbgeeeboeaaGreatDoorZaGq
import Derived.Test.YtablcbgeeeboeaaGreatDoorZaGr
import Derived.Test.YtablcbgeeeboeaaGreatDoorZaGt
import Derived.Test.YtablcbgeeeboeaaGreatDoorZaGu
import Derived.Test.YtablcbgeeeboeaaGreatDoorZaKs
import Derived.Test.YtablcbgeeeboeaaGreatDoorZaNs
import Derived.Test.YtablcbgeeeboeaaGreatDoorZaOpen
import Derived.Test.YtablcbgeeeboeaaGreatDoorZaPFa
import Derived.Test.YtablcbgeeeboeaaGreatDoorZaPFb
import Derived.Test.YtablcbgeeeboeaaGreatDoorZaPFc
import Derived.Test.YtablcbgeeeboeaaGreatDoorZaPa
import Derived.Test.YtablcbgeeeboeaaGreatDoorZaPc
import Derived.Test.YtablcbgeeeboeaaGreatDoorZaPd
import Derived.Test.YtablcbgeeeboeaaGreatDoorZaPf
import Derived.Test.YtablcbgeeeboeaaGreatDoorZaPh
import Derived.Test.YtablcbgeeeboeaaGreatDoorZaPj
import Derived.Test.YtablcbgeeeboeaaGreatDoorZaPk
import Derived.Test.YtablcbgeeeboeaaGreatDoorZaPn
import Derived.Test.YtablcbgeeeboeaaGreatDoorZaPq
import Derived.Test.YtablcbgeeeboeaaGreatDoorZaPr
import Derived.Test.YtablcbgeeeboeaaGreatDoorZaPw
import Derived.Test.YtablcbgeeeboeaaGreatDoorZaPx
import Derived.Test.YtablcbgeeeboeaaGreatDoorZaPy
import Derived.Test.YtablcbgeeeboeaaGreatDoorZaPz
import Derived.Test.YtablcbgeeeboeaaGreatDoorZaRa
import Derived.Test.YtablcbgeeeboeaaGreatDoorZaRat
import Derived.Test.YtablcbgeeeboeaaGreatDoorZaRd
import Derived.Test.YtablcbgeeeboeaaGreatDoorZaRe
import Derived.Test.YtablcbgeeeboeaaGreatDoorZaRm
import Derived.Test.YtablcbgeeeboeaaGreatDoorZaRq
import Derived.Test.YtablcbgeeeboeaaGreatDoorZaRsum
import Derived.Test.YtablcbgeeeboeaaGreatDoorZaRt
import Derived.Test.YtablcbgeeeboeaaGreatDoorZaS3
import Derived.Test.YtablcbgeeeboeaaGreatDoorZaSqt
import Derived.Test.YtablcbgeeeboeaaGreatDoorZaSum
import Derived.Test.YtablcbgeeeboeaaGreatDoorZaSumLaw
import Derived.Test.YtablcbgeeeboeaaGreatDoorZaTd
namespace Go.Proofs.YtablcbgeeeboeaaGreatDoor
open Go.RowKit Sp
end Go.Proofs.YtablcbgeeeboeaaGreatDoor
namespace Go.Proofs.YtablcbgeeeboeaaGreatDoor
open Go.RowKit Sp
theorem dmul_nrm (M N E F : Int) (hM : nrm M E ≠ none) (hN : nrm N F ≠ none) : dmul (nrm M E) (nrm N F) = nrm (M * N) (E + F) := by
 cases h : nrm M E with
 | none => exact absurd h hM
 | some p =>
  cases k : nrm N F with
  | none => exact absurd k hN
  | some q =>
   obtain ⟨m, e⟩ := p
   obtain ⟨n, f⟩ := q
   show nrm (m * n) (e + f) = _
   by_cases h0 : M = 0
   · subst h0; rw [nrm_zero] at h; injection h with h; injection h with h1 h2; subst h1 h2; simp [nrm_zero]
   · by_cases h1 : N = 0
     · subst h1; rw [nrm_zero] at k; injection k with k; injection k with h1 h2; subst h1 h2; simp [nrm_zero]
     · obtain ⟨t, ht, he, _⟩ := nrm_some h0 h
       obtain ⟨u, hu, hf, _⟩ := nrm_some h1 k
       have e1 : M * N = (m * n) * 2 ^ (t + u) := by rw [ht, hu, Int.pow_add]; grind
       rw [e1, nrm_scale]; congr 1; omega
end Go.Proofs.YtablcbgeeeboeaaGreatDoor
namespace Go.Proofs.YtablcbgeeeboeaaGreatDoor
open Go.RowKit Sp
end Go.Proofs.YtablcbgeeeboeaaGreatDoor
namespace Sp
open Go Go.RowKit
end Sp
namespace Go.Proofs.YtablcbgeeeboeaaGreatDoor
open Go.RowKit Sp
end Go.Proofs.YtablcbgeeeboeaaGreatDoor
namespace Go.Proofs.YtablcbgeeeboeaaGreatDoor
open Go.RowKit Sp
end Go.Proofs.YtablcbgeeeboeaaGreatDoor
namespace Go.Proofs.YtablcbgeeeboeaaGreatDoor
open Go.RowKit Sp
end Go.Proofs.YtablcbgeeeboeaaGreatDoor
namespace Go.Proofs.YtablcbgeeeboeaaGreatDoor
open Go.RowKit Sp
end Go.Proofs.YtablcbgeeeboeaaGreatDoor
namespace Go.Proofs.YtablcbgeeeboeaaGreatDoor
open Go.RowKit Sp
end Go.Proofs.YtablcbgeeeboeaaGreatDoor
namespace Go.Proofs.YtablcbgeeeboeaaGreatDoor
open Go.RowKit Sp
end Go.Proofs.YtablcbgeeeboeaaGreatDoor
namespace Go.Proofs.YtablcbgeeeboeaaGreatDoor
open Go.RowKit Sp
end Go.Proofs.YtablcbgeeeboeaaGreatDoor
namespace Go.Proofs.YtablcbgeeeboeaaGreatDoor
open Go.RowKit Sp
theorem fmul_val {a b : Nat} (ha : ffin a = true) (hb : ffin b = true) : dmul (fof a) (fof b) = nrm (fz a * fz b) (-2148) ∧ nrm (fz a * fz b) (-2148) ≠ none := by
 refine ⟨?_, nrm_valid (by omega) (by have := bl_mul (fz a) (fz b); have := blen_fz ha; have := blen_fz hb; omega)⟩
 rw [fof_fin ha, fof_fin hb]
 exact dmul_nrm _ _ _ _ (fof_some ha) (fof_some hb)
end Go.Proofs.YtablcbgeeeboeaaGreatDoor
namespace Go.Proofs.YtablcbgeeeboeaaGreatDoor
open Go.RowKit Sp
end Go.Proofs.YtablcbgeeeboeaaGreatDoor
namespace Go.Proofs.YtablcbgeeeboeaaGreatDoor
open Go.RowKit Sp
end Go.Proofs.YtablcbgeeeboeaaGreatDoor
namespace Go.Proofs.YtablcbgeeeboeaaGreatDoor
open Go.RowKit Sp
end Go.Proofs.YtablcbgeeeboeaaGreatDoor
namespace Go.Proofs.YtablcbgeeeboeaaGreatDoor
open Go.RowKit Sp
theorem sumI_congr {M M' : Nat → Int} {n : Nat} (h : ∀ i, i < n → M i = M' i) : sumI M n = sumI M' n := by
 induction n with
 | zero => rfl
 | succ n ih => simp only [sumI]; rw [ih (fun i hi => h i (by omega)), h n (by omega)]
theorem sumI_neg (M : Nat → Int) (n : Nat) : sumI (fun i => -M i) n = -sumI M n := by
 induction n with
 | zero => rfl
 | succ n ih => simp only [sumI]; rw [ih]; omega
theorem sumI_add (M : Nat → Int) (k m : Nat) : sumI M (k + m) = sumI M k + sumI (fun i => M (k + i)) m := by
 induction m with
 | zero => simp [sumI]
 | succ m ih => rw [← Nat.add_assoc]; simp only [sumI]; rw [ih]; omega
theorem blen_fz_mul {a b : Nat} (ha : ffin a = true) (hb : ffin b = true) : blen (fz a * fz b).natAbs ≤ 4196 := by
 have := bl_mul (fz a) (fz b); have := blen_fz ha; have := blen_fz hb; omega
theorem dval2 {b : Nat} (hb : ffin b = true) : fof b = nrm (fz b * 2 ^ 1074) (-2148) ∧ nrm (fz b * 2 ^ 1074) (-2148) ≠ none := by
 have e1 : fof b = nrm (fz b * 2 ^ 1074) (-2148) := by rw [nrm_scale, fof_fin hb]; rfl
 exact ⟨e1, by rw [← e1, fof_fin hb]; exact fof_some hb⟩
theorem blen_val2 {b : Nat} (hb : ffin b = true) : blen (fz b * 2 ^ 1074).natAbs ≤ 3172 := blen_mulpow 1074 (blen_fz hb)
end Go.Proofs.YtablcbgeeeboeaaGreatDoor
namespace Go.Proofs.YtablcbgeeeboeaaGreatDoor
open Go.RowKit Sp
end Go.Proofs.YtablcbgeeeboeaaGreatDoor
namespace Go.Proofs.YtablcbgeeeboeaaGreatDoor
open Go.RowKit Sp
theorem firstE_zero {f : Nat → Int} : ∀ (q a : Nat), firstE f a q = 0 → ∀ i, a ≤ i → i < a + q → f i = 0 := by
 intro q
 induction q with
 | zero => intro a _ i h1 h2; omega
 | succ q ih =>
  intro a h i h1 h2
  by_cases hf : f a = 0
  · simp only [firstE, hf, if_true] at h
    by_cases hi : i = a
    · rw [hi]; exact hf
    · exact ih (a + 1) h i (by omega) (by omega)
  · simp only [firstE, if_neg hf] at h; exact absurd h hf
theorem pan_lt {B : Nat → Option (Int × Int)} {n : Nat} : ∀ (j t : Nat), t / n < j → pan B n j t = if t % n < t / n then 0 else pval B n (pan B n (t / n)) (t / n) (t % n) := by
 intro j
 induction j with
 | zero => intro t h; exact absurd h (Nat.not_lt_zero _)
 | succ j ih =>
  intro t h
  simp only [pan]
  by_cases hj : t / n = j
  · rw [if_pos hj, hj]
  · rw [if_neg hj]; exact ih t (by omega)
end Go.Proofs.YtablcbgeeeboeaaGreatDoor
namespace Go.Proofs.YtablcbgeeeboeaaGreatDoor
open Go.RowKit Sp
def Exm (B : Nat → Option (Int × Int)) (M : Nat → Int) (P : Nat) : Prop := ∀ t, B t = nrm (M t) (-2148) ∧ blen (M t).natAbs ≤ P
def prods (n : Nat) (V : Nat → Nat) (i j m : Nat) : Int := sumI (fun c => fz (V (c * n + i)) * fz (V (c * n + j))) m
theorem sumI_first (M : Nat → Int) (n : Nat) : sumI M (n + 1) = M 0 + sumI (fun i => M (i + 1)) n := by
 rw [Nat.add_comm, sumI_add]; simp only [sumI, Int.zero_add, Nat.add_comm 1]
theorem dleft_val {B : Nat → Option (Int × Int)} {M : Nat → Int} {P n : Nat} (h : Exm B M P) (hP : 4196 ≤ P) (hP2 : P ≤ 60000) (V : Nat → Nat) (i j m : Nat) (hm : m ≤ 14)
 (hV : ∀ c, c < m → ffin (V (c * n + i)) = true ∧ ffin (V (c * n + j)) = true) :
 dleft B n V i j m = nrm (M (j * n + i) - prods n V i j m) (-2148) ∧ blen (M (j * n + i) - prods n V i j m).natAbs ≤ P + 4 ∧ nrm (M (j * n + i) - prods n V i j m) (-2148) ≠ none := by
 let N : Nat → Int := fun q => match q with | 0 => M (j * n + i) | c + 1 => -(fz (V (c * n + i)) * fz (V (c * n + j)))
 have hN : sumI N (m + 1) = M (j * n + i) - prods n V i j m := by
  rw [sumI_first]
  show M (j * n + i) + sumI (fun c => -(fz (V (c * n + i)) * fz (V (c * n + j)))) m = _
  rw [sumI_neg]; unfold prods; omega
 have hb : ∀ q, q < m + 1 → blen (N q).natAbs ≤ P := by
  intro q hq
  cases q with
  | zero => exact (h _).2
  | succ c =>
   show blen (-(fz (V (c * n + i)) * fz (V (c * n + j)))).natAbs ≤ P
   rw [Int.natAbs_neg]
   have := blen_fz_mul (hV c (by omega)).1 (hV c (by omega)).2
   omega
 have hv : ∀ q, q < m + 1 → dterm B n V i j q = nrm (N q) (-2148) ∧ nrm (N q) (-2148) ≠ none := by
  intro q hq
  have hn : nrm (N q) (-2148) ≠ none := nrm_valid (by omega) (by have := hb q hq; omega)
  refine ⟨?_, hn⟩
  cases q with
  | zero => exact (h _).1
  | succ c =>
   obtain ⟨h1, h2⟩ := fmul_val (hV c (by omega)).1 (hV c (by omega)).2
   show dneg (dmul _ _) = _
   rw [h1, dneg_nrm _ _ h2]
 have hs := sumI_blen N (show m + 1 ≤ 15 by omega) hb
 rw [hN] at hs
 refine ⟨?_, by omega, nrm_valid (by omega) (by omega)⟩
 unfold dleft
 rw [dsum_nrm _ N (by omega) (m + 1) hv, hN]
theorem ffin_zero : ffin 0 = true := by decide
theorem ccode_fin {B : Nat → Option (Int × Int)} {n j i : Nat} (h : ccode B n j i = 0) : ffin (pval B n (pan B n j) j i) = true ∧ dbad (dleft B n (pan B n j) i j j) = false := by
 unfold ccode at h
 split at h
 · cases h
 · rename_i hb
   split at h
   · cases h
   · split at h
     · rename_i hf; exact ⟨hf, by simpa using hb⟩
     · cases h
theorem pan_fin {B : Nat → Option (Int × Int)} {n k : Nat} (h : eliE B n k = 0) {t : Nat} (ht : t / n < k) (hn : 0 < n) {q : Nat} (hq : t / n < q) : ffin (pan B n q t) = true := by
 rw [pan_lt _ _ hq]
 have h1 := firstE_zero _ _ h (t / n) (Nat.zero_le _) (by omega)
 have hm := Nat.mod_lt t hn
 split
 · exact ffin_zero
 · exact (ccode_fin (firstE_zero _ _ h1 (t % n) (by omega) (by omega))).1
theorem pan_fin' {B : Nat → Option (Int × Int)} {n k : Nat} (h : eliE B n k = 0) {c i : Nat} (hc : c < k) (hi : i < n) : ffin (pan B n k (c * n + i)) = true :=
 pan_fin h (by rw [idx_div hi]; exact hc) (by omega) (by rw [idx_div hi]; exact hc)
theorem conE_zero {B : Nat → Option (Int × Int)} {M : Nat → Int} {P n k : Nat} (h : Exm B M P) (hP : 4196 ≤ P) (hP2 : P ≤ 60000) (hk : k ≤ 14) (he : eliE B n k = 0) : conE B n k = 0 :=
 firstE_all _ _ fun j h1 h2 => firstE_all _ _ fun i h3 h4 => by
  have hv := dleft_val h hP hP2 (pan B n k) i j k hk (fun c hc => ⟨pan_fin' he hc (by omega), pan_fin' he hc (by omega)⟩)
  unfold resE'
  rw [hv.1, dbad_ne hv.2.2]; rfl
theorem eliE_pre {B : Nat → Option (Int × Int)} {n k m : Nat} (hm : m ≤ k) (h : eliE B n k = 0) : eliE B n m = 0 :=
 firstE_all _ _ fun i h1 h2 => firstE_zero _ _ h i h1 (by omega)
theorem firstE_split {f : Nat → Int} : ∀ (m a q : Nat), m ≤ q → firstE f a m = 0 → firstE f a q = firstE f (a + m) (q - m) := by
 intro m
 induction m with
 | zero => intro a q _ _; rfl
 | succ m ih =>
  intro a q hq h
  have h0 := firstE_zero _ _ h a (Nat.le_refl _) (by omega)
  rw [firstE_ok h0 (by omega)] at h ⊢
  rw [ih (a + 1) (q - 1) (by omega) h]; congr 1 <;> omega
theorem firstE_same {f g : Nat → Int} : ∀ (q a b : Nat), (∀ i, i < q → (∀ i', i' < i → f (a + i') = 0 ∧ g (b + i') = 0) → f (a + i) = g (b + i)) → firstE f a q = firstE g b q := by
 intro q
 induction q with
 | zero => intro a b _; rfl
 | succ q ih =>
  intro a b h
  have h0 := h 0 (by omega) (fun i' hi => by omega)
  simp only [Nat.add_zero] at h0
  by_cases hf : f a = 0
  · have hg : g b = 0 := h0.symm.trans hf
    rw [firstE_ok hf (by omega), firstE_ok hg (by omega)]
    refine ih _ _ fun i hi hz => ?_
    have := h (i + 1) (by omega) (fun i' hi' => by
     cases i' with
     | zero => exact ⟨hf, hg⟩
     | succ i' => have := hz i' (by omega); rw [Nat.add_assoc, Nat.add_comm 1, Nat.add_assoc, Nat.add_comm 1] at this; exact this)
    rw [Nat.add_assoc, Nat.add_comm 1, Nat.add_assoc, Nat.add_comm 1]; exact this
  · rw [firstE_no hf (by omega), firstE_no (fun e => hf (h0.trans e)) (by omega)]; exact h0
section
variable {B : Nat → Option (Int × Int)} {M : Nat → Int} {P n m : Nat}
noncomputable def restM (B : Nat → Option (Int × Int)) (M : Nat → Int) (n m t : Nat) : Int :=
 M ((m + min (t / (n - m)) (t % (n - m))) * n + (m + max (t / (n - m)) (t % (n - m)))) - prods n (pan B n m) (m + max (t / (n - m)) (t % (n - m))) (m + min (t / (n - m)) (t % (n - m))) m
noncomputable def stB (B : Nat → Option (Int × Int)) (n m t : Nat) : Option (Int × Int) := if t / (n - m) < n - m then rest B n m t else some (0, 0)
noncomputable def stM (B : Nat → Option (Int × Int)) (M : Nat → Int) (n m t : Nat) : Int := if t / (n - m) < n - m then restM B M n m t else 0
theorem rest_val (h : Exm B M P) (hP : 4196 ≤ P) (hP2 : P ≤ 60000) (hm : m ≤ 14) (he : eliE B n m = 0) (hmn : m < n) : Exm (stB B n m) (stM B M n m) (P + 4) := fun t => by
 have hz : 0 < n - m := by omega
 have h2 := Nat.mod_lt t hz
 unfold stB stM
 by_cases h1 : t / (n - m) < n - m
 · rw [if_pos h1, if_pos h1]
   have hv := dleft_val h hP hP2 (pan B n m) (m + max (t / (n - m)) (t % (n - m))) (m + min (t / (n - m)) (t % (n - m))) m hm (fun c hc => ⟨pan_fin' he hc (by omega), pan_fin' he hc (by omega)⟩)
   exact ⟨hv.1, hv.2.1⟩
 · rw [if_neg h1, if_neg h1]
   exact ⟨(nrm_zero _).symm, by show blen 0 ≤ _; rw [show blen 0 = 0 from rfl]; omega⟩
theorem prods_congr {n n' : Nat} {V V' : Nat → Nat} {i j i' j' q : Nat} (h : ∀ c, c < q → V (c * n + i) = V' (c * n' + i') ∧ V (c * n + j) = V' (c * n' + j')) : prods n V i j q = prods n' V' i' j' q :=
 sumI_congr fun c hc => by rw [(h c hc).1, (h c hc).2]
theorem prods_add (V : Nat → Nat) (i j a b : Nat) : prods n V i j (a + b) = prods n V i j a + sumI (fun c => fz (V ((a + c) * n + i)) * fz (V ((a + c) * n + j))) b := sumI_add _ _ _
theorem pan_same {a b t : Nat} (ha : t / n < a) (hb : t / n < b) : pan B n a t = pan B n b t := by rw [pan_lt _ _ ha, pan_lt _ _ hb]
variable (h : Exm B M P) (hP : 4196 ≤ P) (hP2 : P ≤ 50000) (hn : n ≤ 6) (hmn : m < n) (he : eliE B n m = 0)
include h hP hP2 hn hmn he
theorem stage_left (q i j : Nat) (hq : q ≤ n - m) (hj : j ≤ i) (hi : i < n - m) (hf : eliE B n (m + q) = 0) (hf' : eliE (stB B n m) (n - m) q = 0)
 (hV : ∀ c, c < q → ∀ r, r < n - m → pan (stB B n m) (n - m) q (c * (n - m) + r) = pan B n (m + q) ((m + c) * n + (m + r))) :
 dleft (stB B n m) (n - m) (pan (stB B n m) (n - m) q) i j q = dleft B n (pan B n (m + q)) (m + i) (m + j) (m + q) := by
 have hE := rest_val h hP (by omega) (by omega) he hmn
 have v1 := dleft_val hE (by omega) (by omega) (pan (stB B n m) (n - m) q) i j q (by omega) (fun c hc => ⟨pan_fin' hf' hc hi, pan_fin' hf' hc (by omega)⟩)
 have v2 := dleft_val h hP (by omega) (pan B n (m + q)) (m + i) (m + j) (m + q) (by omega) (fun c hc => ⟨pan_fin' hf hc (by omega), pan_fin' hf hc (by omega)⟩)
 rw [v1.1, v2.1]
 congr 1
 have e1 : (j * (n - m) + i) / (n - m) = j := idx_div hi
 have e2 : (j * (n - m) + i) % (n - m) = i := idx_mod hi
 have e3 : stM B M n m (j * (n - m) + i) = M ((m + j) * n + (m + i)) - prods n (pan B n m) (m + i) (m + j) m := by
  unfold stM restM
  rw [e1, e2, if_pos (by omega), show max j i = i by omega, show min j i = j by omega]
 rw [e3, prods_add]
 have e4 : prods n (pan B n m) (m + i) (m + j) m = prods n (pan B n (m + q)) (m + i) (m + j) m := prods_congr fun c hc => by
  exact ⟨pan_same (by rw [idx_div (by omega)]; exact hc) (by rw [idx_div (by omega)]; omega), pan_same (by rw [idx_div (by omega)]; exact hc) (by rw [idx_div (by omega)]; omega)⟩
 have e5 : prods (n - m) (pan (stB B n m) (n - m) q) i j q = sumI (fun c => fz (pan B n (m + q) ((m + c) * n + (m + i))) * fz (pan B n (m + q) ((m + c) * n + (m + j)))) q :=
  sumI_congr fun c hc => by rw [hV c hc i hi, hV c hc j (by omega)]
 rw [e4, e5]; omega
theorem stage_val (q i : Nat) (hq : q < n - m) (hj : q ≤ i) (hi : i < n - m) (hf : eliE B n (m + q) = 0) (hf' : eliE (stB B n m) (n - m) q = 0)
 (hV : ∀ c, c < q → ∀ r, r < n - m → pan (stB B n m) (n - m) q (c * (n - m) + r) = pan B n (m + q) ((m + c) * n + (m + r))) :
 pval (stB B n m) (n - m) (pan (stB B n m) (n - m) q) q i = pval B n (pan B n (m + q)) (m + q) (m + i) := by
 have a1 := stage_left h hP hP2 hn hmn he q q q (by omega) (Nat.le_refl _) hq hf hf' hV
 have a2 := stage_left h hP hP2 hn hmn he q i q (by omega) hj hi hf hf' hV
 unfold pval
 rw [a1, a2]
 by_cases hiq : i = q
 · rw [if_pos hiq, if_pos (by omega)]
 · rw [if_neg hiq, if_neg (by omega)]
theorem stage_code (q i : Nat) (hq : q < n - m) (hj : q ≤ i) (hi : i < n - m) (hf : eliE B n (m + q) = 0) (hf' : eliE (stB B n m) (n - m) q = 0)
 (hV : ∀ c, c < q → ∀ r, r < n - m → pan (stB B n m) (n - m) q (c * (n - m) + r) = pan B n (m + q) ((m + c) * n + (m + r))) :
 ccode (stB B n m) (n - m) q i = ccode B n (m + q) (m + i) := by
 have a2 := stage_left h hP hP2 hn hmn he q i q (by omega) hj hi hf hf' hV
 have a3 := stage_val h hP hP2 hn hmn he q i hq hj hi hf hf' hV
 unfold ccode
 rw [a2, a3]
 have e : (i = q) ↔ (m + i = m + q) := ⟨fun h => by omega, fun h => by omega⟩
 simp only [e]
theorem stage_pan : ∀ q, q ≤ n - m → eliE B n (m + q) = 0 → eliE (stB B n m) (n - m) q = 0 →
 ∀ c, c < q → ∀ r, r < n - m → pan (stB B n m) (n - m) q (c * (n - m) + r) = pan B n (m + q) ((m + c) * n + (m + r)) := by
 intro q
 induction q with
 | zero => intro _ _ _ c hc; omega
 | succ q ih =>
  intro hq hf hf' c hc r hr
  have f1 := eliE_pre (show m + q ≤ m + (q + 1) by omega) hf
  have f2 := eliE_pre (show q ≤ q + 1 by omega) hf'
  have hV := ih (by omega) f1 f2
  by_cases hcq : c < q
  · rw [pan_same (b := q) (by rw [idx_div hr]; omega) (by rw [idx_div hr]; omega), hV c hcq r hr]
    exact pan_same (by rw [idx_div (by omega)]; omega) (by rw [idx_div (by omega)]; omega)
  · obtain rfl : c = q := by omega
    have d1 : (c * (n - m) + r) / (n - m) = c := idx_div hr
    have d2 : (c * (n - m) + r) % (n - m) = r := idx_mod hr
    have d3 : ((m + c) * n + (m + r)) / n = m + c := idx_div (by omega)
    have d4 : ((m + c) * n + (m + r)) % n = m + r := idx_mod (by omega)
    rw [pan_lt _ _ (show _ < c + 1 by omega), pan_lt _ _ (show _ < m + (c + 1) by omega), d1, d2, d3, d4]
    by_cases hrc : r < c
    · rw [if_pos hrc, if_pos (by omega)]
    · rw [if_neg hrc, if_neg (by omega)]
      exact stage_val h hP hP2 hn hmn he c r (by omega) (by omega) hr f1 f2 hV
theorem stage_err (k : Nat) (hk : m + k ≤ n) : eliE (stB B n m) (n - m) k = eliE B n (m + k) := by
 have e1 : eliE B n (m + k) = firstE (colE B n) m k := by
  unfold eliE
  rw [firstE_split m 0 (m + k) (by omega) he, Nat.zero_add, show m + k - m = k by omega]
 rw [e1]
 refine firstE_same k 0 m fun q hq hz => ?_
 have f1 : eliE B n (m + q) = 0 := firstE_all _ _ fun i h1 h2 => by
  by_cases him : i < m
  · exact firstE_zero _ _ he i (Nat.zero_le _) (by omega)
  · have := (hz (i - m) (by omega)).2
    rwa [show m + (i - m) = i by omega] at this
 have f2 : eliE (stB B n m) (n - m) q = 0 := firstE_all _ _ fun i h1 h2 => by
  have := (hz i (by omega)).1
  rwa [Nat.zero_add] at this
 have hV := stage_pan h hP hP2 hn hmn he q (by omega) f1 f2
 rw [Nat.zero_add]
 unfold colE
 rw [show n - (m + q) = n - m - q by omega]
 refine firstE_same _ _ _ fun i hi _ => ?_
 rw [stage_code h hP hP2 hn hmn he q (q + i) (by omega) (by omega) (by omega) f1 f2 hV, Nat.add_assoc]
theorem stage_rest (k : Nat) (hk : m + k ≤ n) (hf : eliE B n (m + k) = 0) {t : Nat} (ht : t < (n - (m + k)) * (n - (m + k))) : rest (stB B n m) (n - m) k t = rest B n (m + k) t := by
 have hz : 0 < n - (m + k) := Nat.pos_of_ne_zero fun e => by rw [e] at ht; simp at ht
 have h1 : t / (n - (m + k)) < n - (m + k) := Nat.div_lt_of_lt_mul ht
 have h2 := Nat.mod_lt t hz
 have f2 : eliE (stB B n m) (n - m) k = 0 := (stage_err h hP hP2 hn hmn he k hk).trans hf
 have hV := stage_pan h hP hP2 hn hmn he k (by omega) hf f2
 unfold rest
 rw [show n - m - k = n - (m + k) by omega]
 generalize t / (n - (m + k)) = a at *
 generalize t % (n - (m + k)) = b at *
 have := stage_left h hP hP2 hn hmn he k (k + max a b) (k + min a b) (by omega) (by omega) (by omega) hf f2 hV
 rw [this, Nat.add_assoc, Nat.add_assoc]
end
theorem exm_of {X : Nat → Nat} (h : ∀ t, ffin (X t) = true) : Exm (fun t => fof (X t)) (fun t => fz (X t) * 2 ^ 1074) 4196 := fun t => ⟨(dval2 (h t)).1, Nat.le_trans (blen_val2 (h t)) (by omega)⟩
end Go.Proofs.YtablcbgeeeboeaaGreatDoor
namespace Go.Proofs.YtablcbgeeeboeaaGreatDoor
open Go.RowKit Sp
theorem elimE_zero {B : Nat → Option (Int × Int)} {M : Nat → Int} {P n k : Nat} (h : Exm B M P) (hP : 4196 ≤ P) (hP2 : P ≤ 60000) (hk : k ≤ 14) : elimE B n k = 0 ↔ eliE B n k = 0 := by
 unfold elimE
 by_cases he : eliE B n k = 0
 · rw [if_pos he]; exact ⟨fun _ => he, fun _ => conE_zero h hP hP2 hk he⟩
 · rw [if_neg he]
theorem elimE_eq {B B' : Nat → Option (Int × Int)} {M M' : Nat → Int} {P P' n k n' k' : Nat} (h : Exm B M P) (h' : Exm B' M' P') (hP : 4196 ≤ P) (hP2 : P ≤ 60000) (hP' : 4196 ≤ P') (hP2' : P' ≤ 60000) (hk : k ≤ 14) (hk' : k' ≤ 14)
 (e : eliE B n k = eliE B' n' k') : elimE B n k = elimE B' n' k' := by
 by_cases he : eliE B n k = 0
 · rw [(elimE_zero h hP hP2 hk).2 he, (elimE_zero h' hP' hP2' hk').2 (e ▸ he)]
 · unfold elimE
   rw [if_neg he, if_neg (e ▸ he), e]
theorem exm_bad {B : Nat → Option (Int × Int)} {M : Nat → Int} {P : Nat} (h : Exm B M P) (hP : P ≤ 60000) (n : Nat) : anyBad B n = false := by
 cases hb : anyBad B n with
 | false => rfl
 | true =>
  obtain ⟨i, _, h2⟩ := (anyBad_iff _ n).1 hb
  have h3 := h i
  rw [h3.1, dbad_ne (nrm_valid (by omega) (by omega))] at h2; cases h2
theorem isN_stB (B : Nat → Option (Int × Int)) (n m t : Nat) : IsN (stB B n m t) := by
 unfold stB; split
 · exact isN_dleft _ _ _ _ _ _
 · rw [← nrm_zero 0]; exact isN_nrm _ _
theorem stB_rest {B : Nat → Option (Int × Int)} {n m t : Nat} (ht : t < (n - m) * (n - m)) : rest B n m t = stB B n m t := by
 have hz : 0 < n - m := Nat.pos_of_ne_zero fun e => by rw [e] at ht; simp at ht
 have h1 : t / (n - m) < n - m := Nat.div_lt_of_lt_mul ht
 unfold stB; rw [if_pos h1]
structure Stg (B : Nat → Option (Int × Int)) (n k m : Nat) : Prop where
 b : elimE B n m = 0 → anyBad (stB B n m) ((n - m) * (n - m)) = false
 a : elimE B n m ≠ 0 → elimE B n k ≠ 0
 e : elimE B n m = 0 → elimE (stB B n m) (n - m) (k - m) = elimE B n k
 r : elimE B n m = 0 → elimE B n k = 0 → ∀ t, t < (n - k) * (n - k) → rest (stB B n m) (n - m) (k - m) t = rest B n k t
 v : elimE B n m = 0 → elimE B n k = 0 → ∀ j i, j < m → j ≤ i → i < n → pan B n m (j * n + i) = pan B n k (j * n + i)
 w : elimE B n m = 0 → elimE B n k = 0 → ∀ j i, m ≤ j → j < k → j ≤ i → i < n → pan (stB B n m) (n - m) (k - m) ((j - m) * (n - m) + (i - m)) = pan B n k (j * n + i)
theorem stages_all {X : Nat → Nat} (hX : ∀ t, ffin (X t) = true) {n k m : Nat} (hn : n ≤ 6) (hk : k ≤ n) (hm : m ≤ k) : Stg (fun t => fof (X t)) n k m := by
 have hE := exm_of hX
 generalize (fun t => fof (X t)) = B at *
 generalize (fun t => fz (X t) * 2 ^ 1074) = M at *
 have z1 := elimE_zero (n := n) (k := m) hE (by omega) (by omega) (by omega)
 have z2 := elimE_zero (n := n) (k := k) hE (by omega) (by omega) (by omega)
 by_cases hmn : m < n
 · have hR := fun he => rest_val (m := m) hE (by omega) (by omega) (by omega) (z1.1 he) hmn
   have f2 : elimE B n m = 0 → elimE B n k = 0 → eliE (stB B n m) (n - m) (k - m) = 0 := fun he hk0 => by
    have := stage_err hE (by omega) (by omega) hn hmn (z1.1 he) (k - m) (by omega)
    rw [show m + (k - m) = k by omega] at this
    rw [this]; exact z2.1 hk0
   refine ⟨fun he => exm_bad (hR he) (by omega) _, fun h1 h2 => h1 (z1.2 (eliE_pre hm (z2.1 h2))), fun he => ?_, fun he hk0 t ht => ?_, fun he hk0 j i hj hji hi => ?_, fun he hk0 j i hj hjk hji hi => ?_⟩
   · have h1 := stage_err hE (by omega) (by omega) hn hmn (z1.1 he) (k - m) (by omega)
     rw [show m + (k - m) = k by omega] at h1
     exact elimE_eq (hR he) hE (by omega) (by omega) (by omega) (by omega) (by omega) (by omega) h1
   · have h1 := stage_rest hE (by omega) (by omega) hn hmn (z1.1 he) (k - m) (by omega) (by rw [show m + (k - m) = k by omega]; exact z2.1 hk0) (t := t) (by rw [show m + (k - m) = k by omega]; exact ht)
     rw [show m + (k - m) = k by omega] at h1; exact h1
   · exact pan_same (by rw [idx_div hi]; exact hj) (by rw [idx_div hi]; omega)
   · have h1 := stage_pan hE (by omega) (by omega) hn hmn (z1.1 he) (k - m) (by omega) (by rw [show m + (k - m) = k by omega]; exact z2.1 hk0) (f2 he hk0) (j - m) (by omega) (i - m) (by omega)
     rw [show m + (k - m) = k by omega, show m + (j - m) = j by omega, show m + (i - m) = i by omega] at h1; exact h1
 · obtain rfl : m = n := by omega
   obtain rfl : k = m := by omega
   refine ⟨fun _ => by rw [Nat.sub_self, Nat.mul_zero]; rfl, fun h => h, fun he => ?_, fun _ _ t ht => by rw [Nat.sub_self, Nat.mul_zero] at ht; omega, fun _ _ j i hj hji hi => rfl, fun _ _ j i hj hjk => by omega⟩
   rw [he, Nat.sub_self]
   unfold elimE
   rw [if_pos (show eliE (stB B k k) 0 0 = 0 from rfl)]; rfl
end Go.Proofs.YtablcbgeeeboeaaGreatDoor
set_option maxRecDepth 100000
set_option maxHeartbeats 20000000
namespace Go.Proofs.YtablcbgeeeboeaaGreatDoor
open Go.RowKit Sp
attribute [local irreducible] Calls
theorem delim_ok (w : World) [Tb w] (n k : Nat) (width : Int) (ae : Option Addr) (ce : Nat) (B : Nat → Option (Int × Int)) [hB : DZ w ae (n * n) ce B] (hN : ∀ t, IsN (B t)) (hbad : anyBad B (n * n) = false) (hn : n ≤ 64) (hk : k ≤ n) (hw1 : 1 ≤ width) (hw2 : width ≤ 9223372036854775807) (he : elimE B n k = 0) :
 Calls Tryz.prog 13 #[.agg #[.int .i64 n, .int .i64 n, .slice ae (n * n) ce], .int .i64 k, .int .i64 width] w fun o w' => ∃ (pa : Option Addr) (pc : Nat) (oa : Option Addr) (oc : Nat),
  o = .returned (.tuple #[.agg #[.int .i64 n, .int .i64 k, .slice pa (n * k) pc], .agg #[.int .i64 (n - k : Nat), .int .i64 (n - k : Nat), .slice oa ((n - k) * (n - k)) oc], .int .i64 k, .int .i64 0]) ∧ FZ w' pa (n * k) pc (pan B n k) ∧ DZ w' oa ((n - k) * (n - k)) oc (rest B n k) ∧ From w w' := by
 refine (delim_all w n k width ae ce B hN hbad hn hk hw1 hw2).mono ?_
 rintro o w' ⟨_, rfl, ⟨pa, pc, oa, oc, rfl, hF, hD⟩, b⟩
 have hK : elimK B n k = k := by unfold elimK; rw [if_pos he]
 simp only [epn_ok he] at hF hD ⊢
 rw [he, hK]
 exact ⟨pa, pc, oa, oc, rfl, ⟨hF.2⟩, ⟨hD.dz fun i => isN_rest' _ _ _ _⟩, b⟩
theorem delim_no (w : World) [Tb w] (n k : Nat) (width : Int) (ae : Option Addr) (ce : Nat) (B : Nat → Option (Int × Int)) [hB : DZ w ae (n * n) ce B] (hN : ∀ t, IsN (B t)) (hbad : anyBad B (n * n) = false) (hn : n ≤ 64) (hk : k ≤ n) (hw1 : 1 ≤ width) (hw2 : width ≤ 9223372036854775807) :
 Calls Tryz.prog 13 #[.agg #[.int .i64 n, .int .i64 n, .slice ae (n * n) ce], .int .i64 k, .int .i64 width] w fun o w' => ∃ (pa : Option Addr) (m1 pc : Nat) (oa : Option Addr) (m2 oc : Nat) (c0 c1 c2 y : Int), o = .returned (.tuple #[.agg #[.int .i64 c0, .int .i64 c1, .slice pa m1 pc], .agg #[.int .i64 c2, .int .i64 c2, .slice oa m2 oc], .int .i64 y, .int .i64 (elimE B n k)]) ∧ From w w' := by
 refine (delim_all w n k width ae ce B hN hbad hn hk hw1 hw2).mono ?_
 rintro o w' ⟨_, rfl, ⟨pa, pc, oa, oc, rfl, hF, hD⟩, b⟩
 exact ⟨_, _, _, _, _, _, _, _, _, _, rfl, b⟩
theorem dstages_any (w : World) [Tb w] (a : Option Addr) (c0 cap : Nat) (L : Nat → Nat) [hL : FZ w a c0 cap L] (n s k m : Int) :
 Calls Tryz.prog 5 #[.slice a c0 cap, .int .i64 n, .int .i64 s, .int .i64 k, .int .i64 m] w fun o w' => o = .returned (.bool true) ∧ Below w.heap.size w w' := by
 have HSQ := fun W s' [Tb W] [FZ W a c0 cap L] => Lib.hid (square_any W a c0 cap L n s' true)
 have HAW := fun W [Tb W] => Lib.hid (frm (awake23_any W))
 have HMS := fun W => Lib.hid (gmod_any W s 3 (by omega) (by omega))
 generalize placeI s 3 = s3 at *
 go_enter Tryz.func5, Tryz.ntmps5
 go_wp2_with fail
 refine (HMS _).out.mono ?_; rintro o w0 ⟨rfl, rfl⟩
 go_wp2_with fail
 refine (HSQ _ _).out.mono ?_; rintro o w1 ⟨q, oa, oc, X, rfl, hS, _, b1⟩
 haveI b1' : From w w1 := ⟨b1⟩
 have hq6 := hS.k6
 obtain ⟨kq, hkq, hkl⟩ := pl_nat k (q + 1) (by omega)
 obtain ⟨mq, hmq, hml⟩ := pl_nat m (kq + 1) (by omega)
 have HST := Lib.hid (stages_all (fun t => (hS.f t).2) (n := q) (k := kq) (m := mq) hq6 (by omega) (by omega))
 have hbad := bad_fin (fun t => (hS.f t).2) (q * q)
 obtain ⟨B, hB⟩ : ∃ B, B = fun t => fof (X t) := ⟨_, rfl⟩
 have hBN : ∀ t, IsN (B t) := by rw [hB]; exact fun t => isN_fof _
 rw [← hB] at hbad HST
 haveI iZ : DZ w1 oa (q * q) oc B := by rw [hB]; exact ⟨hS.z⟩
 have HMK := fun W => Lib.hid (gmod_any W k ((q + 1 : Nat) : Int) (by omega) (by omega))
 have HMM := fun W => Lib.hid (gmod_any W m ((kq + 1 : Nat) : Int) (by omega) (by omega))
 rw [hkq] at HMK
 rw [hmq] at HMM
 rw [show ((q + 1 : Nat) : Int) = (q : Int) + 1 by omega] at HMK
 rw [show ((kq + 1 : Nat) : Int) = (kq : Int) + 1 by omega] at HMM
 have HB := Lib.hid hbad
 have HN := Lib.hid hBN
 clear hB hkq hmq hbad hBN HSQ HMS hS b1
 go_wp2_with fail
 refine (HMK _).out.mono ?_; rintro o z1 ⟨rfl, rfl⟩
 go_wp2_with fail
 refine (HMM _).out.mono ?_; rintro o z1 ⟨rfl, rfl⟩
 clear HMK HMM
 by_cases h1 : elimE B q mq = 0
 · by_cases h2 : elimE B q kq = 0
   · have HE1 := fun W [Tb W] [DZ W oa (q * q) oc B] => Lib.hid (delim_ok W q kq 2 oa oc B HN.out HB.out (by omega) (by omega) (by omega) (by omega) h2)
     have HE2 := fun W [Tb W] [DZ W oa (q * q) oc B] => Lib.hid (delim_ok W q mq 2 oa oc B HN.out HB.out (by omega) (by omega) (by omega) (by omega) h1)
     have HE3 := fun W a3 c3 [Tb W] [DZ W a3 ((q - mq) * (q - mq)) c3 (stB B q mq)] => Lib.hid (delim_ok W (q - mq) (kq - mq) 2 a3 c3 (stB B q mq) (isN_stB B q mq) (HST.out.b h1) (by omega) (by omega) (by omega) (by omega) ((HST.out.e h1).trans h2))
     have e1 : q - mq - (kq - mq) = q - kq := by omega
     rw [e1] at HE3
     rw [show ((kq - mq : Nat) : Int) = (kq : Int) - (mq : Int) by omega] at HE3
     have HR := Lib.hid (HST.out.r h1 h2)
     have HV := Lib.hid (HST.out.v h1 h2)
     have HW := Lib.hid (HST.out.w h1 h2)
     have HSB := fun W x c x' c' [Tb W] [DZ W x ((q - kq) * (q - kq)) c (rest B q kq)] [DZ W x' ((q - kq) * (q - kq)) c' (rest B q kq)] => Lib.hid (frm (gsameb_any W (q - kq : Nat) (q - kq : Nat) x x' ((q - kq) * (q - kq)) c c' (rest B q kq)))
     obtain ⟨N1, hN1⟩ : ∃ N1, N1 = q * kq := ⟨_, rfl⟩
     obtain ⟨N2, hN2⟩ : ∃ N2, N2 = q * mq := ⟨_, rfl⟩
     obtain ⟨N3', hN3⟩ : ∃ N3', N3' = (q - mq) * (kq - mq) := ⟨_, rfl⟩
     have l1 : (q : Int) * (kq : Int) = (N1 : Int) := by rw [hN1]; exact (Int.natCast_mul q kq).symm
     have l2 : (q : Int) * (mq : Int) = (N2 : Int) := by rw [hN2]; exact (Int.natCast_mul q mq).symm
     have l3 : ((q : Int) - (mq : Int)) * ((kq : Int) - (mq : Int)) = (N3' : Int) := by rw [hN3, show (q : Int) - (mq : Int) = ((q - mq : Nat) : Int) by omega, show (kq : Int) - (mq : Int) = ((kq - mq : Nat) : Int) by omega]; exact (Int.natCast_mul _ _).symm
     have u1 : N1 ≤ 36 := by rw [hN1]; exact Nat.mul_le_mul (show q ≤ 6 by omega) (show kq ≤ 6 by omega)
     have u2 : N2 ≤ 36 := by rw [hN2]; exact Nat.mul_le_mul (show q ≤ 6 by omega) (show mq ≤ 6 by omega)
     have u3 : N3' ≤ 36 := by rw [hN3]; exact Nat.mul_le_mul (show q - mq ≤ 6 by omega) (show kq - mq ≤ 6 by omega)
     rw [← hN1] at HE1
     rw [← hN2] at HE2
     rw [← hN3] at HE3
     have K1 := Lib.hid hN1
     have K2 := Lib.hid hN2
     have K3 := Lib.hid hN3
     clear h1 h2 HST HB HN e1 hN1 hN2 hN3
     go_wp2_with fail
     refine (HE1 _).out.mono ?_; rintro o w2 ⟨pa1, pc1, ra1, rc1, rfl, F1, D1, f1⟩
     go_wp2_with fail
     refine (HE2 _).out.mono ?_; rintro o w3 ⟨pa2, pc2, ra2, rc2, rfl, F2, D2, f2⟩
     haveI D2' : DZ w3 ra2 ((q - mq) * (q - mq)) rc2 (stB B q mq) := ⟨D2.out.congr fun t ht => stB_rest ht⟩
     clear D2
     go_wp2_with fail
     refine (HE3 _ _ _).out.mono ?_; rintro o w4 ⟨pa3, pc3, ra3, rc3, rfl, F3, D3, f3⟩
     haveI D3' : DZ w4 ra3 ((q - kq) * (q - kq)) rc3 (rest B q kq) := ⟨D3.out.congr HR.out⟩
     clear D3 HE1 HE2 HE3 HR
     go_wp2_with fail
     refine (HSB _ _ _ _ _).out.mono ?_; rintro o w5 ⟨rfl, f5⟩
     clear HSB
     go_wp2_with fail
     go_loopw [24] (fun x wr => ∃ j : Nat, j ≤ kq ∧ x = .int .i64 j ∧ Below w5.heap.size w5 wr) (fun x _ => kq - (intOf x).toNat)
     case atStart => exact ⟨0, by omega, rfl, Below.refl _ _⟩
     case round =>
      obtain ⟨j, hj, rfl, hbr⟩ := hrel
      haveI bwr : From w5 wr := ⟨hbr⟩
      clear hbr
      by_cases hlt : j < kq
      · obtain ⟨P, hP⟩ : ∃ P, P = j * q := ⟨_, rfl⟩
        have hjq : (j : Int) * (q : Int) = (P : Int) := by rw [hP]; exact (Int.natCast_mul j q).symm
        have hPu : P ≤ 36 := by rw [hP]; exact Nat.mul_le_mul (show j ≤ 6 by omega) (show q ≤ 6 by omega)
        have HP := Lib.hid hP
        clear hP
        go_wp2_with fail
        go_loopw [25] (fun x wr => ∃ i : Nat, j ≤ i ∧ i ≤ q ∧ x = .int .i64 i ∧ Below w5.heap.size w5 wr) (fun x _ => q - (intOf x).toNat)
        case atStart => exact ⟨j, by omega, by omega, rfl, zbh⟩
        case round =>
         rename World => wi
         obtain ⟨i, hi0, hi1, rfl, hbi⟩ := hrel
         haveI bwi : From w5 wi := ⟨hbi⟩
         clear hbi
         by_cases hlt2 : i < q
         · have t1 : P + i < N1 := by rw [HP.out, K1.out]; exact idx_lt hlt2 hlt
           have F1i : FZ wi pa1 N1 pc1 (pan B q kq) := inferInstance
           have y1 := F1i.out.idx (P + i) t1
           rw [show (((P + i : Nat)) : Int) = (P : Int) + (i : Int) by omega] at y1
           haveI z1 : CE wi (ab pa1) (ao pa1 + (P + i)) (.int .u64 ((pan B q kq (P + i) : Nat) : Int)) := ⟨F1i.out.cell _ t1, F1i.out.old (by omega)⟩
           by_cases hjm : j < mq
           · have t2 : P + i < N2 := by rw [HP.out, K2.out]; exact idx_lt hlt2 hjm
             have F2i : FZ wi pa2 N2 pc2 (pan B q mq) := inferInstance
             have y2 := F2i.out.idx (P + i) t2
             rw [show (((P + i : Nat)) : Int) = (P : Int) + (i : Int) by omega] at y2
             have hz2 := F2i.out.cell _ t2
             have hv := HV.out j i hjm hi0 hlt2
             rw [← HP.out] at hv
             rw [hv] at hz2
             haveI z2 : CE wi (ab pa2) (ao pa2 + (P + i)) (.int .u64 ((pan B q kq (P + i) : Nat) : Int)) := ⟨hz2, F2i.out.old (by omega)⟩
             generalize ((pan B q kq (P + i) : Nat) : Int) = y at *
             have hq1 : (y != y) = false := by simp
             clear hv hz2 F1i F2i
             go_wp2_with fail
             go_roundw
             case rel => exact ⟨i + 1, by omega, by omega, by go_num, zbh⟩
             case measure => simp [intOf]; omega
           · obtain ⟨R, hR⟩ : ∃ R, R = (j - mq) * (q - mq) := ⟨_, rfl⟩
             have hRq : ((j : Int) - (mq : Int)) * ((q : Int) - (mq : Int)) = (R : Int) := by rw [hR, show (j : Int) - (mq : Int) = ((j - mq : Nat) : Int) by omega, show (q : Int) - (mq : Int) = ((q - mq : Nat) : Int) by omega]; exact (Int.natCast_mul _ _).symm
             have hRu : R ≤ 36 := by rw [hR]; exact Nat.mul_le_mul (show j - mq ≤ 6 by omega) (show q - mq ≤ 6 by omega)
             have t2 : R + (i - mq) < N3' := by rw [hR, K3.out]; exact idx_lt (by omega) (by omega)
             have F3i : FZ wi pa3 N3' pc3 (pan (stB B q mq) (q - mq) (kq - mq)) := inferInstance
             have y2 := F3i.out.idx (R + (i - mq)) t2
             rw [show (((R + (i - mq) : Nat)) : Int) = (R : Int) + (i : Int) - (mq : Int) by omega] at y2
             have hz2 := F3i.out.cell _ t2
             have hv := HW.out j i (by omega) hlt hi0 hlt2
             rw [← HP.out, ← hR] at hv
             rw [hv] at hz2
             obtain ⟨o3, ho3⟩ : ∃ o3, o3 = R + (i - mq) := ⟨_, rfl⟩
             rw [← ho3] at y2 hz2
             haveI z2 : CE wi (ab pa3) (ao pa3 + o3) (.int .u64 ((pan B q kq (P + i) : Nat) : Int)) := ⟨hz2, F3i.out.old (by omega)⟩
             generalize ((pan B q kq (P + i) : Nat) : Int) = y at *
             have hq1 : (y != y) = false := by simp
             clear hv hz2 F1i F3i hR ho3
             go_wp2_with fail
             go_roundw
             case rel => exact ⟨i + 1, by omega, by omega, by go_num, zbh⟩
             case measure => simp [intOf]; omega
         · go_wp2_with fail
           go_roundw
           case rel => exact ⟨j + 1, by omega, by go_num, zbh⟩
           case measure => simp [intOf]; omega
      · go_wp2_with fail
        refine (HAW _).out.mono ?_; rintro o w7 ⟨rfl, b7⟩
        go_wp2_with fail
        go_ret
        exact ⟨rfl, zbh⟩
   · have HE1 := fun W [Tb W] [DZ W oa (q * q) oc B] => Lib.hid (delim_no W q kq 2 oa oc B HN.out HB.out (by omega) (by omega) (by omega) (by omega))
     have HE2 := fun W [Tb W] [DZ W oa (q * q) oc B] => Lib.hid (delim_ok W q mq 2 oa oc B HN.out HB.out (by omega) (by omega) (by omega) (by omega) h1)
     have HE3 := fun W a3 c3 [Tb W] [DZ W a3 ((q - mq) * (q - mq)) c3 (stB B q mq)] => Lib.hid (delim_no W (q - mq) (kq - mq) 2 a3 c3 (stB B q mq) (isN_stB B q mq) (HST.out.b h1) (by omega) (by omega) (by omega) (by omega))
     rw [HST.out.e h1] at HE3
     rw [show ((kq - mq : Nat) : Int) = (kq : Int) - (mq : Int) by omega] at HE3
     generalize elimE B q kq = z at *
     have hz1 : (z != 0) = true := by rw [bne_iff_ne]; exact h2
     have hz2 : (z != z) = false := by simp
     clear h1 h2 HST HB HN
     go_wp2_with fail
     refine (HE1 _).out.mono ?_; rintro o w2 ⟨x0, x1, x2, x3, x4, x5, x6, x7, x8, y1, rfl, f1⟩
     go_wp2_with fail
     refine (HE2 _).out.mono ?_; rintro o w3 ⟨pa2, pc2, ra2, rc2, rfl, F2, D2, f2⟩
     haveI D2' : DZ w3 ra2 ((q - mq) * (q - mq)) rc2 (stB B q mq) := ⟨D2.out.congr fun t ht => stB_rest ht⟩
     clear D2
     go_wp2_with fail
     refine (HE3 _ _ _).out.mono ?_; rintro o w4 ⟨v0, v1, v2, v3, v4, v5, v6, v7, v8, y2, rfl, f3⟩
     clear HE1 HE2 HE3
     go_wp2_with fail
     refine (HAW _).out.mono ?_; rintro o w7 ⟨rfl, b7⟩
     go_wp2_with fail
     go_ret
     exact ⟨rfl, zbh⟩
 · have h2 := HST.out.a h1
   have HE1 := fun W [Tb W] [DZ W oa (q * q) oc B] => Lib.hid (delim_no W q kq 2 oa oc B HN.out HB.out (by omega) (by omega) (by omega) (by omega))
   have HE2 := fun W [Tb W] [DZ W oa (q * q) oc B] => Lib.hid (delim_no W q mq 2 oa oc B HN.out HB.out (by omega) (by omega) (by omega) (by omega))
   generalize elimE B q kq = z at *
   generalize elimE B q mq = z2 at *
   have hz1 : (z != 0) = true := by rw [bne_iff_ne]; exact h2
   have hz2 : (z2 != 0) = true := by rw [bne_iff_ne]; exact h1
   clear h1 h2 HST HB HN
   go_wp2_with fail
   refine (HE1 _).out.mono ?_; rintro o w2 ⟨x0, x1, x2, x3, x4, x5, x6, x7, x8, y1, rfl, f1⟩
   go_wp2_with fail
   refine (HE2 _).out.mono ?_; rintro o w3 ⟨v0, v1, v2, v3, v4, v5, v6, v7, v8, y2, rfl, f2⟩
   clear HE1 HE2
   go_wp2_with fail
   refine (HAW _).out.mono ?_; rintro o w7 ⟨rfl, b7⟩
   go_wp2_with fail
   go_ret
   exact ⟨rfl, zbh⟩
theorem dstages_all (w : World) (hT : Tab w) (a : Option Addr) (c0 cap : Nat) (L : Nat → Nat) (hL : Fls w a c0 cap L) (n s k m : Int) :
 Calls Tryz.prog 5 #[.slice a c0 cap, .int .i64 n, .int .i64 s, .int .i64 k, .int .i64 m] w fun o w' => o = .returned (.bool true) ∧ Below w.heap.size w w' := by
 haveI : Tb w := ⟨hT⟩
 haveI : FZ w a c0 cap L := ⟨hL⟩
 exact dstages_any w a c0 cap L n s k m
end Go.Proofs.YtablcbgeeeboeaaGreatDoor
