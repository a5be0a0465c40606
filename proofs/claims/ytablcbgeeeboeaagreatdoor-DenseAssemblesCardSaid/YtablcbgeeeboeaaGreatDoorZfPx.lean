/-
  Plain law: what Eliminate computes, column by column. No program in sight.
-/
import Derived.Test.YtablcbgeeeboeaaGreatDoorZfGq
namespace Go.Proofs.YtablcbgeeeboeaaGreatDoor
open Go.RowKit Sp
def dterm (B : Nat → Option (Int × Int)) (n : Nat) (V : Nat → Nat) (i j : Nat) : Nat → Option (Int × Int)
 | 0 => B (j * n + i)
 | c + 1 => dneg (dmul (fof (V (c * n + i))) (fof (V (c * n + j))))
def dleft (B : Nat → Option (Int × Int)) (n : Nat) (V : Nat → Nat) (i j m : Nat) : Option (Int × Int) := dsum (dterm B n V i j) (m + 1)
noncomputable def pval (B : Nat → Option (Int × Int)) (n : Nat) (V : Nat → Nat) (j i : Nat) : Nat :=
 if i = j then froot (dleft B n V j j j) 0 else fquo (dleft B n V i j j) (fof (froot (dleft B n V j j j) 0)) 0
noncomputable def pan (B : Nat → Option (Int × Int)) (n : Nat) : Nat → Nat → Nat
 | 0, _ => 0
 | j + 1, t => if t / n = j then (if t % n < j then 0 else pval B n (pan B n j) j (t % n)) else pan B n j t
noncomputable def panC (B : Nat → Option (Int × Int)) (n j i : Nat) (t : Nat) : Nat :=
 if t / n = j ∧ j ≤ t % n ∧ t % n < i then pval B n (pan B n j) j (t % n) else pan B n j t
noncomputable def ccode (B : Nat → Option (Int × Int)) (n j i : Nat) : Int :=
 if dbad (dleft B n (pan B n j) i j j) then 233
 else if i = j ∧ (dman (dleft B n (pan B n j) i j j) ≤ 0 ∨ fzero (pval B n (pan B n j) j i) = true) then 231
 else if ffin (pval B n (pan B n j) j i) then 0 else 233
def firstE (f : Nat → Int) (a : Nat) : Nat → Int
 | 0 => 0
 | q + 1 => if f a = 0 then firstE f (a + 1) q else f a
def firstAt (f : Nat → Int) (a : Nat) : Nat → Nat
 | 0 => a
 | q + 1 => if f a = 0 then firstAt f (a + 1) q else a
noncomputable def colE (B : Nat → Option (Int × Int)) (n j : Nat) : Int := firstE (ccode B n j) j (n - j)
noncomputable def eliE (B : Nat → Option (Int × Int)) (n k : Nat) : Int := firstE (colE B n) 0 k
noncomputable def eliAt (B : Nat → Option (Int × Int)) (n k : Nat) : Nat := firstAt (colE B n) 0 k
noncomputable def resE' (B : Nat → Option (Int × Int)) (n k j i : Nat) : Int := if dbad (dleft B n (pan B n k) i j k) then 233 else 0
noncomputable def conC (B : Nat → Option (Int × Int)) (n k j : Nat) : Int := firstE (resE' B n k j) j (n - j)
noncomputable def conE (B : Nat → Option (Int × Int)) (n k : Nat) : Int := firstE (conC B n k) k (n - k)
noncomputable def elimE (B : Nat → Option (Int × Int)) (n k : Nat) : Int := if eliE B n k = 0 then conE B n k else eliE B n k
noncomputable def elimK (B : Nat → Option (Int × Int)) (n k : Nat) : Nat := if elimE B n k = 0 then k else if eliE B n k = 231 then eliAt B n k else 0
noncomputable def rest (B : Nat → Option (Int × Int)) (n k t : Nat) : Option (Int × Int) :=
 dleft B n (pan B n k) (k + max (t / (n - k)) (t % (n - k))) (k + min (t / (n - k)) (t % (n - k))) k
theorem firstE_ok {f : Nat → Int} {a q : Nat} (h : f a = 0) (hq : 0 < q) : firstE f a q = firstE f (a + 1) (q - 1) := by
 obtain ⟨p, rfl⟩ : ∃ p, q = p + 1 := ⟨q - 1, by omega⟩
 simp only [firstE, h, if_true, Nat.add_sub_cancel]
theorem firstE_no {f : Nat → Int} {a q : Nat} (h : f a ≠ 0) (hq : 0 < q) : firstE f a q = f a := by
 obtain ⟨p, rfl⟩ : ∃ p, q = p + 1 := ⟨q - 1, by omega⟩
 simp only [firstE, if_neg h]
theorem firstAt_ok {f : Nat → Int} {a q : Nat} (h : f a = 0) (hq : 0 < q) : firstAt f a q = firstAt f (a + 1) (q - 1) := by
 obtain ⟨p, rfl⟩ : ∃ p, q = p + 1 := ⟨q - 1, by omega⟩
 simp only [firstAt, h, if_true, Nat.add_sub_cancel]
theorem firstAt_no {f : Nat → Int} {a q : Nat} (h : f a ≠ 0) (hq : 0 < q) : firstAt f a q = a := by
 obtain ⟨p, rfl⟩ : ∃ p, q = p + 1 := ⟨q - 1, by omega⟩
 simp only [firstAt, if_neg h]
theorem firstE_all {f : Nat → Int} : ∀ (q a : Nat), (∀ i, a ≤ i → i < a + q → f i = 0) → firstE f a q = 0 := by
 intro q
 induction q with
 | zero => intro a _; rfl
 | succ q ih =>
  intro a h
  simp only [firstE, h a (Nat.le_refl _) (by omega), if_true]
  exact ih (a + 1) fun i h1 h2 => h i (by omega) (by omega)
theorem idx_div {n j i : Nat} (hi : i < n) : (j * n + i) / n = j := by
 rw [Nat.mul_comm, Nat.mul_add_div (by omega), Nat.div_eq_of_lt hi, Nat.add_zero]
theorem idx_mod {n j i : Nat} (hi : i < n) : (j * n + i) % n = i := by
 rw [Nat.mul_comm, Nat.mul_add_mod, Nat.mod_eq_of_lt hi]
theorem idx_lt {n k j i : Nat} (hi : i < n) (hj : j < k) : j * n + i < n * k := by
 have h1 : (j + 1) * n ≤ k * n := Nat.mul_le_mul_right n hj
 rw [Nat.add_mul, Nat.one_mul] at h1
 rw [Nat.mul_comm n k]; omega
theorem idx_eq {n t : Nat} : t / n * n + t % n = t := by rw [Nat.mul_comm]; exact Nat.div_add_mod t n
theorem dterm_congr {B : Nat → Option (Int × Int)} {n : Nat} {V V' : Nat → Nat} {i j m : Nat} (h : ∀ c, c < m → V (c * n + i) = V' (c * n + i) ∧ V (c * n + j) = V' (c * n + j)) :
 ∀ q, q < m + 1 → dterm B n V i j q = dterm B n V' i j q := by
 intro q hq
 cases q with
 | zero => rfl
 | succ c => simp only [dterm, (h c (by omega)).1, (h c (by omega)).2]
theorem mnE_congr {d d' : Nat → Option (Int × Int)} {n : Nat} (h : ∀ i, i < n → d i = d' i) : mnE d n = mnE d' n := by
 induction n with
 | zero => rfl
 | succ n ih => simp only [mnE]; rw [ih fun i hi => h i (by omega), h n (by omega)]
theorem anyBad_congr {d d' : Nat → Option (Int × Int)} {n : Nat} (h : ∀ i, i < n → d i = d' i) : anyBad d n = anyBad d' n := by
 induction n with
 | zero => rfl
 | succ n ih => simp only [anyBad]; rw [ih fun i hi => h i (by omega), h n (by omega)]
theorem dsum_congr {d d' : Nat → Option (Int × Int)} {n : Nat} (h : ∀ i, i < n → d i = d' i) : dsum d n = dsum d' n := by
 unfold dsum; rw [anyBad_congr h, mnE_congr h, smE_congr h]
theorem dleft_congr {B : Nat → Option (Int × Int)} {n : Nat} {V V' : Nat → Nat} {i j m : Nat} (h : ∀ c, c < m → V (c * n + i) = V' (c * n + i) ∧ V (c * n + j) = V' (c * n + j)) :
 dleft B n V i j m = dleft B n V' i j m := dsum_congr (dterm_congr h)
theorem isN_dleft (B : Nat → Option (Int × Int)) (n : Nat) (V : Nat → Nat) (i j m : Nat) : IsN (dleft B n V i j m) := by
 unfold dleft dsum
 split
 · exact isN_none
 · exact isN_nrm _ _
theorem isN_dterm {B : Nat → Option (Int × Int)} (hB : ∀ t, IsN (B t)) (n : Nat) (V : Nat → Nat) (i j q : Nat) : IsN (dterm B n V i j q) := by
 cases q with
 | zero => exact hB _
 | succ c => exact isN_neg (isN_mul _ _)
theorem dleft_panC {B : Nat → Option (Int × Int)} {n j r i m : Nat} (hi : i < n) (hj : j < n) : dleft B n (panC B n m r) i j m = dleft B n (pan B n m) i j m :=
 dleft_congr fun c hc => by
  unfold panC
  rw [if_neg (by rw [idx_div hi]; omega), if_neg (by rw [idx_div hj]; omega)]
  exact ⟨rfl, rfl⟩
theorem pan_ge {B : Nat → Option (Int × Int)} {n : Nat} : ∀ (j t : Nat), j ≤ t / n → pan B n j t = 0 := by
 intro j
 induction j with
 | zero => intro t _; rfl
 | succ j ih => intro t h; simp only [pan]; rw [if_neg (by omega)]; exact ih t (by omega)
theorem panC_first {B : Nat → Option (Int × Int)} {n j i : Nat} (h : i ≤ j) : panC B n j i = pan B n j := by
 funext t; unfold panC; rw [if_neg (by omega)]
theorem panC_last {B : Nat → Option (Int × Int)} {n j : Nat} (hn : 0 < n) : panC B n j n = pan B n (j + 1) := by
 funext t
 unfold panC
 simp only [pan]
 have := Nat.mod_lt t hn
 by_cases h1 : t / n = j
 · by_cases h2 : j ≤ t % n
   · rw [if_pos ⟨h1, h2, this⟩, if_pos h1, if_neg (by omega)]
   · rw [if_neg (by omega), if_pos h1, if_pos (by omega)]; exact pan_ge j t (by omega)
 · rw [if_neg (by omega), if_neg h1]
theorem panC_step {B : Nat → Option (Int × Int)} {n j i : Nat} (hi : i < n) (hj : j ≤ i) :
 (fun t => if t = j * n + i then pval B n (pan B n j) j i else panC B n j i t) = panC B n j (i + 1) := by
 funext t
 have e := @idx_eq n t
 unfold panC
 by_cases h : t = j * n + i
 · subst h; rw [if_pos rfl, idx_div hi, idx_mod hi, if_pos (by omega)]
 · rw [if_neg h]
   by_cases h1 : t / n = j ∧ t % n = i
   · exact absurd (by rw [← e, h1.1, h1.2]) h
   · by_cases h2 : t / n = j ∧ j ≤ t % n ∧ t % n < i
     · rw [if_pos h2, if_pos ⟨h2.1, h2.2.1, by omega⟩]
     · rw [if_neg h2, if_neg (fun h3 => h2 ⟨h3.1, h3.2.1, by omega⟩)]
theorem fquo_bad (d : Option (Int × Int)) (m : Int) : ffin (fquo none d m) = false := by
 have : fquo none d m = fNaN := by cases d <;> rfl
 rw [this]; decide
end Go.Proofs.YtablcbgeeeboeaaGreatDoor
