/-
  Sums in another order. No function of the program in sight.
-/
import Derived.Test.YtgicceiimciafaaGreatDoorZwAP
namespace Go.Proofs.YtgicceiimciafaaGreatDoor
open Go.RowKit Sp
def lsum (f : Nat → Int) : List Nat → Int
 | [] => 0
 | x :: l => f x + lsum f l
theorem lsum_perm (f : Nat → Int) {l l' : List Nat} (h : l.Perm l') : lsum f l = lsum f l' := by
 induction h with
 | nil => rfl
 | cons x _ ih => simp only [lsum, ih]
 | swap x y l => simp only [lsum]; omega
 | trans _ _ h1 h2 => rw [h1, h2]
theorem lsum_app (f : Nat → Int) (l l' : List Nat) : lsum f (l ++ l') = lsum f l + lsum f l' := by
 induction l with
 | nil => simp [lsum]
 | cons x l ih => simp only [List.cons_append, lsum, ih]; omega
theorem sumI_list (f : Nat → Int) (l : List Nat) : ∀ k, k ≤ l.length → sumI (fun i => f (l.getD i 0)) k = lsum f (l.take k) := by
 intro k
 induction k with
 | zero => intro _; rfl
 | succ k ih =>
  intro hk
  rw [List.take_add_one, lsum_app, ← ih (by omega)]
  have : l[k]? = some (l.getD k 0) := by rw [List.getD_eq_getElem?_getD, List.getElem?_eq_getElem (by omega)]; rfl
  rw [this]
  simp [sumI, lsum]
theorem lsum_range (f : Nat → Int) (n : Nat) : lsum f (List.range n) = sumI f n := by
 induction n with
 | zero => rfl
 | succ n ih => rw [List.range_succ, lsum_app, ih]; simp [lsum, sumI]
theorem sumI_perm (f : Nat → Int) {l : List Nat} {n : Nat} (h : l.Perm (List.range n)) : sumI (fun i => f (l.getD i 0)) n = sumI f n := by
 have hl : l.length = n := by rw [h.length_eq, List.length_range]
 rw [sumI_list f l n (by omega), List.take_of_length_le (by omega), lsum_perm f h, lsum_range]
theorem perm_lt {l : List Nat} {n : Nat} (h : l.Perm (List.range n)) {i : Nat} (hi : i < n) : l.getD i 0 < n := by
 have hl : l.length = n := by rw [h.length_eq, List.length_range]
 have : l.getD i 0 ∈ l := by rw [List.getD_eq_getElem?_getD, List.getElem?_eq_getElem (by omega)]; exact List.getElem_mem _
 simpa using h.subset this
theorem ddot_perm (X Y : Nat → Nat) {l : List Nat} {n : Nat} (hn : n ≤ 15) (hx : ∀ i, i < n → ffin (X i) = true) (hy : ∀ i, i < n → ffin (Y i) = true) (h : l.Perm (List.range n)) :
 ddot (fun i => X (l.getD i 0)) (fun i => Y (l.getD i 0)) n = ddot X Y n := by
 rw [(adot_val hn hx hy).1, (adot_val (X := fun i => X (l.getD i 0)) (Y := fun i => Y (l.getD i 0)) hn (fun i hi => hx _ (perm_lt h hi)) (fun i hi => hy _ (perm_lt h hi))).1]
 congr 1
 exact sumI_perm (fun i => fz (X i) * fz (Y i)) h
theorem dsum_perm (X : Nat → Nat) {l : List Nat} {n : Nat} (hn : n ≤ 15) (hx : ∀ i, i < n → ffin (X i) = true) (h : l.Perm (List.range n)) :
 dsum (fun i => fof (X (l.getD i 0))) n = dsum (fun i => fof (X i)) n := by
 rw [(asum_val hn hx).1, (asum_val (L := fun i => X (l.getD i 0)) hn (fun i hi => hx _ (perm_lt h hi))).1]
 congr 1
 exact sumI_perm (fun i => fz (X i)) h
theorem sumI_split (f : Nat → Int) (k m : Nat) : sumI f (k + m) = sumI f k + sumI (fun i => f (k + i)) m := by
 induction m with
 | zero => simp [sumI]
 | succ m ih => show sumI f (k + m) + f (k + m) = _; rw [ih]; simp only [sumI]; omega
theorem ddot_split (X Y : Nat → Nat) {k m : Nat} (hn : k + m ≤ 15) (hx : ∀ i, i < k + m → ffin (X i) = true) (hy : ∀ i, i < k + m → ffin (Y i) = true) :
 dadd (ddot X Y k) (ddot (fun i => X (k + i)) (fun i => Y (k + i)) m) = ddot X Y (k + m) := by
 have v0 := adot_val hn hx hy
 have v1 := adot_val (n := k) (by omega) (fun i hi => hx i (by omega)) (fun i hi => hy i (by omega))
 have v2 := adot_val (X := fun i => X (k + i)) (Y := fun i => Y (k + i)) (n := m) (by omega) (fun i hi => hx _ (by omega)) (fun i hi => hy _ (by omega))
 rw [v0.1, v1.1, v2.1, dadd_nrm _ _ _ v1.2 v2.2]
 congr 1
 exact (sumI_split (fun i => fz (X i) * fz (Y i)) k m).symm
theorem er_perm (av : List Nat) : ∀ (i : Nat) (hi : i < av.length), (av[i] :: av.eraseIdx i).Perm av := by
 induction av with
 | nil => intro i hi; exact absurd hi (by simp)
 | cons a t ih =>
  intro i hi
  cases i with
  | zero => exact List.Perm.refl _
  | succ i =>
   have hi' : i < t.length := by simpa using hi
   simp only [List.getElem_cons_succ, List.eraseIdx_cons_succ]
   exact (List.Perm.swap a t[i] (t.eraseIdx i)).trans (List.Perm.cons a (ih i hi'))
theorem shuf_step {out av : List Nat} {n i x : Nat} (h : (out ++ av).Perm (List.range n)) (hi : i < av.length) (hx : av[i]? = some x) : (out ++ [x] ++ av.eraseIdx i).Perm (List.range n) := by
 have hx' : av[i] = x := by rw [List.getElem?_eq_getElem hi] at hx; exact Option.some.inj hx
 refine List.Perm.trans ?_ h
 rw [List.append_assoc]
 refine List.Perm.append_left out ?_
 rw [List.singleton_append, ← hx']
 exact er_perm av i hi
end Go.Proofs.YtgicceiimciafaaGreatDoor
