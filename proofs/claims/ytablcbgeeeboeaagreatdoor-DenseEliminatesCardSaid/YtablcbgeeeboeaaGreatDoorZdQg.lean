/-
  Walks: package sparseref23: Eliminate's early errors.
-/
import Derived.Test.YtablcbgeeeboeaaGreatDoorZdPd
import Derived.Test.YtablcbgeeeboeaaGreatDoorZdPx
import Derived.Test.YtablcbgeeeboeaaGreatDoorZdPt
import Derived.Test.YtablcbgeeeboeaaGreatDoorZdQd
import Derived.Test.YtablcbgeeeboeaaGreatDoorZdRt
import Derived.Test.YtablcbgeeeboeaaGreatDoorZdTd
set_option maxRecDepth 100000
set_option maxHeartbeats 20000000
namespace Go.Proofs.YtablcbgeeeboeaaGreatDoor
open Go.RowKit Sp
attribute [local irreducible] Calls
theorem relim_big (w : World) [Tb w] (r k width : Int) (ae : Option Addr) (M ce : Nat) (B : Nat → Option (Int × Int)) [hB : DZ w ae M ce B] (hE : chkE r r M (anyBad B M) = 0) (hk : ¬ k < 0) (hk2 : r < k) :
 Calls Tryz.prog 14 #[.agg #[.int .i64 r, .int .i64 r, .slice ae M ce], .int .i64 k, .int .i64 width] w fun o w' => o = .returned (.tuple #[.agg #[.int .i64 0, .int .i64 0, .slice none 0 0], .agg #[.int .i64 0, .int .i64 0, .slice none 0 0], .int .i64 0, .int .i64 5]) ∧ Below w.heap.size w w' := by
 have HCk := fun W [i : DZ W ae M ce B] [Tb W] => Lib.hid (frm (by
  obtain ⟨⟨A, C, h1⟩, hN⟩ := i.out
  have h := rcheck_any W tb r r ae M ce _ h1 (mel_b hN A C)
  have e : anyBad (fun i => (mel B A C i).d) M = anyBad B M := anyBad_congr fun t ht => mel_d (hN t ht)
  rw [e] at h
  exact h))
 have l1 := hB.out.fits
 rw [hE] at HCk
 clear hE
 have hq : (r != r) = false := by simp
 have hq3 : decide (k < 0) = false := decide_eq_false hk
 have hq4 : decide (r < k) = true := decide_eq_true hk2
 go_enter Tryz.func14, Tryz.ntmps14
 go_wp2_with fail
 refine (HCk _).out.mono ?_; rintro o w2 ⟨rfl, b2⟩
 go_wp2_with fail
 refine bodyPost_ret (v := .tuple #[.agg #[.int .i64 0, .int .i64 0, .slice none 0 0], .agg #[.int .i64 0, .int .i64 0, .slice none 0 0], .int .i64 0, .int .i64 5]) (by simp only [results, Tryz.results14]; go_simp) rfl ?_
 exact ⟨rfl, zbh⟩
theorem relim_wid (w : World) [Tb w] (r k width : Int) (ae : Option Addr) (M ce : Nat) (B : Nat → Option (Int × Int)) [hB : DZ w ae M ce B] (hE : chkE r r M (anyBad B M) = 0) (hk : ¬ k < 0) (hk2 : ¬ r < k) (hw : width < 1) :
 Calls Tryz.prog 14 #[.agg #[.int .i64 r, .int .i64 r, .slice ae M ce], .int .i64 k, .int .i64 width] w fun o w' => o = .returned (.tuple #[.agg #[.int .i64 0, .int .i64 0, .slice none 0 0], .agg #[.int .i64 0, .int .i64 0, .slice none 0 0], .int .i64 0, .int .i64 230]) ∧ Below w.heap.size w w' := by
 have HCk := fun W [i : DZ W ae M ce B] [Tb W] => Lib.hid (frm (by
  obtain ⟨⟨A, C, h1⟩, hN⟩ := i.out
  have h := rcheck_any W tb r r ae M ce _ h1 (mel_b hN A C)
  have e : anyBad (fun i => (mel B A C i).d) M = anyBad B M := anyBad_congr fun t ht => mel_d (hN t ht)
  rw [e] at h
  exact h))
 have l1 := hB.out.fits
 rw [hE] at HCk
 clear hE
 have hq : (r != r) = false := by simp
 have hq3 : decide (k < 0) = false := decide_eq_false hk
 have hq4 : decide (r < k) = false := decide_eq_false hk2
 go_enter Tryz.func14, Tryz.ntmps14
 go_wp2_with fail
 refine (HCk _).out.mono ?_; rintro o w2 ⟨rfl, b2⟩
 go_wp2_with fail
 refine bodyPost_ret (v := .tuple #[.agg #[.int .i64 0, .int .i64 0, .slice none 0 0], .agg #[.int .i64 0, .int .i64 0, .slice none 0 0], .int .i64 0, .int .i64 230]) (by simp only [results, Tryz.results14]; go_simp) rfl ?_
 exact ⟨rfl, zbh⟩
end Go.Proofs.YtablcbgeeeboeaaGreatDoor
set_option maxRecDepth 100000
set_option maxHeartbeats 20000000
namespace Go.Proofs.YtablcbgeeeboeaaGreatDoor
open Go.RowKit Sp
attribute [local irreducible] Calls
theorem delim_big (w : World) [Tb w] (r c k width : Int) (ae : Option Addr) (M ce : Nat) (B : Nat → Option (Int × Int)) [hB : DZ w ae M ce B] (hE : chkE r c M (anyBad B M) = 0) (h : r = c) (hk : ¬ k < 0) (hk2 : r < k) :
 Calls Tryz.prog 13 #[.agg #[.int .i64 r, .int .i64 c, .slice ae M ce], .int .i64 k, .int .i64 width] w fun o w' => o = .returned (.tuple #[.agg #[.int .i64 0, .int .i64 0, .slice none 0 0], .agg #[.int .i64 0, .int .i64 0, .slice none 0 0], .int .i64 0, .int .i64 (5)]) ∧ Below w.heap.size w w' := by
 have HCk := fun W [i : DZ W ae M ce B] [Tb W] => Lib.hid (frm (by
  obtain ⟨⟨A, C, h1⟩, hN⟩ := i.out
  have h := dcheck_any W tb r c ae M ce _ h1 (mel_b hN A C)
  have e : anyBad (fun i => (mel B A C i).d) M = anyBad B M := anyBad_congr fun t ht => mel_d (hN t ht)
  rw [e] at h
  exact h))
 have l1 := hB.out.fits
 rw [hE] at HCk
 clear hE
 subst h
 have hq : (r != r) = false := by simp
 go_enter Tryz.func13, Tryz.ntmps13
 go_wp2_with fail
 refine (HCk _).out.mono ?_; rintro o w2 ⟨rfl, b2⟩
 go_wp2_with fail
 refine bodyPost_ret (v := .tuple #[.agg #[.int .i64 0, .int .i64 0, .slice none 0 0], .agg #[.int .i64 0, .int .i64 0, .slice none 0 0], .int .i64 0, .int .i64 (5)]) (by simp only [results, Tryz.results13]; go_simp) rfl ?_
 exact ⟨rfl, zbh⟩
theorem delim_wid (w : World) [Tb w] (r c k width : Int) (ae : Option Addr) (M ce : Nat) (B : Nat → Option (Int × Int)) [hB : DZ w ae M ce B] (hE : chkE r c M (anyBad B M) = 0) (h : r = c) (hk : ¬ k < 0) (hk2 : ¬ r < k) (hw : width < 1) :
 Calls Tryz.prog 13 #[.agg #[.int .i64 r, .int .i64 c, .slice ae M ce], .int .i64 k, .int .i64 width] w fun o w' => o = .returned (.tuple #[.agg #[.int .i64 0, .int .i64 0, .slice none 0 0], .agg #[.int .i64 0, .int .i64 0, .slice none 0 0], .int .i64 0, .int .i64 (230)]) ∧ Below w.heap.size w w' := by
 have HCk := fun W [i : DZ W ae M ce B] [Tb W] => Lib.hid (frm (by
  obtain ⟨⟨A, C, h1⟩, hN⟩ := i.out
  have h := dcheck_any W tb r c ae M ce _ h1 (mel_b hN A C)
  have e : anyBad (fun i => (mel B A C i).d) M = anyBad B M := anyBad_congr fun t ht => mel_d (hN t ht)
  rw [e] at h
  exact h))
 have l1 := hB.out.fits
 rw [hE] at HCk
 clear hE
 subst h
 have hq : (r != r) = false := by simp
 go_enter Tryz.func13, Tryz.ntmps13
 go_wp2_with fail
 refine (HCk _).out.mono ?_; rintro o w2 ⟨rfl, b2⟩
 go_wp2_with fail
 refine bodyPost_ret (v := .tuple #[.agg #[.int .i64 0, .int .i64 0, .slice none 0 0], .agg #[.int .i64 0, .int .i64 0, .slice none 0 0], .int .i64 0, .int .i64 (230)]) (by simp only [results, Tryz.results13]; go_simp) rfl ?_
 exact ⟨rfl, zbh⟩
end Go.Proofs.YtablcbgeeeboeaaGreatDoor
namespace Go.Proofs.YtablcbgeeeboeaaGreatDoor
open Go.RowKit Sp
def ElX (r1 r2 N q1 Q : Nat) (V : Nat → Nat) (D : Nat → Option (Int × Int)) (K E : Int) (v : Value) (lo hi : Nat) (w : World) : Prop := ∃ (pa : Option Addr) (pc : Nat) (oa : Option Addr) (oc : Nat),
 v = .tuple #[.agg #[.int .i64 r1, .int .i64 r2, .slice pa N pc], .agg #[.int .i64 q1, .int .i64 q1, .slice oa Q oc], .int .i64 K, .int .i64 E] ∧ FW pa N pc V lo hi w ∧ DW oa Q oc D lo hi w
theorem ElR.x {B : Nat → Option (Int × Int)} {n k : Nat} {v : Value} {lo hi : Nat} {w : World} (h : ElR B n k v lo hi w) : ElX (epn B n k n) (epn B n k k) (epn B n k (n * k)) (epn B n k (n - k)) (epn B n k ((n - k) * (n - k))) (pan B n k) (rest B n k) (elimK B n k) (elimE B n k) v lo hi w := h
theorem ElX.zero (V : Nat → Nat) (D : Nat → Option (Int × Int)) (E : Int) (lo hi : Nat) (w : World) : ElX 0 0 0 0 0 V D 0 E (.tuple #[.agg #[.int .i64 0, .int .i64 0, .slice none 0 0], .agg #[.int .i64 0, .int .i64 0, .slice none 0 0], .int .i64 0, .int .i64 E]) lo hi w :=
 ⟨none, 0, none, 0, rfl, ⟨fun h => absurd h (Nat.lt_irrefl _), fls_nil _ _⟩, ⟨_, _, DM.nil _ _ _, fun g h => (by cases h), fun i hi => by omega⟩⟩
attribute [local irreducible] Calls
theorem elims_x (n k : Nat) (width : Int) (ae : Option Addr) (ce : Nat) (B : Nat → Option (Int × Int)) (hBN : ∀ t, IsN (B t)) (hbad : anyBad B (n * n) = false) (hn : n ≤ 64) (hk : k ≤ n + 1) (hw2 : width ≤ 9223372036854775807) :
 ∃ (r1 r2 N q1 Q : Nat) (V : Nat → Nat) (D : Nat → Option (Int × Int)) (K E : Int), (∀ i, IsN (D i)) ∧
  (∀ (W : World) [Tb W] [DZ W ae (n * n) ce B], Calls Tryz.prog 13 #[.agg #[.int .i64 n, .int .i64 n, .slice ae (n * n) ce], .int .i64 (k : Int), .int .i64 width] W fun o w' => ∃ v, o = .returned v ∧ ElX r1 r2 N q1 Q V D K E v W.heap.size w'.heap.size w' ∧ From W w') ∧
  (∀ (W : World) [Tb W] [DZ W ae (n * n) ce B], Calls Tryz.prog 14 #[.agg #[.int .i64 n, .int .i64 n, .slice ae (n * n) ce], .int .i64 (k : Int), .int .i64 width] W fun o w' => ∃ v, o = .returned v ∧ ElX r1 r2 N q1 Q V D K E v W.heap.size w'.heap.size w' ∧ From W w') := by
 have hsz : szE n n (n * n) = 0 := by unfold szE; rw [if_neg (by omega), if_neg (by omega), if_pos (Int.natCast_mul n n)]
 have hE : chkE n n (n * n) (anyBad B (n * n)) = 0 := by unfold chkE; rw [if_pos hsz, hbad]; rfl
 by_cases h1 : k ≤ n
 · by_cases h2 : 1 ≤ width
   · refine ⟨epn B n k n, epn B n k k, epn B n k (n * k), epn B n k (n - k), epn B n k ((n - k) * (n - k)), pan B n k, rest B n k, elimK B n k, elimE B n k, fun i => isN_rest' B n k i, fun W i1 i2 => ?_, fun W i1 i2 => ?_⟩
     · exact (delim_all W n k width ae ce B hBN hbad hn h1 h2 hw2).mono fun o w' ⟨v, e, hp, hb⟩ => ⟨v, e, hp.x, hb⟩
     · exact (relim_any W n k width ae ce B hBN hbad hn h1 h2 hw2).mono fun o w' ⟨v, e, hp, hb⟩ => ⟨v, e, hp.x, hb⟩
   · refine ⟨0, 0, 0, 0, 0, fun _ => 0, fun i => rest B n k i, 0, 230, fun i => isN_rest' B n k i, fun W i1 i2 => ?_, fun W i1 i2 => ?_⟩
     · exact (delim_wid W n n k width ae (n * n) ce B hE rfl (by omega) (by omega) (by omega)).mono fun o w' ⟨e, hb⟩ => ⟨_, e, ElX.zero _ _ _ _ _ _, ⟨hb⟩⟩
     · exact (relim_wid W n k width ae (n * n) ce B hE (by omega) (by omega) (by omega)).mono fun o w' ⟨e, hb⟩ => ⟨_, e, ElX.zero _ _ _ _ _ _, ⟨hb⟩⟩
 · refine ⟨0, 0, 0, 0, 0, fun _ => 0, fun i => rest B n k i, 0, 5, fun i => isN_rest' B n k i, fun W i1 i2 => ?_, fun W i1 i2 => ?_⟩
   · exact (delim_big W n n k width ae (n * n) ce B hE rfl (by omega) (by omega)).mono fun o w' ⟨e, hb⟩ => ⟨_, e, ElX.zero _ _ _ _ _ _, ⟨hb⟩⟩
   · exact (relim_big W n k width ae (n * n) ce B hE (by omega) (by omega)).mono fun o w' ⟨e, hb⟩ => ⟨_, e, ElX.zero _ _ _ _ _ _, ⟨hb⟩⟩
end Go.Proofs.YtablcbgeeeboeaaGreatDoor
namespace Go.Proofs.YtablcbgeeeboeaaGreatDoor
open Go.RowKit Sp
def b4 (t : Nat) : Option (Int × Int) := match t with | 0 => nrm 4 0 | 1 => nrm 2 0 | 2 => nrm 2 0 | 3 => nrm 5 0 | _ => some (0, 0)
theorem isN_b4 (t : Nat) : IsN (b4 t) := by
 unfold b4
 split
 · exact isN_nrm _ _
 · exact isN_nrm _ _
 · exact isN_nrm _ _
 · exact isN_nrm _ _
 · rw [← nrm_zero 0]; exact isN_nrm _ _
theorem b4_V (V : Nat → Nat) (i j : Nat) : dleft b4 2 V i j 0 = dleft b4 2 (fun _ => 0) i j 0 := dleft_congr fun _ hc => absurd hc (Nat.not_lt_zero _)
theorem b4_00 (V : Nat → Nat) : dleft b4 2 V 0 0 0 = some (1, 2) := (b4_V V 0 0).trans (by decide +kernel)
theorem b4_10 (V : Nat → Nat) : dleft b4 2 V 1 0 0 = some (1, 1) := (b4_V V 1 0).trans (by decide +kernel)
theorem root4 : froot (some (1, 2)) 0 = 4611686018427387904 := by
 show (if (1 : Int) < 0 then fNaN else if (1 : Int) = 0 then 0 else frnd false (isq ((1 : Int).natAbs * 2 ^ rsh 1 2 56)) ((2 - (rsh 1 2 56 : Nat)) / 2) (decide (isq ((1 : Int).natAbs * 2 ^ rsh 1 2 56) * isq ((1 : Int).natAbs * 2 ^ rsh 1 2 56) ≠ (1 : Int).natAbs * 2 ^ rsh 1 2 56)) 0) = _
 rw [if_neg (by decide), if_neg (by decide), show rsh 1 2 56 = 118 by decide +kernel, show (1 : Int).natAbs * 2 ^ 118 = 2 ^ 59 * 2 ^ 59 by decide +kernel, isq_sq]
 decide +kernel
theorem pval4_0 (V : Nat → Nat) : pval b4 2 V 0 0 = 4611686018427387904 := by unfold pval; rw [if_pos rfl, b4_00, root4]
theorem pval4_1 (V : Nat → Nat) : pval b4 2 V 0 1 = 4607182418800017408 := by
 unfold pval; rw [if_neg (by decide), b4_10, b4_00, root4]; decide +kernel
theorem pan4 : pan b4 2 1 1 = 4607182418800017408 := by
 simp only [pan]
 rw [if_pos (by decide), if_neg (by decide)]
 exact pval4_1 _
theorem elie4 : eliE b4 2 1 = 0 := firstE_all _ _ fun j h1 h2 => by
 obtain rfl : j = 0 := by omega
 refine firstE_all _ _ fun i h3 h4 => ?_
 unfold ccode
 rcases (show i = 0 ∨ i = 1 by omega) with rfl | rfl
 · rw [b4_00, pval4_0, if_neg (by decide), if_neg (by decide), if_pos (by decide)]
 · rw [b4_10, pval4_1, if_neg (by decide), if_neg (by decide), if_pos (by decide)]
theorem rest4 : dleft b4 2 (pan b4 2 1) 1 1 1 = some (1, 2) := by
 rw [dleft_congr (V' := fun _ => 4607182418800017408) (fun c hc => by obtain rfl : c = 0 := (by omega); exact ⟨pan4, pan4⟩)]
 decide +kernel
theorem cone4 : conE b4 2 1 = 0 := firstE_all _ _ fun j h1 h2 => by
 obtain rfl : j = 1 := by omega
 refine firstE_all _ _ fun i h3 h4 => ?_
 obtain rfl : i = 1 := by omega
 unfold resE'
 rw [rest4]; rfl
theorem elime4 : elimE b4 2 1 = 0 := by unfold elimE; rw [if_pos elie4, cone4]
theorem elimk4 : elimK b4 2 1 = 1 := by unfold elimK; rw [if_pos elime4]
theorem rest4' : rest b4 2 1 0 = some (1, 2) := by unfold rest; exact rest4
theorem bad4 : anyBad b4 4 = false := by decide +kernel
end Go.Proofs.YtablcbgeeeboeaaGreatDoor
set_option maxRecDepth 100000
set_option maxHeartbeats 20000000
namespace Go.Proofs.YtablcbgeeeboeaaGreatDoor
open Go.RowKit Sp
theorem dz4 {W : World} (d : Nat → Option (Int × Int)) (A : Nat → Option Addr) (C : Nat → Nat) (hN : ∀ i, IsN (d i)) (hm : ∀ i, i < 4 → Mag W (A i) (nl (dman (d i)).natAbs) (C i) (dman (d i)).natAbs) {g : Nat} (hg : g = W.heap.size) :
 Dz (W.alloc (.cells #[.bool (dbad (d 0)), .bool (decide (dman (d 0) < 0)), .slice (A 0) (nl (dman (d 0)).natAbs) (C 0), .int .i64 (dexp (d 0)), .bool (dbad (d 1)), .bool (decide (dman (d 1) < 0)), .slice (A 1) (nl (dman (d 1)).natAbs) (C 1), .int .i64 (dexp (d 1)), .bool (dbad (d 2)), .bool (decide (dman (d 2) < 0)), .slice (A 2) (nl (dman (d 2)).natAbs) (C 2), .int .i64 (dexp (d 2)), .bool (dbad (d 3)), .bool (decide (dman (d 3) < 0)), .slice (A 3) (nl (dman (d 3)).natAbs) (C 3), .int .i64 (dexp (d 3))] 46)) (some ⟨g, 0, none⟩) 4 4 d := by
 subst hg
 refine ⟨⟨A, C, ⟨by omega, by omega, fun _ => rfl, fun i hi => ?_, fun i hi => ?_, fun i hi => ?_, fun i hi => ?_, fun i hi => (hm i hi).alloc _, fun i hi => ?_, fun _ => by show W.heap.size < _; simp⟩⟩, fun i _ => hN i⟩
 · rcases (show i = 0 ∨ i = 1 ∨ i = 2 ∨ i = 3 by omega) with rfl | rfl | rfl | rfl <;> (rw [ab_some, ao_some, World.cell?_alloc_new]; rfl)
 · rcases (show i = 0 ∨ i = 1 ∨ i = 2 ∨ i = 3 by omega) with rfl | rfl | rfl | rfl <;> (rw [ab_some, ao_some, World.cell?_alloc_new]; rfl)
 · rcases (show i = 0 ∨ i = 1 ∨ i = 2 ∨ i = 3 by omega) with rfl | rfl | rfl | rfl <;> (rw [ab_some, ao_some, World.cell?_alloc_new]; rfl)
 · rcases (show i = 0 ∨ i = 1 ∨ i = 2 ∨ i = 3 by omega) with rfl | rfl | rfl | rfl <;> (rw [ab_some, ao_some, World.cell?_alloc_new]; rfl)
 · have := isN_bounds (hN i)
   exact ⟨by show -9223372036854775808 ≤ dexp (d i); omega, by show dexp (d i) ≤ 9223372036854775807; omega⟩
theorem dz4' {W : World} (d : Nat → Option (Int × Int)) (hN : ∀ i, IsN (d i)) {e0 e1 e2 e3 : Option (Int × Int)} {a0 a1 a2 a3 : Option Addr} {c0 c1 c2 c3 : Nat} (h0 : d 0 = e0) (h1 : d 1 = e1) (h2 : d 2 = e2) (h3 : d 3 = e3)
 (m0 : Mag W a0 (nl (dman e0).natAbs) c0 (dman e0).natAbs) (m1 : Mag W a1 (nl (dman e1).natAbs) c1 (dman e1).natAbs) (m2 : Mag W a2 (nl (dman e2).natAbs) c2 (dman e2).natAbs) (m3 : Mag W a3 (nl (dman e3).natAbs) c3 (dman e3).natAbs) {g : Nat} (hg : g = W.heap.size) :
 Dz (W.alloc (.cells #[.bool (dbad e0), .bool (decide (dman e0 < 0)), .slice a0 (nl (dman e0).natAbs) c0, .int .i64 (dexp e0), .bool (dbad e1), .bool (decide (dman e1 < 0)), .slice a1 (nl (dman e1).natAbs) c1, .int .i64 (dexp e1), .bool (dbad e2), .bool (decide (dman e2 < 0)), .slice a2 (nl (dman e2).natAbs) c2, .int .i64 (dexp e2), .bool (dbad e3), .bool (decide (dman e3 < 0)), .slice a3 (nl (dman e3).natAbs) c3, .int .i64 (dexp e3)] 46)) (some ⟨g, 0, none⟩) 4 4 d := by
 subst h0 h1 h2 h3
 exact dz4 d (fun i => match i with | 0 => a0 | 1 => a1 | 2 => a2 | _ => a3) (fun i => match i with | 0 => c0 | 1 => c1 | 2 => c2 | _ => c3) hN (fun i hi => by
  rcases (show i = 0 ∨ i = 1 ∨ i = 2 ∨ i = 3 by omega) with rfl | rfl | rfl | rfl
  · exact m0
  · exact m1
  · exact m2
  · exact m3) hg
attribute [local irreducible] Calls
theorem awake23_any (w : World) [Tb w] : Calls Tryz.prog 17 #[] w fun o w' => o = .returned (.bool true) ∧ Below w.heap.size w w' := by
 have H4 := fun W [Tb W] => Lib.hid (frI (rdfromInt_any W 4 tb (by omega) (by omega)))
 have H2 := fun W [Tb W] => Lib.hid (frI (rdfromInt_any W 2 tb (by omega) (by omega)))
 have H5 := fun W [Tb W] => Lib.hid (frI (rdfromInt_any W 5 tb (by omega) (by omega)))
 have HE := fun W a c [DZ W a 4 c b4] [Tb W] => Lib.hid (delim_any W 2 1 1 a 4 c b4 rfl (by omega) isN_b4 bad4 (by omega) (by omega) (by omega))
 rw [elime4, elimk4] at HE
 obtain ⟨d4, h4⟩ : ∃ d, d = nrm 4 0 := ⟨_, rfl⟩
 obtain ⟨d2, h2⟩ : ∃ d, d = nrm 2 0 := ⟨_, rfl⟩
 obtain ⟨d5, h5⟩ : ∃ d, d = nrm 5 0 := ⟨_, rfl⟩
 rw [← h4] at H4
 rw [← h2] at H2
 rw [← h5] at H5
 have h40 := Lib.hid (show b4 0 = d4 from h4.symm)
 have h41 := Lib.hid (show b4 1 = d2 from h2.symm)
 have h42 := Lib.hid (show b4 2 = d2 from h2.symm)
 have h43 := Lib.hid (show b4 3 = d5 from h5.symm)
 have hr4 := Lib.hid (show d4 = some (1, 2) by rw [h4]; decide)
 clear h4 h2 h5
 go_enter Tryz.func17, Tryz.ntmps17
 go_wp2_with fail
 refine (H4 _).out.mono ?_; rintro o w1 ⟨a1, c1, rfl, i1, b1⟩
 go_wp2_with fail
 refine (H2 _).out.mono ?_; rintro o w2 ⟨a2, c2, rfl, i2, b2⟩
 go_wp2_with fail
 refine (H5 _).out.mono ?_; rintro o w3 ⟨a3, c3, rfl, i3, b3⟩
 go_wp2_with fail
 have hDz := dz4' (W := ((w3.alloc (.cells #[.bool (dbad d4), .bool (decide (dman d4 < 0)), .slice a1 (nl (dman d4).natAbs) c1, .int .i64 (dexp d4)] 46)).alloc (.cells #[.bool (dbad d2), .bool (decide (dman d2 < 0)), .slice a2 (nl (dman d2).natAbs) c2, .int .i64 (dexp d2)] 46)).alloc (.cells #[.bool (dbad d5), .bool (decide (dman d5 < 0)), .slice a3 (nl (dman d5).natAbs) c3, .int .i64 (dexp d5)] 46)) b4 isN_b4 h40.out h41.out h42.out h43.out (inferInstance : BI _ a1 (nl (dman d4).natAbs) c1 (dman d4).natAbs).out (inferInstance : BI _ a2 (nl (dman d2).natAbs) c2 (dman d2).natAbs).out (inferInstance : BI _ a2 (nl (dman d2).natAbs) c2 (dman d2).natAbs).out (inferInstance : BI _ a3 (nl (dman d5).natAbs) c3 (dman d5).natAbs).out (g := w3.heap.size + 1 + 1 + 1) (by simp)
 haveI hDZ := DZ.mk hDz
 clear hDz
 refine (HE _ _ _).out.mono ?_
 rintro o w4 ⟨pr, pc, r, pa, oa, pm, pcp, m, oc, V, D, rfl, ⟨⟨_, hF⟩, hD0, hDN⟩, h5, _, b4'⟩
 have hD := hD0.dz hDN
 obtain ⟨rfl, rfl, rfl, rfl, rfl, hV, hR⟩ := h5 (by first | exact rfl | trivial)
 haveI f4 : From _ w4 := ⟨b4'⟩
 have v1 : V 1 = 4607182418800017408 := (hV 1 (by omega)).trans pan4
 have r0 : D 0 = d4 := ((hR 0 (by omega)).trans rest4').trans hr4.out.symm
 have hF1 := hF.cell 1 (by omega)
 have hF2 : ∀ W, (Instr.indexAt 28 (.slice pa 2 pcp) (.int .i64 1)).run Tryz.prog W = .ok (.pointer (some ⟨ab pa, ao pa + 1, none⟩)) W := hF.idx 1 (by omega)
 have hF3 := hF.old (by omega)
 rw [v1] at hF1
 haveI zF : CE w4 (ab pa) (ao pa + 1) (.int .u64 4607182418800017408) := ⟨hF1, hF3⟩
 obtain ⟨p0, q0, z0, z1, z2, z3, z4⟩ := hD.el (i := 0) (by omega)
 have hD2 : ∀ W, (Instr.indexAt 23 (.slice oa 1 oc) (.int .i64 0)).run Tryz.prog W = .ok (.pointer (some ⟨ab oa, ao oa, none⟩)) W := hD.idx 0 (by omega)
 rw [r0] at z0 z1 z2 z3 z4
 simp only [Nat.zero_mul, Nat.add_zero] at z0 z1 z2 z3
 have HS := fun W p q p' q' [i : BI W p (nl (dman d4).natAbs) q (dman d4).natAbs] [j : BI W p' (nl (dman d4).natAbs) q' (dman d4).natAbs] [Tb W] => Lib.hid (by
  have hN4 : IsN d4 := by have := isN_b4 0; rwa [h40.out] at this
  haveI x1 : DS W (dbad d4) (decide (dman d4 < 0)) p (nl (dman d4).natAbs) q (dexp d4) d4 := ⟨dys_of hN4 i.out⟩
  haveI x2 : DS W (dbad d4) (decide (dman d4 < 0)) p' (nl (dman d4).natAbs) q' (dexp d4) d4 := ⟨dys_of hN4 j.out⟩
  exact frm (gsame_any W (dbad d4) (decide (dman d4 < 0)) (dbad d4) (decide (dman d4 < 0)) p p' (nl (dman d4).natAbs) (nl (dman d4).natAbs) q q' (dexp d4) (dexp d4) d4 d4 true (by simp)))
 clear hF hD hD0 hDN hV hR b4' v1 r0 hF1 h40 h41 h42 h43 hr4 HE H4 H2 H5
 go_wp2_with fail
 first
 | go_region_held3 (fun w' => w'.cell? ⟨w4.heap.size, 2, none⟩ = some (.slice pa 2 pcp) ∧ w'.cell? ⟨w4.heap.size + 1, 2, none⟩ = some (.slice oa 1 oc) ∧ w'.cell? ⟨ab pa, ao pa + 1, none⟩ = some (.int .u64 4607182418800017408) ∧ w'.cell? ⟨ab oa, ao oa, none⟩ = some (.bool (dbad d4)) ∧ w'.cell? ⟨ab oa, ao oa + 1, none⟩ = some (.bool (decide (dman d4 < 0))) ∧ w'.cell? ⟨ab oa, ao oa + 2, none⟩ = some (.slice p0 (nl (dman d4).natAbs) q0) ∧ w'.cell? ⟨ab oa, ao oa + 3, none⟩ = some (.int .i64 (dexp d4)) ∧ w'.cell? ⟨w3.heap.size, 0, none⟩ = some (.bool (dbad d4)) ∧ w'.cell? ⟨w3.heap.size, 1, none⟩ = some (.bool (decide (dman d4 < 0))) ∧ w'.cell? ⟨w3.heap.size, 2, none⟩ = some (.slice a1 (nl (dman d4).natAbs) c1) ∧ w'.cell? ⟨w3.heap.size, 3, none⟩ = some (.int .i64 (dexp d4))) (first | (go_simp; done))
  (first
   | (go_at_call 24; refine (HS _ _ _ _ _).out.mono ?_; rintro o w5 ⟨rfl, b5⟩)
   | fail)
 | fail "region"
 all_goals (
  go_wp2_with fail
  go_ret
  exact ⟨rfl, zbh⟩)
end Go.Proofs.YtablcbgeeeboeaaGreatDoor
set_option maxRecDepth 100000
set_option maxHeartbeats 20000000
namespace Go.Proofs.YtablcbgeeeboeaaGreatDoor
open Go.RowKit Sp
attribute [local irreducible] Calls
theorem deli_any (w : World) [Tb w] (a : Option Addr) (m cap : Nat) (L : Nat → Nat) [hL : FZ w a m cap L] (n s : Int) (t : Bool) (k v : Int) (hv : v ≤ 9223372036854775807) :
 Calls Tryz.prog 3 #[.slice a m cap, .int .i64 n, .int .i64 s, .bool t, .int .i64 k, .int .i64 v] w fun o w' => o = .returned (.bool true) ∧ Below w.heap.size w w' := by
 have HSQ := fun W [Tb W] [FZ W a m cap L] => Lib.hid (square_any W a m cap L n s t)
 have HAW := fun W [Tb W] => Lib.hid (frm (awake23_any W))
 go_enter Tryz.func3, Tryz.ntmps3
 go_wp2_with fail
 refine (HSQ _).out.mono ?_; rintro o w1 ⟨q, oa, oc, X, rfl, hS, _, b1⟩
 haveI b1' : From w w1 := ⟨b1⟩
 have hq6 := hS.k6
 have hbad := bad_fin (fun t => (hS.f t).2) (q * q)
 obtain ⟨B, hB⟩ : ∃ B, B = fun t => fof (X t) := ⟨_, rfl⟩
 have hBN : ∀ t, IsN (B t) := by rw [hB]; exact fun t => isN_fof _
 rw [← hB] at hbad
 haveI iZ : DZ w1 oa (q * q) oc B := by rw [hB]; exact ⟨hS.z⟩
 clear hB
 obtain ⟨kq, hkq, hkl⟩ := pl_nat k (q + 2) (by omega)
 have HMK := fun W => Lib.hid (gmod_any W k ((q + 2 : Nat) : Int) (by omega) (by omega))
 rw [hkq] at HMK
 rw [show ((q + 2 : Nat) : Int) = (q : Int) + 2 by omega] at HMK
 obtain ⟨r1, r2, N, q1, Q, U, D, K, E, hDN, h1, h2⟩ := elims_x q kq v oa oc B hBN hbad (by omega) (by omega) hv
 have HE := fun W [i1 : Tb W] [i2 : DZ W oa (q * q) oc B] => Lib.hid (h1 W)
 have HR := fun W [i1 : Tb W] [i2 : DZ W oa (q * q) oc B] => Lib.hid (h2 W)
 have HSP := fun W x c x' c' [FZ W x N c U] [FZ W x' N c' U] => Lib.hid (frm (gsamep_any W r1 r2 x x' N c c' U))
 have HSB := fun W x c x' c' [Tb W] [DZ W x Q c D] [DZ W x' Q c' D] => Lib.hid (frm (gsameb_any W q1 q1 x x' Q c c' D))
 have HN := Lib.hid hDN
 clear hkq hbad HSQ hS b1 hBN h1 h2 hDN
 go_wp2_with fail
 have B1 : N3 (w1.alloc (.cells #[.int .i64 q, .int .i64 q, .slice oa (q * q) oc] 25)) w1.heap.size (.int .i64 q) (.int .i64 q) (.slice oa (q * q) oc) := inferInstance
 have T1 : Tb (w1.alloc (.cells #[.int .i64 q, .int .i64 q, .slice oa (q * q) oc] 25)) := inferInstance
 have Z1 : DZ (w1.alloc (.cells #[.int .i64 q, .int .i64 q, .slice oa (q * q) oc] 25)) oa (q * q) oc B := inferInstance
 have L1 : Below w.heap.size w (w1.alloc (.cells #[.int .i64 q, .int .i64 q, .slice oa (q * q) oc] 25)) := zbh
 generalize (w1.alloc (.cells #[.int .i64 q, .int .i64 q, .slice oa (q * q) oc] 25)) = wb at *
 haveI L1' : Beh w wb := ⟨L1⟩
 clear b1'
 have m1 : ¬ w1.heap.size = wb.heap.size := by have := B1.lt; omega
 have m2 : ¬ w1.heap.size = wb.heap.size + 1 := by have := B1.lt; omega
 have m3 : w1.heap.size < wb.heap.size := B1.lt
 refine (HMK _).out.mono ?_; rintro o w2 ⟨rfl, rfl⟩
 go_wp2_with fail
 refine (HE _).out.mono ?_; rintro o w3 ⟨vr, rfl, ⟨pa1, pc1, ra1, rc1, rfl, hF1, hD1⟩, b3⟩
 haveI f1 : FZ w3 pa1 N pc1 U := ⟨hF1.2⟩
 haveI g1 : DZ w3 ra1 Q rc1 D := ⟨hD1.dz HN.out⟩
 go_wp2_with fail
 refine (HR _).out.mono ?_; rintro o w4 ⟨vr, rfl, ⟨pa2, pc2, ra2, rc2, rfl, hF2, hD2⟩, b4⟩
 haveI f2 : FZ w4 pa2 N pc2 U := ⟨hF2.2⟩
 haveI g2 : DZ w4 ra2 Q rc2 D := ⟨hD2.dz HN.out⟩
 go_wp2_with fail
 refine (HSP _ _ _ _ _).out.mono ?_; rintro o w5 ⟨rfl, b5⟩
 go_wp2_with fail
 refine (HSB _ _ _ _ _).out.mono ?_; rintro o w6 ⟨rfl, b6⟩
 go_wp2_with fail
 refine (HAW _).out.mono ?_; rintro o w7 ⟨rfl, b7⟩
 go_wp2_with fail
 go_ret
 exact ⟨rfl, zbh⟩
theorem deli_all (w : World) (hT : Tab w) (a : Option Addr) (m cap : Nat) (L : Nat → Nat) (hL : Fls w a m cap L) (n s : Int) (t : Bool) (k v : Int) (hv : v ≤ 9223372036854775807) :
 Calls Tryz.prog 3 #[.slice a m cap, .int .i64 n, .int .i64 s, .bool t, .int .i64 k, .int .i64 v] w fun o w' => o = .returned (.bool true) ∧ Below w.heap.size w w' := by
 haveI : Tb w := ⟨hT⟩
 haveI : FZ w a m cap L := ⟨hL⟩
 exact deli_any w a m cap L n s t k v hv
end Go.Proofs.YtablcbgeeeboeaaGreatDoor
