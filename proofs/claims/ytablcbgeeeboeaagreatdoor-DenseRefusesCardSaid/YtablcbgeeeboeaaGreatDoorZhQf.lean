/-
  Walks: package sparseref23: Eliminate's early errors.
-/
import Derived.Test.YtablcbgeeeboeaaGreatDoorZhPc
import Derived.Test.YtablcbgeeeboeaaGreatDoorZhPz
import Derived.Test.YtablcbgeeeboeaaGreatDoorZhPx
import Derived.Test.YtablcbgeeeboeaaGreatDoorZhPk
import Derived.Test.YtablcbgeeeboeaaGreatDoorZhQd
set_option maxRecDepth 100000
set_option maxHeartbeats 20000000
namespace Go.Proofs.YtablcbgeeeboeaaGreatDoor
open Go.RowKit Sp
attribute [local irreducible] Calls
theorem zG8 (w : World) [Tb w] (r k width : Int) (ae : Option Addr) (M ce : Nat) (B : Nat → Option (Int × Int)) [hB : DZ w ae M ce B] (hE : zD3 r r M (zA5 B M) = 0) (hk : ¬ k < 0) (hk2 : r < k) :
 Calls Tryz.prog 14 #[.agg #[.int .i64 r, .int .i64 r, .slice ae M ce], .int .i64 k, .int .i64 width] w fun o w' => o = .returned (.tuple #[.agg #[.int .i64 0, .int .i64 0, .slice none 0 0], .agg #[.int .i64 0, .int .i64 0, .slice none 0 0], .int .i64 0, .int .i64 5]) ∧ Below w.heap.size w w' := by
 have HCk := fun W [i : DZ W ae M ce B] [Tb W] => Lib.hid (frm (by
  obtain ⟨⟨A, C, h1⟩, hN⟩ := i.out
  have h := zAv W tb r r ae M ce _ h1 (zFq hN A C)
  have e : zA5 (fun i => (mel B A C i).d) M = zA5 B M := zAJ fun t ht => zFp (hN t ht)
  rw [e] at h
  exact h))
 have l1 := hB.out.fits
 rw [hE] at HCk
 clear hE
 have hq : (r != r) = false := by simp
 have hq3 : decide (k < 0) = false := decide_eq_false hk
 have hq4 : decide (r < k) = true := decide_eq_true hk2
 go_enter Tryz.func14, Tryz.ntmps14
 go_wp2_with fail
 refine (HCk _).out.mono ?_; rintro o w2 ⟨rfl, b2⟩
 go_wp2_with fail
 refine bodyPost_ret (v := .tuple #[.agg #[.int .i64 0, .int .i64 0, .slice none 0 0], .agg #[.int .i64 0, .int .i64 0, .slice none 0 0], .int .i64 0, .int .i64 5]) (by simp only [results, Tryz.results14]; go_simp) rfl ?_
 exact ⟨rfl, zbh⟩
theorem zJB (w : World) [Tb w] (r k width : Int) (ae : Option Addr) (M ce : Nat) (B : Nat → Option (Int × Int)) [hB : DZ w ae M ce B] (hE : zD3 r r M (zA5 B M) = 0) (hk : ¬ k < 0) (hk2 : ¬ r < k) (hw : width < 1) :
 Calls Tryz.prog 14 #[.agg #[.int .i64 r, .int .i64 r, .slice ae M ce], .int .i64 k, .int .i64 width] w fun o w' => o = .returned (.tuple #[.agg #[.int .i64 0, .int .i64 0, .slice none 0 0], .agg #[.int .i64 0, .int .i64 0, .slice none 0 0], .int .i64 0, .int .i64 230]) ∧ Below w.heap.size w w' := by
 have HCk := fun W [i : DZ W ae M ce B] [Tb W] => Lib.hid (frm (by
  obtain ⟨⟨A, C, h1⟩, hN⟩ := i.out
  have h := zAv W tb r r ae M ce _ h1 (zFq hN A C)
  have e : zA5 (fun i => (mel B A C i).d) M = zA5 B M := zAJ fun t ht => zFp (hN t ht)
  rw [e] at h
  exact h))
 have l1 := hB.out.fits
 rw [hE] at HCk
 clear hE
 have hq : (r != r) = false := by simp
 have hq3 : decide (k < 0) = false := decide_eq_false hk
 have hq4 : decide (r < k) = false := decide_eq_false hk2
 go_enter Tryz.func14, Tryz.ntmps14
 go_wp2_with fail
 refine (HCk _).out.mono ?_; rintro o w2 ⟨rfl, b2⟩
 go_wp2_with fail
 refine bodyPost_ret (v := .tuple #[.agg #[.int .i64 0, .int .i64 0, .slice none 0 0], .agg #[.int .i64 0, .int .i64 0, .slice none 0 0], .int .i64 0, .int .i64 230]) (by simp only [results, Tryz.results14]; go_simp) rfl ?_
 exact ⟨rfl, zbh⟩
end Go.Proofs.YtablcbgeeeboeaaGreatDoor
set_option maxRecDepth 100000
set_option maxHeartbeats 20000000
namespace Go.Proofs.YtablcbgeeeboeaaGreatDoor
open Go.RowKit Sp
attribute [local irreducible] Calls
theorem zMl (w : World) [Tb w] (r c k width : Int) (ae : Option Addr) (M ce : Nat) (B : Nat → Option (Int × Int)) [hB : DZ w ae M ce B] (hE : zD3 r c M (zA5 B M) = 0) (h : r ≠ c) :
 Calls Tryz.prog 13 #[.agg #[.int .i64 r, .int .i64 c, .slice ae M ce], .int .i64 k, .int .i64 width] w fun o w' => o = .returned (.tuple #[.agg #[.int .i64 0, .int .i64 0, .slice none 0 0], .agg #[.int .i64 0, .int .i64 0, .slice none 0 0], .int .i64 0, .int .i64 (5)]) ∧ Below w.heap.size w w' := by
 have HCk := fun W [i : DZ W ae M ce B] [Tb W] => Lib.hid (frm (by
  obtain ⟨⟨A, C, h1⟩, hN⟩ := i.out
  have h := zAw W tb r c ae M ce _ h1 (zFq hN A C)
  have e : zA5 (fun i => (mel B A C i).d) M = zA5 B M := zAJ fun t ht => zFp (hN t ht)
  rw [e] at h
  exact h))
 have l1 := hB.out.fits
 rw [hE] at HCk
 clear hE
 have hq : (r != c) = true := by rw [bne_iff_ne]; exact h
 go_enter Tryz.func13, Tryz.ntmps13
 go_wp2_with fail
 refine (HCk _).out.mono ?_; rintro o w2 ⟨rfl, b2⟩
 go_wp2_with fail
 refine bodyPost_ret (v := .tuple #[.agg #[.int .i64 0, .int .i64 0, .slice none 0 0], .agg #[.int .i64 0, .int .i64 0, .slice none 0 0], .int .i64 0, .int .i64 (5)]) (by simp only [results, Tryz.results13]; go_simp) rfl ?_
 exact ⟨rfl, zbh⟩
theorem zKO (w : World) [Tb w] (r c k width : Int) (ae : Option Addr) (M ce : Nat) (B : Nat → Option (Int × Int)) [hB : DZ w ae M ce B] (hE : zD3 r c M (zA5 B M) = 0) (h : r = c) (hk : k < 0) :
 Calls Tryz.prog 13 #[.agg #[.int .i64 r, .int .i64 c, .slice ae M ce], .int .i64 k, .int .i64 width] w fun o w' => o = .returned (.tuple #[.agg #[.int .i64 0, .int .i64 0, .slice none 0 0], .agg #[.int .i64 0, .int .i64 0, .slice none 0 0], .int .i64 0, .int .i64 (5)]) ∧ Below w.heap.size w w' := by
 have HCk := fun W [i : DZ W ae M ce B] [Tb W] => Lib.hid (frm (by
  obtain ⟨⟨A, C, h1⟩, hN⟩ := i.out
  have h := zAw W tb r c ae M ce _ h1 (zFq hN A C)
  have e : zA5 (fun i => (mel B A C i).d) M = zA5 B M := zAJ fun t ht => zFp (hN t ht)
  rw [e] at h
  exact h))
 have l1 := hB.out.fits
 rw [hE] at HCk
 clear hE
 subst h
 have hq : (r != r) = false := by simp
 go_enter Tryz.func13, Tryz.ntmps13
 go_wp2_with fail
 refine (HCk _).out.mono ?_; rintro o w2 ⟨rfl, b2⟩
 go_wp2_with fail
 refine bodyPost_ret (v := .tuple #[.agg #[.int .i64 0, .int .i64 0, .slice none 0 0], .agg #[.int .i64 0, .int .i64 0, .slice none 0 0], .int .i64 0, .int .i64 (5)]) (by simp only [results, Tryz.results13]; go_simp) rfl ?_
 exact ⟨rfl, zbh⟩
theorem zGv (w : World) [Tb w] (r c k width : Int) (ae : Option Addr) (M ce : Nat) (B : Nat → Option (Int × Int)) [hB : DZ w ae M ce B] (hE : zD3 r c M (zA5 B M) = 0) (h : r = c) (hk : ¬ k < 0) (hk2 : r < k) :
 Calls Tryz.prog 13 #[.agg #[.int .i64 r, .int .i64 c, .slice ae M ce], .int .i64 k, .int .i64 width] w fun o w' => o = .returned (.tuple #[.agg #[.int .i64 0, .int .i64 0, .slice none 0 0], .agg #[.int .i64 0, .int .i64 0, .slice none 0 0], .int .i64 0, .int .i64 (5)]) ∧ Below w.heap.size w w' := by
 have HCk := fun W [i : DZ W ae M ce B] [Tb W] => Lib.hid (frm (by
  obtain ⟨⟨A, C, h1⟩, hN⟩ := i.out
  have h := zAw W tb r c ae M ce _ h1 (zFq hN A C)
  have e : zA5 (fun i => (mel B A C i).d) M = zA5 B M := zAJ fun t ht => zFp (hN t ht)
  rw [e] at h
  exact h))
 have l1 := hB.out.fits
 rw [hE] at HCk
 clear hE
 subst h
 have hq : (r != r) = false := by simp
 go_enter Tryz.func13, Tryz.ntmps13
 go_wp2_with fail
 refine (HCk _).out.mono ?_; rintro o w2 ⟨rfl, b2⟩
 go_wp2_with fail
 refine bodyPost_ret (v := .tuple #[.agg #[.int .i64 0, .int .i64 0, .slice none 0 0], .agg #[.int .i64 0, .int .i64 0, .slice none 0 0], .int .i64 0, .int .i64 (5)]) (by simp only [results, Tryz.results13]; go_simp) rfl ?_
 exact ⟨rfl, zbh⟩
theorem zKN (w : World) [Tb w] (r c k width : Int) (ae : Option Addr) (M ce : Nat) (B : Nat → Option (Int × Int)) [hB : DZ w ae M ce B] (hE : zD3 r c M (zA5 B M) = 0) (h : r = c) (hk : ¬ k < 0) (hk2 : ¬ r < k) (hw : width < 1) :
 Calls Tryz.prog 13 #[.agg #[.int .i64 r, .int .i64 c, .slice ae M ce], .int .i64 k, .int .i64 width] w fun o w' => o = .returned (.tuple #[.agg #[.int .i64 0, .int .i64 0, .slice none 0 0], .agg #[.int .i64 0, .int .i64 0, .slice none 0 0], .int .i64 0, .int .i64 (230)]) ∧ Below w.heap.size w w' := by
 have HCk := fun W [i : DZ W ae M ce B] [Tb W] => Lib.hid (frm (by
  obtain ⟨⟨A, C, h1⟩, hN⟩ := i.out
  have h := zAw W tb r c ae M ce _ h1 (zFq hN A C)
  have e : zA5 (fun i => (mel B A C i).d) M = zA5 B M := zAJ fun t ht => zFp (hN t ht)
  rw [e] at h
  exact h))
 have l1 := hB.out.fits
 rw [hE] at HCk
 clear hE
 subst h
 have hq : (r != r) = false := by simp
 go_enter Tryz.func13, Tryz.ntmps13
 go_wp2_with fail
 refine (HCk _).out.mono ?_; rintro o w2 ⟨rfl, b2⟩
 go_wp2_with fail
 refine bodyPost_ret (v := .tuple #[.agg #[.int .i64 0, .int .i64 0, .slice none 0 0], .agg #[.int .i64 0, .int .i64 0, .slice none 0 0], .int .i64 0, .int .i64 (230)]) (by simp only [results, Tryz.results13]; go_simp) rfl ?_
 exact ⟨rfl, zbh⟩
end Go.Proofs.YtablcbgeeeboeaaGreatDoor
namespace Go.Proofs.YtablcbgeeeboeaaGreatDoor
open Go.RowKit Sp
def ElX (r1 r2 N q1 Q : Nat) (V : Nat → Nat) (D : Nat → Option (Int × Int)) (K E : Int) (v : Value) (lo hi : Nat) (w : World) : Prop := ∃ (pa : Option Addr) (pc : Nat) (oa : Option Addr) (oc : Nat),
 v = .tuple #[.agg #[.int .i64 r1, .int .i64 r2, .slice pa N pc], .agg #[.int .i64 q1, .int .i64 q1, .slice oa Q oc], .int .i64 K, .int .i64 E] ∧ FW pa N pc V lo hi w ∧ DW oa Q oc D lo hi w
theorem ElR.x {B : Nat → Option (Int × Int)} {n k : Nat} {v : Value} {lo hi : Nat} {w : World} (h : ElR B n k v lo hi w) : ElX (epn B n k n) (epn B n k k) (epn B n k (n * k)) (epn B n k (n - k)) (epn B n k ((n - k) * (n - k))) (pan B n k) (rest B n k) (zBo B n k) (zBh B n k) v lo hi w := h
theorem ElX.zero (V : Nat → Nat) (D : Nat → Option (Int × Int)) (E : Int) (lo hi : Nat) (w : World) : ElX 0 0 0 0 0 V D 0 E (.tuple #[.agg #[.int .i64 0, .int .i64 0, .slice none 0 0], .agg #[.int .i64 0, .int .i64 0, .slice none 0 0], .int .i64 0, .int .i64 E]) lo hi w :=
 ⟨none, 0, none, 0, rfl, ⟨fun h => absurd h (Nat.lt_irrefl _), zFx _ _⟩, ⟨_, _, DM.nil _ _ _, fun g h => (by cases h), fun i hi => by omega⟩⟩
attribute [local irreducible] Calls
theorem zNI (n k : Nat) (width : Int) (ae : Option Addr) (ce : Nat) (B : Nat → Option (Int × Int)) (hBN : ∀ t, IsN (B t)) (hbad : zA5 B (n * n) = false) (hn : n ≤ 64) (hk : k ≤ n + 1) (hw2 : width ≤ 9223372036854775807) :
 ∃ (r1 r2 N q1 Q : Nat) (V : Nat → Nat) (D : Nat → Option (Int × Int)) (K E : Int), (∀ i, IsN (D i)) ∧
  (∀ (W : World) [Tb W] [DZ W ae (n * n) ce B], Calls Tryz.prog 13 #[.agg #[.int .i64 n, .int .i64 n, .slice ae (n * n) ce], .int .i64 (k : Int), .int .i64 width] W fun o w' => ∃ v, o = .returned v ∧ ElX r1 r2 N q1 Q V D K E v W.heap.size w'.heap.size w' ∧ From W w') ∧
  (∀ (W : World) [Tb W] [DZ W ae (n * n) ce B], Calls Tryz.prog 14 #[.agg #[.int .i64 n, .int .i64 n, .slice ae (n * n) ce], .int .i64 (k : Int), .int .i64 width] W fun o w' => ∃ v, o = .returned v ∧ ElX r1 r2 N q1 Q V D K E v W.heap.size w'.heap.size w' ∧ From W w') := by
 have hsz : szE n n (n * n) = 0 := by unfold szE; rw [if_neg (by omega), if_neg (by omega), if_pos (Int.natCast_mul n n)]
 have hE : zD3 n n (n * n) (zA5 B (n * n)) = 0 := by unfold zD3; rw [if_pos hsz, hbad]; rfl
 by_cases h1 : k ≤ n
 · by_cases h2 : 1 ≤ width
   · refine ⟨epn B n k n, epn B n k k, epn B n k (n * k), epn B n k (n - k), epn B n k ((n - k) * (n - k)), pan B n k, rest B n k, zBo B n k, zBh B n k, fun i => zDf B n k i, fun W i1 i2 => ?_, fun W i1 i2 => ?_⟩
     · exact (zKP W n k width ae ce B hBN hbad hn h1 h2 hw2).mono fun o w' ⟨v, e, hp, hb⟩ => ⟨v, e, hp.x, hb⟩
     · exact (zJD W n k width ae ce B hBN hbad hn h1 h2 hw2).mono fun o w' ⟨v, e, hp, hb⟩ => ⟨v, e, hp.x, hb⟩
   · refine ⟨0, 0, 0, 0, 0, fun _ => 0, fun i => rest B n k i, 0, 230, fun i => zDf B n k i, fun W i1 i2 => ?_, fun W i1 i2 => ?_⟩
     · exact (zKN W n n k width ae (n * n) ce B hE rfl (by omega) (by omega) (by omega)).mono fun o w' ⟨e, hb⟩ => ⟨_, e, ElX.zero _ _ _ _ _ _, ⟨hb⟩⟩
     · exact (zJB W n k width ae (n * n) ce B hE (by omega) (by omega) (by omega)).mono fun o w' ⟨e, hb⟩ => ⟨_, e, ElX.zero _ _ _ _ _ _, ⟨hb⟩⟩
 · refine ⟨0, 0, 0, 0, 0, fun _ => 0, fun i => rest B n k i, 0, 5, fun i => zDf B n k i, fun W i1 i2 => ?_, fun W i1 i2 => ?_⟩
   · exact (zGv W n n k width ae (n * n) ce B hE rfl (by omega) (by omega)).mono fun o w' ⟨e, hb⟩ => ⟨_, e, ElX.zero _ _ _ _ _ _, ⟨hb⟩⟩
   · exact (zG8 W n k width ae (n * n) ce B hE (by omega) (by omega)).mono fun o w' ⟨e, hb⟩ => ⟨_, e, ElX.zero _ _ _ _ _ _, ⟨hb⟩⟩
end Go.Proofs.YtablcbgeeeboeaaGreatDoor
