/-
  Walks: package dense: Eliminate of a finite square block, its results in one form.
-/
import Derived.Test.YtablcbgeeeboeaaGreatDoorZhPk
import Derived.Test.YtablcbgeeeboeaaGreatDoorZhTk
set_option maxRecDepth 100000
set_option maxHeartbeats 20000000
namespace Go.Proofs.YtablcbgeeeboeaaGreatDoor
open Go.RowKit Sp
noncomputable def epn (B : Nat → Option (Int × Int)) (n k x : Nat) : Nat := if zBh B n k = 0 then x else 0
theorem zC2 {B : Nat → Option (Int × Int)} {n k : Nat} (h : zBh B n k = 0) (x : Nat) : epn B n k x = x := if_pos h
theorem zC3 {B : Nat → Option (Int × Int)} {n k : Nat} (h : zBh B n k ≠ 0) (x : Nat) : epn B n k x = 0 := if_neg h
theorem zMR {w : World} {a : Option Addr} {n c : Nat} {V V' : Nat → Nat} (h : Fls w a n c V) (e : ∀ t, t < n → V t = V' t) : Fls w a n c V' :=
 ⟨h.fits, h.lim, h.addr, fun i hi => by rw [← e i hi]; exact h.cell i hi, fun i hi => by rw [← e i hi]; exact h.b i hi, h.old⟩
theorem zL7 {X : Nat → Nat} (h : ∀ t, zB0 (X t) = true) (n : Nat) : zA5 (fun t => fof (X t)) n = false := by
 cases hb : zA5 (fun t => fof (X t)) n with
 | false => rfl
 | true => obtain ⟨i, _, h2⟩ := (zCe _ n).1 hb; have h2 : zA3 (fof (X i)) = true := h2; rw [show zA3 (fof (X i)) = false from zNN (by rw [zEm (h i)]; exact zFv (h i))] at h2; cases h2
def ElR (B : Nat → Option (Int × Int)) (n k : Nat) (v : Value) (lo hi : Nat) (w : World) : Prop := ∃ (pa : Option Addr) (pc : Nat) (oa : Option Addr) (oc : Nat),
 v = .tuple #[.agg #[.int .i64 (epn B n k n), .int .i64 (epn B n k k), .slice pa (epn B n k (n * k)) pc], .agg #[.int .i64 (epn B n k (n - k)), .int .i64 (epn B n k (n - k)), .slice oa (epn B n k ((n - k) * (n - k))) oc], .int .i64 (zBo B n k), .int .i64 (zBh B n k)] ∧
 FW pa (epn B n k (n * k)) pc (pan B n k) lo hi w ∧ DW oa (epn B n k ((n - k) * (n - k))) oc (rest B n k) lo hi w
theorem DM.to {w : World} {base k : Nat} {v : Value} {d d' : Nat → Option (Int × Int)} {A : Nat → Option Addr} {C : Nat → Nat} (h : DM w base v k d A C) (e : ∀ i, i < k → d i = d' i) : DM w base v k d' A C :=
 ⟨h.out.congr e, fun i hi hp => h.fr i hi (by rw [e i hi]; exact hp)⟩
theorem DW.to {w : World} {a : Option Addr} {n c lo hi : Nat} {d d' : Nat → Option (Int × Int)} (h : DW a n c d lo hi w) (e : ∀ i, i < n → d i = d' i) : DW a n c d' lo hi w := by
 obtain ⟨A, C, h1, h2, h3⟩ := h
 exact ⟨A, C, h1.to e, h2, fun i hi hp => h3 i hi (by rw [e i hi]; exact hp)⟩
attribute [local irreducible] Calls
theorem zKP (w : World) [Tb w] (n k : Nat) (width : Int) (ae : Option Addr) (ce : Nat) (B : Nat → Option (Int × Int)) [hB : DZ w ae (n * n) ce B] (hN : ∀ t, IsN (B t)) (hbad : zA5 B (n * n) = false) (hn : n ≤ 64) (hk : k ≤ n) (hw1 : 1 ≤ width) (hw2 : width ≤ 9223372036854775807) :
 Calls Tryz.prog 13 #[.agg #[.int .i64 n, .int .i64 n, .slice ae (n * n) ce], .int .i64 k, .int .i64 width] w fun o w' => ∃ v, o = .returned v ∧ ElR B n k v w.heap.size w'.heap.size w' ∧ From w w' := by
 refine (zGw w n k width ae (n * n) ce B rfl hn hN hbad hk hw1 hw2).mono ?_
 rintro o w' ⟨pr, pc, r, pa, oa, pm, pcp, m, oc, V, D, rfl, ⟨hF, hZ, _⟩, h0, h1, b1⟩
 by_cases he : zBh B n k = 0
 · obtain ⟨rfl, rfl, rfl, rfl, rfl, hV, hD⟩ := h0 he
   refine ⟨_, rfl, ⟨pa, pcp, oa, oc, ?_, ?_, ?_⟩, ⟨b1⟩⟩
   · rw [zC2 he, zC2 he, zC2 he, zC2 he, zC2 he]
   · rw [zC2 he]; exact ⟨hF.1, zMR hF.2 hV⟩
   · rw [zC2 he]; exact hZ.to hD
 · obtain ⟨rfl, rfl, rfl, rfl, rfl⟩ := h1 he
   refine ⟨_, rfl, ⟨pa, pcp, oa, oc, ?_, ?_, ?_⟩, ⟨b1⟩⟩
   · rw [zC3 he, zC3 he, zC3 he, zC3 he, zC3 he]
   · rw [zC3 he]; exact ⟨hF.1, zMR hF.2 fun t ht => absurd ht (Nat.not_lt_zero t)⟩
   · rw [zC3 he]; exact hZ.to fun t ht => absurd ht (Nat.not_lt_zero t)
end Go.Proofs.YtablcbgeeeboeaaGreatDoor
