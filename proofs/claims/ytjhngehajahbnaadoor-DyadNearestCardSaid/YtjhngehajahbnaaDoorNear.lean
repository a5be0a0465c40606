/-
  Walks: the law DyadNearest.
-/
import Derived.Test.YtjhngehajahbnaaDoorNearB
import Derived.Test.YtjhngehajahbnaaDoorNearE
import Derived.Test.YtjhngehajahbnaaDoorNearC
import Derived.Test.YtjhngehajahbnaaDoorNearD
namespace Go.Proofs.YtjhngehajahbnaaDoor
open Go.RowKit Sp

set_option maxRecDepth 100000 in
set_option maxHeartbeats 20000000 in
theorem near_main (w : World) (hT : Tab w) (bda sa : Bool) (aa : Option Addr) (na pa : Nat) (ea : Int) (da : Option (Int × Int)) (Ha : DyIs w bda sa aa na pa ea da) (q : Int) (ma : na ≤ 9223372036854775807) (hsa : slimB na ea = true) (va : dbad da = false) (r : Int) (hr : r = 1 + placeI q 80) (hr0 : 1 ≤ r) (hr1 : r ≤ 80) (dl dh dn di : Option (Int × Int)) (vx vy : Int) (dm du : Option (Int × Int)) (c g : Int) (sl sh ih il : Bool) (f1 : dround da r 1 = dl) (f2 : dround da r 2 = dh) (f3 : dround da r 0 = dn) (f4 : dround da r 3 = di) (f5 : dcmp dl da = vx) (f6 : (!dbad dl && !dbad da) = true) (f7 : dcmp da dh = vy) (f8 : (!dbad da && !dbad dh) = true) (b1 : blen (dman dl).natAbs ≤ r) (b2 : blen (dman dh).natAbs ≤ r) (b3 : blen (dman dn).natAbs ≤ r) (_fa : IsN da) (ba : blen (dman da).natAbs ≤ 131072) (s1 : vx < 0) (s2 : vy < 0) (s3 : r < blen (dman da).natAbs) (s4 : dsub da dl = dm) (s5 : dsub dh da = du) (s6 : dcmp dm du = c) (k1 : c < 0 → sl = true) (k2 : 0 < c → sh = true) (k3 : sl = true ∨ sh = true) (k4 : g < 0 → ih = true) (k5 : ¬ g < 0 → il = true) (k6 : cmpI (dman da) 0 = g) (l1 : sl = decide (dn = dl)) (l2 : sh = decide (dn = dh)) (l3 : ih = decide (di = dh)) (l4 : il = decide (di = dl)) :
    Calls Tryd.prog 6 #[.agg #[.bool bda, .bool sa, .slice aa na pa, .int .i64 ea], .int .i64 q] w fun o w' => o = .returned (.bool true) ∧ Below w.heap.size w w' := by
  rcases Int.lt_trichotomy c 0 with hc | hc | hc
  · exact near_m1 w hT bda sa aa na pa ea da Ha q ma hsa va r hr hr0 hr1 dl dh dn di vx vy dm du c g sl sh ih il f1 f2 f3 f4 f5 f6 f7 f8 b1 b2 b3 _fa ba s1 s2 s3 s4 s5 s6 k1 k2 k3 k4 k5 k6 l1 l2 l3 l4 hc
  · cases hsl : sl with
    | true => exact near_m2 w hT bda sa aa na pa ea da Ha q ma hsa va r hr hr0 hr1 dl dh dn di vx vy dm du c g sl sh ih il f1 f2 f3 f4 f5 f6 f7 f8 b1 b2 b3 _fa ba s1 s2 s3 s4 s5 s6 k1 k2 k3 k4 k5 k6 l1 l2 l3 l4 hc hsl
    | false => exact near_m3 w hT bda sa aa na pa ea da Ha q ma hsa va r hr hr0 hr1 dl dh dn di vx vy dm du c g sl sh ih il f1 f2 f3 f4 f5 f6 f7 f8 b1 b2 b3 _fa ba s1 s2 s3 s4 s5 s6 k1 k2 k3 k4 k5 k6 l1 l2 l3 l4 hc hsl
  · cases hsl : sl with
    | true => exact near_m4 w hT bda sa aa na pa ea da Ha q ma hsa va r hr hr0 hr1 dl dh dn di vx vy dm du c g sl sh ih il f1 f2 f3 f4 f5 f6 f7 f8 b1 b2 b3 _fa ba s1 s2 s3 s4 s5 s6 k1 k2 k3 k4 k5 k6 l1 l2 l3 l4 hc hsl
    | false => exact near_m5 w hT bda sa aa na pa ea da Ha q ma hsa va r hr hr0 hr1 dl dh dn di vx vy dm du c g sl sh ih il f1 f2 f3 f4 f5 f6 f7 f8 b1 b2 b3 _fa ba s1 s2 s3 s4 s5 s6 k1 k2 k3 k4 k5 k6 l1 l2 l3 l4 hc hsl

theorem slim_ni {n : Nat} {e : Int} (h : slimB n e = true) : n ≤ 20 := by
  simp only [slimB, Bool.and_eq_true, decide_eq_true_eq] at h; exact h.1
theorem dyis_of {w : World} {bd s : Bool} {a : Option Addr} {n p x : Nat} {e : Int} (hm : Mag w a n p x) (hs : slimB n e = true) (h0 : -9223372036854775808 ≤ e) (h1 : e ≤ 9223372036854775807) : DyIs w bd s a n p e (nrmB bd (sgn s x) e) := by
  have hn := slim_ni hs
  have hb := slim_pow x n hm.lt
  exact ⟨⟨x, hm, by omega, by omega, h0, h1, rfl⟩, by omega⟩

theorem dcmp_self (d : Option (Int × Int)) : dcmp d d = 0 := by
  cases d with
  | none => rfl
  | some p => obtain ⟨m, e⟩ := p; exact cmpI_eq rfl
theorem near_any (w : World) (hT : Tab w) (bda sa : Bool) (aa : Option Addr) (na pa xa : Nat) (ea q : Int)
    (Ma : Mag w aa na pa xa) (ua : -9223372036854775808 ≤ ea ∧ ea ≤ 9223372036854775807) (_uq : -9223372036854775808 ≤ q ∧ q ≤ 9223372036854775807) :
    Calls Tryd.prog 6 #[.agg #[.bool bda, .bool sa, .slice aa na pa, .int .i64 ea], .int .i64 q] w fun o w' => o = .returned (.bool true) ∧ Below w.heap.size w w' := by
  have ma := Nat.le_trans Ma.fits Ma.lim
  cases hsa : slimB na ea with
  | false => exact near_na w hT _ _ _ _ _ _ _ ma hsa
  | true =>
    have Ha := dyis_of (bd := bda) (s := sa) Ma hsa ua.1 ua.2
    cases va : nrmB bda (sgn sa xa) ea with
    | none =>
      rw [va] at Ha
      exact near_va w hT _ _ _ _ _ _ _ Ha _ ma hsa rfl
    | some v =>
      obtain ⟨m, e⟩ := v
      rw [va] at Ha
      have Sa := slim_nrm hsa Ma.lt va
      have hba := (isN_bounds Ha.1.isN).1
      obtain ⟨k, hk⟩ : ∃ k : Nat, placeI q 80 = k := Int.eq_ofNat_of_zero_le (by unfold placeI; exact Int.emod_nonneg _ (by omega))
      have hk1 : k < 80 := by
        have h2 : placeI q 80 < 80 := by unfold placeI; exact Int.emod_lt_of_pos _ (by omega)
        omega
      have hr : ((k + 1 : Nat) : Int) = 1 + placeI q 80 := by rw [hk]; omega
      by_cases hs : blen m.natAbs ≤ k + 1
      · have hd : ∀ mode, dround (some (m, e)) ((k + 1 : Nat) : Int) mode = some (m, e) := fun mode => dround_short m e (k + 1) mode Sa.okd (by omega) (by omega) hs
        have hl : ((blen (dman (some (m, e))).natAbs : Nat) : Int) ≤ ((k + 1 : Nat) : Int) := Int.ofNat_le.2 hs
        exact near_short w hT _ _ _ _ _ _ _ Ha q ma hsa rfl ((k + 1 : Nat) : Int) hr (by omega) (by omega) _ _ _ _ _ _ (hd 1) (hd 2) (hd 0) (hd 3) rfl rfl rfl rfl hl hl hl Ha.1.isN hba (dcmp_self _) (dcmp_self _) hl rfl rfl rfl rfl
      · obtain ⟨l, kk, h, j, r, t, h1, h2, h3, h4, h5, h6, h7, h8, _, _, h11, h12, h13, h14⟩ := near_law m e (k + 1) Sa (by omega) (by omega) (by omega)
        refine near_main w hT _ _ _ _ _ _ _ Ha q ma hsa rfl ((k + 1 : Nat) : Int) hr (by omega) (by omega) _ _ _ _ _ _ _ _ _ _ (decide ((some (r, t) : Option (Int × Int)) = some (l, kk))) (decide ((some (r, t) : Option (Int × Int)) = some (h, j))) _ _ h1 h2 h3 rfl rfl rfl rfl rfl (Int.ofNat_le.2 h4) (Int.ofNat_le.2 h5) (Int.ofNat_le.2 h6) Ha.1.isN hba h7 h8 ?_ rfl rfl rfl ?_ ?_ ?_ ?_ ?_ rfl rfl rfl rfl rfl
        · show ((k + 1 : Nat) : Int) < (blen m.natAbs : Nat); omega
        · intro hc; rw [decide_eq_true_eq, h11 hc]
        · intro hc; rw [decide_eq_true_eq, h12 hc]
        · rcases h13 with h | h
          · left; rw [decide_eq_true_eq, h]
          · right; rw [decide_eq_true_eq, h]
        · intro hg
          have hm : m < 0 := cmpI_neg_iff.1 hg
          rw [h14, if_pos hm]; simp
        · intro hg
          have hm : ¬ m < 0 := fun h => hg (cmpI_neg_iff.2 h)
          rw [h14, if_neg hm]; simp

end Go.Proofs.YtjhngehajahbnaaDoor

