/-
  Walks: the reference of accum: Sum, Dot, Residual.
-/
import Derived.Test.YtakbappmkdaioaaGreatDoorZjS3
import Derived.Test.YtakbappmkdaioaaGreatDoorZjRy
import Derived.Test.YtakbappmkdaioaaGreatDoorZjRd
import Derived.Test.YtakbappmkdaioaaGreatDoorZjRt
import Derived.Test.YtakbappmkdaioaaGreatDoorZjRx
import Derived.Deep.LoopGhost
import Derived.Test.YtakbappmkdaioaaGreatDoorZjCs
import Derived.Test.YtakbappmkdaioaaGreatDoorZjFP
import Derived.Test.YtakbappmkdaioaaGreatDoorZjRv
import Derived.Test.YtakbappmkdaioaaGreatDoorZjAr
namespace Go.Proofs.YtakbappmkdaioaaGreatDoor
open Go.RowKit Sp

set_option maxRecDepth 100000 in
set_option maxHeartbeats 20000000 in
theorem rsum6_any (w : World) (hT : Tab w) (a : Option Addr) (n cap : Nat) (X : Nat → Nat) (hX : Fls w a n cap X) :
    Calls Tryz.prog 38 #[.slice a n cap] w (RetDy w (rsumD (fun i => fof (X i)) n)) := by
  have l1 := hX.lim
  have l2 := hX.fits
  have HOk := fun (k : Nat) (hk : k < n) W ht => Lib.hid (r3of_any W (X k) (hX.b k hk) ht)
  obtain ⟨d, hd⟩ : ∃ d : Nat → Option (Int × Int), d = fun i => fof (X i) := ⟨_, rfl⟩
  have hdi : ∀ i, fof (X i) = d i := fun i => by rw [hd]
  rw [← hd]
  have HND := Lib.hid (show ∀ i, IsN (d i) from fun i => by rw [← hdi]; exact isN_fof _)
  simp only [hdi] at HOk
  have HX := Lib.hid hX
  clear hX hd hdi
  go_enter Tryz.func38, Tryz.ntmps38
  go_wp2_with fail
  have Ir := ((DyV.made' w 26 false false (.slice none 0 0) 0 (n := w.heap.size) (by rfl)).alloc (.cells #[.bool false, .bool false, (.slice none 0 0), .int .i64 0] 26))
  have It := (DyV.made' (w.alloc (.cells #[.bool false, .bool false, (.slice none 0 0), .int .i64 0] 26)) 26 false false (.slice none 0 0) 0 (n := w.heap.size + 1) (by rw [World.size_alloc]))
  have B0 : Below w.heap.size w ((w.alloc (.cells #[.bool false, .bool false, (.slice none 0 0), .int .i64 0] 26)).alloc (.cells #[.bool false, .bool false, (.slice none 0 0), .int .i64 0] 26)) := zbh
  have nrt : ¬ w.heap.size = w.heap.size + 1 := by omega
  have ntr : ¬ w.heap.size + 1 = w.heap.size := by omega
  generalize ((w.alloc (.cells #[.bool false, .bool false, (.slice none 0 0), .int .i64 0] 26)).alloc (.cells #[.bool false, .bool false, (.slice none 0 0), .int .i64 0] 26)) = w0 at Ir It B0 ⊢
  generalize hzt : w.heap.size + 1 = zt at It nrt ntr ⊢
  generalize hb0 : w.heap.size = b0 at Ir nrt ntr hzt ⊢
  obtain ⟨rc0, rc1, rc2, rc3, rc4, rc5⟩ := Ir
  have Vr0 := Lib.hid (DyV.mk rc0 rc1 rc2 rc3 rc4 rc5)
  obtain ⟨tc0, tc1, tc2, tc3, tc4, tc5⟩ := It
  have Vt0 := Lib.hid (DyV.mk tc0 tc1 tc2 tc3 tc4 tc5)
  have gt : w.heap.size ≤ zt := by omega
  go_loopw [4] (fun i wr => ∃ (k : Nat) (a3 : Option Addr) (c3 : Nat), k ≤ n ∧ i = .int .i64 k ∧ DyV wr b0 false false (.slice none 0 0) 0 ∧ DyV wr zt (dbad (rsumD d k)) (decide (dman (rsumD d k) < 0)) (.slice a3 (nl (dman (rsumD d k)).natAbs) c3) (dexp (rsumD d k)) ∧ Mag wr a3 (nl (dman (rsumD d k)).natAbs) c3 (dman (rsumD d k)).natAbs ∧ (0 < nl (dman (rsumD d k)).natAbs → ab a3 ≠ b0 ∧ ab a3 ≠ zt ∧ w.heap.size ≤ ab a3) ∧ Below w.heap.size w wr) (fun i _ => n - (intOf i).toNat)
  case atStart => exact ⟨0, none, 0, by omega, rfl, Vr0.out, Vt0.out, Mag.nil _, fun h => absurd h (by show ¬ 0 < nl 0; rw [show nl 0 = 0 from rfl]; omega), B0⟩
  case round =>
    obtain ⟨kk, a3, c3, hk, rfl, V0, Vt, M3, hf3, hb⟩ := hrel
    obtain ⟨w5, hw5⟩ : ∃ w5, w5 = wr := ⟨_, rfl⟩
    subst hw5
    by_cases hlt : kk < n
    · obtain ⟨rc0, rc1, rc2, rc3, rc4, rc5⟩ := V0
      have Vr5 := Lib.hid (DyV.mk rc0 rc1 rc2 rc3 rc4 rc5)
      obtain ⟨tc0, tc1, tc2, tc3, tc4, tc5⟩ := Vt
      have Vt5 := Lib.hid (DyV.mk tc0 tc1 tc2 tc3 tc4 tc5)
      have M35 := M3
      have B5 := hb
      clear M3 hb
      obtain ⟨y, hy⟩ : ∃ y, y = rsumD d (kk + 1) := ⟨_, rfl⟩
      have HAk := fun W b1 q1 b2 q2 (h1 : Mag W b1 (nl (dman (rsumD d kk)).natAbs) q1 (dman (rsumD d kk)).natAbs) (h2 : Mag W b2 (nl (dman (d kk)).natAbs) q2 (dman (d kk)).natAbs) ht => Lib.hid (show Calls Tryz.prog 149 #[.agg #[.bool (dbad (rsumD d kk)), .bool (decide (dman (rsumD d kk) < 0)), .slice b1 (nl (dman (rsumD d kk)).natAbs) q1, .int .i64 (dexp (rsumD d kk))], .agg #[.bool (dbad (d kk)), .bool (decide (dman (d kk) < 0)), .slice b2 (nl (dman (d kk)).natAbs) q2, .int .i64 (dexp (d kk))]] W (RetDy W y) from by rw [hy]; exact rdadd_any W _ _ _ _ _ _ _ _ _ _ _ _ _ _ (dyis_n (isN_rsum d kk) h1) (dyis_n (HND.out kk) h2) ht)
      have fr3t : 0 < nl (dman (rsumD d kk)).natAbs → ab a3 ≠ zt := fun h => (hf3 h).2.1
      have HYY := Lib.hid hy
      clear hy
      have iX := (HX.out.below B5).idx kk hlt
      have kX := (HX.out.below B5).cell kk hlt
      have HOq := HOk kk hlt
      go_wp2_with fail
      first
      | go_region_with
          (first
            | (go_at_call 149; have xx := B6; refine (HAk _ a3 c3 a2 c2 M36.on M26.on (hT.below (have := Beh.mk B6; zbh))).out.mono ?_; rintro e w7 ⟨ay, cy, rfl, My7, hb7, hf7⟩; have Vr7 : DyV w7 b0 false false (.slice none 0 0) 0 := (Vr6.out.on.below hb7); (try clear rc0 rc1 rc2 rc3 rc4); obtain ⟨rc0, rc1, rc2, rc3, rc4, rc5⟩ := Vr7; have Vr7 := Lib.hid (DyV.mk rc0 rc1 rc2 rc3 rc4 rc5); have Vt7 : DyV w7 zt (dbad (rsumD d kk)) (decide (dman (rsumD d kk) < 0)) (.slice a3 (nl (dman (rsumD d kk)).natAbs) c3) (dexp (rsumD d kk)) := (Vt6.out.on.below hb7); (try clear tc0 tc1 tc2 tc3 tc4); obtain ⟨tc0, tc1, tc2, tc3, tc4, tc5⟩ := Vt7; have Vt7 := Lib.hid (DyV.mk tc0 tc1 tc2 tc3 tc4 tc5); have M37 : Mag w7 a3 (nl (dman (rsumD d kk)).natAbs) c3 (dman (rsumD d kk)).natAbs := Mag.below M36.on hb7; have M27 : Mag w7 a2 (nl (dman (d kk)).natAbs) c2 (dman (d kk)).natAbs := Mag.below M26.on hb7; have B7 := below_box (w := w) (have := Beh.mk B6; zbh) hb7; have hF7 : 0 < (nl (dman y).natAbs) → w6.heap.size ≤ ab ay := (fun h => by have hq := hf7 h; (try simp at hq); omega); have fryr : 0 < (nl (dman y).natAbs) → ab ay ≠ b0 := (fun h => by have := hF7 h; have := Vr6.out.lt; omega); have fryt : 0 < (nl (dman y).natAbs) → ab ay ≠ zt := (fun h => by have := hF7 h; have := Vt6.out.lt; omega); have foy : 0 < (nl (dman y).natAbs) → w.heap.size ≤ ab ay := (fun h => by have := hF7 h; have := B6.size; omega); clear hF7; have kX7 := (HX.out.below B7).cell kk hlt; clear hb7 hf7)
            | (go_at_call 61; have xx := B5; refine (HOq _ (hT.below (have := Beh.mk B5; zbh))).out.mono ?_; rintro e w6 ⟨a2, c2, rfl, M26, hb6, hf6⟩; have Vr6 : DyV w6 b0 false false (.slice none 0 0) 0 := (Vr5.out.on.below hb6); (try clear rc0 rc1 rc2 rc3 rc4); obtain ⟨rc0, rc1, rc2, rc3, rc4, rc5⟩ := Vr6; have Vr6 := Lib.hid (DyV.mk rc0 rc1 rc2 rc3 rc4 rc5); have Vt6 : DyV w6 zt (dbad (rsumD d kk)) (decide (dman (rsumD d kk) < 0)) (.slice a3 (nl (dman (rsumD d kk)).natAbs) c3) (dexp (rsumD d kk)) := (Vt5.out.on.below hb6); (try clear tc0 tc1 tc2 tc3 tc4); obtain ⟨tc0, tc1, tc2, tc3, tc4, tc5⟩ := Vt6; have Vt6 := Lib.hid (DyV.mk tc0 tc1 tc2 tc3 tc4 tc5); have M36 : Mag w6 a3 (nl (dman (rsumD d kk)).natAbs) c3 (dman (rsumD d kk)).natAbs := Mag.below M35.on hb6; have B6 := below_box (w := w) (have := Beh.mk B5; zbh) hb6; have hF6 : 0 < (nl (dman (d kk)).natAbs) → w5.heap.size ≤ ab a2 := (fun h => by have hq := hf6 h; (try simp at hq); omega); have fr2r : 0 < (nl (dman (d kk)).natAbs) → ab a2 ≠ b0 := (fun h => by have := hF6 h; have := Vr5.out.lt; omega); have fr2t : 0 < (nl (dman (d kk)).natAbs) → ab a2 ≠ zt := (fun h => by have := hF6 h; have := Vt5.out.lt; omega); have fo2 : 0 < (nl (dman (d kk)).natAbs) → w.heap.size ≤ ab a2 := (fun h => by have := hF6 h; have := B5.size; omega); clear hF6; have kX6 := (HX.out.below B6).cell kk hlt; clear hb6 hf6)
            | fail)
      | fail "region"
      all_goals (
        go_wp2_with fail
        go_roundw
        case rel =>
          refine ⟨kk + 1, ay, cy, by omega, by go_num, ?_⟩
          rw [← HYY.out]
          exact ⟨(((Vr7.out.set nrt _ _).set nrt _ _).set nrt _ _).set nrt _ _, Vt7.out.put _ _ _ _, (((My7.set fryt _ _).set fryt _ _).set fryt _ _).set fryt _ _, fun h => ⟨fryr h, fryt h, foy h⟩, (((B7.setCell gt _).setCell gt _).setCell gt _).setCell gt _⟩
        case measure => simp [intOf]; omega)
    · obtain rfl : kk = n := by omega
      have V0h := Lib.hid V0
      have hf4 := hf3
      generalize rsumD d kk = mk at *
      obtain ⟨q0, q1, q2, q3, q4, q5⟩ := Vt
      obtain ⟨r0, r1, r2, r3, r4, r5⟩ := V0
      go_wp2_with fail
      refine bodyPost_ret (v := .agg #[.bool (dbad mk), .bool (decide (dman mk < 0)), .slice a3 (nl (dman mk).natAbs) c3, .int .i64 (dexp mk)]) (by simp only [results, Tryz.results38]; go_simp) rfl ?_
      have gr : w.heap.size ≤ b0 := by omega
      have hy3 : 0 < nl (dman mk).natAbs → ab a3 ≠ b0 := fun h0 => (hf4 h0).1
      exact ⟨a3, c3, rfl, (((M3.set hy3 _ _).set hy3 _ _).set hy3 _ _).set hy3 _ _, (((hb.setCell gr _).setCell gr _).setCell gr _).setCell gr _, fun h => (hf4 h).2.2⟩

theorem rsum6 (w : World) (hT : Tab w) (a : Option Addr) (n cap : Nat) (X : Nat → Nat) (hX : Fls w a n cap X) (hn : n ≤ 15) :
    Calls Tryz.prog 38 #[.slice a n cap] w (RetDy w (dsum (fun i => fof (X i)) n)) := by
  rw [← rsum_law X hn]; exact rsum6_any w hT a n cap X hX

end Go.Proofs.YtakbappmkdaioaaGreatDoor

