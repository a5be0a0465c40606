/-
  Walks: package sparseref23: New, Eliminate.
-/
import Derived.Test.YtablcbgeeeboeaaGreatDoorZhPt
import Derived.Test.YtablcbgeeeboeaaGreatDoorZhPp
import Derived.Test.YtablcbgeeeboeaaGreatDoorZhRy
set_option maxRecDepth 100000
set_option maxHeartbeats 20000000
namespace Go.Proofs.YtablcbgeeeboeaaGreatDoor
open Go.RowKit Sp
theorem ElR.no {B : Nat → Option (Int × Int)} {n k : Nat} (he : zBh B n k ≠ 0) (lo hi : Nat) (w : World) (z kk : Int) (hz : zBh B n k = z) (hk : (zBo B n k : Int) = kk) : ElR B n k (.tuple #[.agg #[.int .i64 0, .int .i64 0, .slice none 0 0], .agg #[.int .i64 0, .int .i64 0, .slice none 0 0], .int .i64 kk, .int .i64 z]) lo hi w := by
 refine ⟨none, 0, none, 0, ?_, ?_, ?_⟩
 · rw [zC3 he, zC3 he, zC3 he, zC3 he, zC3 he, hz, hk]; rfl
 · rw [zC3 he]; exact ⟨fun h => absurd h (Nat.lt_irrefl _), zFx _ _⟩
 · rw [zC3 he]; exact ⟨_, _, DM.nil _ _ _, fun g h => (by cases h), fun i hi => by omega⟩
theorem ElR.ok {B : Nat → Option (Int × Int)} {n k N q Q g1 g2 : Nat} (he : zBh B n k = 0) (hk : zBo B n k = k) (hN : N = n * k) (hq : n - k = q) (hQ : Q = q * q) {lo hi : Nat} {w : World} (hF : FW (some ⟨g1, 0, none⟩) N N (pan B n k) lo hi w) (hD : DW (some ⟨g2, 0, none⟩) Q Q (rest B n k) lo hi w) :
 ElR B n k (.tuple #[.agg #[.int .i64 n, .int .i64 k, .slice (some ⟨g1, 0, none⟩) N N], .agg #[.int .i64 q, .int .i64 q, .slice (some ⟨g2, 0, none⟩) Q Q], .int .i64 k, .int .i64 0]) lo hi w := by
 subst hN hQ hq
 refine ⟨some ⟨g1, 0, none⟩, n * k, some ⟨g2, 0, none⟩, (n - k) * (n - k), ?_, ?_, ?_⟩
 · rw [zC2 he, zC2 he, zC2 he, zC2 he, zC2 he, he, hk]
 · rw [zC2 he]; exact hF
 · rw [zC2 he]; exact hD
theorem zMK (B : Nat → Option (Int × Int)) (n j i t : Nat) : zCE B n j i t < 18446744073709551616 := by
 unfold zCE; split
 · exact zJR _ _ _ _ _
 · exact zLM _ _ _ _
theorem zML {w : World} {base g N : Nat} {V : Nat → Nat} (h : w.ownsRow base 40 1 (.slice (some ⟨g, 0, none⟩) N N) N (zAX V N)) (hV : ∀ t, V t < 18446744073709551616) : FZ w (some ⟨g, 0, none⟩) N N V := ⟨(zFk h fun i _ => hV i).2⟩
theorem zOh (z : Int) : sg z ≤ 0 ↔ z ≤ 0 := cmpI_le
theorem zJT {w : World} {base g N t x : Nat} {V V' : Nat → Nat} (h : w.ownsRow base 40 1 (.slice (some ⟨g, 0, none⟩) N N) N (zAX V N)) (ht : t < N) (e : (fun s => if s = t then x else V s) = V') :
 (w.setCell ⟨g, t, none⟩ (.int .u64 ((x : Nat) : Int))).ownsRow base 40 1 (.slice (some ⟨g, 0, none⟩) N N) N (zAX V' N) := by
 obtain ⟨o1, _⟩ := h.stored t (.int .u64 ((x : Nat) : Int))
 rw [zGr _ _ ht, e] at o1
 exact o1
attribute [local irreducible] Calls
theorem zLw (w : World) (q : Nat) (hq : q ≤ 64) :
 Calls Tryz.prog 52 #[.int .i64 q, .int .i64 q] w fun o w' => ∃ g, o = .returned (.agg #[.int .i64 q, .int .i64 q, .slice (some ⟨g, 0, none⟩) (q * q) (q * q)]) ∧ DM w' (w.heap.size + 1) (.slice (some ⟨g, 0, none⟩) (q * q) (q * q)) (q * q) (fun _ => some (0, 0)) (fun _ => none) (fun _ => 0) ∧ From w w' := by
 obtain ⟨Q, hQ⟩ : ∃ Q, Q = q * q := ⟨_, rfl⟩
 have hQ2 : Q ≤ 4096 := by rw [hQ]; exact Nat.mul_le_mul hq hq
 have hmul : (q : Int) * (q : Int) = (Q : Int) := by rw [hQ]; exact (Int.natCast_mul q q).symm
 have hmk := fun W => zFo Q (by omega) W
 rw [← hQ]
 clear hQ
 go_enter Tryz.func52, Tryz.ntmps52
 go_wp2_with fail
 have DM0 := (zDu Q (by omega) (w.alloc (.cells #[.int .i64 q, .int .i64 q, .slice (some ⟨w.heap.size + 1, 0, none⟩) Q Q] 25)) (w.heap.size + 1) (by simp) (g := w.heap.size + 1) (by simp))
 have M6 : DM _ (w.heap.size + 1) _ Q _ _ _ := ⟨DM0, fun t ht h => absurd h (by decide)⟩
 refine bodyPost_ret (v := .agg #[.int .i64 q, .int .i64 q, .slice (some ⟨w.heap.size + 1, 0, none⟩) Q Q]) (by simp only [results, Tryz.results52]; go_simp) rfl ?_
 exact ⟨_, rfl, M6, ⟨zbh⟩⟩
theorem zJD (w : World) [Tb w] (n k : Nat) (width : Int) (ae : Option Addr) (ce : Nat) (B : Nat → Option (Int × Int)) [hB : DZ w ae (n * n) ce B] (hBN : ∀ t, IsN (B t)) (hbad : zA5 B (n * n) = false) (hn : n ≤ 64) (hk : k ≤ n) (hw1 : 1 ≤ width) (hw2 : width ≤ 9223372036854775807) :
 Calls Tryz.prog 14 #[.agg #[.int .i64 n, .int .i64 n, .slice ae (n * n) ce], .int .i64 k, .int .i64 width] w fun o w' => ∃ v, o = .returned v ∧ ElR B n k v w.heap.size w'.heap.size w' ∧ From w w' := by
 have hsz : szE n n (n * n) = 0 := by unfold szE; rw [if_neg (by omega), if_neg (by omega), if_pos (Int.natCast_mul n n)]
 have hE : zD3 n n (n * n) (zA5 B (n * n)) = 0 := by unfold zD3; rw [if_pos hsz, hbad]; rfl
 have HCk := fun W [i : DZ W ae (n * n) ce B] [Tb W] => Lib.hid (frm (by
  obtain ⟨⟨A, C, h1⟩, hN⟩ := i.out
  have h := zAv W tb n n ae (n * n) ce _ h1 (zFq hN A C)
  have e : zA5 (fun i => (mel B A C i).d) (n * n) = zA5 B (n * n) := zAJ fun t ht => zFp (hN t ht)
  rw [e, hE] at h
  exact h))
 have hNk : n * k ≤ 4096 := Nat.mul_le_mul hn (show k ≤ 64 by omega)
 obtain ⟨N, hN⟩ : ∃ N, N = n * k := ⟨_, rfl⟩
 rw [← hN] at hNk
 have hmF := fun W => zKa N (by omega) W
 have hmul : (n : Int) * (k : Int) = (N : Int) := by rw [hN]; exact (Int.natCast_mul n k).symm
 have HNN := Lib.hid hN
 have HBN := Lib.hid hBN
 have l1 := hB.out.fits
 have HLe := fun W (V : Nat → Nat) (i j m : Nat) (hi : i < n) (hj : j < n) (hm : m ≤ k) [Tb W] [DZ W ae (n * n) ce B] g [FZ W (some ⟨g, 0, none⟩) N N V] => Lib.hid (frF (zJx W n n k ae (n * n) ce B (some ⟨g, 0, none⟩) N N V rfl hn HBN.out i j m k hi hj hm (by omega) HNN.out))
 have HVa := fun W (s : Option (Int × Int)) (hs : IsN s) a c [i1 : BI W a (nl (zA1 s).natAbs) c (zA1 s).natAbs] [Tb W] => Lib.hid (frm (zDq W (zA3 s) (decide (zA1 s < 0)) a _ c (zA2 s) s (zBp hs i1.out) tb))
 have HSg := fun W (s : Option (Int × Int)) (hs : IsN s) a c [i1 : BI W a (nl (zA1 s).natAbs) c (zA1 s).natAbs] [Tb W] => Lib.hid (frm (zIr W (zA3 s) (decide (zA1 s < 0)) a _ c (zA2 s) s (zBp hs i1.out) tb))
 have HRo := fun W (s : Option (Int × Int)) (hs : IsN s) a c [i1 : BI W a (nl (zA1 s).natAbs) c (zA1 s).natAbs] [Tb W] => Lib.hid (by
  haveI x1 : DS W (zA3 s) (decide (zA1 s < 0)) a (nl (zA1 s).natAbs) c (zA2 s) s := ⟨zBp hs i1.out⟩
  exact frm (zGO W (zA3 s) (decide (zA1 s < 0)) a (nl (zA1 s).natAbs) c (zA2 s) s))
 have HQu := fun W (s : Option (Int × Int)) (hs : IsN s) (f : Nat) a c a' c' [i1 : BI W a (nl (zA1 s).natAbs) c (zA1 s).natAbs] [i2 : BI W a' (nl (zA1 (fof f)).natAbs) c' (zA1 (fof f)).natAbs] [Tb W] => Lib.hid (by
  haveI x1 : DS W (zA3 s) (decide (zA1 s < 0)) a (nl (zA1 s).natAbs) c (zA2 s) s := ⟨zBp hs i1.out⟩
  haveI x2 : DS W (zA3 (fof f)) (decide (zA1 (fof f) < 0)) a' (nl (zA1 (fof f)).natAbs) c' (zA2 (fof f)) (fof f) := ⟨zBp (zBI f) i2.out⟩
  exact frm (zIA W (zA3 s) (decide (zA1 s < 0)) a (nl (zA1 s).natAbs) c (zA2 s) s (zA3 (fof f)) (decide (zA1 (fof f) < 0)) a' (nl (zA1 (fof f)).natAbs) c' (zA2 (fof f)) (fof f)))
 have HOf := fun W y (hy : y < 18446744073709551616) [Tb W] => Lib.hid (frF (zDS W y hy tb))
 have HIz := fun W y (hy : y < 18446744073709551616) => Lib.hid (zGN W y hy)
 have HFi := fun W y => Lib.hid (zCi W y)
 have hq1 : ((n : Int) != (n : Int)) = false := by simp
 have hq3 : decide ((k : Int) < 0) = false := decide_eq_false (by omega)
 have hq4 : decide ((n : Int) < (k : Int)) = false := decide_eq_false (by omega)
 have hq5 : ¬ n < k := by omega
 have hq6 : ¬ width < 1 := by omega
 clear hN hE hbad hBN hsz
 go_enter Tryz.func14, Tryz.ntmps14
 go_wp2_with fail
 refine (HCk _).out.mono ?_; rintro o w2 ⟨rfl, b2⟩
 have hs2 : w.heap.size + 3 ≤ w2.heap.size := by have := b2.out.size; simp at this; omega
 have R0 : N3 w2 w.heap.size (.int .i64 n) (.int .i64 n) (.slice ae (n * n) ce) := inferInstance
 have R1 : N3 w2 (w.heap.size + 1) (.int .i64 0) (.int .i64 0) (.slice none 0 0) := inferInstance
 have R2 : N3 w2 (w.heap.size + 1 + 1) (.int .i64 0) (.int .i64 0) (.slice none 0 0) := inferInstance
 have D2 : DZ w2 ae (n * n) ce B := inferInstance
 have T2 : Tb w2 := inferInstance
 have L2 : Below w.heap.size w w2 := zbh
 haveI L2' : Beh w w2 := ⟨L2⟩
 clear b2 HCk
 have OP0 := (zFn N (by omega) w2 w2.heap.size (Nat.le_refl _) (g := w2.heap.size) rfl).alloc (.cells #[.int .i64 n, .int .i64 k, .slice (some ⟨w2.heap.size, 0, none⟩) N N] 30)
 have OP1 : ((w2.alloc (.cells (madeCells #[.int .u64 0] N) 40)).alloc (.cells #[.int .i64 n, .int .i64 k, .slice (some ⟨w2.heap.size, 0, none⟩) N N] 30)).ownsRow w2.heap.size 40 1 (.slice (some ⟨w2.heap.size, 0, none⟩) N N) N (zAX (pan B n 0) N) := OP0
 clear OP0
 go_wp2_with fail
 go_loopw [13] (fun x wr => ∃ j : Nat, j ≤ k ∧ x = .int .i64 j ∧ zGD B n k = zAA (zCQ B n) j (k - j) ∧ zH2 B n k = zBJ (zCQ B n) j (k - j) ∧ wr.ownsRow w2.heap.size 40 1 (.slice (some ⟨w2.heap.size, 0, none⟩) N N) N (zAX (pan B n j) N) ∧ N3 wr (w2.heap.size + 1) (.int .i64 n) (.int .i64 k) (.slice (some ⟨w2.heap.size, 0, none⟩) N N) ∧ N3 wr w.heap.size (.int .i64 n) (.int .i64 n) (.slice ae (n * n) ce) ∧ N3 wr (w.heap.size + 1) (.int .i64 0) (.int .i64 0) (.slice none 0 0) ∧ N3 wr (w.heap.size + 1 + 1) (.int .i64 0) (.int .i64 0) (.slice none 0 0) ∧ Below w2.heap.size w2 wr ∧ w2.heap.size + 2 ≤ wr.heap.size) (fun x _ => k - (intOf x).toNat)
 case atStart => exact ⟨0, by omega, rfl, rfl, rfl, OP1, inferInstance, inferInstance, inferInstance, inferInstance, zbh, by simp⟩
 case round =>
  clear OP1 hmF
  obtain ⟨j, hj, rfl, he, ha, OP, iP, i0, i1, i2, hbr, hsz⟩ := hrel
  have HE := Lib.hid he
  have HA := Lib.hid ha
  haveI bwr : From w2 wr := ⟨hbr⟩
  clear he ha
  by_cases hlt : j < k
  · obtain ⟨P, hP⟩ : ∃ P, P = j * n := ⟨_, rfl⟩
    have hjn : (j : Int) * (n : Int) = (P : Int) := by rw [hP]; exact (Int.natCast_mul j n).symm
    have hPu : P ≤ 4096 := by rw [hP]; exact Nat.mul_le_mul (show j ≤ 64 by omega) hn
    have HP := Lib.hid hP
    have OPC : wr.ownsRow w2.heap.size 40 1 (.slice (some ⟨w2.heap.size, 0, none⟩) N N) N (zAX (zCE B n j j) N) := by rw [zEL (Nat.le_refl _)]; exact OP
    clear hP OP
    go_wp2_with fail
    go_loopw [14] (fun x wr => ∃ i : Nat, j ≤ i ∧ i ≤ n ∧ x = .int .i64 i ∧ zCQ B n j = zAA (zD4 B n j) i (n - i) ∧ wr.ownsRow w2.heap.size 40 1 (.slice (some ⟨w2.heap.size, 0, none⟩) N N) N (zAX (zCE B n j i) N) ∧ N3 wr (w2.heap.size + 1) (.int .i64 n) (.int .i64 k) (.slice (some ⟨w2.heap.size, 0, none⟩) N N) ∧ N3 wr w.heap.size (.int .i64 n) (.int .i64 n) (.slice ae (n * n) ce) ∧ N3 wr (w.heap.size + 1) (.int .i64 0) (.int .i64 0) (.slice none 0 0) ∧ N3 wr (w.heap.size + 1 + 1) (.int .i64 0) (.int .i64 0) (.slice none 0 0) ∧ Below w2.heap.size w2 wr ∧ w2.heap.size + 2 ≤ wr.heap.size) (fun x _ => n - (intOf x).toNat)
    case atStart => exact ⟨j, by omega, by omega, rfl, rfl, OPC, iP, i0, i1, i2, hbr, hsz⟩
    case round =>
     clear OPC iP i0 i1 i2 hbr hsz bwr
     obtain ⟨i, hi0, hi1, rfl, hc, OP, iP, i0, i1, i2, hbr, hsz⟩ := hrel
     have HC := Lib.hid hc
     haveI bwr : From w2 wr := ⟨hbr⟩
     clear hc
     by_cases hlt2 : i < n
     · haveI iF := zML OP (zMK B n j i)
       have HLi := fun W [Tb W] [DZ W ae (n * n) ce B] [FZ W (some ⟨w2.heap.size, 0, none⟩) N N (zCE B n j i)] => HLe W (zCE B n j i) i j j hlt2 (by omega) (by omega) w2.heap.size
       rw [zEV hlt2 (by omega)] at HLi
       have hsN := zCb B n (pan B n j) i j j
       have hcc : zD4 B n j i = if zA3 (zAQ B n (pan B n j) i j j) then 233 else if i = j ∧ (zA1 (zAQ B n (pan B n j) i j j) ≤ 0 ∨ zCY (zE8 B n (pan B n j) j i) = true) then 231 else if zB0 (zE8 B n (pan B n j) j i) then 0 else 233 := rfl
       have hpv : zE8 B n (pan B n j) j i = if i = j then zBE (zAQ B n (pan B n j) j j j) 0 else zH0 (zAQ B n (pan B n j) i j j) (fof (zBE (zAQ B n (pan B n j) j j j) 0)) 0 := rfl
       have t1 : P + i < N := by rw [HP.out, HNN.out]; exact zCc hlt2 hlt
       have t2 : P + j < N := by rw [HP.out, HNN.out]; exact zCc (by omega) hlt
       obtain ⟨y, hy⟩ : ∃ y, y = zE8 B n (pan B n j) j i := ⟨_, rfl⟩
       have hy64 : y < 18446744073709551616 := by rw [hy]; exact zJR _ _ _ _ _
       rw [← hy] at hcc hpv
       have HY := Lib.hid hy
       have hst := zE9 (B := B) hlt2 hi0
       rw [← hy, ← HP.out] at hst
       have HSTEP := Lib.hid hst
       have y1 := zPr w2.heap.size (P + i) N t1
       rw [show (((P + i : Nat)) : Int) = (P : Int) + (i : Int) by omega] at y1
       obtain ⟨s, hs⟩ : ∃ s, s = zAQ B n (pan B n j) i j j := ⟨_, rfl⟩
       rw [← hs] at hcc hpv hsN HLi
       have HS := Lib.hid hs
       have HVs := fun W => HVa W s hsN
       have HSs := fun W => HSg W s hsN
       have HRs := fun W => HRo W s hsN
       have HQs := fun W => HQu W s hsN
       clear hs hy hst
       by_cases hb : zA3 s = true
       · rw [if_pos hb] at hcc
         have hfe0 : zCQ B n j = 233 := by rw [HC.out, zAu (by rw [hcc]; decide) (by omega), hcc]
         have hfe1 : zGD B n k = 233 := by rw [HE.out, zAu (by rw [hfe0]; decide) (by omega), hfe0]
         have hfe2 : zBh B n k = 233 := by unfold zBh; rw [hfe1, if_neg (by decide)]
         have HFE := Lib.hid hfe2
         have HFK := Lib.hid (show ((zBo B n k : Nat) : Int) = 0 from by unfold zBo; rw [hfe2, if_neg (by decide), hfe1, if_neg (by decide)]; rfl)
         clear hfe0 hfe1 hfe2 hcc
         rw [hb] at HVs
         have hb2 := Lib.hid hb
         simp only [hb] at HLi
         clear hpv HSs HRs HQs hb
         go_wp2_with fail
         refine (HLi _).out.mono ?_; rintro o v1 ⟨a1, c1, rfl, i3, b3, f3⟩
         go_wp2_with fail
         refine (HVs _ _ _).out.mono ?_; rintro o v2 ⟨rfl, b4⟩
         go_wp2_with fail
         refine bodyPost_ret (v := .tuple #[.agg #[.int .i64 0, .int .i64 0, .slice none 0 0], .agg #[.int .i64 0, .int .i64 0, .slice none 0 0], .int .i64 0, .int .i64 233]) (by simp only [results, Tryz.results14]; go_simp) rfl ?_
         exact ⟨_, rfl, ElR.no (by rw [HFE.out]; decide) _ _ _ _ _ HFE.out HFK.out, ⟨zbh⟩⟩
       · have hb' : zA3 s = false := by simpa using hb
         rw [if_neg hb] at hcc
         have hHV : Hid (∀ W a c [i1 : BI W a (nl (zA1 s).natAbs) c (zA1 s).natAbs] [Tb W], Hid (Calls Tryz.prog 23 #[.agg #[.bool (zA3 s), .bool (decide (zA1 s < 0)), .slice a (nl (zA1 s).natAbs) c, .int .i64 (zA2 s)]] W fun e w' => e = .returned (.bool true) ∧ From W w')) := by
          intro W a c i1 t1
          have h := (HVs W a c).out
          have e : (!zA3 s) = true := by rw [hb']; rfl
          rw [e] at h
          exact h
         clear HVs hb hb'
         by_cases hij : i = j
         · subst hij
           rw [if_pos rfl] at hpv
           rw [← HS.out] at hpv
           have hq2 : ((i : Int) == (i : Int)) = true := by simp
           have HRy := HRs
           rw [← hpv] at HRy
           by_cases hz : zA1 s ≤ 0 ∨ zCY y = true
           · rw [if_pos ⟨rfl, hz⟩] at hcc
             have hfe0 : zCQ B n i = 231 := by rw [HC.out, zAu (by rw [hcc]; decide) (by omega), hcc]
             have hfe1 : zGD B n k = 231 := by rw [HE.out, zAu (by rw [hfe0]; decide) (by omega), hfe0]
             have hfe2 : zBh B n k = 231 := by unfold zBh; rw [hfe1, if_neg (by decide)]
             have HFE := Lib.hid hfe2
             have HFK := Lib.hid (show ((zBo B n k : Nat) : Int) = (i : Int) from by unfold zBo; rw [hfe2, if_neg (by decide), hfe1, if_pos rfl]; exact congrArg _ (by rw [HA.out, zEU (by rw [hfe0]; decide) (by omega)]))
             clear hfe0 hfe1 hfe2 hcc
             obtain ⟨z0, hz0⟩ : ∃ z0, z0 = sg (zA1 s) := ⟨_, rfl⟩
             rw [← hz0] at HSs
             have hz1 : z0 ≤ 0 ↔ zA1 s ≤ 0 := by rw [hz0]; exact zOh _
             clear hz0 HRs HQs hpv
             by_cases hm : zA1 s ≤ 0
             · have hm0 := hz1.2 hm
               clear hz hz1 hm
               go_wp2_with fail
               refine (HLi _).out.mono ?_; rintro o v1 ⟨a1, c1, rfl, i3, b3, f3⟩
               go_wp2_with fail
               refine (hHV.out _ _ _).out.mono ?_; rintro o v2 ⟨rfl, b4⟩
               go_wp2_with fail
               refine (HRy _ _ _).out.mono ?_; rintro o v3 ⟨rfl, b5⟩
               go_wp2_with fail
               refine (HSs _ _ _).out.mono ?_; rintro o v4 ⟨rfl, b6⟩
               go_wp2_with fail
               refine bodyPost_ret (v := .tuple #[.agg #[.int .i64 0, .int .i64 0, .slice none 0 0], .agg #[.int .i64 0, .int .i64 0, .slice none 0 0], .int .i64 i, .int .i64 231]) (by simp only [results, Tryz.results14]; go_simp) rfl ?_
               exact ⟨_, rfl, ElR.no (by rw [HFE.out]; decide) _ _ _ _ _ HFE.out HFK.out, ⟨zbh⟩⟩
             · have hm0 : ¬ z0 ≤ 0 := fun h => hm (hz1.1 h)
               have hzy : zCY y = true := hz.resolve_left hm
               have HIy := fun W => HIz W y hy64
               rw [hzy] at HIy
               clear hz hz1 hm hzy
               go_wp2_with fail
               refine (HLi _).out.mono ?_; rintro o v1 ⟨a1, c1, rfl, i3, b3, f3⟩
               go_wp2_with fail
               refine (hHV.out _ _ _).out.mono ?_; rintro o v2 ⟨rfl, b4⟩
               go_wp2_with fail
               refine (HRy _ _ _).out.mono ?_; rintro o v3 ⟨rfl, b5⟩
               go_wp2_with fail
               refine (HSs _ _ _).out.mono ?_; rintro o v4 ⟨rfl, b6⟩
               go_wp2_with fail
               refine (HIy _).out.mono ?_; rintro o v5 ⟨rfl, rfl⟩
               go_wp2_with fail
               refine bodyPost_ret (v := .tuple #[.agg #[.int .i64 0, .int .i64 0, .slice none 0 0], .agg #[.int .i64 0, .int .i64 0, .slice none 0 0], .int .i64 i, .int .i64 231]) (by simp only [results, Tryz.results14]; go_simp) rfl ?_
               exact ⟨_, rfl, ElR.no (by rw [HFE.out]; decide) _ _ _ _ _ HFE.out HFK.out, ⟨zbh⟩⟩
           · rw [if_neg (fun h => hz h.2)] at hcc
             have hm0 : ¬ sg (zA1 s) ≤ 0 := fun h => hz (Or.inl ((zOh _).1 h))
             have hzy : zCY y = false := by cases hx : zCY y with | false => rfl | true => exact absurd (Or.inr hx) hz
             have HIy := fun W => HIz W y hy64
             rw [hzy] at HIy
             generalize sg (zA1 s) = z0 at *
             have HFy := fun W => HFi W y
             cases hf : zB0 y with
             | false =>
              rw [if_neg (by rw [hf]; decide)] at hcc
              have hfe0 : zCQ B n i = 233 := by rw [HC.out, zAu (by rw [hcc]; decide) (by omega), hcc]
              have hfe1 : zGD B n k = 233 := by rw [HE.out, zAu (by rw [hfe0]; decide) (by omega), hfe0]
              have hfe2 : zBh B n k = 233 := by unfold zBh; rw [hfe1, if_neg (by decide)]
              have HFE := Lib.hid hfe2
              have HFK := Lib.hid (show ((zBo B n k : Nat) : Int) = 0 from by unfold zBo; rw [hfe2, if_neg (by decide), hfe1, if_neg (by decide)]; rfl)
              clear hfe0 hfe1 hfe2 hcc
              rw [hf] at HFy
              clear hz hzy hf HRs HQs hpv
              go_wp2_with fail
              refine (HLi _).out.mono ?_; rintro o v1 ⟨a1, c1, rfl, i3, b3, f3⟩
              go_wp2_with fail
              refine (hHV.out _ _ _).out.mono ?_; rintro o v2 ⟨rfl, b4⟩
              go_wp2_with fail
              refine (HRy _ _ _).out.mono ?_; rintro o v3 ⟨rfl, b5⟩
              go_wp2_with fail
              refine (HSs _ _ _).out.mono ?_; rintro o v4 ⟨rfl, b6⟩
              go_wp2_with fail
              refine (HIy _).out.mono ?_; rintro o v5 ⟨rfl, rfl⟩
              go_wp2_with fail
              refine (HFy _).out.mono ?_; rintro o v6 ⟨rfl, rfl⟩
              go_wp2_with fail
              refine bodyPost_ret (v := .tuple #[.agg #[.int .i64 0, .int .i64 0, .slice none 0 0], .agg #[.int .i64 0, .int .i64 0, .slice none 0 0], .int .i64 0, .int .i64 233]) (by simp only [results, Tryz.results14]; go_simp) rfl ?_
              exact ⟨_, rfl, ElR.no (by rw [HFE.out]; decide) _ _ _ _ _ HFE.out HFK.out, ⟨zbh⟩⟩
             | true =>
              rw [if_pos hf] at hcc
              have HC1 := Lib.hid (show zCQ B n i = zAA (zD4 B n i) (i + 1) (n - (i + 1)) by rw [HC.out, zBa hcc (by omega)]; congr 1)
              rw [hf] at HFy
              clear hz hzy hf HRs HQs hpv hcc
              go_wp2_with fail
              refine (HLi _).out.mono ?_; rintro o v1 ⟨a1, c1, rfl, i3, b3, f3⟩
              go_wp2_with fail
              refine (hHV.out _ _ _).out.mono ?_; rintro o v2 ⟨rfl, b4⟩
              go_wp2_with fail
              refine (HRy _ _ _).out.mono ?_; rintro o v3 ⟨rfl, b5⟩
              go_wp2_with fail
              refine (HSs _ _ _).out.mono ?_; rintro o v4 ⟨rfl, b6⟩
              go_wp2_with fail
              refine (HIy _).out.mono ?_; rintro o v5 ⟨rfl, rfl⟩
              go_wp2_with fail
              have OPw : v4.ownsRow w2.heap.size 40 1 (.slice (some ⟨w2.heap.size, 0, none⟩) N N) N (zAX (zCE B n i i) N) := zAx OP zbh
              have iPw : N3 v4 (w2.heap.size + 1) (.int .i64 n) (.int .i64 k) (.slice (some ⟨w2.heap.size, 0, none⟩) N N) := inferInstance
              have i0w : N3 v4 w.heap.size (.int .i64 n) (.int .i64 n) (.slice ae (n * n) ce) := inferInstance
              have i1w : N3 v4 (w.heap.size + 1) (.int .i64 0) (.int .i64 0) (.slice none 0 0) := inferInstance
              have i2w : N3 v4 (w.heap.size + 1 + 1) (.int .i64 0) (.int .i64 0) (.slice none 0 0) := inferInstance
              have Lw : Below w2.heap.size w2 v4 := zbh
              have ew : wr.heap.size ≤ v4.heap.size := (show Below wr.heap.size wr v4 from zbh).size
              haveI ob : OB v4 w2.heap.size := ⟨fun i => OPw.frozenAt i, (OPw.lt _ rfl).2⟩
              have hP := OPw.cellAt (P + i) (by omega)
              rw [zBF _ t1] at hP
              haveI zP : CE v4 w2.heap.size (P + i) (.int .u64 ((zCE B n i i (P + i) : Nat) : Int)) := ⟨hP, (OPw.lt _ rfl).2⟩
              clear hP
              have OP' : (v4.setCell ⟨w2.heap.size, P + i, none⟩ (.int .u64 ((y : Nat) : Int))).ownsRow w2.heap.size 40 1 (.slice (some ⟨w2.heap.size, 0, none⟩) N N) N (zAX (zCE B n i (i + 1)) N) := zJT OPw t1 HSTEP.out
              have iP' : N3 (v4.setCell ⟨w2.heap.size, P + i, none⟩ (.int .u64 ((y : Nat) : Int))) (w2.heap.size + 1) (.int .i64 n) (.int .i64 k) (.slice (some ⟨w2.heap.size, 0, none⟩) N N) := N3.sen iPw (by omega) _ _
              have i0' : N3 (v4.setCell ⟨w2.heap.size, P + i, none⟩ (.int .u64 ((y : Nat) : Int))) w.heap.size (.int .i64 n) (.int .i64 n) (.slice ae (n * n) ce) := N3.sen i0w (by omega) _ _
              have i1' : N3 (v4.setCell ⟨w2.heap.size, P + i, none⟩ (.int .u64 ((y : Nat) : Int))) (w.heap.size + 1) (.int .i64 0) (.int .i64 0) (.slice none 0 0) := N3.sen i1w (by omega) _ _
              have i2' : N3 (v4.setCell ⟨w2.heap.size, P + i, none⟩ (.int .u64 ((y : Nat) : Int))) (w.heap.size + 1 + 1) (.int .i64 0) (.int .i64 0) (.slice none 0 0) := N3.sen i2w (by omega) _ _
              have L' : Below w2.heap.size w2 (v4.setCell ⟨w2.heap.size, P + i, none⟩ (.int .u64 ((y : Nat) : Int))) := Lw.setCell (by simp) _
              have e' : w2.heap.size + 2 ≤ (v4.setCell ⟨w2.heap.size, P + i, none⟩ (.int .u64 ((y : Nat) : Int))).heap.size := by rw [World.size_setCell]; omega
              have HC1' := HC1.out
              refine (HFy _).out.mono ?_; rintro o v9 ⟨rfl, rfl⟩
              go_wp2_with fail
              go_roundw
              case rel => exact ⟨i + 1, by omega, by omega, by go_num, HC1', OP', iP', i0', i1', i2', L', e'⟩
              case measure => simp [intOf]; omega
         · rw [if_neg hij] at hpv
           rw [if_neg (fun h => hij h.1)] at hcc
           have hji : j < i := by omega
           have hq2 : ((i : Int) == (j : Int)) = false := by rw [beq_eq_false_iff_ne]; omega
           have hpiv := zLL (B := B) (n := n) (j := j) (i := i) (by omega) hji
           rw [← HP.out] at hpiv
           obtain ⟨pv, hpv2⟩ : ∃ pv, pv = zBE (zAQ B n (pan B n j) j j j) 0 := ⟨_, rfl⟩
           rw [← hpv2] at hpv hpiv
           have hc2 := iF.out.cell (P + j) t2
           rw [hpiv, zAo, zAO, Nat.zero_add] at hc2
           have hpv64 : pv < 18446744073709551616 := by rw [← hpiv]; exact zMK _ _ _ _ _
           haveI z2 : CE wr w2.heap.size (P + j) (.int .u64 ((pv : Nat) : Int)) := ⟨hc2, (OP.lt _ rfl).2⟩
           have y2 := zPr w2.heap.size (P + j) N t2
           rw [show (((P + j : Nat)) : Int) = (P : Int) + (j : Int) by omega] at y2
           have HOy := fun W [Tb W] => HOf W pv hpv64
           have HQy := fun W => HQs W pv
           rw [← hpv] at HQy
           have HFy := fun W => HFi W y
           have w1' : IntKind.i64.wrap (P : Int) = (P : Int) := by rw [IntKind.wrap_i64]; omega
           have w2' : IntKind.i64.wrap ((P : Int) + (j : Int)) = (P : Int) + (j : Int) := by rw [IntKind.wrap_i64]; omega
           generalize fof pv = dpv at *
           generalize ((pv : Nat) : Int) = pvi at *
           clear hpiv hpv2 hc2 hpv HRs HSs HQs
           cases hf : zB0 y with
           | false =>
            rw [if_neg (by rw [hf]; decide)] at hcc
            have hfe0 : zCQ B n j = 233 := by rw [HC.out, zAu (by rw [hcc]; decide) (by omega), hcc]
            have hfe1 : zGD B n k = 233 := by rw [HE.out, zAu (by rw [hfe0]; decide) (by omega), hfe0]
            have hfe2 : zBh B n k = 233 := by unfold zBh; rw [hfe1, if_neg (by decide)]
            have HFE := Lib.hid hfe2
            have HFK := Lib.hid (show ((zBo B n k : Nat) : Int) = 0 from by unfold zBo; rw [hfe2, if_neg (by decide), hfe1, if_neg (by decide)]; rfl)
            clear hfe0 hfe1 hfe2 hcc
            rw [hf] at HFy
            clear hf
            go_wp2_with fail
            refine (HLi _).out.mono ?_; rintro o v1 ⟨a1, c1, rfl, i3, b3, f3⟩
            go_wp2_with fail
            refine (hHV.out _ _ _).out.mono ?_; rintro o v2 ⟨rfl, b4⟩
            go_wp2_with fail
            refine bgj (fun w' => Below v2.heap.size v2 w') [] (by kernel_rfl) (zbh) (fun hHeld => ?_)
            simp only [List.size_toArray, List.length_cons, List.length_nil, Nat.reduceAdd, Array.replicate_succ, Array.replicate_zero, List.push_toArray, List.nil_append, List.cons_append]
            refine tk 0 93 [11, 12] ?_
            refine tk 1 94 [2, 8, 9, 10, 11, 12] ?_
            refine tk 2 95 [8, 9, 10, 11, 12] ?_
            refine tk 3 96 [5, 7, 8, 9, 10, 11, 12] ?_
            refine tk 4 97 [5, 7, 8, 9, 10, 11, 12] ?_
            refine tk 5 98 [7, 8, 9, 10, 11, 12] ?_
            refine tk 6 99 [7, 8, 9, 10, 11, 12] ?_
            refine tk 7 100 [8, 9, 10, 11, 12] ?_
            refine tk 8 101 [9, 10, 11, 12] ?_
            refine tk 9 102 [10, 11, 12] ?_
            refine stj 10 (h := fun K hK => ?_)
            go_simp
            go_at_call 20; refine (HOy _).out.mono ?_; rintro o x1 ⟨a5, c5, rfl, i5, b5, f5⟩
            go_simp
            refine hK.out _ _ (Or.inr zbh) ?_
            clear hK K
            try simp only [List.setIfInBounds_toArray, List.set_cons_zero, List.set_cons_succ]
            refine stj 11 (h := fun K hK => ?_)
            go_simp
            go_at_call 50; refine (HQy _ _ _ _ _).out.mono ?_; rintro o x2 ⟨rfl, b6⟩
            go_simp
            refine hK.out _ _ (Or.inr zbh) ?_
            clear hK K
            try simp only [List.setIfInBounds_toArray, List.set_cons_zero, List.set_cons_succ]
            refine stj 12 (h := fun K hK => ?_)
            go_simp
            refine hK.out _ _ (Or.inr zbh) ?_
            clear hK K
            try simp only [List.setIfInBounds_toArray, List.set_cons_zero, List.set_cons_succ]
            refine enj (by kernel_rfl) ?_ _
            go_wp2_with fail
            refine (HFy _).out.mono ?_; rintro o v6 ⟨rfl, rfl⟩
            go_wp2_with fail
            refine bodyPost_ret (v := .tuple #[.agg #[.int .i64 0, .int .i64 0, .slice none 0 0], .agg #[.int .i64 0, .int .i64 0, .slice none 0 0], .int .i64 0, .int .i64 233]) (by simp only [results, Tryz.results14]; go_simp) rfl ?_
            exact ⟨_, rfl, ElR.no (by rw [HFE.out]; decide) _ _ _ _ _ HFE.out HFK.out, ⟨zbh⟩⟩
           | true =>
            rw [if_pos hf] at hcc
            have HC1 := Lib.hid (show zCQ B n j = zAA (zD4 B n j) (i + 1) (n - (i + 1)) by rw [HC.out, zBa hcc (by omega)]; congr 1)
            rw [hf] at HFy
            clear hf hcc
            go_wp2_with fail
            refine (HLi _).out.mono ?_; rintro o v1 ⟨a1, c1, rfl, i3, b3, f3⟩
            go_wp2_with fail
            refine (hHV.out _ _ _).out.mono ?_; rintro o v2 ⟨rfl, b4⟩
            go_wp2_with fail
            refine bgj (fun w' => Below v2.heap.size v2 w') [] (by kernel_rfl) (zbh) (fun hHeld => ?_)
            simp only [List.size_toArray, List.length_cons, List.length_nil, Nat.reduceAdd, Array.replicate_succ, Array.replicate_zero, List.push_toArray, List.nil_append, List.cons_append]
            refine tk 0 93 [11, 12] ?_
            refine tk 1 94 [2, 8, 9, 10, 11, 12] ?_
            refine tk 2 95 [8, 9, 10, 11, 12] ?_
            refine tk 3 96 [5, 7, 8, 9, 10, 11, 12] ?_
            refine tk 4 97 [5, 7, 8, 9, 10, 11, 12] ?_
            refine tk 5 98 [7, 8, 9, 10, 11, 12] ?_
            refine tk 6 99 [7, 8, 9, 10, 11, 12] ?_
            refine tk 7 100 [8, 9, 10, 11, 12] ?_
            refine tk 8 101 [9, 10, 11, 12] ?_
            refine tk 9 102 [10, 11, 12] ?_
            refine stj 10 (h := fun K hK => ?_)
            go_simp
            go_at_call 20; refine (HOy _).out.mono ?_; rintro o x1 ⟨a5, c5, rfl, i5, b5, f5⟩
            go_simp
            refine hK.out _ _ (Or.inr zbh) ?_
            clear hK K
            try simp only [List.setIfInBounds_toArray, List.set_cons_zero, List.set_cons_succ]
            refine stj 11 (h := fun K hK => ?_)
            go_simp
            go_at_call 50; refine (HQy _ _ _ _ _).out.mono ?_; rintro o x2 ⟨rfl, b6⟩
            go_simp
            refine hK.out _ _ (Or.inr zbh) ?_
            clear hK K
            try simp only [List.setIfInBounds_toArray, List.set_cons_zero, List.set_cons_succ]
            refine stj 12 (h := fun K hK => ?_)
            go_simp
            refine hK.out _ _ (Or.inr zbh) ?_
            clear hK K
            try simp only [List.setIfInBounds_toArray, List.set_cons_zero, List.set_cons_succ]
            refine enj (by kernel_rfl) ?_ _
            go_wp2_with fail
            have OPw : x2.ownsRow w2.heap.size 40 1 (.slice (some ⟨w2.heap.size, 0, none⟩) N N) N (zAX (zCE B n j i) N) := zAx OP zbh
            have iPw : N3 x2 (w2.heap.size + 1) (.int .i64 n) (.int .i64 k) (.slice (some ⟨w2.heap.size, 0, none⟩) N N) := inferInstance
            have i0w : N3 x2 w.heap.size (.int .i64 n) (.int .i64 n) (.slice ae (n * n) ce) := inferInstance
            have i1w : N3 x2 (w.heap.size + 1) (.int .i64 0) (.int .i64 0) (.slice none 0 0) := inferInstance
            have i2w : N3 x2 (w.heap.size + 1 + 1) (.int .i64 0) (.int .i64 0) (.slice none 0 0) := inferInstance
            have Lw : Below w2.heap.size w2 x2 := zbh
            have ew : wr.heap.size ≤ x2.heap.size := (show Below wr.heap.size wr x2 from zbh).size
            haveI ob : OB x2 w2.heap.size := ⟨fun i => OPw.frozenAt i, (OPw.lt _ rfl).2⟩
            have hP := OPw.cellAt (P + i) (by omega)
            rw [zBF _ t1] at hP
            haveI zP : CE x2 w2.heap.size (P + i) (.int .u64 ((zCE B n j i (P + i) : Nat) : Int)) := ⟨hP, (OPw.lt _ rfl).2⟩
            clear hP
            have OP' : (x2.setCell ⟨w2.heap.size, P + i, none⟩ (.int .u64 ((y : Nat) : Int))).ownsRow w2.heap.size 40 1 (.slice (some ⟨w2.heap.size, 0, none⟩) N N) N (zAX (zCE B n j (i + 1)) N) := zJT OPw t1 HSTEP.out
            have iP' : N3 (x2.setCell ⟨w2.heap.size, P + i, none⟩ (.int .u64 ((y : Nat) : Int))) (w2.heap.size + 1) (.int .i64 n) (.int .i64 k) (.slice (some ⟨w2.heap.size, 0, none⟩) N N) := N3.sen iPw (by omega) _ _
            have i0' : N3 (x2.setCell ⟨w2.heap.size, P + i, none⟩ (.int .u64 ((y : Nat) : Int))) w.heap.size (.int .i64 n) (.int .i64 n) (.slice ae (n * n) ce) := N3.sen i0w (by omega) _ _
            have i1' : N3 (x2.setCell ⟨w2.heap.size, P + i, none⟩ (.int .u64 ((y : Nat) : Int))) (w.heap.size + 1) (.int .i64 0) (.int .i64 0) (.slice none 0 0) := N3.sen i1w (by omega) _ _
            have i2' : N3 (x2.setCell ⟨w2.heap.size, P + i, none⟩ (.int .u64 ((y : Nat) : Int))) (w.heap.size + 1 + 1) (.int .i64 0) (.int .i64 0) (.slice none 0 0) := N3.sen i2w (by omega) _ _
            have L' : Below w2.heap.size w2 (x2.setCell ⟨w2.heap.size, P + i, none⟩ (.int .u64 ((y : Nat) : Int))) := Lw.setCell (by simp) _
            have e' : w2.heap.size + 2 ≤ (x2.setCell ⟨w2.heap.size, P + i, none⟩ (.int .u64 ((y : Nat) : Int))).heap.size := by rw [World.size_setCell]; omega
            have HC1' := HC1.out
            refine (HFy _).out.mono ?_; rintro o v9 ⟨rfl, rfl⟩
            go_wp2_with fail
            go_roundw
            case rel => exact ⟨i + 1, by omega, by omega, by go_num, HC1', OP', iP', i0', i1', i2', L', e'⟩
            case measure => simp [intOf]; omega
     · have hin : i = n := by omega
       rw [hin] at HC OP
       have hc0 : zCQ B n j = 0 := by rw [HC.out, Nat.sub_self]; rfl
       rw [zGf (by omega)] at OP
       have HE1 := Lib.hid (show zGD B n k = zAA (zCQ B n) (j + 1) (k - (j + 1)) by rw [HE.out, zBa hc0 (by omega)]; congr 1)
       have HA1 := Lib.hid (show zH2 B n k = zBJ (zCQ B n) (j + 1) (k - (j + 1)) by rw [HA.out, zET hc0 (by omega)]; congr 1)
       clear hc0 HC
       go_wp2_with fail
       go_roundw
       case rel => exact ⟨j + 1, by omega, by go_num, HE1.out, HA1.out, OP, iP, i0, i1, i2, hbr, hsz⟩
       case measure => simp [intOf]; omega
  · have hjk : j = k := by omega
    rw [hjk] at HE OP
    have he0 : zGD B n k = 0 := by rw [HE.out, Nat.sub_self]; rfl
    have hfe : zBh B n k = zEy B n k := by unfold zBh; rw [if_pos he0]
    have HFE := Lib.hid hfe
    have HE0 := Lib.hid he0
    obtain ⟨q, hq⟩ : ∃ q, n = k + q := ⟨n - k, by omega⟩
    have hsub : (n : Int) - (k : Int) = (q : Int) := by omega
    have hq64 : k + q ≤ 64 := by omega
    have Hq := Lib.hid hq
    have hcE : zEy B n k = zAA (zFG B n k) k q := by unfold zEy; rw [show n - k = q by omega]
    have HcE := Lib.hid hcE
    haveI iF := zML OP (zLM B n k)
    have HNew := fun W => Lib.hid (zLw W q (by omega))
    obtain ⟨Q, hQ⟩ : ∃ Q, Q = q * q := ⟨_, rfl⟩
    rw [← hQ] at HNew
    have HQ := Lib.hid hQ
    have hQu : Q ≤ 4096 := by rw [hQ]; exact Nat.mul_le_mul (show q ≤ 64 by omega) (show q ≤ 64 by omega)
    have HLk := fun W (i j : Nat) (hi : k + i < n) (hj : k + j < n) [Tb W] [DZ W ae (n * n) ce B] [FZ W (some ⟨w2.heap.size, 0, none⟩) N N (pan B n k)] => HLe W (pan B n k) (k + i) (k + j) k hi hj (Nat.le_refl _) w2.heap.size
    have HOP := Lib.hid OP
    clear hjk he0 hfe hcE hQ HE HA HLe HRo HQu HSg HOf HIz HFi hq
    go_wp2_with fail
    refine (HNew _).out.mono ?_; rintro o v1 ⟨g, rfl, DM0, b1⟩
    have hg0 := DM0.out.own.lt g rfl
    have e1 := b1.out.size
    haveI DM0' := DM0
    have CB : N3 (v1.alloc (.cells #[.int .i64 q, .int .i64 q, .slice (some ⟨g, 0, none⟩) Q Q] 25)) v1.heap.size (.int .i64 q) (.int .i64 q) (.slice (some ⟨g, 0, none⟩) Q Q) := inferInstance
    have DM1 : DM (v1.alloc (.cells #[.int .i64 q, .int .i64 q, .slice (some ⟨g, 0, none⟩) Q Q] 25)) (wr.heap.size + 1) (.slice (some ⟨g, 0, none⟩) Q Q) Q (fun _ => some (0, 0)) (fun _ => none) (fun _ => 0) := inferInstance
    have LB : Below wr.heap.size wr (v1.alloc (.cells #[.int .i64 q, .int .i64 q, .slice (some ⟨g, 0, none⟩) Q Q] 25)) := zbh
    have SB : v1.heap.size < (v1.alloc (.cells #[.int .i64 q, .int .i64 q, .slice (some ⟨g, 0, none⟩) Q Q] 25)).heap.size := by simp
    clear DM0 DM0' b1 HNew
    go_wp2_with fail
    go_loopw [18] (fun x wx => ∃ (j : Nat) (A : Nat → Option Addr) (C : Nat → Nat), j ≤ q ∧ x = .int .i64 ((k : Int) + (j : Int)) ∧ zEy B n k = zAA (zFG B n k) (k + j) (q - j) ∧ DM wx (wr.heap.size + 1) (.slice (some ⟨g, 0, none⟩) Q Q) Q (zEJ B n k q j j) A C ∧ N3 wx v1.heap.size (.int .i64 q) (.int .i64 q) (.slice (some ⟨g, 0, none⟩) Q Q) ∧ Below wr.heap.size wr wx ∧ v1.heap.size < wx.heap.size) (fun x _ => n - (intOf x).toNat)
    case atStart => exact ⟨0, _, _, by omega, by simp, HcE.out, DM1.congr (fun t _ => zG5), CB, LB, SB⟩
    case round =>
     clear DM1 CB LB SB HcE
     rename World => wx
     obtain ⟨j, A, C, hj, rfl, hce, iM, iB, hbx, hsx⟩ := hrel
     have HCE := Lib.hid hce
     haveI bwx : From wr wx := ⟨hbx⟩
     clear hce
     by_cases hlt : j < q
     · have hkj : k + j < n := by have := Hq.out; omega
       have hkji : (k : Int) + (j : Int) < (n : Int) := by omega
       go_wp2_with fail
       go_loopw [19] (fun x wx => ∃ (i : Nat) (A : Nat → Option Addr) (C : Nat → Nat), j ≤ i ∧ i ≤ q ∧ x = .int .i64 ((k : Int) + (i : Int)) ∧ zFG B n k (k + j) = zAA (zFd B n k (k + j)) (k + i) (q - i) ∧ DM wx (wr.heap.size + 1) (.slice (some ⟨g, 0, none⟩) Q Q) Q (zEJ B n k q j i) A C ∧ N3 wx v1.heap.size (.int .i64 q) (.int .i64 q) (.slice (some ⟨g, 0, none⟩) Q Q) ∧ Below wr.heap.size wr wx ∧ v1.heap.size < wx.heap.size) (fun x _ => n - (intOf x).toNat)
       case atStart => exact ⟨j, A, C, by omega, by omega, rfl, by unfold zFG; rw [show n - (k + j) = q - j by have := Hq.out; omega], iM, iB, hbx, hsx⟩
       case round =>
        clear iM iB hbx hsx bwx hkji
        rename World => wy
        obtain ⟨i, A, C, hi0, hi1, rfl, hcc, iM, iB, hby, hsy⟩ := hrel
        have HCC := Lib.hid hcc
        haveI bwy : From wr wy := ⟨hby⟩
        clear hcc
        by_cases hlt2 : i < q
        · have hki : k + i < n := by have := Hq.out; omega
          have hkii : (k : Int) + (i : Int) < (n : Int) := by omega
          have HLi := fun W [Tb W] [DZ W ae (n * n) ce B] [FZ W (some ⟨w2.heap.size, 0, none⟩) N N (pan B n k)] => HLk W i j hki hkj
          rw [show (((k + i : Nat)) : Int) = (k : Int) + (i : Int) by omega, show (((k + j : Nat)) : Int) = (k : Int) + (j : Int) by omega] at HLi
          have hsN := zCb B n (pan B n k) (k + i) (k + j) k
          have hst := zG6 (B := B) Hq.out hi0 hlt2
          have hre : zFd B n k (k + j) (k + i) = if zA3 (zAQ B n (pan B n k) (k + i) (k + j) k) then 233 else 0 := rfl
          generalize zAQ B n (pan B n k) (k + i) (k + j) k = s at *
          have HVs := fun W => HVa W s hsN
          have HST := Lib.hid hst
          clear hst hsN
          by_cases hb : zA3 s = true
          · rw [if_pos hb] at hre
            have h1 : zFG B n k (k + j) = 233 := by rw [HCC.out, zAu (by rw [hre]; decide) (by omega), hre]
            have h2 : zEy B n k = 233 := by rw [HCE.out, zAu (by rw [h1]; decide) (by omega), h1]
            have HFE2 := Lib.hid (HFE.out.trans h2)
            have HFK := Lib.hid (show ((zBo B n k : Nat) : Int) = 0 by unfold zBo; rw [HFE2.out, if_neg (by decide), HE0.out, if_neg (by decide)]; rfl)
            rw [hb] at HVs
            simp only [hb] at HLi
            clear h1 h2 hre HFE HE0
            go_wp2_with fail
            refine (HLi _).out.mono ?_; rintro o v3 ⟨a1, c1, rfl, i3, b3, f3⟩
            go_wp2_with fail
            refine (HVs _ _ _).out.mono ?_; rintro o v4 ⟨rfl, b4⟩
            go_wp2_with fail
            refine bodyPost_ret (v := .tuple #[.agg #[.int .i64 0, .int .i64 0, .slice none 0 0], .agg #[.int .i64 0, .int .i64 0, .slice none 0 0], .int .i64 0, .int .i64 233]) (by simp only [results, Tryz.results14]; go_simp) rfl ?_
            exact ⟨_, rfl, ElR.no (by rw [HFE2.out]; decide) _ _ _ _ _ HFE2.out HFK.out, ⟨zbh⟩⟩
          · rw [if_neg hb] at hre
            have h1 : zFG B n k (k + j) = zAA (zFd B n k (k + j)) (k + (i + 1)) (q - (i + 1)) := by rw [HCC.out, zBa hre (by omega)]; congr 1
            have HC2 := Lib.hid h1
            have hb' : zA3 s = false := by simpa using hb
            have hHV : Hid (∀ W a c [i1 : BI W a (nl (zA1 s).natAbs) c (zA1 s).natAbs] [Tb W], Hid (Calls Tryz.prog 23 #[.agg #[.bool (zA3 s), .bool (decide (zA1 s < 0)), .slice a (nl (zA1 s).natAbs) c, .int .i64 (zA2 s)]] W fun e w' => e = .returned (.bool true) ∧ From W w')) := by
             intro W a c i1 t1
             have h := (HVs W a c).out
             have e : (!zA3 s) = true := by rw [hb']; rfl
             rw [e] at h
             exact h
            obtain ⟨P, hP⟩ : ∃ P, P = j * q := ⟨_, rfl⟩
            obtain ⟨R, hR⟩ : ∃ R, R = i * q := ⟨_, rfl⟩
            have hjq : (j : Int) * (q : Int) = (P : Int) := by rw [hP]; exact (Int.natCast_mul j q).symm
            have hiq : (i : Int) * (q : Int) = (R : Int) := by rw [hR]; exact (Int.natCast_mul i q).symm
            have hPu : P ≤ 4096 := by rw [hP]; exact Nat.mul_le_mul (show j ≤ 64 by omega) (show q ≤ 64 by omega)
            have hRu : R ≤ 4096 := by rw [hR]; exact Nat.mul_le_mul (show i ≤ 64 by omega) (show q ≤ 64 by omega)
            have P1 : P + i < Q := by rw [hP, HQ.out]; exact zCc hlt2 hlt
            have R1 : R + j < Q := by rw [hR, HQ.out]; exact zCc hlt hlt2
            rw [← hP, ← hR] at HST
            have y1 := zP5 g (P + i) Q P1
            have y2 := zP5 g (R + j) Q R1
            rw [show (((P + i : Nat)) : Int) = (P : Int) + (i : Int) by omega] at y1
            rw [show (((R + j : Nat)) : Int) = (R : Int) + (j : Int) by omega] at y2
            have g1 : (k : Int) + (j : Int) - (k : Int) = (j : Int) := by omega
            have g2 : (k : Int) + (i : Int) - (k : Int) = (i : Int) := by omega
            have g3 : (P : Int) + ((k : Int) + (i : Int)) - (k : Int) = (P : Int) + (i : Int) := by omega
            have g4 : (R : Int) + ((k : Int) + (j : Int)) - (k : Int) = (R : Int) + (j : Int) := by omega
            clear h1 hre hb hb' HVs hP hR
            go_wp2_with fail
            refine (HLi _).out.mono ?_; rintro o v3 ⟨a1, c1, rfl, i3, b3, f3⟩
            go_wp2_with fail
            refine (hHV.out _ _ _).out.mono ?_; rintro o v4 ⟨rfl, b4⟩
            have e3 := b3.out.size
            have e4 := b4.out.size
            simp at e4
            have ey := hby.size
            have D2 : DM v4 (wr.heap.size + 1) (.slice (some ⟨g, 0, none⟩) Q Q) Q (zEJ B n k q j i) A C := inferInstance
            have I2 : BI v4 a1 (nl (zA1 s).natAbs) c1 (zA1 s).natAbs := inferInstance
            have B2 : N3 v4 v1.heap.size (.int .i64 q) (.int .i64 q) (.slice (some ⟨g, 0, none⟩) Q Q) := inferInstance
            have S2 : DB v4 v3.heap.size (zA3 s) (decide (zA1 s < 0)) (.slice a1 (nl (zA1 s).natAbs) c1) (zA2 s) := inferInstance
            have L2' : Below wr.heap.size wr v4 := zbh
            have nf1 : 0 < nl (zA1 s).natAbs → ab a1 ≠ g := fun h => by have := f3 h; omega
            have nf2 : 0 < nl (zA1 s).natAbs → wr.heap.size + 1 ≤ ab a1 := fun h => by have := f3 h; omega
            obtain ⟨ob, z0', z1', z2', z3', z0, z1, z2, z3⟩ := D2.out.ces P1
            have M1 := D2.put P1 I2.out nf1 nf2
            have nb1 : ¬ v1.heap.size = g := by omega
            have nb2 : ¬ v3.heap.size = g := by omega
            have I3 : BI ((((v4.setCell ⟨g, (P + i) * 4, none⟩ (.bool (zA3 s))).setCell ⟨g, (P + i) * 4 + 1, none⟩ (.bool (decide (zA1 s < 0)))).setCell ⟨g, (P + i) * 4 + 2, none⟩ (.slice a1 (nl (zA1 s).natAbs) c1)).setCell ⟨g, (P + i) * 4 + 3, none⟩ (.int .i64 (zA2 s))) a1 (nl (zA1 s).natAbs) c1 (zA1 s).natAbs := ⟨(((I2.out.set nf1 _ _).set nf1 _ _).set nf1 _ _).set nf1 _ _⟩
            have B3 : N3 ((((v4.setCell ⟨g, (P + i) * 4, none⟩ (.bool (zA3 s))).setCell ⟨g, (P + i) * 4 + 1, none⟩ (.bool (decide (zA1 s < 0)))).setCell ⟨g, (P + i) * 4 + 2, none⟩ (.slice a1 (nl (zA1 s).natAbs) c1)).setCell ⟨g, (P + i) * 4 + 3, none⟩ (.int .i64 (zA2 s))) v1.heap.size (.int .i64 q) (.int .i64 q) (.slice (some ⟨g, 0, none⟩) Q Q) := N3.sen (N3.sen (N3.sen (N3.sen B2 nb1 _ _) nb1 _ _) nb1 _ _) nb1 _ _
            have S3 : DB ((((v4.setCell ⟨g, (P + i) * 4, none⟩ (.bool (zA3 s))).setCell ⟨g, (P + i) * 4 + 1, none⟩ (.bool (decide (zA1 s < 0)))).setCell ⟨g, (P + i) * 4 + 2, none⟩ (.slice a1 (nl (zA1 s).natAbs) c1)).setCell ⟨g, (P + i) * 4 + 3, none⟩ (.int .i64 (zA2 s))) v3.heap.size (zA3 s) (decide (zA1 s < 0)) (.slice a1 (nl (zA1 s).natAbs) c1) (zA2 s) := ⟨(((S2.out.set nb2 _ _).set nb2 _ _).set nb2 _ _).set nb2 _ _⟩
            have L3 : Below wr.heap.size wr ((((v4.setCell ⟨g, (P + i) * 4, none⟩ (.bool (zA3 s))).setCell ⟨g, (P + i) * 4 + 1, none⟩ (.bool (decide (zA1 s < 0)))).setCell ⟨g, (P + i) * 4 + 2, none⟩ (.slice a1 (nl (zA1 s).natAbs) c1)).setCell ⟨g, (P + i) * 4 + 3, none⟩ (.int .i64 (zA2 s))) := (((L2'.setCell (p := ⟨g, _, _⟩) (show wr.heap.size ≤ g by omega) _).setCell (p := ⟨g, _, _⟩) (show wr.heap.size ≤ g by omega) _).setCell (p := ⟨g, _, _⟩) (show wr.heap.size ≤ g by omega) _).setCell (p := ⟨g, _, _⟩) (show wr.heap.size ≤ g by omega) _
            have e5 : v3.heap.size < (((((v4.setCell ⟨g, (P + i) * 4, none⟩ (.bool (zA3 s))).setCell ⟨g, (P + i) * 4 + 1, none⟩ (.bool (decide (zA1 s < 0)))).setCell ⟨g, (P + i) * 4 + 2, none⟩ (.slice a1 (nl (zA1 s).natAbs) c1)).setCell ⟨g, (P + i) * 4 + 3, none⟩ (.int .i64 (zA2 s)))).heap.size := by simp; omega
            have M3 := Lib.hid M1
            have I4 := Lib.hid I3
            have B4 := Lib.hid B3
            have S4 := Lib.hid S3
            have L4 := Lib.hid L3
            have e6 := Lib.hid e5
            clear M1 I3 B3 S3 L3 e5 iM iB hby
            go_upto_region 39 with fail
            clear D2 I2 B2 S2 L2' z0 z1 z2 z3 z0' z1' z2' z3' ob i3 b3 b4 bwy
            generalize ((((v4.setCell ⟨g, (P + i) * 4, none⟩ (.bool (zA3 s))).setCell ⟨g, (P + i) * 4 + 1, none⟩ (.bool (decide (zA1 s < 0)))).setCell ⟨g, (P + i) * 4 + 2, none⟩ (.slice a1 (nl (zA1 s).natAbs) c1)).setCell ⟨g, (P + i) * 4 + 3, none⟩ (.int .i64 (zA2 s))) = u1 at *
            have L5 := L4.out
            haveI fu : From wr u1 := ⟨L5⟩
            have M5 := M3.out
            have B5 := B4.out
            have e7 := e6.out
            have M6 := Lib.hid (M5.put R1 I4.out.out nf1 nf2)
            rw [HST.out] at M6
            have B6 := Lib.hid (N3.sen (N3.sen (N3.sen (N3.sen B5 nb1 ((R + j) * 4) (.bool (zA3 s))) nb1 ((R + j) * 4 + 1) (.bool (decide (zA1 s < 0)))) nb1 ((R + j) * 4 + 2) (.slice a1 (nl (zA1 s).natAbs) c1)) nb1 ((R + j) * 4 + 3) (.int .i64 (zA2 s)))
            have L6 := Lib.hid (show Below wr.heap.size wr ((((u1.setCell ⟨g, (R + j) * 4, none⟩ (.bool (zA3 s))).setCell ⟨g, (R + j) * 4 + 1, none⟩ (.bool (decide (zA1 s < 0)))).setCell ⟨g, (R + j) * 4 + 2, none⟩ (.slice a1 (nl (zA1 s).natAbs) c1)).setCell ⟨g, (R + j) * 4 + 3, none⟩ (.int .i64 (zA2 s))) from (((L5.setCell (p := ⟨g, _, _⟩) (show wr.heap.size ≤ g by omega) _).setCell (p := ⟨g, _, _⟩) (show wr.heap.size ≤ g by omega) _).setCell (p := ⟨g, _, _⟩) (show wr.heap.size ≤ g by omega) _).setCell (p := ⟨g, _, _⟩) (show wr.heap.size ≤ g by omega) _)
            have e8 := Lib.hid (show v1.heap.size < (((((u1.setCell ⟨g, (R + j) * 4, none⟩ (.bool (zA3 s))).setCell ⟨g, (R + j) * 4 + 1, none⟩ (.bool (decide (zA1 s < 0)))).setCell ⟨g, (R + j) * 4 + 2, none⟩ (.slice a1 (nl (zA1 s).natAbs) c1)).setCell ⟨g, (R + j) * 4 + 3, none⟩ (.int .i64 (zA2 s)))).heap.size from by simp; omega)
            obtain ⟨ob, z0', z1', z2', z3', z0, z1, z2, z3⟩ := M5.out.ces R1
            haveI k0 : CE u1 v3.heap.size 0 (.bool (zA3 s)) := ⟨S4.out.out.c0, S4.out.out.lt⟩
            haveI k1 : CE u1 v3.heap.size 1 (.bool (decide (zA1 s < 0))) := ⟨S4.out.out.c1, S4.out.out.lt⟩
            haveI k2 : CE u1 v3.heap.size 2 (.slice a1 (nl (zA1 s).natAbs) c1) := ⟨S4.out.out.c2, S4.out.out.lt⟩
            haveI k3 : CE u1 v3.heap.size 3 (.int .i64 (zA2 s)) := ⟨S4.out.out.c3, S4.out.out.lt⟩
            haveI k4 : CE u1 v1.heap.size 0 (.int .i64 q) := ⟨B5.c0, B5.lt⟩
            haveI k5 : CE u1 v1.heap.size 2 (.slice (some ⟨g, 0, none⟩) Q Q) := ⟨B5.c2, B5.lt⟩
            clear M3 M5 B4 B5 L4 L5 I4 S4 e6
            go_wp2_with fail
            go_roundw
            case rel => exact ⟨i + 1, _, _, by omega, by omega, by (have : (k : Int) + (i : Int) + 1 = (k : Int) + ((i + 1 : Nat) : Int) := by omega); first | rw [this] | simp [this], HC2.out, M6.out, B6.out, L6.out, e8.out⟩
            case measure => simp [intOf]; omega
        · have hiq : i = q := by omega
          rw [hiq] at HCC iM
          have hc0 : zFG B n k (k + j) = 0 := by rw [HCC.out, Nat.sub_self]; rfl
          have HCF := Lib.hid (show zEy B n k = zAA (zFG B n k) (k + (j + 1)) (q - (j + 1)) by rw [HCE.out, zBa hc0 (by omega)]; congr 1)
          have M5 := iM.congr (fun t ht => zG7 (by rw [← HQ.out]; exact ht))
          have hge : ¬ (k : Int) + (i : Int) < (n : Int) := by have := Hq.out; omega
          clear hc0 HCC iM
          go_wp2_with fail
          go_roundw
          case rel => exact ⟨j + 1, _, _, by omega, by (have : (k : Int) + (j : Int) + 1 = (k : Int) + ((j + 1 : Nat) : Int) := by omega); first | rw [this] | simp [this], HCF.out, M5, iB, hby, hsy⟩
          case measure => simp [intOf]; omega
     · have hjq : j = q := by omega
       have hge : ¬ (k : Int) + (j : Int) < (n : Int) := by have := Hq.out; omega
       rw [hjq] at HCE iM
       have hc0 : zEy B n k = 0 := by rw [HCE.out, Nat.sub_self]; rfl
       have HF0 := Lib.hid (HFE.out.trans hc0)
       have HFK := Lib.hid (show zBo B n k = k by unfold zBo; rw [if_pos HF0.out])
       have M5 := iM.congr (d' := rest B n k) (fun t ht => zHx (by rw [← HQ.out]; exact ht))
       have OPx : wx.ownsRow w2.heap.size 40 1 (.slice (some ⟨w2.heap.size, 0, none⟩) N N) N (zAX (pan B n k) N) := zAx HOP.out zbh
       have Q1 : N3 wx (w.heap.size + 1) (.int .i64 0) (.int .i64 0) (.slice none 0 0) := inferInstance
       have Q2 : N3 wx (w.heap.size + 1 + 1) (.int .i64 0) (.int .i64 0) (.slice none 0 0) := inferInstance
       have Q3 : N3 wx (w2.heap.size + 1) (.int .i64 n) (.int .i64 k) (.slice (some ⟨w2.heap.size, 0, none⟩) N N) := inferInstance
       have Q5 : Below w.heap.size w wx := zbh
       haveI o1 : OB wx (w.heap.size + 1) := ⟨Q1.z, Q1.lt⟩
       haveI o2 : OB wx (w.heap.size + 1 + 1) := ⟨Q2.z, Q2.lt⟩
       haveI n1 : NB (w.heap.size + 1) (w.heap.size + 1 + 1) := ⟨by omega⟩
       haveI n2 : NB (w.heap.size + 1 + 1) (w.heap.size + 1) := ⟨by omega⟩
       haveI n3 : NB (w2.heap.size + 1) (w.heap.size + 1) := ⟨by omega⟩
       haveI n4 : NB (w2.heap.size + 1) (w.heap.size + 1 + 1) := ⟨by omega⟩
       haveI n5 : NB v1.heap.size (w.heap.size + 1) := ⟨by omega⟩
       haveI n6 : NB v1.heap.size (w.heap.size + 1 + 1) := ⟨by omega⟩
       haveI r0 : CE wx (w.heap.size + 1) 0 (.int .i64 0) := ⟨Q1.c0, Q1.lt⟩
       haveI q0 : CE wx (w.heap.size + 1 + 1) 0 (.int .i64 0) := ⟨Q2.c0, Q2.lt⟩
       haveI r1 : CE wx (w.heap.size + 1) 1 (.int .i64 0) := ⟨Q1.c1, Q1.lt⟩
       haveI q1 : CE wx (w.heap.size + 1 + 1) 1 (.int .i64 0) := ⟨Q2.c1, Q2.lt⟩
       haveI r2 : CE wx (w.heap.size + 1) 2 (.slice none 0 0) := ⟨Q1.c2, Q1.lt⟩
       haveI q2 : CE wx (w.heap.size + 1 + 1) 2 (.slice none 0 0) := ⟨Q2.c2, Q2.lt⟩
       haveI p0 : CE wx v1.heap.size 0 (.int .i64 q) := ⟨iB.c0, iB.lt⟩
       haveI p1 : CE wx v1.heap.size 1 (.int .i64 q) := ⟨iB.c1, iB.lt⟩
       haveI p2 : CE wx v1.heap.size 2 (.slice (some ⟨g, 0, none⟩) Q Q) := ⟨iB.c2, iB.lt⟩
       haveI s0 : CE wx (w2.heap.size + 1) 0 (.int .i64 n) := ⟨Q3.c0, Q3.lt⟩
       haveI s1 : CE wx (w2.heap.size + 1) 1 (.int .i64 k) := ⟨Q3.c1, Q3.lt⟩
       haveI s2 : CE wx (w2.heap.size + 1) 2 (.slice (some ⟨w2.heap.size, 0, none⟩) N N) := ⟨Q3.c2, Q3.lt⟩
       have sz : w2.heap.size ≤ wr.heap.size := hbr.size
       clear hc0 HCE iM hjq Q1 Q2 Q3 iB bwx hbx iP i0 i1 i2 OP iF
       go_wp2_with fail
       first
       | go_region
       | fail "region"
       all_goals (
        go_wp2_with fail
        refine bodyPost_ret (v := .tuple #[.agg #[.int .i64 n, .int .i64 k, .slice (some ⟨w2.heap.size, 0, none⟩) N N], .agg #[.int .i64 q, .int .i64 q, .slice (some ⟨g, 0, none⟩) Q Q], .int .i64 k, .int .i64 0]) (by simp only [results, Tryz.results14]; go_simp) rfl ?_
        have T1 := (zFk (World.ownsRow.drew (zBt (zBt (zBt (zBt (zBt (zBt OPx (show w.heap.size + 1 < w2.heap.size by omega) 0 (.int .i64 n)) (show w.heap.size + 1 < w2.heap.size by omega) 1 (.int .i64 k)) (show w.heap.size + 1 < w2.heap.size by omega) 2 (.slice (some ⟨w2.heap.size, 0, none⟩) N N)) (show w.heap.size + 1 + 1 < w2.heap.size by omega) 0 (.int .i64 q)) (show w.heap.size + 1 + 1 < w2.heap.size by omega) 1 (.int .i64 q)) (show w.heap.size + 1 + 1 < w2.heap.size by omega) 2 (.slice (some ⟨g, 0, none⟩) Q Q))) (fun i _ => zLM B n k i)).2
        have T2 := (((((((M5.sen (show w.heap.size + 1 < wr.heap.size + 1 by omega) 0 (.int .i64 n)).sen (show w.heap.size + 1 < wr.heap.size + 1 by omega) 1 (.int .i64 k)).sen (show w.heap.size + 1 < wr.heap.size + 1 by omega) 2 (.slice (some ⟨w2.heap.size, 0, none⟩) N N)).sen (show w.heap.size + 1 + 1 < wr.heap.size + 1 by omega) 0 (.int .i64 q)).sen (show w.heap.size + 1 + 1 < wr.heap.size + 1 by omega) 1 (.int .i64 q)).sen (show w.heap.size + 1 + 1 < wr.heap.size + 1 by omega) 2 (.slice (some ⟨g, 0, none⟩) Q Q)).drx.mono (show w.heap.size ≤ wr.heap.size + 1 by omega))
        have T3 : Below w.heap.size w _ := ((((((Q5.setCell (p := ⟨w.heap.size + 1, 0, none⟩) (by simp) (.int .i64 n)).setCell (p := ⟨w.heap.size + 1, 1, none⟩) (by simp) (.int .i64 k)).setCell (p := ⟨w.heap.size + 1, 2, none⟩) (by simp) (.slice (some ⟨w2.heap.size, 0, none⟩) N N)).setCell (p := ⟨w.heap.size + 1 + 1, 0, none⟩) (by simp; omega) (.int .i64 q)).setCell (p := ⟨w.heap.size + 1 + 1, 1, none⟩) (by simp; omega) (.int .i64 q)).setCell (p := ⟨w.heap.size + 1 + 1, 2, none⟩) (by simp; omega) (.slice (some ⟨g, 0, none⟩) Q Q)).drew
        exact ⟨_, rfl, ElR.ok HF0.out HFK.out HNN.out (show n - k = q by have := Hq.out; omega) HQ.out (FW.of T1 (fun _ => by show w.heap.size ≤ w2.heap.size; omega)) (DW.of ⟨_, _, T2⟩), ⟨T3⟩⟩)
end Go.Proofs.YtablcbgeeeboeaaGreatDoor
