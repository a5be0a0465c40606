/-
  Walks: package dense: contribution.
-/
import Derived.Test.YtablcbgeeeboeaaGreatDoorZhPy
import Derived.Test.YtablcbgeeeboeaaGreatDoorZhRva
import Derived.Test.YtablcbgeeeboeaaGreatDoorZhTk
set_option maxRecDepth 100000
set_option maxHeartbeats 20000000
namespace Go.Proofs.YtablcbgeeeboeaaGreatDoor
open Go.RowKit Sp
theorem zFo (N : Nat) (hN : N ≤ 1048576) (W : World) : (Instr.makeSlice 23 (.int .i64 N) (.int .i64 N)).run Tryz.prog W = .ok (.slice (some ⟨W.heap.size, 0, none⟩) N N) (W.alloc (.cells (madeCells #[.bool false, .bool false, .slice none 0 0, .int .i64 0] (N * 4)) 46)) := by
 obtain ⟨i0, hi, hz0, hz1, hz2⟩ := info_parts zP4
 have := run_make (P := Tryz.prog) W _ _ i0 _ zLk hi hz0 .i64 .i64 N N (by omega) (Int.le_refl _) (by rw [hz2]; omega) (by omega)
 rw [this, hz1, show (Value.agg #[.bool false, .bool false, .slice none 0 0, .int .i64 0]).cells = #[.bool false, .bool false, .slice none 0 0, .int .i64 0] by simp [Value.cells]]; rfl
theorem zDu (N : Nat) (hN : N ≤ 1048576) (W : World) (base : Nat) (hb : base ≤ W.heap.size) {g : Nat} (hg : g = W.heap.size) : Dms (W.alloc (.cells (madeCells #[.bool false, .bool false, .slice none 0 0, .int .i64 0] (N * 4)) 46)) base (.slice (some ⟨g, 0, none⟩) N N) N (fun _ => some (0, 0)) (fun _ => none) (fun _ => 0) := by
 subst hg
 have h := World.ownsRow_lit (e := 46) (size := 4) W (madeCells #[.bool false, .bool false, .slice none 0 0, .int .i64 0] (N * 4)) N hb (by unfold maxLen; omega) (size_madeCells _ _)
 have h2 := zPp N
 rw [show (Value.agg #[.bool false, .bool false, .slice none 0 0, .int .i64 0]).cells = #[.bool false, .bool false, .slice none 0 0, .int .i64 0] by simp [Value.cells]] at h2
 rw [h2] at h
 exact ⟨h, fun i _ => Mag.nil _, fun i _ h => absurd h (by decide)⟩
theorem zKa (N : Nat) (hN : N ≤ 1048576) (W : World) : (Instr.makeSlice 28 (.int .i64 N) (.int .i64 N)).run Tryz.prog W = .ok (.slice (some ⟨W.heap.size, 0, none⟩) N N) (W.alloc (.cells (madeCells #[.int .u64 0] (N * 1)) 40)) := by
 obtain ⟨i0, hi, hz0, hz1, hz2⟩ := info_parts zPq
 have := run_make (P := Tryz.prog) W _ _ i0 _ zN0 hi hz0 .i64 .i64 N N (by omega) (Int.le_refl _) (by rw [hz2]; omega) (by omega)
 rw [this, hz1, show (Value.int .u64 0).cells = #[.int .u64 0] by simp [Value.cells]]; rfl
theorem zNt (N : Nat) (hN : N ≤ 1048576) (W : World) (base : Nat) (hb : base ≤ W.heap.size) {g : Nat} (hg : g = W.heap.size) : (W.alloc (.cells (madeCells #[.int .u64 0] (N * 1)) 40)).ownsRow base 40 1 (.slice (some ⟨g, 0, none⟩) N N) N (zAX (fun _ => 0) N) := by
 subst hg
 have h := World.ownsRow_lit (e := 40) (size := 1) W (madeCells #[.int .u64 0] (N * 1)) N hb (by unfold maxLen; omega) (size_madeCells _ _)
 rw [zPo] at h
 exact h
theorem zP5 (g q N : Nat) (hq : q < N) (W : World) : (Instr.indexAt 23 (.slice (some ⟨g, 0, none⟩) N N) (.int .i64 ((q : Nat) : Int))).run Tryz.prog W = .ok (.pointer (some ⟨g, q * 4, none⟩)) W := by
 rw [run_indexAt_slice _ _ _ _ _ _ _ zLk, if_pos ⟨by omega, by omega⟩, zNJ, zPl]
 simp only [Result.andThen, Int.toNat_natCast, Addr.add_lit, Nat.zero_add]
theorem DM.put {w : World} {base g n cap : Nat} {d : Nat → Option (Int × Int)} {A : Nat → Option Addr} {C : Nat → Nat} (h : DM w base (.slice (some ⟨g, 0, none⟩) n cap) n d A C) {i : Nat} (hi : i < n)
 {dk : Option (Int × Int)} {a1 : Option Addr} {c1 : Nat} (hm : Mag w a1 (nl (zA1 dk).natAbs) c1 (zA1 dk).natAbs) (hne : 0 < nl (zA1 dk).natAbs → ab a1 ≠ g) (hf : 0 < nl (zA1 dk).natAbs → base ≤ ab a1) :
 DM ((((w.setCell ⟨g, i * 4, none⟩ (.bool (zA3 dk))).setCell ⟨g, i * 4 + 1, none⟩ (.bool (decide (zA1 dk < 0)))).setCell ⟨g, i * 4 + 2, none⟩ (.slice a1 (nl (zA1 dk).natAbs) c1)).setCell ⟨g, i * 4 + 3, none⟩ (.int .i64 (zA2 dk))) base
  (.slice (some ⟨g, 0, none⟩) n cap) n (fun t => if t = i then dk else d t) (fun t => if t = i then a1 else A t) (fun t => if t = i then c1 else C t) :=
 ⟨(h.out.put hi hm hne).1, fun t ht hp => by
  by_cases e : t = i
  · simp only [if_pos e] at hp ⊢; exact hf hp
  · simp only [if_neg e] at hp ⊢; exact h.fr t ht hp⟩
theorem DM.congr {w : World} {base k : Nat} {v : Value} {d d' : Nat → Option (Int × Int)} {A : Nat → Option Addr} {C : Nat → Nat} (h : DM w base v k d A C) (e : ∀ i, i < k → d i = d' i) : DM w base v k d' A C :=
 ⟨h.out.congr e, fun i hi hp => h.fr i hi (by rw [e i hi]; exact hp)⟩
theorem Dms.ces {w : World} {base g n : Nat} {d : Nat → Option (Int × Int)} {A : Nat → Option Addr} {C : Nat → Nat} (h : Dms w base (.slice (some ⟨g, 0, none⟩) n n) n d A C) {i : Nat} (hi : i < n) :
 OB w g ∧ ∃ x0 x1 x2 x3, CE w g (i * 4) x0 ∧ CE w g (i * 4 + 1) x1 ∧ CE w g (i * 4 + 2) x2 ∧ CE w g (i * 4 + 3) x3 := by
 have hl := (h.own.lt g rfl).2
 have hg := zAC (zBe d A C) hi
 exact ⟨⟨fun i => h.own.frozenAt i, hl⟩, _, _, _, _, ⟨(h.own.cellAt _ (by omega)).trans hg.1, hl⟩, ⟨(h.own.cellAt _ (by omega)).trans hg.2.1, hl⟩, ⟨(h.own.cellAt _ (by omega)).trans hg.2.2.1, hl⟩, ⟨(h.own.cellAt _ (by omega)).trans hg.2.2.2, hl⟩⟩
noncomputable def zEJ (B : Nat → Option (Int × Int)) (n k q j i t : Nat) : Option (Int × Int) :=
 if min (t / q) (t % q) < j ∨ (min (t / q) (t % q) = j ∧ max (t / q) (t % q) < i) then rest B n k t else some (0, 0)
theorem zDf (B : Nat → Option (Int × Int)) (n k t : Nat) : IsN (rest B n k t) := zCb _ _ _ _ _ _
theorem zNc {B : Nat → Option (Int × Int)} {n k q j i : Nat} (hq : n = k + q) (hj : j ≤ i) (hi : i < q) : rest B n k (j * q + i) = zAQ B n (pan B n k) (k + i) (k + j) k := by
 unfold rest
 rw [show n - k = q by omega, zCz hi, zDw hi, show max j i = i by omega, show min j i = j by omega]
theorem zNd {B : Nat → Option (Int × Int)} {n k q j i : Nat} (hq : n = k + q) (hj : j ≤ i) (hi : i < q) : rest B n k (i * q + j) = zAQ B n (pan B n k) (k + i) (k + j) k := by
 unfold rest
 rw [show n - k = q by omega, zCz (show j < q by omega), zDw (show j < q by omega), show max i j = i by omega, show min i j = j by omega]
theorem zG6 {B : Nat → Option (Int × Int)} {n k q j i : Nat} (hq : n = k + q) (hj : j ≤ i) (hi : i < q) :
 (fun t => if t = i * q + j then zAQ B n (pan B n k) (k + i) (k + j) k else (fun t => if t = j * q + i then zAQ B n (pan B n k) (k + i) (k + j) k else zEJ B n k q j i t) t) = zEJ B n k q j (i + 1) := by
 funext t
 have e := @zMO q t
 have l := Nat.mod_lt t (show 0 < q by omega)
 by_cases h1 : t = i * q + j
 · subst h1
   rw [if_pos rfl]
   unfold zEJ
   rw [zNd hq hj hi, zCz (show j < q by omega), zDw (show j < q by omega), if_pos (by omega)]
 · rw [if_neg h1]
   show (if t = j * q + i then _ else _) = _
   by_cases h2 : t = j * q + i
   · subst h2
     rw [if_pos rfl]
     unfold zEJ
     rw [zNc hq hj hi, zCz hi, zDw hi, if_pos (by omega)]
   · rw [if_neg h2]
     unfold zEJ
     have n1 : ¬ (t / q = i ∧ t % q = j) := fun h => h1 (by rw [← e, h.1, h.2])
     have n2 : ¬ (t / q = j ∧ t % q = i) := fun h => h2 (by rw [← e, h.1, h.2])
     by_cases h3 : min (t / q) (t % q) < j ∨ (min (t / q) (t % q) = j ∧ max (t / q) (t % q) < i)
     · rw [if_pos h3, if_pos (by omega)]
     · rw [if_neg h3, if_neg (by omega)]
theorem zG7 {B : Nat → Option (Int × Int)} {n k q j t : Nat} (ht : t < q * q) : zEJ B n k q j q t = zEJ B n k q (j + 1) (j + 1) t := by
 have hq : 0 < q := Nat.pos_of_ne_zero fun e => by rw [e] at ht; simp at ht
 have l := Nat.mod_lt t hq
 have l2 : t / q < q := Nat.div_lt_of_lt_mul ht
 unfold zEJ
 by_cases h3 : min (t / q) (t % q) < j ∨ (min (t / q) (t % q) = j ∧ max (t / q) (t % q) < q)
 · rw [if_pos h3, if_pos (by omega)]
 · rw [if_neg h3, if_neg (by omega)]
theorem zHx {B : Nat → Option (Int × Int)} {n k q t : Nat} (ht : t < q * q) : zEJ B n k q q q t = rest B n k t := by
 have hq : 0 < q := Nat.pos_of_ne_zero fun e => by rw [e] at ht; simp at ht
 have l := Nat.mod_lt t hq
 unfold zEJ
 rw [if_pos (by omega)]
theorem zG5 {B : Nat → Option (Int × Int)} {n k q t : Nat} : some (0, 0) = zEJ B n k q 0 0 t := by
 unfold zEJ; generalize t / q = a; generalize t % q = b; rw [if_neg (by omega)]
attribute [local irreducible] Calls
theorem zIO (w0 w : World) [Tb w0] [bw0 : From w0 w] (b n k gp ge : Nat) (ae : Option Addr) (M ce : Nat) (B : Nat → Option (Int × Int)) (d : Nat → Option (Int × Int)) [hB : DZ w0 ae M ce B] [hS : St w0.heap.size w b n k (.slice ae M ce) gp ge (pan B n k) d]
 (hM : M = n * n) (hn : n ≤ 64) (hBN : ∀ t, IsN (B t)) (hd : ∀ t, t < n * k → d t = fof (pan B n k t)) (q : Nat) (hq : n = k + q) :
 Calls Tryz.prog 46 #[.pointer (some ⟨b, 0, none⟩), .int .i64 k] w fun o w' => ∃ (r : Nat) (oa : Option Addr) (m oc : Nat) (D : Nat → Option (Int × Int)), o = .returned (.tuple #[.agg #[.int .i64 r, .int .i64 r, .slice oa m oc], .int .i64 (zEy B n k)]) ∧ ((∃ A C, DM w' w.heap.size (.slice oa m oc) m D A C) ∧ ∀ i, IsN (D i)) ∧ (zEy B n k = 0 → r = q ∧ m = q * q ∧ ∀ t, t < q * q → D t = rest B n k t) ∧ (zEy B n k ≠ 0 → r = 0 ∧ m = 0) ∧ Below w.heap.size w w' := by
 obtain ⟨Q, hQ⟩ : ∃ Q, Q = q * q := ⟨_, rfl⟩
 have hQ2 : Q ≤ 4096 := by rw [hQ]; exact Nat.mul_le_mul (show q ≤ 64 by omega) (show q ≤ 64 by omega)
 have hsub : (n : Int) - (k : Int) = (q : Int) := by omega
 have hmul : (q : Int) * (q : Int) = (Q : Int) := by rw [hQ]; exact (Int.natCast_mul q q).symm
 have hmk := fun W => zFo Q (by omega) W
 have HSc := fun W [St w0.heap.size W b n k (.slice ae M ce) gp ge (pan B n k) d] [DZ W ae M ce B] [Tb W] (i j : Nat) (hi : k + i < n) (hj : k + j < n) => Lib.hid (frF (zFT W w0.heap.size b n k gp ge ae M ce B (pan B n k) d hM hn hBN hd (k + i) (k + j) k hi hj (by omega) (by omega)))
 have HV := fun W (s : Option (Int × Int)) (hs : IsN s) a c [i1 : BI W a (nl (zA1 s).natAbs) c (zA1 s).natAbs] [Tb W] => Lib.hid (frm (by
  have hb := zA7 hs
  have h := zCJ W (zA3 s) (decide (zA1 s < 0)) a (nl (zA1 s).natAbs) c (zA1 s).natAbs (zA2 s) i1.out (Nat.le_trans (zAe _) (by omega)) tb (by omega) (zDC (by omega)) (by omega) (by omega)
  rwa [show zFm (zA3 s) (sgn (decide (zA1 s < 0)) (zA1 s).natAbs) (zA2 s) = s from by rw [zAg]; exact zCF hs] at h))
 have HNm := fun W (s : Option (Int × Int)) (hs : IsN s) a c [i1 : BI W a (nl (zA1 s).natAbs) c (zA1 s).natAbs] [Tb W] => Lib.hid (frF (zBY W (zAI hs i1.out) tb))
 have hcE : zEy B n k = zAA (zFG B n k) k q := by unfold zEy; rw [show n - k = q by omega]
 have HcE := Lib.hid hcE
 have HQ := Lib.hid hQ
 have Hq := Lib.hid hq
 have hkn : k + q ≤ 64 := by omega
 clear hcE hQ hM hq
 go_enter Tryz.func46, Tryz.ntmps46
 go_wp2_with fail
 have DM0 := (zDu Q (by omega) (w.alloc (.cells #[.int .i64 0, .int .i64 0, .slice none 0 0] 25)) (w.heap.size + 1) (by simp) (g := w.heap.size + 1) (by simp))
 have DM1 : DM _ (w.heap.size + 1) _ Q _ _ _ := ⟨DM0.below ((Below.refl _ _).alloc (Nat.le_refl _) (.cells #[.int .i64 q, .int .i64 q, .slice (some ⟨w.heap.size + 1, 0, none⟩) Q Q] 25)), fun t ht h => absurd h (by decide)⟩
 clear DM0
 go_loopw [26] (fun v wr => ∃ (j : Nat) (A : Nat → Option Addr) (C : Nat → Nat), j ≤ q ∧ v = .int .i64 j ∧ zEy B n k = zAA (zFG B n k) (k + j) (q - j) ∧ DM wr (w.heap.size + 1) (.slice (some ⟨w.heap.size + 1, 0, none⟩) Q Q) Q (zEJ B n k q j j) A C ∧ N3 wr w.heap.size (.int .i64 0) (.int .i64 0) (.slice none 0 0) ∧ N3 wr (w.heap.size + 1 + 1) (.int .i64 q) (.int .i64 q) (.slice (some ⟨w.heap.size + 1, 0, none⟩) Q Q) ∧ Below w.heap.size w wr ∧ w.heap.size + 3 ≤ wr.heap.size) (fun v _ => q - (intOf v).toNat)
 case atStart => exact ⟨0, _, _, by omega, rfl, HcE.out, DM1.congr (fun t _ => zG5), inferInstance, inferInstance, zbh, by simp⟩
 case round =>
  clear DM1 HcE
  obtain ⟨j, A, C, hj, rfl, hce, iM, iR, iB, hbr, hsz⟩ := hrel
  have HCE := Lib.hid hce
  clear hce
  by_cases hlt : j < q
  · have hcc : zFG B n k (k + j) = zAA (zFd B n k (k + j)) (k + j) (q - j) := by unfold zFG; rw [show n - (k + j) = q - j by have := Hq.out; omega]
    have HCC := Lib.hid hcc
    clear hcc
    go_wp2_with fail
    go_loopw [9] (fun v wr => ∃ (i : Nat) (A : Nat → Option Addr) (C : Nat → Nat), j ≤ i ∧ i ≤ q ∧ v = .int .i64 i ∧ zFG B n k (k + j) = zAA (zFd B n k (k + j)) (k + i) (q - i) ∧ DM wr (w.heap.size + 1) (.slice (some ⟨w.heap.size + 1, 0, none⟩) Q Q) Q (zEJ B n k q j i) A C ∧ N3 wr w.heap.size (.int .i64 0) (.int .i64 0) (.slice none 0 0) ∧ N3 wr (w.heap.size + 1 + 1) (.int .i64 q) (.int .i64 q) (.slice (some ⟨w.heap.size + 1, 0, none⟩) Q Q) ∧ Below w.heap.size w wr ∧ w.heap.size + 3 ≤ wr.heap.size) (fun v _ => q - (intOf v).toNat)
    case atStart => exact ⟨j, A, C, by omega, hj, rfl, HCC.out, iM, iR, iB, hbr, hsz⟩
    case round =>
     clear iM iR iB hbr hsz HCC
     obtain ⟨i, A, C, hi0, hi1, rfl, hcc, iM, iR, iB, hbr, hsz⟩ := hrel
     have HCC := Lib.hid hcc
     clear hcc
     haveI bwr : From w wr := ⟨hbr⟩
     by_cases hlt2 : i < q
     · have hki : k + i < n := by have := Hq.out; omega
       have hkj : k + j < n := by have := Hq.out; omega
       have HSi := fun W [St w0.heap.size W b n k (.slice ae M ce) gp ge (pan B n k) d] [DZ W ae M ce B] [Tb W] => HSc W i j hki hkj
       rw [show (((k + i : Nat)) : Int) = (k : Int) + (i : Int) by omega, show (((k + j : Nat)) : Int) = (k : Int) + (j : Int) by omega] at HSi
       have hsN := zCb B n (pan B n k) (k + i) (k + j) k
       have hst := zG6 (B := B) Hq.out hi0 hlt2
       have hre : zFd B n k (k + j) (k + i) = if zA3 (zAQ B n (pan B n k) (k + i) (k + j) k) then 233 else 0 := rfl
       generalize zAQ B n (pan B n k) (k + i) (k + j) k = s at *
       have HVs := fun W => HV W s hsN
       have HNs := fun W => HNm W s hsN
       have HST := Lib.hid hst
       clear hst
       by_cases hb : zA3 s = true
       · rw [if_pos hb] at hre
         have h1 : zFG B n k (k + j) = 233 := by rw [HCC.out, zAu (by rw [hre]; decide) (by omega), hre]
         have h2 : zEy B n k = 233 := by rw [HCE.out, zAu (by rw [h1]; decide) (by omega), h1]
         have HE := Lib.hid h2
         rw [hb] at HVs
         simp only [hb] at HSi
         clear h1 h2 hre HNs
         go_wp2_with fail
         refine (HSi _).out.mono ?_; rintro o v1 ⟨a1, c1, rfl, i1, b1, f1⟩
         go_wp2_with fail
         refine (HVs _ _ _).out.mono ?_; rintro o v2 ⟨rfl, b2⟩
         go_wp2_with fail
         refine bodyPost_ret (v := .tuple #[.agg #[.int .i64 0, .int .i64 0, .slice none 0 0], .int .i64 233]) (by simp only [results, Tryz.results46]; go_simp) rfl ?_
         rw [HE.out]
         exact ⟨0, none, 0, 0, fun _ => none, rfl, ⟨⟨_, _, DM.nil _ _ _⟩, fun _ => zBM⟩, (fun h => by cases h), (fun _ => ⟨rfl, rfl⟩), zbh⟩
       · rw [if_neg hb] at hre
         have h1 : zFG B n k (k + j) = zAA (zFd B n k (k + j)) (k + (i + 1)) (q - (i + 1)) := by rw [HCC.out, zBa hre (by omega)]; congr 1
         have HC2 := Lib.hid h1
         have hb' : zA3 s = false := by simpa using hb
         have HB' := Lib.hid hb'
         have hHV : Hid (∀ W a c [i1 : BI W a (nl (zA1 s).natAbs) c (zA1 s).natAbs] [Tb W], Hid (Calls Tryz.prog 67 #[.agg #[.bool (zA3 s), .bool (decide (zA1 s < 0)), .slice a (nl (zA1 s).natAbs) c, .int .i64 (zA2 s)]] W fun e w' => e = .returned (.bool true) ∧ From W w')) := by
          intro W a c i1 t1
          have h := (HVs W a c).out
          have e : (!zA3 s) = true := by rw [HB'.out]; rfl
          rw [e] at h
          exact h
         obtain ⟨P, hP⟩ : ∃ P, P = j * q := ⟨_, rfl⟩
         obtain ⟨R, hR⟩ : ∃ R, R = i * q := ⟨_, rfl⟩
         have hjq : (j : Int) * (q : Int) = (P : Int) := by rw [hP]; exact (Int.natCast_mul j q).symm
         have hiq : (i : Int) * (q : Int) = (R : Int) := by rw [hR]; exact (Int.natCast_mul i q).symm
         have P1 : P + i < Q := by rw [hP, HQ.out]; exact zCc hlt2 hlt
         have R1 : R + j < Q := by rw [hR, HQ.out]; exact zCc hlt hlt2
         rw [← hP, ← hR] at HST
         have y1 := zP5 (w.heap.size + 1) (P + i) Q P1
         have y2 := zP5 (w.heap.size + 1) (R + j) Q R1
         rw [show (((P + i : Nat)) : Int) = (P : Int) + (i : Int) by omega] at y1
         rw [show (((R + j : Nat)) : Int) = (R : Int) + (j : Int) by omega] at y2
         have x1 : IntKind.i64.wrap (R : Int) = (R : Int) := by rw [IntKind.wrap_i64]; omega
         have x2 : IntKind.i64.wrap ((R : Int) + (j : Int)) = (R : Int) + (j : Int) := by rw [IntKind.wrap_i64]; omega
         obtain ⟨o1, z0', z1', z2', z3', z0, z1, z2, z3⟩ := iM.out.ces P1
         clear h1 hre hb hb' HVs hP hR
         go_wp2_with fail
         refine (HSi _).out.mono ?_; rintro o v1 ⟨a1, c1, rfl, i1, b1, f1⟩
         go_wp2_with fail
         refine (hHV.out _ _ _).out.mono ?_; rintro o v2 ⟨rfl, b2⟩
         go_wp2_with fail
         have e1 := b1.out.size
         have e2 := b2.out.size
         simp at e2
         have nf1 : 0 < nl (zA1 s).natAbs → ab a1 ≠ w.heap.size + 1 := fun h => by have := f1 h; omega
         have D2 : DM v2 (w.heap.size + 1) (.slice (some ⟨w.heap.size + 1, 0, none⟩) Q Q) Q (zEJ B n k q j i) A C := inferInstance
         have M1 := D2.put P1 (inferInstance : BI v2 a1 (nl (zA1 s).natAbs) c1 (zA1 s).natAbs).out nf1 (fun h => by have := f1 h; omega)
         have ns : v1.heap.size ≠ w.heap.size + 1 := by omega
         have R2 : N3 v2 w.heap.size (.int .i64 0) (.int .i64 0) (.slice none 0 0) := inferInstance
         have B2 : N3 v2 (w.heap.size + 1 + 1) (.int .i64 q) (.int .i64 q) (.slice (some ⟨w.heap.size + 1, 0, none⟩) Q Q) := inferInstance
         have S2 : DB v2 v1.heap.size (zA3 s) (decide (zA1 s < 0)) (.slice a1 (nl (zA1 s).natAbs) c1) (zA2 s) := inferInstance
         have I2 : BI v2 a1 (nl (zA1 s).natAbs) c1 (zA1 s).natAbs := inferInstance
         have L2 : Below w.heap.size w v2 := zbh
         have R3' : N3 ((((v2.setCell ⟨w.heap.size + 1, (P + i) * 4, none⟩ (.bool (zA3 s))).setCell ⟨w.heap.size + 1, (P + i) * 4 + 1, none⟩ (.bool (decide (zA1 s < 0)))).setCell ⟨w.heap.size + 1, (P + i) * 4 + 2, none⟩ (.slice a1 (nl (zA1 s).natAbs) c1)).setCell ⟨w.heap.size + 1, (P + i) * 4 + 3, none⟩ (.int .i64 (zA2 s))) w.heap.size (.int .i64 0) (.int .i64 0) (.slice none 0 0) := N3.sen (N3.sen (N3.sen (N3.sen R2 (by omega) _ _) (by omega) _ _) (by omega) _ _) (by omega) _ _
         have B3 : N3 ((((v2.setCell ⟨w.heap.size + 1, (P + i) * 4, none⟩ (.bool (zA3 s))).setCell ⟨w.heap.size + 1, (P + i) * 4 + 1, none⟩ (.bool (decide (zA1 s < 0)))).setCell ⟨w.heap.size + 1, (P + i) * 4 + 2, none⟩ (.slice a1 (nl (zA1 s).natAbs) c1)).setCell ⟨w.heap.size + 1, (P + i) * 4 + 3, none⟩ (.int .i64 (zA2 s))) (w.heap.size + 1 + 1) (.int .i64 q) (.int .i64 q) (.slice (some ⟨w.heap.size + 1, 0, none⟩) Q Q) := N3.sen (N3.sen (N3.sen (N3.sen B2 (by omega) _ _) (by omega) _ _) (by omega) _ _) (by omega) _ _
         have S3 : DB ((((v2.setCell ⟨w.heap.size + 1, (P + i) * 4, none⟩ (.bool (zA3 s))).setCell ⟨w.heap.size + 1, (P + i) * 4 + 1, none⟩ (.bool (decide (zA1 s < 0)))).setCell ⟨w.heap.size + 1, (P + i) * 4 + 2, none⟩ (.slice a1 (nl (zA1 s).natAbs) c1)).setCell ⟨w.heap.size + 1, (P + i) * 4 + 3, none⟩ (.int .i64 (zA2 s))) v1.heap.size (zA3 s) (decide (zA1 s < 0)) (.slice a1 (nl (zA1 s).natAbs) c1) (zA2 s) := ⟨(((S2.out.set ns _ _).set ns _ _).set ns _ _).set ns _ _⟩
         have I3 : BI ((((v2.setCell ⟨w.heap.size + 1, (P + i) * 4, none⟩ (.bool (zA3 s))).setCell ⟨w.heap.size + 1, (P + i) * 4 + 1, none⟩ (.bool (decide (zA1 s < 0)))).setCell ⟨w.heap.size + 1, (P + i) * 4 + 2, none⟩ (.slice a1 (nl (zA1 s).natAbs) c1)).setCell ⟨w.heap.size + 1, (P + i) * 4 + 3, none⟩ (.int .i64 (zA2 s))) a1 (nl (zA1 s).natAbs) c1 (zA1 s).natAbs := ⟨(((I2.out.set nf1 _ _).set nf1 _ _).set nf1 _ _).set nf1 _ _⟩
         have L3 : Below w.heap.size w ((((v2.setCell ⟨w.heap.size + 1, (P + i) * 4, none⟩ (.bool (zA3 s))).setCell ⟨w.heap.size + 1, (P + i) * 4 + 1, none⟩ (.bool (decide (zA1 s < 0)))).setCell ⟨w.heap.size + 1, (P + i) * 4 + 2, none⟩ (.slice a1 (nl (zA1 s).natAbs) c1)).setCell ⟨w.heap.size + 1, (P + i) * 4 + 3, none⟩ (.int .i64 (zA2 s))) := (((L2.setCell (by simp) _).setCell (by simp) _).setCell (by simp) _).setCell (by simp) _
         have e3 : wr.heap.size ≤ (((((v2.setCell ⟨w.heap.size + 1, (P + i) * 4, none⟩ (.bool (zA3 s))).setCell ⟨w.heap.size + 1, (P + i) * 4 + 1, none⟩ (.bool (decide (zA1 s < 0)))).setCell ⟨w.heap.size + 1, (P + i) * 4 + 2, none⟩ (.slice a1 (nl (zA1 s).natAbs) c1)).setCell ⟨w.heap.size + 1, (P + i) * 4 + 3, none⟩ (.int .i64 (zA2 s)))).heap.size := by simp; omega
         have e4 : v1.heap.size < (((((v2.setCell ⟨w.heap.size + 1, (P + i) * 4, none⟩ (.bool (zA3 s))).setCell ⟨w.heap.size + 1, (P + i) * 4 + 1, none⟩ (.bool (decide (zA1 s < 0)))).setCell ⟨w.heap.size + 1, (P + i) * 4 + 2, none⟩ (.slice a1 (nl (zA1 s).natAbs) c1)).setCell ⟨w.heap.size + 1, (P + i) * 4 + 3, none⟩ (.int .i64 (zA2 s)))).heap.size := by simp; omega
         clear R2 B2 S2 I2 L2 D2 b1 b2 i1 iM iR iB hbr bwr z0 z1 z2 z3 o1
         generalize ((((v2.setCell ⟨w.heap.size + 1, (P + i) * 4, none⟩ (.bool (zA3 s))).setCell ⟨w.heap.size + 1, (P + i) * 4 + 1, none⟩ (.bool (decide (zA1 s < 0)))).setCell ⟨w.heap.size + 1, (P + i) * 4 + 2, none⟩ (.slice a1 (nl (zA1 s).natAbs) c1)).setCell ⟨w.heap.size + 1, (P + i) * 4 + 3, none⟩ (.int .i64 (zA2 s))) = u1 at *
         haveI L3' : From w u1 := ⟨L3⟩
         haveI M1' : DM u1 (w.heap.size + 1) (.slice (some ⟨w.heap.size + 1, 0, none⟩) Q Q) Q (fun t => if t = P + i then s else zEJ B n k q j i t) (fun t => if t = P + i then a1 else A t) (fun t => if t = P + i then c1 else C t) := M1
         obtain ⟨o1, z0', z1', z2', z3', z0, z1, z2, z3⟩ := M1.out.ces R1
         haveI n1 : NB v1.heap.size (w.heap.size + 1) := ⟨by omega⟩
         haveI n2 : NB (w.heap.size + 1 + 1) (w.heap.size + 1) := ⟨by omega⟩
         haveI k0 : CE u1 v1.heap.size 0 (.bool (zA3 s)) := ⟨S3.out.c0, S3.out.lt⟩
         haveI k1 : CE u1 v1.heap.size 1 (.bool (decide (zA1 s < 0))) := ⟨S3.out.c1, S3.out.lt⟩
         haveI k2 : CE u1 v1.heap.size 2 (.slice a1 (nl (zA1 s).natAbs) c1) := ⟨S3.out.c2, S3.out.lt⟩
         haveI k3 : CE u1 v1.heap.size 3 (.int .i64 (zA2 s)) := ⟨S3.out.c3, S3.out.lt⟩
         haveI k4 : CE u1 (w.heap.size + 1 + 1) 2 (.slice (some ⟨w.heap.size + 1, 0, none⟩) Q Q) := ⟨B3.c2, B3.lt⟩
         clear S3
         generalize v1.heap.size = bs at *
         first
         | go_region_held3 (fun w' => w'.cell? ⟨bs, 0, none⟩ = some (.bool (zA3 s)) ∧ w'.cell? ⟨bs, 1, none⟩ = some (.bool (decide (zA1 s < 0))) ∧ w'.cell? ⟨bs, 2, none⟩ = some (.slice a1 (nl (zA1 s).natAbs) c1) ∧ w'.cell? ⟨bs, 3, none⟩ = some (.int .i64 (zA2 s)) ∧ w'.cell? ⟨w.heap.size + 1 + 1, 2, none⟩ = some (.slice (some ⟨w.heap.size + 1, 0, none⟩) Q Q)) (first | (go_simp; done))
          (first
           | (go_at_call 72; refine (HNs _ _ _).out.mono ?_; rintro o v3 ⟨a3, c3, rfl, i3, b3, f3⟩)
           | fail)
         | fail "region"
         all_goals (
          have e5 := b3.out.size
          simp at e5
          have nf3 : 0 < nl (zA1 s).natAbs → ab a3 ≠ w.heap.size + 1 := fun h => by have := f3 h; simp at this; omega
          have D4 : DM v3 (w.heap.size + 1) (.slice (some ⟨w.heap.size + 1, 0, none⟩) Q Q) Q (fun t => if t = P + i then s else zEJ B n k q j i t) (fun t => if t = P + i then a1 else A t) (fun t => if t = P + i then c1 else C t) := inferInstance
          have M4 := D4.put R1 i3.out nf3 (fun h => by have := f3 h; simp at this; omega)
          rw [HST.out] at M4
          have R4 : N3 v3 w.heap.size (.int .i64 0) (.int .i64 0) (.slice none 0 0) := inferInstance
          have B4 : N3 v3 (w.heap.size + 1 + 1) (.int .i64 q) (.int .i64 q) (.slice (some ⟨w.heap.size + 1, 0, none⟩) Q Q) := inferInstance
          have L4 : Below w.heap.size w v3 := zbh
          have R5 : N3 ((((v3.setCell ⟨w.heap.size + 1, (R + j) * 4, none⟩ (.bool (zA3 s))).setCell ⟨w.heap.size + 1, (R + j) * 4 + 1, none⟩ (.bool (decide (zA1 s < 0)))).setCell ⟨w.heap.size + 1, (R + j) * 4 + 2, none⟩ (.slice a3 (nl (zA1 s).natAbs) c3)).setCell ⟨w.heap.size + 1, (R + j) * 4 + 3, none⟩ (.int .i64 (zA2 s))) w.heap.size (.int .i64 0) (.int .i64 0) (.slice none 0 0) := N3.sen (N3.sen (N3.sen (N3.sen R4 (by omega) _ _) (by omega) _ _) (by omega) _ _) (by omega) _ _
          have B5 : N3 ((((v3.setCell ⟨w.heap.size + 1, (R + j) * 4, none⟩ (.bool (zA3 s))).setCell ⟨w.heap.size + 1, (R + j) * 4 + 1, none⟩ (.bool (decide (zA1 s < 0)))).setCell ⟨w.heap.size + 1, (R + j) * 4 + 2, none⟩ (.slice a3 (nl (zA1 s).natAbs) c3)).setCell ⟨w.heap.size + 1, (R + j) * 4 + 3, none⟩ (.int .i64 (zA2 s))) (w.heap.size + 1 + 1) (.int .i64 q) (.int .i64 q) (.slice (some ⟨w.heap.size + 1, 0, none⟩) Q Q) := N3.sen (N3.sen (N3.sen (N3.sen B4 (by omega) _ _) (by omega) _ _) (by omega) _ _) (by omega) _ _
          have L5 : Below w.heap.size w ((((v3.setCell ⟨w.heap.size + 1, (R + j) * 4, none⟩ (.bool (zA3 s))).setCell ⟨w.heap.size + 1, (R + j) * 4 + 1, none⟩ (.bool (decide (zA1 s < 0)))).setCell ⟨w.heap.size + 1, (R + j) * 4 + 2, none⟩ (.slice a3 (nl (zA1 s).natAbs) c3)).setCell ⟨w.heap.size + 1, (R + j) * 4 + 3, none⟩ (.int .i64 (zA2 s))) := (((L4.setCell (by simp) _).setCell (by simp) _).setCell (by simp) _).setCell (by simp) _
          have e6 : w.heap.size + 3 ≤ (((((v3.setCell ⟨w.heap.size + 1, (R + j) * 4, none⟩ (.bool (zA3 s))).setCell ⟨w.heap.size + 1, (R + j) * 4 + 1, none⟩ (.bool (decide (zA1 s < 0)))).setCell ⟨w.heap.size + 1, (R + j) * 4 + 2, none⟩ (.slice a3 (nl (zA1 s).natAbs) c3)).setCell ⟨w.heap.size + 1, (R + j) * 4 + 3, none⟩ (.int .i64 (zA2 s)))).heap.size := by simp; omega
          generalize ((((v3.setCell ⟨w.heap.size + 1, (R + j) * 4, none⟩ (.bool (zA3 s))).setCell ⟨w.heap.size + 1, (R + j) * 4 + 1, none⟩ (.bool (decide (zA1 s < 0)))).setCell ⟨w.heap.size + 1, (R + j) * 4 + 2, none⟩ (.slice a3 (nl (zA1 s).natAbs) c3)).setCell ⟨w.heap.size + 1, (R + j) * 4 + 3, none⟩ (.int .i64 (zA2 s))) = u2 at *
          clear D4 R4 B4 L4 M1 M1' L3 L3' R3' B3 I3 k0 k1 k2 k3 k4 o1 z0 z1 z2 z3 b3 i3 f3
          go_wp2_with fail
          go_roundw
          case rel => exact ⟨i + 1, _, _, by omega, by omega, by go_num, HC2.out, M4, R5, B5, L5, e6⟩
          case measure => simp [intOf]; omega)
     · have hiq : i = q := by omega
       rw [hiq] at HCC iM
       have hc0 : zFG B n k (k + j) = 0 := by rw [HCC.out, Nat.sub_self]; rfl
       have HCF := Lib.hid (show zEy B n k = zAA (zFG B n k) (k + (j + 1)) (q - (j + 1)) by rw [HCE.out, zBa hc0 (by omega)]; congr 1)
       have M5 := iM.congr (fun t ht => zG7 (by rw [← HQ.out]; exact ht))
       clear hc0 HCC iM hiq
       go_wp2_with fail
       go_roundw
       case rel => exact ⟨j + 1, _, _, by omega, by go_num, HCF.out, M5, iR, iB, hbr, hsz⟩
       case measure => simp [intOf]; omega
  · have hjq : j = q := by omega
    rw [hjq] at HCE iM
    have hc0 : zEy B n k = 0 := by rw [HCE.out, Nat.sub_self]; rfl
    have HC0 := Lib.hid hc0
    have M5 := iM.congr (d' := rest B n k) (fun t ht => zHx (by rw [← HQ.out]; exact ht))
    have M6 := ((M5.sen (show w.heap.size < w.heap.size + 1 by omega) 0 (.int .i64 q)).sen (show w.heap.size < w.heap.size + 1 by omega) 1 (.int .i64 q)).sen (show w.heap.size < w.heap.size + 1 by omega) 2 (.slice (some ⟨w.heap.size + 1, 0, none⟩) Q Q)
    have hl : w.heap.size < w.heap.size + 1 := by omega
    haveI bwr : From w wr := ⟨hbr⟩
    clear hc0 HCE iM hjq
    go_wp2_with fail
    refine bodyPost_ret (v := .tuple #[.agg #[.int .i64 q, .int .i64 q, .slice (some ⟨w.heap.size + 1, 0, none⟩) Q Q], .int .i64 0]) (by simp only [results, Tryz.results46]; go_simp) rfl ?_
    rw [HC0.out]
    exact ⟨q, _, Q, Q, rest B n k, rfl, ⟨⟨_, _, M6.mono (by omega)⟩, fun i => zDf _ _ _ _⟩, (fun _ => ⟨rfl, HQ.out, fun _ _ => rfl⟩), (fun h => absurd rfl h), zbh⟩
end Go.Proofs.YtablcbgeeeboeaaGreatDoor
set_option maxRecDepth 100000
set_option maxHeartbeats 20000000
namespace Go.Proofs.YtablcbgeeeboeaaGreatDoor
open Go.RowKit Sp
theorem zKq {f : Nat} (h : f < 18446744073709551616) : (((f : Nat) : Int) == 0 || ((f : Nat) : Int) == 9223372036854775808) = zCY f := by
 unfold zCY fM
 rw [Bool.eq_iff_iff]; simp; omega
attribute [local irreducible] Calls
theorem zGO (w : World) [Tb w] (v s : Bool) (a : Option Addr) (n c : Nat) (e : Int) (d : Option (Int × Int)) [hx : DS w v s a n c e d] :
 Calls Tryz.prog 48 #[.agg #[.bool v, .bool s, .slice a n c, .int .i64 e]] w fun o w' => o = .returned (.int .u64 (zBE d 0 : Nat)) ∧ Below w.heap.size w w' := by
 have HR := fun W [i : DS W v s a n c e d] [Tb W] => Lib.hid (frm (zIy W v s a n c e d 0 i.out tb))
 generalize ((zBE d 0 : Nat) : Int) = z at *
 go_enter Tryz.func48, Tryz.ntmps48
 go_wp2_with fail
 refine (HR _).out.mono ?_; rintro o w1 ⟨rfl, b1⟩; go_wp2_with fail
 go_ret
 exact ⟨rfl, zbh⟩
theorem zIA (w : World) [Tb w] (v s : Bool) (a : Option Addr) (n c : Nat) (e : Int) (d : Option (Int × Int)) [hx : DS w v s a n c e d] (v' s' : Bool) (a' : Option Addr) (n' c' : Nat) (e' : Int) (d' : Option (Int × Int)) [hy : DS w v' s' a' n' c' e' d'] :
 Calls Tryz.prog 50 #[.agg #[.bool v, .bool s, .slice a n c, .int .i64 e], .agg #[.bool v', .bool s', .slice a' n' c', .int .i64 e']] w fun o w' => o = .returned (.int .u64 (zH0 d d' 0 : Nat)) ∧ Below w.heap.size w w' := by
 have HR := fun W [i : DS W v s a n c e d] [j : DS W v' s' a' n' c' e' d'] [Tb W] => Lib.hid (frm (zJP W v s a n c e d v' s' a' n' c' e' d' 0 i.out j.out tb))
 generalize ((zH0 d d' 0 : Nat) : Int) = z at *
 go_enter Tryz.func50, Tryz.ntmps50
 go_wp2_with fail
 refine (HR _).out.mono ?_; rintro o w1 ⟨rfl, b1⟩; go_wp2_with fail
 go_ret
 exact ⟨rfl, zbh⟩
theorem zGN (w : World) (f : Nat) (hf : f < 18446744073709551616) :
 Calls Tryz.prog 49 #[.int .u64 f] w fun o w' => o = .returned (.bool (zCY f)) ∧ w = w' := by
 rw [← zKq hf]
 generalize ((f : Nat) : Int) = z at *
 cases h1 : (z == 0) <;> cases h2 : (z == 9223372036854775808) <;>
 · go_enter Tryz.func49, Tryz.ntmps49
   go_wp2_with fail
   go_ret
   exact ⟨rfl, rfl⟩
theorem zE7 (w : World) [Tb w] (x y : Nat) (hx : x < 18446744073709551616) (hy : y < 18446744073709551616) :
 Calls Tryz.prog 80 #[.int .u64 x, .int .u64 y] w (zAy w (zCZ (fof x) (fof y))) := by
 have HX := fun W [Tb W] => Lib.hid (frs (zBI x) (zDS W x hx tb))
 have HY := fun W [Tb W] => Lib.hid (frs (zBI y) (zDS W y hy tb))
 have HM := fun W a c a' c' [i : DS W (zA3 (fof x)) (decide (zA1 (fof x) < 0)) a (nl (zA1 (fof x)).natAbs) c (zA2 (fof x)) (fof x)] [j : DS W (zA3 (fof y)) (decide (zA1 (fof y) < 0)) a' (nl (zA1 (fof y)).natAbs) c' (zA2 (fof y)) (fof y)] [Tb W] => Lib.hid (frF (zJH W _ _ _ _ a a' _ _ c c' _ _ (fof x) (fof y) i.out j.out tb))
 generalize fof x = dx at *
 generalize fof y = dy at *
 generalize zCZ dx dy = dz at *
 go_enter Tryz.func80, Tryz.ntmps80
 go_wp2_with fail
 refine (HX _).out.mono ?_; rintro o w1 ⟨a1, c1, rfl, i1, b1⟩; go_wp2_with fail
 refine (HY _).out.mono ?_; rintro o w2 ⟨a2, c2, rfl, i2, b2⟩; go_wp2_with fail
 refine (HM _ _ _ _ _).out.mono ?_; rintro o w3 ⟨a3, c3, rfl, i3, b3, f3⟩
 have e1 := b1.out.size
 have e2 := b2.out.size
 simp at e1
 go_wp2_with fail
 refine bodyPost_ret (v := .agg #[.bool (zA3 dz), .bool (decide (zA1 dz < 0)), .slice a3 (nl (zA1 dz).natAbs) c3, .int .i64 (zA2 dz)]) (by simp only [results, Tryz.results80]; go_simp) rfl ?_
 exact ⟨a3, c3, rfl, Mag.st4 i3.out (fun h => by have := f3 h; omega) _ _ _ _, zbh, fun h => by have := f3 h; omega⟩
theorem zGd (w : World) (n : Nat) (c : Int) (ae : Option Addr) (M ce : Nat) (B : Nat → Option (Int × Int)) [hB : DZ w ae M ce B] (i j : Nat) (hn : n ≤ 64) (hi : i < n) (hj : j < n) (hM : M = n * n) :
 Calls Tryz.prog 75 #[.agg #[.int .i64 n, .int .i64 c, .slice ae M ce], .int .i64 i, .int .i64 j] w fun o w' => ∃ a q, o = .returned (.agg #[.bool (zA3 (B (j * n + i))), .bool (decide (zA1 (B (j * n + i)) < 0)), .slice a (nl (zA1 (B (j * n + i))).natAbs) q, .int .i64 (zA2 (B (j * n + i)))]) ∧ Mag w a (nl (zA1 (B (j * n + i))).natAbs) q (zA1 (B (j * n + i))).natAbs ∧ Below w.heap.size w w' := by
 have l1 := hB.out.fits
 have P1 : j * n + i < M := by rw [hM]; exact zCc hi hj
 have P2 : j * n ≤ 4096 := Nat.mul_le_mul (show j ≤ 64 by omega) hn
 obtain ⟨p, hp⟩ : ∃ p, p = j * n := ⟨_, rfl⟩
 have hN : (j : Int) * (n : Int) = (p : Int) := by rw [hp]; exact (Int.natCast_mul j n).symm
 obtain ⟨A0, C0, z0, z1, z2, z3, z4⟩ := hB.out.el P1
 have y0 := hB.out.idx (j * n + i) P1
 rw [← hp] at z0 z1 z2 z3 z4 y0 P1 P2 ⊢
 rw [show (((p + i : Nat)) : Int) = (p : Int) + (i : Int) by omega] at y0
 generalize B (p + i) = b0 at *
 have Z4 := Lib.hid z4
 clear hp hM
 go_enter Tryz.func75, Tryz.ntmps75
 go_wp2_with fail
 refine bodyPost_ret (v := .agg #[.bool (zA3 b0), .bool (decide (zA1 b0 < 0)), .slice A0 (nl (zA1 b0).natAbs) C0, .int .i64 (zA2 b0)]) (by simp only [results, Tryz.results75]; go_simp) rfl ?_
 exact ⟨A0, C0, rfl, Z4.out.out, zbh⟩
end Go.Proofs.YtablcbgeeeboeaaGreatDoor
