/-
  Walks: package dense: contribution.
-/
import Derived.Test.YtablcbgeeeboeaaGreatDoorZfPi
import Derived.Test.YtablcbgeeeboeaaGreatDoorZfPx
set_option maxRecDepth 100000
set_option maxHeartbeats 20000000
namespace Go.Proofs.YtablcbgeeeboeaaGreatDoor
open Go.RowKit Sp
theorem mkD_run (N : Nat) (hN : N ≤ 1048576) (W : World) : (Instr.makeSlice 23 (.int .i64 N) (.int .i64 N)).run Tryz.prog W = .ok (.slice (some ⟨W.heap.size, 0, none⟩) N N) (W.alloc (.cells (madeCells #[.bool false, .bool false, .slice none 0 0, .int .i64 0] (N * 4)) 46)) := by
 obtain ⟨i0, hi, hz0, hz1, hz2⟩ := info_parts infD
 have := run_make (P := Tryz.prog) W _ _ i0 _ undD hi hz0 .i64 .i64 N N (by omega) (Int.le_refl _) (by rw [hz2]; omega) (by omega)
 rw [this, hz1, show (Value.agg #[.bool false, .bool false, .slice none 0 0, .int .i64 0]).cells = #[.bool false, .bool false, .slice none 0 0, .int .i64 0] by simp [Value.cells]]; rfl
theorem mkD_own (N : Nat) (hN : N ≤ 1048576) (W : World) (base : Nat) (hb : base ≤ W.heap.size) {g : Nat} (hg : g = W.heap.size) : Dms (W.alloc (.cells (madeCells #[.bool false, .bool false, .slice none 0 0, .int .i64 0] (N * 4)) 46)) base (.slice (some ⟨g, 0, none⟩) N N) N (fun _ => some (0, 0)) (fun _ => none) (fun _ => 0) := by
 subst hg
 have h := World.ownsRow_lit (e := 46) (size := 4) W (madeCells #[.bool false, .bool false, .slice none 0 0, .int .i64 0] (N * 4)) N hb (by unfold maxLen; omega) (size_madeCells _ _)
 have h2 := madeD N
 rw [show (Value.agg #[.bool false, .bool false, .slice none 0 0, .int .i64 0]).cells = #[.bool false, .bool false, .slice none 0 0, .int .i64 0] by simp [Value.cells]] at h2
 rw [h2] at h
 exact ⟨h, fun i _ => Mag.nil _, fun i _ h => absurd h (by decide)⟩
theorem mkF_run (N : Nat) (hN : N ≤ 1048576) (W : World) : (Instr.makeSlice 28 (.int .i64 N) (.int .i64 N)).run Tryz.prog W = .ok (.slice (some ⟨W.heap.size, 0, none⟩) N N) (W.alloc (.cells (madeCells #[.int .u64 0] (N * 1)) 40)) := by
 obtain ⟨i0, hi, hz0, hz1, hz2⟩ := info_parts infF
 have := run_make (P := Tryz.prog) W _ _ i0 _ undFe hi hz0 .i64 .i64 N N (by omega) (Int.le_refl _) (by rw [hz2]; omega) (by omega)
 rw [this, hz1, show (Value.int .u64 0).cells = #[.int .u64 0] by simp [Value.cells]]; rfl
theorem mkF_own (N : Nat) (hN : N ≤ 1048576) (W : World) (base : Nat) (hb : base ≤ W.heap.size) {g : Nat} (hg : g = W.heap.size) : (W.alloc (.cells (madeCells #[.int .u64 0] (N * 1)) 40)).ownsRow base 40 1 (.slice (some ⟨g, 0, none⟩) N N) N (flist (fun _ => 0) N) := by
 subst hg
 have h := World.ownsRow_lit (e := 40) (size := 1) W (madeCells #[.int .u64 0] (N * 1)) N hb (by unfold maxLen; omega) (size_madeCells _ _)
 rw [madeF] at h
 exact h
theorem idxD (g q N : Nat) (hq : q < N) (W : World) : (Instr.indexAt 23 (.slice (some ⟨g, 0, none⟩) N N) (.int .i64 ((q : Nat) : Int))).run Tryz.prog W = .ok (.pointer (some ⟨g, q * 4, none⟩)) W := by
 rw [run_indexAt_slice _ _ _ _ _ _ _ undD, if_pos ⟨by omega, by omega⟩, elemD, sizD]
 simp only [Result.andThen, Int.toNat_natCast, Addr.add_lit, Nat.zero_add]
theorem DM.put {w : World} {base g n cap : Nat} {d : Nat → Option (Int × Int)} {A : Nat → Option Addr} {C : Nat → Nat} (h : DM w base (.slice (some ⟨g, 0, none⟩) n cap) n d A C) {i : Nat} (hi : i < n)
 {dk : Option (Int × Int)} {a1 : Option Addr} {c1 : Nat} (hm : Mag w a1 (nl (dman dk).natAbs) c1 (dman dk).natAbs) (hne : 0 < nl (dman dk).natAbs → ab a1 ≠ g) (hf : 0 < nl (dman dk).natAbs → base ≤ ab a1) :
 DM ((((w.setCell ⟨g, i * 4, none⟩ (.bool (dbad dk))).setCell ⟨g, i * 4 + 1, none⟩ (.bool (decide (dman dk < 0)))).setCell ⟨g, i * 4 + 2, none⟩ (.slice a1 (nl (dman dk).natAbs) c1)).setCell ⟨g, i * 4 + 3, none⟩ (.int .i64 (dexp dk))) base
  (.slice (some ⟨g, 0, none⟩) n cap) n (fun t => if t = i then dk else d t) (fun t => if t = i then a1 else A t) (fun t => if t = i then c1 else C t) :=
 ⟨(h.out.put hi hm hne).1, fun t ht hp => by
  by_cases e : t = i
  · simp only [if_pos e] at hp ⊢; exact hf hp
  · simp only [if_neg e] at hp ⊢; exact h.fr t ht hp⟩
theorem DM.congr {w : World} {base k : Nat} {v : Value} {d d' : Nat → Option (Int × Int)} {A : Nat → Option Addr} {C : Nat → Nat} (h : DM w base v k d A C) (e : ∀ i, i < k → d i = d' i) : DM w base v k d' A C :=
 ⟨h.out.congr e, fun i hi hp => h.fr i hi (by rw [e i hi]; exact hp)⟩
theorem Dms.ces {w : World} {base g n : Nat} {d : Nat → Option (Int × Int)} {A : Nat → Option Addr} {C : Nat → Nat} (h : Dms w base (.slice (some ⟨g, 0, none⟩) n n) n d A C) {i : Nat} (hi : i < n) :
 OB w g ∧ ∃ x0 x1 x2 x3, CE w g (i * 4) x0 ∧ CE w g (i * 4 + 1) x1 ∧ CE w g (i * 4 + 2) x2 ∧ CE w g (i * 4 + 3) x3 := by
 have hl := (h.own.lt g rfl).2
 have hg := dcells_get (mcell d A C) hi
 exact ⟨⟨fun i => h.own.frozenAt i, hl⟩, _, _, _, _, ⟨(h.own.cellAt _ (by omega)).trans hg.1, hl⟩, ⟨(h.own.cellAt _ (by omega)).trans hg.2.1, hl⟩, ⟨(h.own.cellAt _ (by omega)).trans hg.2.2.1, hl⟩, ⟨(h.own.cellAt _ (by omega)).trans hg.2.2.2, hl⟩⟩
noncomputable def resC (B : Nat → Option (Int × Int)) (n k q j i t : Nat) : Option (Int × Int) :=
 if min (t / q) (t % q) < j ∨ (min (t / q) (t % q) = j ∧ max (t / q) (t % q) < i) then rest B n k t else some (0, 0)
theorem isN_rest' (B : Nat → Option (Int × Int)) (n k t : Nat) : IsN (rest B n k t) := isN_dleft _ _ _ _ _ _
theorem rest_lo {B : Nat → Option (Int × Int)} {n k q j i : Nat} (hq : n = k + q) (hj : j ≤ i) (hi : i < q) : rest B n k (j * q + i) = dleft B n (pan B n k) (k + i) (k + j) k := by
 unfold rest
 rw [show n - k = q by omega, idx_div hi, idx_mod hi, show max j i = i by omega, show min j i = j by omega]
theorem rest_hi {B : Nat → Option (Int × Int)} {n k q j i : Nat} (hq : n = k + q) (hj : j ≤ i) (hi : i < q) : rest B n k (i * q + j) = dleft B n (pan B n k) (k + i) (k + j) k := by
 unfold rest
 rw [show n - k = q by omega, idx_div (show j < q by omega), idx_mod (show j < q by omega), show max i j = i by omega, show min i j = j by omega]
theorem resC_step {B : Nat → Option (Int × Int)} {n k q j i : Nat} (hq : n = k + q) (hj : j ≤ i) (hi : i < q) :
 (fun t => if t = i * q + j then dleft B n (pan B n k) (k + i) (k + j) k else (fun t => if t = j * q + i then dleft B n (pan B n k) (k + i) (k + j) k else resC B n k q j i t) t) = resC B n k q j (i + 1) := by
 funext t
 have e := @idx_eq q t
 have l := Nat.mod_lt t (show 0 < q by omega)
 by_cases h1 : t = i * q + j
 · subst h1
   rw [if_pos rfl]
   unfold resC
   rw [rest_hi hq hj hi, idx_div (show j < q by omega), idx_mod (show j < q by omega), if_pos (by omega)]
 · rw [if_neg h1]
   show (if t = j * q + i then _ else _) = _
   by_cases h2 : t = j * q + i
   · subst h2
     rw [if_pos rfl]
     unfold resC
     rw [rest_lo hq hj hi, idx_div hi, idx_mod hi, if_pos (by omega)]
   · rw [if_neg h2]
     unfold resC
     have n1 : ¬ (t / q = i ∧ t % q = j) := fun h => h1 (by rw [← e, h.1, h.2])
     have n2 : ¬ (t / q = j ∧ t % q = i) := fun h => h2 (by rw [← e, h.1, h.2])
     by_cases h3 : min (t / q) (t % q) < j ∨ (min (t / q) (t % q) = j ∧ max (t / q) (t % q) < i)
     · rw [if_pos h3, if_pos (by omega)]
     · rw [if_neg h3, if_neg (by omega)]
theorem resC_next {B : Nat → Option (Int × Int)} {n k q j t : Nat} (ht : t < q * q) : resC B n k q j q t = resC B n k q (j + 1) (j + 1) t := by
 have hq : 0 < q := Nat.pos_of_ne_zero fun e => by rw [e] at ht; simp at ht
 have l := Nat.mod_lt t hq
 have l2 : t / q < q := Nat.div_lt_of_lt_mul ht
 unfold resC
 by_cases h3 : min (t / q) (t % q) < j ∨ (min (t / q) (t % q) = j ∧ max (t / q) (t % q) < q)
 · rw [if_pos h3, if_pos (by omega)]
 · rw [if_neg h3, if_neg (by omega)]
theorem resC_end {B : Nat → Option (Int × Int)} {n k q t : Nat} (ht : t < q * q) : resC B n k q q q t = rest B n k t := by
 have hq : 0 < q := Nat.pos_of_ne_zero fun e => by rw [e] at ht; simp at ht
 have l := Nat.mod_lt t hq
 unfold resC
 rw [if_pos (by omega)]
theorem resC_zero {B : Nat → Option (Int × Int)} {n k q t : Nat} : some (0, 0) = resC B n k q 0 0 t := by
 unfold resC; generalize t / q = a; generalize t % q = b; rw [if_neg (by omega)]
attribute [local irreducible] Calls
theorem dcontr_any (w0 w : World) [Tb w0] [bw0 : From w0 w] (b n k gp ge : Nat) (ae : Option Addr) (M ce : Nat) (B : Nat → Option (Int × Int)) (d : Nat → Option (Int × Int)) [hB : DZ w0 ae M ce B] [hS : St w0.heap.size w b n k (.slice ae M ce) gp ge (pan B n k) d]
 (hM : M = n * n) (hn : n ≤ 64) (hBN : ∀ t, IsN (B t)) (hd : ∀ t, t < n * k → d t = fof (pan B n k t)) (q : Nat) (hq : n = k + q) :
 Calls Tryz.prog 46 #[.pointer (some ⟨b, 0, none⟩), .int .i64 k] w fun o w' => ∃ (r : Nat) (oa : Option Addr) (m oc : Nat) (D : Nat → Option (Int × Int)), o = .returned (.tuple #[.agg #[.int .i64 r, .int .i64 r, .slice oa m oc], .int .i64 (conE B n k)]) ∧ ((∃ A C, DM w' w.heap.size (.slice oa m oc) m D A C) ∧ ∀ i, IsN (D i)) ∧ (conE B n k = 0 → r = q ∧ m = q * q ∧ ∀ t, t < q * q → D t = rest B n k t) ∧ (conE B n k ≠ 0 → r = 0 ∧ m = 0) ∧ Below w.heap.size w w' := by
 obtain ⟨Q, hQ⟩ : ∃ Q, Q = q * q := ⟨_, rfl⟩
 have hQ2 : Q ≤ 4096 := by rw [hQ]; exact Nat.mul_le_mul (show q ≤ 64 by omega) (show q ≤ 64 by omega)
 have hsub : (n : Int) - (k : Int) = (q : Int) := by omega
 have hmul : (q : Int) * (q : Int) = (Q : Int) := by rw [hQ]; exact (Int.natCast_mul q q).symm
 have hmk := fun W => mkD_run Q (by omega) W
 have HSc := fun W [St w0.heap.size W b n k (.slice ae M ce) gp ge (pan B n k) d] [DZ W ae M ce B] [Tb W] (i j : Nat) (hi : k + i < n) (hj : k + j < n) => Lib.hid (frF (schur_any W w0.heap.size b n k gp ge ae M ce B (pan B n k) d hM hn hBN hd (k + i) (k + j) k hi hj (by omega) (by omega)))
 have HV := fun W (s : Option (Int × Int)) (hs : IsN s) a c [i1 : BI W a (nl (dman s).natAbs) c (dman s).natAbs] [Tb W] => Lib.hid (frm (by
  have hb := isN_bounds hs
  have h := dvalid_any W (dbad s) (decide (dman s < 0)) a (nl (dman s).natAbs) c (dman s).natAbs (dexp s) i1.out (Nat.le_trans (nl_le_blen _) (by omega)) tb (by omega) (tz_lim (by omega)) (by omega) (by omega)
  rwa [show nrmB (dbad s) (sgn (decide (dman s < 0)) (dman s).natAbs) (dexp s) = s from by rw [sgn_self]; exact isN_self hs] at h))
 have HNm := fun W (s : Option (Int × Int)) (hs : IsN s) a c [i1 : BI W a (nl (dman s).natAbs) c (dman s).natAbs] [Tb W] => Lib.hid (frF (dNorm_d W (dyin_of hs i1.out) tb))
 have hcE : conE B n k = firstE (conC B n k) k q := by unfold conE; rw [show n - k = q by omega]
 have HcE := Lib.hid hcE
 have HQ := Lib.hid hQ
 have Hq := Lib.hid hq
 have hkn : k + q ≤ 64 := by omega
 clear hcE hQ hM hq
 go_enter Tryz.func46, Tryz.ntmps46
 go_wp2_with fail
 have DM0 := (mkD_own Q (by omega) (w.alloc (.cells #[.int .i64 0, .int .i64 0, .slice none 0 0] 25)) (w.heap.size + 1) (by simp) (g := w.heap.size + 1) (by simp))
 have DM1 : DM _ (w.heap.size + 1) _ Q _ _ _ := ⟨DM0.below ((Below.refl _ _).alloc (Nat.le_refl _) (.cells #[.int .i64 q, .int .i64 q, .slice (some ⟨w.heap.size + 1, 0, none⟩) Q Q] 25)), fun t ht h => absurd h (by decide)⟩
 clear DM0
 go_loopw [26] (fun v wr => ∃ (j : Nat) (A : Nat → Option Addr) (C : Nat → Nat), j ≤ q ∧ v = .int .i64 j ∧ conE B n k = firstE (conC B n k) (k + j) (q - j) ∧ DM wr (w.heap.size + 1) (.slice (some ⟨w.heap.size + 1, 0, none⟩) Q Q) Q (resC B n k q j j) A C ∧ N3 wr w.heap.size (.int .i64 0) (.int .i64 0) (.slice none 0 0) ∧ N3 wr (w.heap.size + 1 + 1) (.int .i64 q) (.int .i64 q) (.slice (some ⟨w.heap.size + 1, 0, none⟩) Q Q) ∧ Below w.heap.size w wr ∧ w.heap.size + 3 ≤ wr.heap.size) (fun v _ => q - (intOf v).toNat)
 case atStart => exact ⟨0, _, _, by omega, rfl, HcE.out, DM1.congr (fun t _ => resC_zero), inferInstance, inferInstance, zbh, by simp⟩
 case round =>
  clear DM1 HcE
  obtain ⟨j, A, C, hj, rfl, hce, iM, iR, iB, hbr, hsz⟩ := hrel
  have HCE := Lib.hid hce
  clear hce
  by_cases hlt : j < q
  · have hcc : conC B n k (k + j) = firstE (resE' B n k (k + j)) (k + j) (q - j) := by unfold conC; rw [show n - (k + j) = q - j by have := Hq.out; omega]
    have HCC := Lib.hid hcc
    clear hcc
    go_wp2_with fail
    go_loopw [9] (fun v wr => ∃ (i : Nat) (A : Nat → Option Addr) (C : Nat → Nat), j ≤ i ∧ i ≤ q ∧ v = .int .i64 i ∧ conC B n k (k + j) = firstE (resE' B n k (k + j)) (k + i) (q - i) ∧ DM wr (w.heap.size + 1) (.slice (some ⟨w.heap.size + 1, 0, none⟩) Q Q) Q (resC B n k q j i) A C ∧ N3 wr w.heap.size (.int .i64 0) (.int .i64 0) (.slice none 0 0) ∧ N3 wr (w.heap.size + 1 + 1) (.int .i64 q) (.int .i64 q) (.slice (some ⟨w.heap.size + 1, 0, none⟩) Q Q) ∧ Below w.heap.size w wr ∧ w.heap.size + 3 ≤ wr.heap.size) (fun v _ => q - (intOf v).toNat)
    case atStart => exact ⟨j, A, C, by omega, hj, rfl, HCC.out, iM, iR, iB, hbr, hsz⟩
    case round =>
     clear iM iR iB hbr hsz HCC
     obtain ⟨i, A, C, hi0, hi1, rfl, hcc, iM, iR, iB, hbr, hsz⟩ := hrel
     have HCC := Lib.hid hcc
     clear hcc
     haveI bwr : From w wr := ⟨hbr⟩
     by_cases hlt2 : i < q
     · have hki : k + i < n := by have := Hq.out; omega
       have hkj : k + j < n := by have := Hq.out; omega
       have HSi := fun W [St w0.heap.size W b n k (.slice ae M ce) gp ge (pan B n k) d] [DZ W ae M ce B] [Tb W] => HSc W i j hki hkj
       rw [show (((k + i : Nat)) : Int) = (k : Int) + (i : Int) by omega, show (((k + j : Nat)) : Int) = (k : Int) + (j : Int) by omega] at HSi
       have hsN := isN_dleft B n (pan B n k) (k + i) (k + j) k
       have hst := resC_step (B := B) Hq.out hi0 hlt2
       have hre : resE' B n k (k + j) (k + i) = if dbad (dleft B n (pan B n k) (k + i) (k + j) k) then 233 else 0 := rfl
       generalize dleft B n (pan B n k) (k + i) (k + j) k = s at *
       have HVs := fun W => HV W s hsN
       have HNs := fun W => HNm W s hsN
       have HST := Lib.hid hst
       clear hst
       by_cases hb : dbad s = true
       · rw [if_pos hb] at hre
         have h1 : conC B n k (k + j) = 233 := by rw [HCC.out, firstE_no (by rw [hre]; decide) (by omega), hre]
         have h2 : conE B n k = 233 := by rw [HCE.out, firstE_no (by rw [h1]; decide) (by omega), h1]
         have HE := Lib.hid h2
         rw [hb] at HVs
         simp only [hb] at HSi
         clear h1 h2 hre HNs
         go_wp2_with fail
         refine (HSi _).out.mono ?_; rintro o v1 ⟨a1, c1, rfl, i1, b1, f1⟩
         go_wp2_with fail
         refine (HVs _ _ _).out.mono ?_; rintro o v2 ⟨rfl, b2⟩
         go_wp2_with fail
         refine bodyPost_ret (v := .tuple #[.agg #[.int .i64 0, .int .i64 0, .slice none 0 0], .int .i64 233]) (by simp only [results, Tryz.results46]; go_simp) rfl ?_
         rw [HE.out]
         exact ⟨0, none, 0, 0, fun _ => none, rfl, ⟨⟨_, _, DM.nil _ _ _⟩, fun _ => isN_none⟩, (fun h => by cases h), (fun _ => ⟨rfl, rfl⟩), zbh⟩
       · rw [if_neg hb] at hre
         have h1 : conC B n k (k + j) = firstE (resE' B n k (k + j)) (k + (i + 1)) (q - (i + 1)) := by rw [HCC.out, firstE_ok hre (by omega)]; congr 1
         have HC2 := Lib.hid h1
         have hb' : dbad s = false := by simpa using hb
         have HB' := Lib.hid hb'
         have hHV : Hid (∀ W a c [i1 : BI W a (nl (dman s).natAbs) c (dman s).natAbs] [Tb W], Hid (Calls Tryz.prog 67 #[.agg #[.bool (dbad s), .bool (decide (dman s < 0)), .slice a (nl (dman s).natAbs) c, .int .i64 (dexp s)]] W fun e w' => e = .returned (.bool true) ∧ From W w')) := by
          intro W a c i1 t1
          have h := (HVs W a c).out
          have e : (!dbad s) = true := by rw [HB'.out]; rfl
          rw [e] at h
          exact h
         obtain ⟨P, hP⟩ : ∃ P, P = j * q := ⟨_, rfl⟩
         obtain ⟨R, hR⟩ : ∃ R, R = i * q := ⟨_, rfl⟩
         have hjq : (j : Int) * (q : Int) = (P : Int) := by rw [hP]; exact (Int.natCast_mul j q).symm
         have hiq : (i : Int) * (q : Int) = (R : Int) := by rw [hR]; exact (Int.natCast_mul i q).symm
         have P1 : P + i < Q := by rw [hP, HQ.out]; exact idx_lt hlt2 hlt
         have R1 : R + j < Q := by rw [hR, HQ.out]; exact idx_lt hlt hlt2
         rw [← hP, ← hR] at HST
         have y1 := idxD (w.heap.size + 1) (P + i) Q P1
         have y2 := idxD (w.heap.size + 1) (R + j) Q R1
         rw [show (((P + i : Nat)) : Int) = (P : Int) + (i : Int) by omega] at y1
         rw [show (((R + j : Nat)) : Int) = (R : Int) + (j : Int) by omega] at y2
         have x1 : IntKind.i64.wrap (R : Int) = (R : Int) := by rw [IntKind.wrap_i64]; omega
         have x2 : IntKind.i64.wrap ((R : Int) + (j : Int)) = (R : Int) + (j : Int) := by rw [IntKind.wrap_i64]; omega
         obtain ⟨o1, z0', z1', z2', z3', z0, z1, z2, z3⟩ := iM.out.ces P1
         clear h1 hre hb hb' HVs hP hR
         go_wp2_with fail
         refine (HSi _).out.mono ?_; rintro o v1 ⟨a1, c1, rfl, i1, b1, f1⟩
         go_wp2_with fail
         refine (hHV.out _ _ _).out.mono ?_; rintro o v2 ⟨rfl, b2⟩
         go_wp2_with fail
         have e1 := b1.out.size
         have e2 := b2.out.size
         simp at e2
         have nf1 : 0 < nl (dman s).natAbs → ab a1 ≠ w.heap.size + 1 := fun h => by have := f1 h; omega
         have D2 : DM v2 (w.heap.size + 1) (.slice (some ⟨w.heap.size + 1, 0, none⟩) Q Q) Q (resC B n k q j i) A C := inferInstance
         have M1 := D2.put P1 (inferInstance : BI v2 a1 (nl (dman s).natAbs) c1 (dman s).natAbs).out nf1 (fun h => by have := f1 h; omega)
         have ns : v1.heap.size ≠ w.heap.size + 1 := by omega
         have R2 : N3 v2 w.heap.size (.int .i64 0) (.int .i64 0) (.slice none 0 0) := inferInstance
         have B2 : N3 v2 (w.heap.size + 1 + 1) (.int .i64 q) (.int .i64 q) (.slice (some ⟨w.heap.size + 1, 0, none⟩) Q Q) := inferInstance
         have S2 : DB v2 v1.heap.size (dbad s) (decide (dman s < 0)) (.slice a1 (nl (dman s).natAbs) c1) (dexp s) := inferInstance
         have I2 : BI v2 a1 (nl (dman s).natAbs) c1 (dman s).natAbs := inferInstance
         have L2 : Below w.heap.size w v2 := zbh
         have R3' : N3 ((((v2.setCell ⟨w.heap.size + 1, (P + i) * 4, none⟩ (.bool (dbad s))).setCell ⟨w.heap.size + 1, (P + i) * 4 + 1, none⟩ (.bool (decide (dman s < 0)))).setCell ⟨w.heap.size + 1, (P + i) * 4 + 2, none⟩ (.slice a1 (nl (dman s).natAbs) c1)).setCell ⟨w.heap.size + 1, (P + i) * 4 + 3, none⟩ (.int .i64 (dexp s))) w.heap.size (.int .i64 0) (.int .i64 0) (.slice none 0 0) := N3.sen (N3.sen (N3.sen (N3.sen R2 (by omega) _ _) (by omega) _ _) (by omega) _ _) (by omega) _ _
         have B3 : N3 ((((v2.setCell ⟨w.heap.size + 1, (P + i) * 4, none⟩ (.bool (dbad s))).setCell ⟨w.heap.size + 1, (P + i) * 4 + 1, none⟩ (.bool (decide (dman s < 0)))).setCell ⟨w.heap.size + 1, (P + i) * 4 + 2, none⟩ (.slice a1 (nl (dman s).natAbs) c1)).setCell ⟨w.heap.size + 1, (P + i) * 4 + 3, none⟩ (.int .i64 (dexp s))) (w.heap.size + 1 + 1) (.int .i64 q) (.int .i64 q) (.slice (some ⟨w.heap.size + 1, 0, none⟩) Q Q) := N3.sen (N3.sen (N3.sen (N3.sen B2 (by omega) _ _) (by omega) _ _) (by omega) _ _) (by omega) _ _
         have S3 : DB ((((v2.setCell ⟨w.heap.size + 1, (P + i) * 4, none⟩ (.bool (dbad s))).setCell ⟨w.heap.size + 1, (P + i) * 4 + 1, none⟩ (.bool (decide (dman s < 0)))).setCell ⟨w.heap.size + 1, (P + i) * 4 + 2, none⟩ (.slice a1 (nl (dman s).natAbs) c1)).setCell ⟨w.heap.size + 1, (P + i) * 4 + 3, none⟩ (.int .i64 (dexp s))) v1.heap.size (dbad s) (decide (dman s < 0)) (.slice a1 (nl (dman s).natAbs) c1) (dexp s) := ⟨(((S2.out.set ns _ _).set ns _ _).set ns _ _).set ns _ _⟩
         have I3 : BI ((((v2.setCell ⟨w.heap.size + 1, (P + i) * 4, none⟩ (.bool (dbad s))).setCell ⟨w.heap.size + 1, (P + i) * 4 + 1, none⟩ (.bool (decide (dman s < 0)))).setCell ⟨w.heap.size + 1, (P + i) * 4 + 2, none⟩ (.slice a1 (nl (dman s).natAbs) c1)).setCell ⟨w.heap.size + 1, (P + i) * 4 + 3, none⟩ (.int .i64 (dexp s))) a1 (nl (dman s).natAbs) c1 (dman s).natAbs := ⟨(((I2.out.set nf1 _ _).set nf1 _ _).set nf1 _ _).set nf1 _ _⟩
         have L3 : Below w.heap.size w ((((v2.setCell ⟨w.heap.size + 1, (P + i) * 4, none⟩ (.bool (dbad s))).setCell ⟨w.heap.size + 1, (P + i) * 4 + 1, none⟩ (.bool (decide (dman s < 0)))).setCell ⟨w.heap.size + 1, (P + i) * 4 + 2, none⟩ (.slice a1 (nl (dman s).natAbs) c1)).setCell ⟨w.heap.size + 1, (P + i) * 4 + 3, none⟩ (.int .i64 (dexp s))) := (((L2.setCell (by simp) _).setCell (by simp) _).setCell (by simp) _).setCell (by simp) _
         have e3 : wr.heap.size ≤ (((((v2.setCell ⟨w.heap.size + 1, (P + i) * 4, none⟩ (.bool (dbad s))).setCell ⟨w.heap.size + 1, (P + i) * 4 + 1, none⟩ (.bool (decide (dman s < 0)))).setCell ⟨w.heap.size + 1, (P + i) * 4 + 2, none⟩ (.slice a1 (nl (dman s).natAbs) c1)).setCell ⟨w.heap.size + 1, (P + i) * 4 + 3, none⟩ (.int .i64 (dexp s)))).heap.size := by simp; omega
         have e4 : v1.heap.size < (((((v2.setCell ⟨w.heap.size + 1, (P + i) * 4, none⟩ (.bool (dbad s))).setCell ⟨w.heap.size + 1, (P + i) * 4 + 1, none⟩ (.bool (decide (dman s < 0)))).setCell ⟨w.heap.size + 1, (P + i) * 4 + 2, none⟩ (.slice a1 (nl (dman s).natAbs) c1)).setCell ⟨w.heap.size + 1, (P + i) * 4 + 3, none⟩ (.int .i64 (dexp s)))).heap.size := by simp; omega
         clear R2 B2 S2 I2 L2 D2 b1 b2 i1 iM iR iB hbr bwr z0 z1 z2 z3 o1
         generalize ((((v2.setCell ⟨w.heap.size + 1, (P + i) * 4, none⟩ (.bool (dbad s))).setCell ⟨w.heap.size + 1, (P + i) * 4 + 1, none⟩ (.bool (decide (dman s < 0)))).setCell ⟨w.heap.size + 1, (P + i) * 4 + 2, none⟩ (.slice a1 (nl (dman s).natAbs) c1)).setCell ⟨w.heap.size + 1, (P + i) * 4 + 3, none⟩ (.int .i64 (dexp s))) = u1 at *
         haveI L3' : From w u1 := ⟨L3⟩
         haveI M1' : DM u1 (w.heap.size + 1) (.slice (some ⟨w.heap.size + 1, 0, none⟩) Q Q) Q (fun t => if t = P + i then s else resC B n k q j i t) (fun t => if t = P + i then a1 else A t) (fun t => if t = P + i then c1 else C t) := M1
         obtain ⟨o1, z0', z1', z2', z3', z0, z1, z2, z3⟩ := M1.out.ces R1
         haveI n1 : NB v1.heap.size (w.heap.size + 1) := ⟨by omega⟩
         haveI n2 : NB (w.heap.size + 1 + 1) (w.heap.size + 1) := ⟨by omega⟩
         haveI k0 : CE u1 v1.heap.size 0 (.bool (dbad s)) := ⟨S3.out.c0, S3.out.lt⟩
         haveI k1 : CE u1 v1.heap.size 1 (.bool (decide (dman s < 0))) := ⟨S3.out.c1, S3.out.lt⟩
         haveI k2 : CE u1 v1.heap.size 2 (.slice a1 (nl (dman s).natAbs) c1) := ⟨S3.out.c2, S3.out.lt⟩
         haveI k3 : CE u1 v1.heap.size 3 (.int .i64 (dexp s)) := ⟨S3.out.c3, S3.out.lt⟩
         haveI k4 : CE u1 (w.heap.size + 1 + 1) 2 (.slice (some ⟨w.heap.size + 1, 0, none⟩) Q Q) := ⟨B3.c2, B3.lt⟩
         clear S3
         generalize v1.heap.size = bs at *
         first
         | go_region_held3 (fun w' => w'.cell? ⟨bs, 0, none⟩ = some (.bool (dbad s)) ∧ w'.cell? ⟨bs, 1, none⟩ = some (.bool (decide (dman s < 0))) ∧ w'.cell? ⟨bs, 2, none⟩ = some (.slice a1 (nl (dman s).natAbs) c1) ∧ w'.cell? ⟨bs, 3, none⟩ = some (.int .i64 (dexp s)) ∧ w'.cell? ⟨w.heap.size + 1 + 1, 2, none⟩ = some (.slice (some ⟨w.heap.size + 1, 0, none⟩) Q Q)) (first | (go_simp; done))
          (first
           | (go_at_call 72; refine (HNs _ _ _).out.mono ?_; rintro o v3 ⟨a3, c3, rfl, i3, b3, f3⟩)
           | fail)
         | fail "region"
         all_goals (
          have e5 := b3.out.size
          simp at e5
          have nf3 : 0 < nl (dman s).natAbs → ab a3 ≠ w.heap.size + 1 := fun h => by have := f3 h; simp at this; omega
          have D4 : DM v3 (w.heap.size + 1) (.slice (some ⟨w.heap.size + 1, 0, none⟩) Q Q) Q (fun t => if t = P + i then s else resC B n k q j i t) (fun t => if t = P + i then a1 else A t) (fun t => if t = P + i then c1 else C t) := inferInstance
          have M4 := D4.put R1 i3.out nf3 (fun h => by have := f3 h; simp at this; omega)
          rw [HST.out] at M4
          have R4 : N3 v3 w.heap.size (.int .i64 0) (.int .i64 0) (.slice none 0 0) := inferInstance
          have B4 : N3 v3 (w.heap.size + 1 + 1) (.int .i64 q) (.int .i64 q) (.slice (some ⟨w.heap.size + 1, 0, none⟩) Q Q) := inferInstance
          have L4 : Below w.heap.size w v3 := zbh
          have R5 : N3 ((((v3.setCell ⟨w.heap.size + 1, (R + j) * 4, none⟩ (.bool (dbad s))).setCell ⟨w.heap.size + 1, (R + j) * 4 + 1, none⟩ (.bool (decide (dman s < 0)))).setCell ⟨w.heap.size + 1, (R + j) * 4 + 2, none⟩ (.slice a3 (nl (dman s).natAbs) c3)).setCell ⟨w.heap.size + 1, (R + j) * 4 + 3, none⟩ (.int .i64 (dexp s))) w.heap.size (.int .i64 0) (.int .i64 0) (.slice none 0 0) := N3.sen (N3.sen (N3.sen (N3.sen R4 (by omega) _ _) (by omega) _ _) (by omega) _ _) (by omega) _ _
          have B5 : N3 ((((v3.setCell ⟨w.heap.size + 1, (R + j) * 4, none⟩ (.bool (dbad s))).setCell ⟨w.heap.size + 1, (R + j) * 4 + 1, none⟩ (.bool (decide (dman s < 0)))).setCell ⟨w.heap.size + 1, (R + j) * 4 + 2, none⟩ (.slice a3 (nl (dman s).natAbs) c3)).setCell ⟨w.heap.size + 1, (R + j) * 4 + 3, none⟩ (.int .i64 (dexp s))) (w.heap.size + 1 + 1) (.int .i64 q) (.int .i64 q) (.slice (some ⟨w.heap.size + 1, 0, none⟩) Q Q) := N3.sen (N3.sen (N3.sen (N3.sen B4 (by omega) _ _) (by omega) _ _) (by omega) _ _) (by omega) _ _
          have L5 : Below w.heap.size w ((((v3.setCell ⟨w.heap.size + 1, (R + j) * 4, none⟩ (.bool (dbad s))).setCell ⟨w.heap.size + 1, (R + j) * 4 + 1, none⟩ (.bool (decide (dman s < 0)))).setCell ⟨w.heap.size + 1, (R + j) * 4 + 2, none⟩ (.slice a3 (nl (dman s).natAbs) c3)).setCell ⟨w.heap.size + 1, (R + j) * 4 + 3, none⟩ (.int .i64 (dexp s))) := (((L4.setCell (by simp) _).setCell (by simp) _).setCell (by simp) _).setCell (by simp) _
          have e6 : w.heap.size + 3 ≤ (((((v3.setCell ⟨w.heap.size + 1, (R + j) * 4, none⟩ (.bool (dbad s))).setCell ⟨w.heap.size + 1, (R + j) * 4 + 1, none⟩ (.bool (decide (dman s < 0)))).setCell ⟨w.heap.size + 1, (R + j) * 4 + 2, none⟩ (.slice a3 (nl (dman s).natAbs) c3)).setCell ⟨w.heap.size + 1, (R + j) * 4 + 3, none⟩ (.int .i64 (dexp s)))).heap.size := by simp; omega
          generalize ((((v3.setCell ⟨w.heap.size + 1, (R + j) * 4, none⟩ (.bool (dbad s))).setCell ⟨w.heap.size + 1, (R + j) * 4 + 1, none⟩ (.bool (decide (dman s < 0)))).setCell ⟨w.heap.size + 1, (R + j) * 4 + 2, none⟩ (.slice a3 (nl (dman s).natAbs) c3)).setCell ⟨w.heap.size + 1, (R + j) * 4 + 3, none⟩ (.int .i64 (dexp s))) = u2 at *
          clear D4 R4 B4 L4 M1 M1' L3 L3' R3' B3 I3 k0 k1 k2 k3 k4 o1 z0 z1 z2 z3 b3 i3 f3
          go_wp2_with fail
          go_roundw
          case rel => exact ⟨i + 1, _, _, by omega, by omega, by go_num, HC2.out, M4, R5, B5, L5, e6⟩
          case measure => simp [intOf]; omega)
     · have hiq : i = q := by omega
       rw [hiq] at HCC iM
       have hc0 : conC B n k (k + j) = 0 := by rw [HCC.out, Nat.sub_self]; rfl
       have HCF := Lib.hid (show conE B n k = firstE (conC B n k) (k + (j + 1)) (q - (j + 1)) by rw [HCE.out, firstE_ok hc0 (by omega)]; congr 1)
       have M5 := iM.congr (fun t ht => resC_next (by rw [← HQ.out]; exact ht))
       clear hc0 HCC iM hiq
       go_wp2_with fail
       go_roundw
       case rel => exact ⟨j + 1, _, _, by omega, by go_num, HCF.out, M5, iR, iB, hbr, hsz⟩
       case measure => simp [intOf]; omega
  · have hjq : j = q := by omega
    rw [hjq] at HCE iM
    have hc0 : conE B n k = 0 := by rw [HCE.out, Nat.sub_self]; rfl
    have HC0 := Lib.hid hc0
    have M5 := iM.congr (d' := rest B n k) (fun t ht => resC_end (by rw [← HQ.out]; exact ht))
    have M6 := ((M5.sen (show w.heap.size < w.heap.size + 1 by omega) 0 (.int .i64 q)).sen (show w.heap.size < w.heap.size + 1 by omega) 1 (.int .i64 q)).sen (show w.heap.size < w.heap.size + 1 by omega) 2 (.slice (some ⟨w.heap.size + 1, 0, none⟩) Q Q)
    have hl : w.heap.size < w.heap.size + 1 := by omega
    haveI bwr : From w wr := ⟨hbr⟩
    clear hc0 HCE iM hjq
    go_wp2_with fail
    refine bodyPost_ret (v := .tuple #[.agg #[.int .i64 q, .int .i64 q, .slice (some ⟨w.heap.size + 1, 0, none⟩) Q Q], .int .i64 0]) (by simp only [results, Tryz.results46]; go_simp) rfl ?_
    rw [HC0.out]
    exact ⟨q, _, Q, Q, rest B n k, rfl, ⟨⟨_, _, M6.mono (by omega)⟩, fun i => isN_rest' _ _ _ _⟩, (fun _ => ⟨rfl, HQ.out, fun _ _ => rfl⟩), (fun h => absurd rfl h), zbh⟩
end Go.Proofs.YtablcbgeeeboeaaGreatDoor
