/-
  Walks: package accum: NormInf.
-/
import Derived.Test.YtmpcikkimcehnaaGreatDoorZbKA
namespace Go.Proofs.YtmpcikkimcehnaaGreatDoor
open Go.RowKit Sp

theorem Dys.set {w : World} {a : Option Addr} {n cap : Nat} {L : Nat → El} (h : Dys w a n cap L) {g : Nat} (hne : 0 < n → ab a ≠ g) (hm : ∀ i, i < n → 0 < (L i).n → ab (L i).a ≠ g) (j : Nat) (u : Value) :
    Dys (w.setCell ⟨g, j, none⟩ u) a n cap L :=
  ⟨h.fits, h.lim, h.addr, fun i hi => (cell_set_ne (hne (by omega)) _ _ _).trans (h.c0 i hi), fun i hi => (cell_set_ne (hne (by omega)) _ _ _).trans (h.c1 i hi), fun i hi => (cell_set_ne (hne (by omega)) _ _ _).trans (h.c2 i hi),
    fun i hi => (cell_set_ne (hne (by omega)) _ _ _).trans (h.c3 i hi), fun i hi => (h.m i hi).set (hm i hi) j u, h.b, fun hn => by rw [World.size_setCell]; exact h.old hn⟩

theorem isN_dinf {d : Nat → Option (Int × Int)} (h : ∀ i, IsN (d i)) (k : Nat) : IsN (dinf d k) := by
  induction k with
  | zero => exact isN_zz
  | succ n ih =>
    show IsN (if 0 < dcmp (d n) (dinf d n) then d n else dinf d n)
    split
    · exact h n
    · exact ih

set_option maxRecDepth 100000 in
set_option maxHeartbeats 8000000 in
theorem asizes_fresh (w : World) (hT : Tab w) (a : Option Addr) (n cap : Nat) (L : Nat → Nat) (hL : Fls w a n cap L) (hn : n ≤ 1000) :
    Calls Tryz.prog 183 #[.slice a n cap] w fun e w' => ∃ v A C, e = .returned v ∧ Dms w' w.heap.size v n (fun i => dabs (fof (L i))) A C ∧ (∀ i, i < n → 0 < nl (dman (dabs (fof (L i)))).natAbs → w.heap.size ≤ ab (A i)) ∧ Below w.heap.size w w' := by
  have l1 := hL.lim
  have l2 := hL.fits
  obtain ⟨d, hd⟩ : ∃ d : Nat → Option (Int × Int), d = fun i => dabs (fof (L i)) := ⟨_, rfl⟩
  have hdi : ∀ i, d i = dabs (fof (L i)) := fun i => by rw [hd]
  rw [← hd]
  simp only [← hdi]
  have HO := fun (k : Nat) (hk : k < n) W ht => Lib.hid (fof_any W (L k) (hL.b k hk) ht)
  have HA := fun (k : Nat) W b c (h : Mag W b (nl (dman (fof (L k))).natAbs) c (dman (fof (L k))).natAbs) ht => Lib.hid (show Calls Tryz.prog 60 #[.agg #[.bool (dbad (fof (L k))), .bool (decide (dman (fof (L k)) < 0)), .slice b (nl (dman (fof (L k))).natAbs) c, .int .i64 (dexp (fof (L k)))]] W (RetDy W (d k)) from by rw [hdi]; exact dabs_any W _ _ _ _ _ _ _ (dyin_of (isN_fof (L k)) h) ht)
  have HLL := Lib.hid hL
  clear hL hd hdi
  go_enter Tryz.func183, Tryz.ntmps183
  go_wp2_with fail
  have hown0 := World.ownsRow_nil w w.heap.size 26 4
  go_loopw [3, 8] (fun v i wr => ∃ (k : Nat) (A : Nat → Option Addr) (C : Nat → Nat), k ≤ n ∧ i = .int .i64 k ∧ Dms wr w.heap.size v k d A C ∧ (∀ i, i < k → 0 < nl (dman (d i)).natAbs → w.heap.size ≤ ab (A i)) ∧ Below w.heap.size w wr) (fun _ i _ => n - (intOf i).toNat)
  case atStart => exact ⟨0, fun _ => none, fun _ => 0, by omega, rfl, ⟨hown0, fun i hi => by omega, fun i hi => by omega⟩, fun i hi => by omega, Below.refl _ _⟩
  case round =>
    clear hown0
    obtain ⟨k, A, C, hk, rfl, hN, hG, hb⟩ := hrel
    have HGG := Lib.hid hG
    clear hG
    have HNM := Lib.hid hN
    clear hN
    by_cases hlt : k < n
    · have hL' := HLL.out.below hb
      have k0 := hL'.cell k hlt
      have i1 := hL'.idx k hlt
      have HOk := HO k hlt
      have HAk := HA k
      have hsz := hb.size
      generalize (((L k : Nat)) : Int) = x at k0 HOk
      generalize fof (L k) = dx at HOk HAk
      obtain ⟨dk, hdk⟩ : ∃ dk, dk = d k := ⟨_, rfl⟩
      rw [← hdk] at HAk
      have HDK := Lib.hid hdk
      clear hL' hdk
      go_wp2_with fail
      refine (HOk _ (hT.below hb)).out.mono ?_
      rintro e w1 ⟨a1, c1, rfl, m1, hb1, _⟩
      have hb2 := below_box (w := w) hb hb1
      have hs1 := hb1.size
      have N1 : Dms w1 w.heap.size u3 k d A C := HNM.out.below hb1
      clear hb1
      go_wp2_with fail
      refine (HAk _ a1 c1 m1 (hT.below hb2)).out.mono ?_
      rintro e w2 ⟨a2, c2, rfl, m2, hb3, hf2⟩
      have hb4 := below_box (w := w) hb2 hb3
      have hs2 := hb3.size
      have N2 : Dms w2 w.heap.size u3 k d A C := N1.below hb3
      have hne : 0 < nl (dman dk).natAbs → some (ab a2) ≠ u3.ownBlock := fun h0 h1 => by
        have h2 := (N1.own.lt (ab a2) h1.symm).2
        have h3 := hf2 h0
        omega
      go_wp2_with (at_builtin; refine app_dyad rfl _ _ rfl w.heap.size _ k _ rfl _ (dbad dk) (decide (dman dk < 0)) (.slice a2 (nl (dman dk).natAbs) c2) (dexp dk) rfl rfl (N2.own.alloc (.cells #[.bool (dbad dk), .bool (decide (dman dk < 0)), .slice a2 (nl (dman dk).natAbs) c2, .int .i64 (dexp dk)] 26)) (by go_simp) (by go_simp) (by go_simp) (by go_simp) (by omega) (by rw [World.size_alloc]; omega) ?_; intro v3 w3 hown3 hg3 hob3)
      have N3 : Dms (w2.alloc (.cells #[.bool (dbad dk), .bool (decide (dman dk < 0)), .slice a2 (nl (dman dk).natAbs) c2, .int .i64 (dexp dk)] 26)) (w.heap.size) _ k d A C := N2.below ((Below.refl _ _).alloc (Nat.le_refl _) _)
      have hf9 : 0 < nl (dman dk).natAbs → w.heap.size ≤ ab a2 := fun h0 => by have := hf2 h0; omega
      have hdk := HDK.out
      clear HDK
      subst hdk
      have N4 := N3.app hown3 hg3 hob3 (m2.alloc _) hne
      have hB4 : Below w.heap.size w w3 := Below.trans (hb4.alloc hb4.size _) (below_grown N3.own hg3 (by rw [World.size_alloc]; omega))
      have hG4 : ∀ i, i < k + 1 → 0 < nl (dman (d i)).natAbs → w.heap.size ≤ ab (if i = k then a2 else A i) := fun i hi h0 => by
        by_cases hik : i = k
        · subst hik; simp only [if_pos]; exact hf9 h0
        · simp only [if_neg hik]; exact HGG.out i (by omega) h0
      go_roundw
      case rel => exact ⟨k + 1, _, _, by omega, by go_num, N4, hG4, hB4⟩
      case measure => simp [intOf]; omega
    · obtain rfl : k = n := by omega
      obtain ⟨oa, ocap, hv⟩ := own_slice' HNM.out.own
      subst hv
      go_wp2_with fail
      refine bodyPost_ret (v := .slice oa k ocap) (by simp only [results, Tryz.results183]; go_simp) rfl ?_
      exact ⟨_, A, C, rfl, HNM.out, HGG.out, hb⟩

set_option maxRecDepth 100000 in
set_option maxHeartbeats 20000000 in
theorem ainf_any (w : World) (hT : Tab w) (a : Option Addr) (n cap : Nat) (X : Nat → Nat) (hX : Fls w a n cap X) (hn : n ≤ 1000) (hf : allfin X n = true) (d : Nat → Option (Int × Int)) (hd : d = fun i => dabs (fof (X i))) :
    Calls Tryz.prog 58 #[.slice a n cap] w (RetDy w (dinf d n)) := by
  have hdi : ∀ i, d i = dabs (fof (X i)) := fun i => by rw [hd]
  have HP := fun W ht h => Lib.hid (asizes_fresh W ht a n cap X h hn)
  simp only [← hdi] at HP
  rw [show (fun i => d i) = d from rfl] at HP
  have HF := fun W h => Lib.hid (afinite_any W a n cap X h)
  rw [hf] at HF
  have HND : ∀ i, IsN (d i) := fun i => by rw [hdi]; exact isN_abs (isN_fof _)
  have HNI : ∀ k, IsN (dinf d k) := fun k => isN_dinf HND k
  have HC := fun (k : Nat) W b1 q1 b2 q2 (h1 : Mag W b1 (nl (dman (d k)).natAbs) q1 (dman (d k)).natAbs) (h2 : Mag W b2 (nl (dman (dinf d k)).natAbs) q2 (dman (dinf d k)).natAbs) ht => Lib.hid (dcmp_any W _ _ _ _ _ _ _ _ _ _ _ _ _ _ (dyin_of (HND k) h1) (dyin_of (HNI k) h2) ht)
  have HX := Lib.hid hX
  clear hX hd hdi hf
  go_enter Tryz.func58, Tryz.ntmps58
  go_wp2_with fail
  have Ir := (DyV.made' w 26 false false (.slice none 0 0) 0 (n := w.heap.size) (by rfl))
  have B0 : Below w.heap.size w (w.alloc (.cells #[.bool false, .bool false, (.slice none 0 0), .int .i64 0] 26)) := zbh
  generalize (w.alloc (.cells #[.bool false, .bool false, (.slice none 0 0), .int .i64 0] 26)) = w0 at Ir B0 ⊢
  generalize hb0 : w.heap.size = b0 at Ir ⊢
  obtain ⟨rc0, rc1, rc2, rc3, rc4, rc5⟩ := Ir
  have Vr0 := Lib.hid (DyV.mk rc0 rc1 rc2 rc3 rc4 rc5)
  refine (HF _ (HX.out.below (have := Beh.mk B0; zbh))).out.mono ?_; rintro e w9 ⟨rfl, rfl⟩; go_wp2_with fail
  have Vt1 := (DyV.made' w0 26 false false (.slice none 0 0) 0 (n := w0.heap.size) (by rfl))
  have Vr1 := (DyV.alloc Vr0.out (.cells #[.bool false, .bool false, (.slice none 0 0), .int .i64 0] 26))
  have B1 : Below w.heap.size w (w0.alloc (.cells #[.bool false, .bool false, (.slice none 0 0), .int .i64 0] 26)) := (have := Beh.mk B0; zbh)
  have nrt : ¬ b0 = w0.heap.size := by have := Vr0.out.lt; omega
  have ntr : ¬ w0.heap.size = b0 := by have := Vr0.out.lt; omega
  have gt : w.heap.size ≤ w0.heap.size := by have := B0.size; omega
  generalize (w0.alloc (.cells #[.bool false, .bool false, (.slice none 0 0), .int .i64 0] 26)) = w1 at Vt1 Vr1 B1 ⊢
  generalize w0.heap.size = zt at Vt1 nrt ntr gt ⊢
  (try clear rc0 rc1 rc2 rc3 rc4)
  obtain ⟨rc0, rc1, rc2, rc3, rc4, rc5⟩ := Vr1
  have Vr1 := Lib.hid (DyV.mk rc0 rc1 rc2 rc3 rc4 rc5)
  (try clear tc0 tc1 tc2 tc3 tc4)
  obtain ⟨tc0, tc1, tc2, tc3, tc4, tc5⟩ := Vt1
  have Vt1 := Lib.hid (DyV.mk tc0 tc1 tc2 tc3 tc4 tc5)
  refine (HP _ (hT.below (have := Beh.mk B1; zbh)) (HX.out.below (have := Beh.mk B1; zbh))).out.mono ?_
  rintro e w2 ⟨v, A, C, rfl, hD2, hG2, hb2⟩
  have Vr2 : DyV w2 b0 false false (.slice none 0 0) 0 := (Vr1.out.on.below hb2)
  (try clear rc0 rc1 rc2 rc3 rc4)
  obtain ⟨rc0, rc1, rc2, rc3, rc4, rc5⟩ := Vr2
  have Vr2 := Lib.hid (DyV.mk rc0 rc1 rc2 rc3 rc4 rc5)
  have Vt2 : DyV w2 zt false false (.slice none 0 0) 0 := (Vt1.out.on.below hb2)
  (try clear tc0 tc1 tc2 tc3 tc4)
  obtain ⟨tc0, tc1, tc2, tc3, tc4, tc5⟩ := Vt2
  have Vt2 := Lib.hid (DyV.mk tc0 tc1 tc2 tc3 tc4 tc5)
  have B2 := below_box (w := w) (have := Beh.mk B1; zbh) hb2
  clear hb2
  obtain ⟨oa, ocap, hva, HY⟩ := hD2.dys HND
  have hla : 0 < n → zt < ab oa ∧ b0 < ab oa := fun h0 => by
    have e1 := HY.addr h0
    have e2 := (hD2.own.lt (ab oa) (by rw [hva, e1]; rfl)).1
    have := Vt1.out.lt
    have := Vr1.out.lt
    omega
  have hlA : ∀ i, i < n → 0 < nl (dman (d i)).natAbs → zt < ab (A i) ∧ b0 < ab (A i) ∧ w.heap.size ≤ ab (A i) := fun i hi h0 => by
    have e2 := hG2 i hi h0
    have := Vt1.out.lt
    have := Vr1.out.lt
    have := B1.size
    omega
  subst hva
  have HYY := Lib.hid HY
  have HLA := Lib.hid hlA
  have HNN := Lib.hid (And.intro HND HNI)
  clear hD2 hG2 HY hlA HND HNI
  go_wp2_with fail
  go_loopw [15] (fun i wr => ∃ (k : Nat) (a3 : Option Addr) (c3 : Nat), k ≤ n ∧ i = .int .i64 k ∧ Dys wr oa n ocap (fun i => ⟨dbad (d i), decide (dman (d i) < 0), A i, nl (dman (d i)).natAbs, C i, dexp (d i), (dman (d i)).natAbs⟩) ∧ DyV wr b0 false false (.slice none 0 0) 0 ∧ DyV wr zt (dbad (dinf d k)) (decide (dman (dinf d k) < 0)) (.slice a3 (nl (dman (dinf d k)).natAbs) c3) (dexp (dinf d k)) ∧ Mag wr a3 (nl (dman (dinf d k)).natAbs) c3 (dman (dinf d k)).natAbs ∧ (0 < nl (dman (dinf d k)).natAbs → zt < ab a3 ∧ b0 < ab a3 ∧ w.heap.size ≤ ab a3) ∧ Below w.heap.size w wr) (fun i _ => n - (intOf i).toNat)
  case atStart => exact ⟨0, none, 0, by omega, rfl, HYY.out, Vr2.out, Vt2.out, Mag.nil _, fun h => absurd h (by show ¬ 0 < nl 0; rw [show nl 0 = 0 from rfl]; omega), B2⟩
  case round =>
    obtain ⟨k, a3, c3, hk, rfl, hY, V0, Vt, M3, hf3, hb⟩ := hrel
    by_cases hlt : k < n
    · have k0 := hY.c0 k hlt
      have k1 := hY.c1 k hlt
      have k2 := hY.c2 k hlt
      have k3 := hY.c3 k hlt
      have i1 := hY.idx k hlt
      have mA := hY.m k hlt
      have HCk := HC k
      have lAk := HLA.out k hlt
      have hsd : dinf d (k + 1) = if 0 < dcmp (d k) (dinf d k) then d k else dinf d k := rfl
      have HSD := Lib.hid hsd
      have HY := Lib.hid hY
      have V0h := Lib.hid V0
      have Vth := Lib.hid Vt
      have hltt := Vt.lt
      clear hsd hY V0
      simp only at k0 k1 k2 k3 mA
      generalize d k = dk at k0 k1 k2 k3 mA HCk lAk HSD
      generalize dinf d k = mk at HCk HSD Vth Vt M3 hf3
      obtain ⟨q0, q1, q2, q3, q4, q5⟩ := Vt
      go_wp2_with fail
      refine (HCk _ (A k) (C k) a3 c3 (mA.alloc _) (M3.alloc _) (hT.below (hb.alloc hb.size _))).out.mono ?_
      rintro e w1 ⟨rfl, hb1⟩
      have hw1 : Below wr.heap.size wr w1 := Below.trans ((Below.refl _ _).alloc (Nat.le_refl _) _) (hb1.mono (by rw [World.size_alloc]; omega))
      have hB1 : Below w.heap.size w w1 := hb.trans (hw1.mono hb.size)
      have Y1 := HY.out.below hw1
      have V01 := V0h.out.below hw1
      have Vt1 := Vth.out.below hw1
      have M31 := M3.below hw1
      have mA1 := mA.below hw1
      have V5 : DyV w1 wr.heap.size (dbad dk) (decide (dman dk < 0)) (.slice (A k) (nl (dman dk).natAbs) (C k)) (dexp dk) := (DyV.made wr 26 _ _ _ _).below hb1
      have n5t : ¬ wr.heap.size = zt := by omega
      have hsb := hb.size
      have Y1h := Lib.hid Y1
      have V01h := Lib.hid V01
      have Vt1h := Lib.hid Vt1
      clear q0 q1 q2 q3 q4 q5 k0 k1 k2 k3 i1 hb1 HY V0h Vth Y1 V01
      by_cases hc : 0 < dcmp dk mk
      · have e9 : decide (0 < dcmp dk mk) = true := decide_eq_true hc
        have h1 : dinf d (k + 1) = dk := by rw [HSD.out, if_pos hc]
        have H1 := Lib.hid h1
        clear h1 hc HSD HCk
        generalize dcmp dk mk = vv at *
        generalize hz5 : wr.heap.size = z5 at *
        obtain ⟨q0, q1, q2, q3, q4, q5⟩ := Vt1
        obtain ⟨r0, r1, r2, r3, r4, r5⟩ := V5
        go_wp2_with fail
        go_roundw
        case rel =>
          refine ⟨k + 1, A k, C k, by omega, by go_num, ?_⟩
          rw [H1.out]
          have hy1 : ∀ i, i < n → 0 < nl (dman (d i)).natAbs → ab (A i) ≠ zt := fun i hi h0 => by have := HLA.out i hi h0; omega
          have hy2 : 0 < n → ab oa ≠ zt := fun h0 => by have := hla h0; omega
          have hy3 : 0 < nl (dman dk).natAbs → ab (A k) ≠ zt := fun h0 => by have := lAk h0; omega
          exact ⟨(((Y1h.out.set hy2 hy1 _ _).set hy2 hy1 _ _).set hy2 hy1 _ _).set hy2 hy1 _ _, (((V01h.out.set nrt _ _).set nrt _ _).set nrt _ _).set nrt _ _, Vt1h.out.put _ _ _ _, (((mA1.set hy3 _ _).set hy3 _ _).set hy3 _ _).set hy3 _ _, lAk, (((hB1.setCell gt _).setCell gt _).setCell gt _).setCell gt _⟩
        case measure => simp [intOf]; omega
      · have e9 : decide (0 < dcmp dk mk) = false := decide_eq_false hc
        have h1 : dinf d (k + 1) = mk := by rw [HSD.out, if_neg hc]
        have H1 := Lib.hid h1
        clear h1 hc HSD HCk
        generalize dcmp dk mk = vv at *
        go_wp2_with fail
        go_roundw
        case rel =>
          refine ⟨k + 1, a3, c3, by omega, by go_num, ?_⟩
          rw [H1.out]
          exact ⟨Y1h.out, V01h.out, Vt1h.out, M31, hf3, hB1⟩
        case measure => simp [intOf]; omega
    · obtain rfl : k = n := by omega
      have hsb := hb.size
      have V0h := Lib.hid V0
      generalize dinf d k = mk at *
      obtain ⟨q0, q1, q2, q3, q4, q5⟩ := Vt
      obtain ⟨r0, r1, r2, r3, r4, r5⟩ := V0
      clear hY
      go_wp2_with fail
      refine bodyPost_ret (v := .agg #[.bool (dbad mk), .bool (decide (dman mk < 0)), .slice a3 (nl (dman mk).natAbs) c3, .int .i64 (dexp mk)]) (by simp only [results, Tryz.results58]; go_simp) rfl ?_
      have gr : w.heap.size ≤ b0 := by omega
      have hy3 : 0 < nl (dman mk).natAbs → ab a3 ≠ b0 := fun h0 => by have := hf3 h0; omega
      exact ⟨a3, c3, rfl, (((M3.set hy3 _ _).set hy3 _ _).set hy3 _ _).set hy3 _ _, (((hb.setCell gr _).setCell gr _).setCell gr _).setCell gr _, fun h => (hf3 h).2.2⟩

end Go.Proofs.YtmpcikkimcehnaaGreatDoor

