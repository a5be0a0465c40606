/-
  Walks: package sparsegen: Definite.
-/
import Derived.Test.YtablcbgeeeboeaaGreatDoorZdPq
import Derived.Test.YtablcbgeeeboeaaGreatDoorZdPw
import Derived.Test.YtablcbgeeeboeaaGreatDoorZdRt
import Derived.Test.YtablcbgeeeboeaaGreatDoorZdS3
set_option maxRecDepth 100000
set_option maxHeartbeats 20000000
namespace Go.Proofs.YtablcbgeeeboeaaGreatDoor
open Go.RowKit Sp
theorem DM.grow {w w' : World} {base k : Nat} {v : Value} {d : Nat → Option (Int × Int)} {A : Nat → Option Addr} {C : Nat → Nat} (h : DM w base v k d A C) {row : Option Nat} (hg : w.grownBy w' row) (hr : ∀ b, row = some b → b < base) : DM w' base v k d A C :=
 ⟨h.out.kept hg (by
  rcases hv : v.ownBlock with _ | g
  · exact Or.inl rfl
  · refine Or.inr fun e => ?_
    have h1 := (h.out.own.lt g hv).1
    have h2 := hr g e.symm
    omega) (fun i hi hp e => by have h1 := h.fr i hi hp; have h2 := hr _ e.symm; omega), h.fr⟩
def cnt (i k : Nat) : Nat := if i < k then k - 1 else k
theorem skp_cnt {i k : Nat} (h : k ≠ i) : skp i (cnt i k) = k := by
 unfold skp cnt
 by_cases h1 : i < k
 · rw [if_pos h1, if_neg (by omega)]; omega
 · rw [if_neg h1, if_pos (by omega)]
theorem cnt_step {i k : Nat} (h : k ≠ i) : cnt i (k + 1) = cnt i k + 1 := by
 unfold cnt
 by_cases h1 : i < k
 · rw [if_pos h1, if_pos (by omega)]; omega
 · rw [if_neg h1, if_neg (by omega)]
theorem cnt_same (i : Nat) : cnt i (i + 1) = cnt i i := by unfold cnt; rw [if_pos (by omega), if_neg (by omega)]; omega
theorem cnt_end {i n : Nat} (h : i < n) : 1 + cnt i n = n := by unfold cnt; rw [if_pos h]; omega
theorem cnt_zero (i : Nat) : cnt i 0 = 0 := by unfold cnt; rw [if_neg (by omega)]
def FinX (X : Nat → Nat) : Prop := ∀ i, X i < 18446744073709551616 ∧ ffin (X i) = true
theorem FinX.up {X : Nat → Nat} (h : FinX X) {k y : Nat} (h1 : y < 18446744073709551616 ∧ ffin y = true) : FinX (fun i => if i = k then y else X i) := fun i => by
 show (if i = k then y else X i) < _ ∧ ffin (if i = k then y else X i) = true
 split
 · exact h1
 · exact h i
theorem FinX.zero : FinX fun _ => 0 := fun _ => ⟨by show 0 < 18446744073709551616; omega, by show ffin 0 = true; decide⟩
theorem dm_up {D : Nat → Option (Int × Int)} {k : Nat} {dk : Option (Int × Int)} (h : D k = dk) : (fun i => if i = k then dk else D i) = D := by
 funext i
 by_cases e : i = k
 · rw [if_pos e, e, h]
 · rw [if_neg e]
theorem DM.one {w : World} {base : Nat} {d : Nat → Option (Int × Int)} {a0 : Option Addr} {c0 : Nat} (hb : base ≤ w.heap.size) {e : Option (Int × Int)} (he : e = d 0) (hm : Mag w a0 (nl (dman e).natAbs) c0 (dman e).natAbs) {n : Nat} (hn : n = w.heap.size) (hf : 0 < nl (dman e).natAbs → base ≤ ab a0) :
 DM (w.alloc (.cells #[.bool (dbad e), .bool (decide (dman e < 0)), .slice a0 (nl (dman e).natAbs) c0, .int .i64 (dexp e)] 46)) base (.slice (some ⟨n, 0, none⟩) 1 1) 1 d (fun _ => a0) (fun _ => c0) :=
 ⟨(DX.one hb he hm hn).out, fun i hi hp => by obtain rfl : i = 0 := by omega
                                              exact hf (by rw [he]; exact hp)⟩
theorem own_blk {w : World} {base b : Nat} {e : TypeId} {s n : Nat} {xs : List Value} {v : Value} (h : w.ownsRow base e s v n xs) (hb : w.heap.size ≤ b) : ∀ g, v.ownBlock = some g → g < b := fun g hv => Nat.lt_of_lt_of_le (h.lt g hv).2 hb
theorem isN_dsum (d : Nat → Option (Int × Int)) (n : Nat) : IsN (dsum d n) := by
 unfold dsum
 split
 · exact isN_none
 · exact isN_nrm _ _
attribute [local irreducible] Calls
def Dfn (n : Nat) (S I X : Nat → Nat) : Prop := ∃ (gq : Nat) (GS GI GF : Nat → Nat), Val n n gq GS GI GF ∧ (∀ x, fM (GF x) < 4791830003522207744) ∧ ∀ i j, i < n → j < n → lk I X i (S j) (S (j + 1) - S j) = dEN n GS GI GF i j
theorem gdef_any (w : World) [Tb w] (a : Option Addr) (m cap : Nat) (L : Nat → Nat) [hL : FZ w a m cap L] (n : Nat) (hn : n ≤ 12) (s : Int) :
 Calls Tryz.prog 44 #[.slice a m cap, .int .i64 n, .int .i64 s] w fun o w' => ∃ (aS : Option Addr) (cS : Nat) (aI : Option Addr) (q cI : Nat) (aV : Option Addr) (cV : Nat) (S I X : Nat → Nat), o = .returned (.agg #[.int .i64 n, .int .i64 n, .slice aS (n + 1) cS, .slice aI q cI, .slice aV q cV]) ∧ MX w' n n aS cS aI q cI aV cV S I X ∧ q ≤ 4096 ∧ Dfn n S I X ∧ Below w.heap.size w w' := by
 obtain ⟨k3, hk3, hk4⟩ := pl_nat s 3 (by omega)
 have HM := fun W => Lib.hid (gmod_any W s 3 (by omega) (by omega))
 have HG0 := fun W [Tb W] [FZ W a m cap L] => Lib.hid ((ggeneral_any W a m cap L n n (by omega) (by omega) k3).mono fun _ _ ⟨aS, cS, aI, q, cI, aV, cV, S, I, X, h1, h2, h3, h4, h5⟩ => (⟨aS, cS, aI, q, cI, aV, cV, S, I, X, h1, h2, h3, h4, ⟨h5⟩⟩ : ∃ aS cS aI q cI aV cV S I X, _ = Ending.returned (.agg #[.int .i64 n, .int .i64 n, .slice aS (n + 1) cS, .slice aI q cI, .slice aV q cV]) ∧ MX _ n n aS cS aI q cI aV cV S I X ∧ SX k3 X ∧ q ≤ 4096 ∧ From W _))
 have HO := fun W y (hy : y < 18446744073709551616) [Tb W] => Lib.hid (frF (r3of_any W y hy tb))
 have H1 := fun W [Tb W] => Lib.hid (frF (rdfromInt_any W 1 tb (by omega) (by omega)))
 rw [show ((3 : Nat) : Int) = 3 from rfl] at hk3
 rw [hk3] at HM
 have hp4 : placeI k3 4 ≠ 3 := by unfold placeI; omega
 have HP4 := Lib.hid hp4
 clear hk3 hp4
 go_enter Tryz.func44, Tryz.ntmps44
 go_wp2_with fail
 refine (HM _).out.mono ?_; rintro o w0 ⟨rfl, rfl⟩; go_wp2_with fail
 refine (HG0 _).out.mono ?_; rintro o w1 ⟨aS, cS, aI, gq, cI, aV, cV, GS, GI, GF, rfl, iG, hGX, hgq, bw1⟩
 have HV := Lib.hid iG.ok
 have HB := Lib.hid (fun x => (hGX x).2.2 HP4.out)
 have HAT := fun W (i j : Nat) (hi : i < n) (hj : j < n) [Tb W] [MX W n n aS cS aI gq cI aV cV GS GI GF] => Lib.hid (frm (rat9_any W n n gq (by omega) (by omega) hgq aS aI aV cS cI cV GS GI GF i j hi hj))
 have HST := fun W (i j : Nat) (hi : i < n) (hj : j < n) [Tb W] [MX W n n aS cS aI gq cI aV cV GS GI GF] => Lib.hid (frm (rstored_any W n n gq (by omega) (by omega) hgq aS aI aV cS cI cV GS GI GF i j hi hj))
 have HAF := Lib.hid fun i j => atv_fin HV.out i j
 have HDF := Lib.hid fun i => (ddiag_fin HV.out HB.out (n := n) (by omega) i).2.2
 have hE1 : ∀ i, dEN n GS GI GF i i = some (ddiag n GS GI GF i) := fun i => by unfold dEN; rw [if_pos rfl]
 have hE2 : ∀ i j, i ≠ j → stv GS GI GF i j = true → dEN n GS GI GF i j = some (atv GS GI GF i j) := fun i j h1 h2 => by unfold dEN; rw [if_neg h1, if_pos h2]
 have hE3 : ∀ i j, i ≠ j → stv GS GI GF i j = false → dEN n GS GI GF i j = none := fun i j h1 h2 => by unfold dEN; rw [if_neg h1, if_neg (by rw [h2]; decide)]
 obtain ⟨E, hE⟩ : ∃ E, E = dEN n GS GI GF := ⟨_, rfl⟩
 rw [← hE] at hE1 hE2 hE3
 have HE := Lib.hid hE
 have HE1 := Lib.hid hE1
 have HE2 := Lib.hid hE2
 have HE3 := Lib.hid hE3
 have hs1 := bw1.out.size
 simp at hs1
 clear hGX hE hE1 hE2 hE3 HP4 HM HG0
 go_wp2_with fail
 have h0 := R3.start (w1.alloc (.cells #[.int .i64 n, .int .i64 n, .slice aS (n + 1) cS, .slice aI gq cI, .slice aV gq cV] 77)) (w1.heap.size + 1) (by simp) (.cells #[.int .i64 n, .int .i64 n, .slice (some ⟨w1.heap.size + 1, 0, none⟩) 1 1, .slice none 0 0, .slice none 0 0] 77) (fun _ => 0) (n := w1.heap.size + 1) (n1 := w1.heap.size + 1 + 1) (by simp) (by simp)
 go_loopw [9] (fun x wr => ∃ (j : Nat) (vS vI vV : Value) (S I : List Nat) (X : Nat → Nat) (q : Nat), j ≤ n ∧ x = .int .i64 j ∧ q ≤ j * n ∧ GV n j 0 S I q ∧ Con n j 0 S I X q E ∧ FinX X ∧ R3 wr (w1.heap.size + 1) (w1.heap.size + 1 + 1) vS vI vV S I X q ∧ N5 wr (w1.heap.size + 1 + 1) (.int .i64 n) (.int .i64 n) vS vI vV ∧ N5 wr w1.heap.size (.int .i64 n) (.int .i64 n) (.slice aS (n + 1) cS) (.slice aI gq cI) (.slice aV gq cV) ∧ N5 wr w.heap.size (.int .i64 0) (.int .i64 0) (.slice none 0 0) (.slice none 0 0) (.slice none 0 0) ∧ Below w1.heap.size w1 wr ∧ w1.heap.size + 3 ≤ wr.heap.size) (fun x _ => n - (intOf x).toNat)
 case atStart =>
  exact ⟨0, _, _, _, [0], [], fun _ => 0, 0, by omega, rfl, by omega, GV.start n, Con.start n _ E, FinX.zero, h0, inferInstance, inferInstance, inferInstance, zbh, by simp⟩
 case round =>
  clear h0
  obtain ⟨j, vS, vI, vV, S, I, X, q, hj, rfl, hq, hG, hC, hF, iM, iB, i5, iR, hbr, hsz⟩ := hrel
  by_cases hlt : j < n
  · obtain ⟨P, hP⟩ : ∃ P, P = j * n := ⟨_, rfl⟩
    have hP2 : P + n ≤ 4096 := by rw [hP, show j * n + n = (j + 1) * n by rw [Nat.add_mul, Nat.one_mul]]; exact Nat.mul_le_mul (show j + 1 ≤ 64 by omega) (show n ≤ 64 by omega)
    have HP := Lib.hid hP
    rw [← hP] at hq
    have HG := Lib.hid hG
    have HC := Lib.hid hC
    have HF := Lib.hid hF
    clear hP hG hC hF
    go_wp2_with fail
    go_loopw [10] (fun x wr => ∃ (i : Nat) (vI vV : Value) (I : List Nat) (X : Nat → Nat) (q : Nat), i ≤ n ∧ x = .int .i64 i ∧ q ≤ P + i ∧ GV n j i S I q ∧ Con n j i S I X q E ∧ FinX X ∧ R3 wr (w1.heap.size + 1) (w1.heap.size + 1 + 1) vS vI vV S I X q ∧ N5 wr (w1.heap.size + 1 + 1) (.int .i64 n) (.int .i64 n) vS vI vV ∧ N5 wr w1.heap.size (.int .i64 n) (.int .i64 n) (.slice aS (n + 1) cS) (.slice aI gq cI) (.slice aV gq cV) ∧ N5 wr w.heap.size (.int .i64 0) (.int .i64 0) (.slice none 0 0) (.slice none 0 0) (.slice none 0 0) ∧ Below w1.heap.size w1 wr ∧ w1.heap.size + 3 ≤ wr.heap.size) (fun x _ => n - (intOf x).toNat)
    case atStart => exact ⟨0, vI, vV, I, X, q, by omega, rfl, by omega, HG.out, HC.out, HF.out, iM, iB, i5, iR, hbr, hsz⟩
    case round =>
     clear hq iM iB i5 iR hbr hsz HG HC HF
     obtain ⟨i, vI, vV, I, X, q, hi, rfl, hq, hG, hC, hF, iM, iB, i5, iR, hbr, hsz⟩ := hrel
     have hIq := hG.il
     have hSl := hG.sl
     have HG := Lib.hid hG
     have HC := Lib.hid hC
     have HF := Lib.hid hF
     haveI bw : From w1 wr := ⟨hbr⟩
     clear hG hC hF
     by_cases hin : i < n
     · by_cases hij : i = j
       · subst hij
         obtain ⟨D, hD⟩ : ∃ D, D = dtrm GS GI GF i := ⟨_, rfl⟩
         have HD0 := Lib.hid (show D 0 = nrm 1 0 by rw [hD]; rfl)
         have HDN := Lib.hid (show ∀ q, IsN (D q) by rw [hD]; exact isN_dtrm GS GI GF i)
         have HDS := Lib.hid (show ∀ q, D (q + 1) = dabs (fof (atv GS GI GF (max i (skp i q)) (min i (skp i q)))) by rw [hD]; exact fun q => rfl)
         obtain ⟨y, hy⟩ : ∃ y, y = ddiag n GS GI GF i := ⟨_, rfl⟩
         have HYD := Lib.hid (show y = fround (dsum D n) 2 by rw [hy, hD]; rfl)
         have HEY := Lib.hid (show E i i = some y by rw [HE1.out i, hy])
         have HY := Lib.hid (show y < 18446744073709551616 ∧ ffin y = true by rw [hy]; exact ⟨fround_lt' _ _, HDF.out i⟩)
         obtain ⟨d1, hd1⟩ : ∃ d1, d1 = nrm 1 0 := ⟨_, rfl⟩
         rw [← hd1] at H1 HD0
         clear hD hy hd1
         go_wp2_with fail
         refine (H1 _).out.mono ?_; rintro o w2 ⟨a0, c0, rfl, i0, b2, f0⟩
         have e2 := b2.out.size
         have D0 := DM.one (w := w2) (base := wr.heap.size) (d := D) (e := d1) (n := w2.heap.size) e2 HD0.out.symm i0.out rfl (fun h => f0 h)
         have L2 : Below wr.heap.size wr (w2.alloc (.cells #[.bool (dbad d1), .bool (decide (dman d1 < 0)), .slice a0 (nl (dman d1).natAbs) c0, .int .i64 (dexp d1)] 46)) := zbh
         go_wp2_with fail
         go_loopw [11, 12] (fun v x wk => ∃ (c : Nat) (A : Nat → Option Addr) (C : Nat → Nat), c ≤ n ∧ x = .int .i64 c ∧ DM wk wr.heap.size v (1 + cnt i c) D A C ∧ Below wr.heap.size wr wk) (fun _ x _ => n - (intOf x).toNat)
         case atStart => exact ⟨0, _, _, by omega, rfl, by rw [cnt_zero]; exact D0, L2⟩
         case round =>
          clear D0 L2 i0 b2 f0 e2
          rename World => wk
          obtain ⟨c, A, C, hc, rfl, iD, hbk⟩ := hrel
          haveI bk : From wr wk := ⟨hbk⟩
          have ek := hbk.size
          clear hbk
          by_cases hcn : c < n
          · by_cases hci : c = i
            · subst hci
              have iD2 : DM wk wr.heap.size u11 (1 + cnt c (c + 1)) D A C := by rw [cnt_same]; exact iD
              have hq1 : ((c : Int) != (c : Int)) = false := by simp
              go_wp2_with fail
              go_roundw
              case rel => exact ⟨c + 1, _, _, by omega, by go_num, iD2, zbh⟩
              case measure => simp [intOf]; omega
            · have hq1 : ((c : Int) != (i : Int)) = true := by rw [bne_iff_ne]; omega
              have HCS := Lib.hid (cnt_step hci)
              have ht1 : ((max i c : Nat) : Int) = max (i : Int) (c : Int) := by omega
              have ht2 : ((min i c : Nat) : Int) = min (i : Int) (c : Int) := by omega
              have HAk := fun W [Tb W] [MX W n n aS cS aI gq cI aV cV GS GI GF] => HAT W (max i c) (min i c) (by omega) (by omega)
              rw [ht1, ht2] at HAk
              have hdk := HDS.out (cnt i c)
              rw [skp_cnt hci] at hdk
              have hyk := (HAF.out (max i c) (min i c)).1
              obtain ⟨z, hz⟩ : ∃ z, z = atv GS GI GF (max i c) (min i c) := ⟨_, rfl⟩
              rw [← hz] at HAk hdk hyk
              have HABk := fun W a1 c1 [i1 : BI W a1 (nl (dman (fof z)).natAbs) c1 (dman (fof z)).natAbs] [Tb W] => Lib.hid (frF (rdabs_any W (dbad (fof z)) (decide (dman (fof z) < 0)) a1 _ c1 (dexp (fof z)) (fof z) (dys_of (isN_fof z) i1.out) tb))
              obtain ⟨dk, hdk2⟩ : ∃ dk, dk = dabs (fof z) := ⟨_, rfl⟩
              rw [← hdk2] at hdk HABk
              rw [Nat.add_comm] at hdk
              have HDK := Lib.hid hdk
              clear hz hdk hdk2 ht1 ht2 hci
              go_wp2_with fail
              refine (HAk _).out.mono ?_; rintro o wa ⟨rfl, ba⟩; go_wp2_with fail
              refine (HO _ _ hyk).out.mono ?_; rintro o wb ⟨a2, c2, rfl, i2, bb, f2⟩; go_wp2_with fail
              refine (HABk _ _ _).out.mono ?_; rintro o wc ⟨a4, c4, rfl, i4, bc, f4⟩
              have ea := ba.out.size
              have eb := bb.out.size
              have ec := bc.out.size
              have AA : Hid (DM (wc.alloc (.cells #[.bool (dbad dk), .bool (decide (dman dk < 0)), .slice a4 (nl (dman dk).natAbs) c4, .int .i64 (dexp dk)] 46)) wr.heap.size u11 (1 + cnt i c) D A C) := Lib.hid inferInstance
              have LL : Hid (Below wr.heap.size wr (wc.alloc (.cells #[.bool (dbad dk), .bool (decide (dman dk < 0)), .slice a4 (nl (dman dk).natAbs) c4, .int .i64 (dexp dk)] 46))) := Lib.hid zbh
              go_wp2_with (at_builtin; refine app_dyad rfl _ _ rfl wr.heap.size u11 (1 + cnt i c) (dcells (mcell D A C) (1 + cnt i c)) rfl _ (dbad dk) (decide (dman dk < 0)) (.slice a4 (nl (dman dk).natAbs) c4) (dexp dk) rfl rfl AA.out.out.own (by go_simp) (by go_simp) (by go_simp) (by go_simp) (by unfold cnt; split <;> omega) (by simp; omega) ?_; intro v6 wf hown6 hg6 hob6)
              have hf4 : 0 < nl (dman dk).natAbs → wr.heap.size ≤ ab a4 := fun h => by have := f4 h; omega
              have hne4 : 0 < nl (dman dk).natAbs → some (ab a4) ≠ u11.ownBlock := fun h q => by have h1 := (iD.out.own.lt _ q.symm).2; have h2 := f4 h; omega
              have D6 := AA.out.app hown6 hg6 hob6 (i4.out.alloc _) hf4 hne4
              rw [dm_up HDK.out] at D6
              have LL6 : Below wr.heap.size wr wf := LL.out.trans (below_grown AA.out.out.own hg6 (by simp; omega))
              have HCN := HCS.out
              go_roundw
              case rel => exact ⟨c + 1, _, _, by omega, by go_num, by rw [HCN, ← Nat.add_assoc]; exact D6, LL6⟩
              case measure => simp [intOf]; omega
          · have hcn : c = n := by omega
            have iD2 : DM wk wr.heap.size u11 n D A C := by have := iD; rwa [hcn, cnt_end hin] at this
            obtain ⟨oa, oc, hv, hZ⟩ := dms_rsum (tb (w := wk)) iD2.out HDN.out (by omega)
            clear hZ hcn iD
            subst hv
            have bwk : From w1 wk := ⟨zbh⟩
            have A1 : Hid (R3 (wk.alloc (.cells #[.int .i64 i] 3)) (w1.heap.size + 1) (w1.heap.size + 1 + 1) vS vI vV S I X q) := Lib.hid inferInstance
            have A2 : Hid (N5 (wk.alloc (.cells #[.int .i64 i] 3)) (w1.heap.size + 1 + 1) (.int .i64 n) (.int .i64 n) vS vI vV) := Lib.hid inferInstance
            have A3 : Hid (N5 (wk.alloc (.cells #[.int .i64 i] 3)) w.heap.size (.int .i64 0) (.int .i64 0) (.slice none 0 0) (.slice none 0 0) (.slice none 0 0)) := Lib.hid inferInstance
            have A3g : Hid (N5 (wk.alloc (.cells #[.int .i64 i] 3)) w1.heap.size (.int .i64 n) (.int .i64 n) (.slice aS (n + 1) cS) (.slice aI gq cI) (.slice aV gq cV)) := Lib.hid inferInstance
            have A4 : Hid (Below w1.heap.size w1 (wk.alloc (.cells #[.int .i64 i] 3))) := Lib.hid (zbh)
            go_wp2_with (at_builtin; refine app_int2 rfl _ _ rfl (w1.heap.size + 1) vI q (icells I) rfl _ (i : Int) rfl (by have h := A1.out.oi; rw [hIq] at h; exact h) (by go_simp) (by omega) (by simp; omega) ?_; intro v5 w5 hown5 hg5 hob5; obtain ⟨o5, c5, rfl⟩ := own_slice' hown5; haveI B5 : N5 w5 (w1.heap.size + 1 + 1) (.int .i64 n) (.int .i64 n) vS vI vV := N5.grown A2.out hg5 A1.out.bI)
            have e5 := hg5.size
            simp at e5
            have M6 : R3 (w5.setCell ⟨w1.heap.size + 1 + 1, 3, none⟩ (.slice o5 (q + 1) c5)) (w1.heap.size + 1) (w1.heap.size + 1 + 1) vS (.slice o5 (q + 1) c5) vV S (I ++ [i]) X q := (A1.out.appI hIq hown5 hg5 hob5).sen (Or.inl rfl) 3 (.slice o5 (q + 1) c5)
            have B6 : N5 (w5.setCell ⟨w1.heap.size + 1 + 1, 3, none⟩ (.slice o5 (q + 1) c5)) (w1.heap.size + 1 + 1) (.int .i64 n) (.int .i64 n) vS (.slice o5 (q + 1) c5) vV := B5.se3 (.slice o5 (q + 1) c5)
            have R6 : N5 (w5.setCell ⟨w1.heap.size + 1 + 1, 3, none⟩ (.slice o5 (q + 1) c5)) w.heap.size (.int .i64 0) (.int .i64 0) (.slice none 0 0) (.slice none 0 0) (.slice none 0 0) := N5.st _ _ _ _ _ _ _ _ _ _ (N5.grown A3.out hg5 (own_ne A1.out.oi (by omega))) (by omega)
            have G6 : N5 (w5.setCell ⟨w1.heap.size + 1 + 1, 3, none⟩ (.slice o5 (q + 1) c5)) w1.heap.size (.int .i64 n) (.int .i64 n) (.slice aS (n + 1) cS) (.slice aI gq cI) (.slice aV gq cV) := N5.st _ _ _ _ _ _ _ _ _ _ (N5.grown A3g.out hg5 (own_ne A1.out.oi (by omega))) (by omega)
            have L6 : Below w1.heap.size w1 (w5.setCell ⟨w1.heap.size + 1 + 1, 3, none⟩ (.slice o5 (q + 1) c5)) := (A4.out.trans ((below_of_owns A1.out.oi hg5 (by simp; omega)).mono (by omega))).setCell (by simp; omega) _
            have e6 : wk.heap.size + 1 ≤ (w5.setCell ⟨w1.heap.size + 1 + 1, 3, none⟩ (.slice o5 (q + 1) c5)).heap.size := by rw [World.size_setCell]; omega
            have D6 : DM (w5.setCell ⟨w1.heap.size + 1 + 1, 3, none⟩ (.slice o5 (q + 1) c5)) wr.heap.size (.slice oa n oc) n D A C := ((inferInstance : DM (wk.alloc (.cells #[.int .i64 i] 3)) wr.heap.size (.slice oa n oc) n D A C).grow hg5 (own_blk iM.oi (Nat.le_refl _))).sen (by omega) _ _
            generalize (w5.setCell ⟨w1.heap.size + 1 + 1, 3, none⟩ (.slice o5 (q + 1) c5)) = w6 at *
            haveI L6' : From w1 w6 := ⟨L6⟩
            have HSUM := fun W [bx : Beh w6 W] => Lib.hid (frF (by
             haveI bx' : From w6 W := ⟨bx.out⟩
             have d6 : DM W wr.heap.size (.slice oa n oc) n D A C := inferInstance
             obtain ⟨oa', oc', hv', hZ'⟩ := dms_rsum (tb (w := W)) d6.out HDN.out (by omega)
             injection hv' with hv1 hv2 hv3
             subst hv1 hv3
             exact hZ'))
            have HRD := fun W a1 c1 [i1 : BI W a1 (nl (dman (dsum D n)).natAbs) c1 (dman (dsum D n)).natAbs] [Tb W] => Lib.hid (frm (r3round_any W (dbad (dsum D n)) (decide (dman (dsum D n) < 0)) a1 _ c1 (dexp (dsum D n)) 2 (dsum D n) (dys_of (isN_dsum _ _) i1.out) tb))
            rw [← HYD.out] at HRD
            generalize dsum D n = ds at *
            clear A1 A2 A3 A3g A4 B5 hown5 hg5 hob5 e5 iM iB iR i5 hbr bw bk bwk L6
            refine bgj (fun w' => Below w6.heap.size w6 w') [6, 7, 8] (by kernel_rfl) (zbh) (fun hHeld => ?_)
            simp only [List.size_toArray, List.length_cons, List.length_nil, Nat.reduceAdd, Array.replicate_succ, Array.replicate_zero, List.push_toArray, List.nil_append, List.cons_append]
            refine tkj 0 65 ?_ [1, 6, 7, 8] (hy := ?_) (hS := zbh) (h := ?_)
            rotate_left
            · intro w hSw; haveI : From w6 w := ⟨hSw⟩; go_simp; (try with_reducible rfl)
            refine tkj 1 66 ?_ [6, 7, 8] (hy := ?_) (hS := zbh) (h := ?_)
            rotate_left
            · intro w hSw; haveI : From w6 w := ⟨hSw⟩; go_simp; (try with_reducible rfl)
            refine tkj 2 67 ?_ [3, 4, 5, 6, 7, 8] (hy := ?_) (hS := zbh) (h := ?_)
            rotate_left
            · intro w hSw; haveI : From w6 w := ⟨hSw⟩; go_simp; (try with_reducible rfl)
            refine stj 3 (h := fun K hK => ?_)
            go_simp
            refine (HSUM _).out.mono ?_; rintro o wa ⟨a4, c4, rfl, i4, bc, f4⟩
            go_simp
            refine hK.out _ _ (Or.inr zbh) ?_
            clear hK K
            try simp only [List.setIfInBounds_toArray, List.set_cons_zero, List.set_cons_succ]
            refine stj 4 (h := fun K hK => ?_)
            go_simp
            refine (HRD _ _ _).out.mono ?_; rintro o wb ⟨rfl, bb⟩
            go_simp
            refine hK.out _ _ (Or.inr zbh) ?_
            clear hK K
            try simp only [List.setIfInBounds_toArray, List.set_cons_zero, List.set_cons_succ]
            refine stj 5 (h := fun K hK => ?_)
            go_simp
            refine hK.out _ _ (Or.inr zbh) ?_
            clear hK K
            try simp only [List.setIfInBounds_toArray, List.set_cons_zero, List.set_cons_succ]
            refine stj 6 (h := fun K hK => ?_)
            refine step_app_float (by rfl) _ _ (by rfl) (w1.heap.size + 1) vV q (flist X q) (by rfl) _ (y : Int) (by rfl) (inferInstance : R3 (wb.alloc (.cells #[.int .u64 y] 40)) (w1.heap.size + 1) (w1.heap.size + 1 + 1) vS (.slice o5 (q + 1) c5) vV S (I ++ [i]) X q).ov (by go_simp) (by omega) (by have ea := bc.out.size; have eb := bb.out.size; simp at ea eb; simp; omega) ?_
            intro g8 cap8 w8 hown8 hg8 hob8
            have A1 : Hid (R3 (wb.alloc (.cells #[.int .u64 y] 40)) (w1.heap.size + 1) (w1.heap.size + 1 + 1) vS (.slice o5 (q + 1) c5) vV S (I ++ [i]) X q) := Lib.hid inferInstance
            have A3 : Hid (N5 (wb.alloc (.cells #[.int .u64 y] 40)) w.heap.size (.int .i64 0) (.int .i64 0) (.slice none 0 0) (.slice none 0 0) (.slice none 0 0)) := Lib.hid inferInstance
            have A3g : Hid (N5 (wb.alloc (.cells #[.int .u64 y] 40)) w1.heap.size (.int .i64 n) (.int .i64 n) (.slice aS (n + 1) cS) (.slice aI gq cI) (.slice aV gq cV)) := Lib.hid inferInstance
            have A4 : Hid (Below w1.heap.size w1 (wb.alloc (.cells #[.int .u64 y] 40))) := Lib.hid (zbh)
            haveI B8 : N5 w8 (w1.heap.size + 1 + 1) (.int .i64 n) (.int .i64 n) vS (.slice o5 (q + 1) c5) vV := N5.grown (inferInstance : N5 (wb.alloc (.cells #[.int .u64 y] 40)) (w1.heap.size + 1 + 1) (.int .i64 n) (.int .i64 n) vS (.slice o5 (q + 1) c5) vV) hg8 A1.out.bV
            refine hK.out _ _ (Or.inl (by decide)) ?_
            clear hK K
            try simp only [Act.put, List.setIfInBounds_toArray, List.set_cons_zero, List.set_cons_succ]
            refine stj 7 (h := fun K hK => ?_)
            go_simp
            refine hK.out _ _ (Or.inl (by decide)) ?_
            clear hK K
            try simp only [List.setIfInBounds_toArray, List.set_cons_zero, List.set_cons_succ]
            refine stj 8 (h := fun K hK => ?_)
            go_simp
            refine hK.out _ _ (Or.inl (by decide)) ?_
            clear hK K
            try simp only [List.setIfInBounds_toArray, List.set_cons_zero, List.set_cons_succ]
            refine enj (by kernel_rfl) ?_ _
            have e8 := hg8.size
            have ea := bc.out.size
            have eb := bb.out.size
            simp at ea eb
            simp at e8
            have M9 := (A1.out.appV hown8 hg8 hob8).sen (g := w1.heap.size + 1 + 1) (Or.inl rfl) 4 (.slice (some ⟨g8, 0, none⟩) (q + 1) cap8)
            have B9 := B8.se4 (.slice (some ⟨g8, 0, none⟩) (q + 1) cap8)
            have R9 : N5 (w8.setCell ⟨w1.heap.size + 1 + 1, 4, none⟩ (.slice (some ⟨g8, 0, none⟩) (q + 1) cap8)) w.heap.size (.int .i64 0) (.int .i64 0) (.slice none 0 0) (.slice none 0 0) (.slice none 0 0) := N5.st _ _ _ _ _ _ _ _ _ _ (N5.grown A3.out hg8 (own_ne A1.out.ov (by omega))) (by omega)
            have G9 : N5 (w8.setCell ⟨w1.heap.size + 1 + 1, 4, none⟩ (.slice (some ⟨g8, 0, none⟩) (q + 1) cap8)) w1.heap.size (.int .i64 n) (.int .i64 n) (.slice aS (n + 1) cS) (.slice aI gq cI) (.slice aV gq cV) := N5.st _ _ _ _ _ _ _ _ _ _ (N5.grown A3g.out hg8 (own_ne A1.out.ov (by omega))) (by omega)
            have L9 : Below w1.heap.size w1 (w8.setCell ⟨w1.heap.size + 1 + 1, 4, none⟩ (.slice (some ⟨g8, 0, none⟩) (q + 1) cap8)) := (A4.out.trans ((below_of_owns A1.out.ov hg8 (by simp; omega)).mono (by omega))).setCell (by simp; omega) _
            have e9 : w1.heap.size + 3 ≤ (w8.setCell ⟨w1.heap.size + 1 + 1, 4, none⟩ (.slice (some ⟨g8, 0, none⟩) (q + 1) cap8)).heap.size := by rw [World.size_setCell]; omega
            have HX9 := HF.out.up (k := q) HY.out
            have HC9 := HC.out.put HG.out HEY.out
            generalize (w8.setCell ⟨w1.heap.size + 1 + 1, 4, none⟩ (.slice (some ⟨g8, 0, none⟩) (q + 1) cap8)) = w9 at *
            clear A1 A3 A3g A4 B8 hown8 hg8 hob8 L6' B6 R6 G6 M6
            go_wp2_with fail
            go_roundw
            case rel => exact ⟨i + 1, _, _, _, _, q + 1, by omega, by go_num, by omega, HG.out.put, HC9, HX9, M9, B9, G9, R9, L9, e9⟩
            case measure => simp [intOf]; omega
       · have hij' : ((i : Int) == (j : Int)) = false := by rw [beq_eq_false_iff_ne]; omega
         cases hst : stv GS GI GF i j with
         | true =>
          have HSi := fun W [Tb W] [MX W n n aS cS aI gq cI aV cV GS GI GF] => HST W i j hin hlt
          rw [hst] at HSi
          have HAi := fun W [Tb W] [MX W n n aS cS aI gq cI aV cV GS GI GF] => HAT W i j hin hlt
          have hEY := HE2.out i j hij hst
          have hY := HAF.out i j
          obtain ⟨y, hy⟩ : ∃ y, y = atv GS GI GF i j := ⟨_, rfl⟩
          rw [← hy] at HAi hEY hY
          have HEY := Lib.hid hEY
          have HY := Lib.hid hY
          clear hst hEY hY hy HAT HST
          go_wp2_with fail
          refine (HSi _).out.mono ?_; rintro o wk ⟨rfl, bk⟩
          have ek := bk.out.size
          have bwk : From w1 wk := ⟨zbh⟩
          have A1 : Hid (R3 (wk.alloc (.cells #[.int .i64 i] 3)) (w1.heap.size + 1) (w1.heap.size + 1 + 1) vS vI vV S I X q) := Lib.hid inferInstance
          have A2 : Hid (N5 (wk.alloc (.cells #[.int .i64 i] 3)) (w1.heap.size + 1 + 1) (.int .i64 n) (.int .i64 n) vS vI vV) := Lib.hid inferInstance
          have A3 : Hid (N5 (wk.alloc (.cells #[.int .i64 i] 3)) w.heap.size (.int .i64 0) (.int .i64 0) (.slice none 0 0) (.slice none 0 0) (.slice none 0 0)) := Lib.hid inferInstance
          have A3g : Hid (N5 (wk.alloc (.cells #[.int .i64 i] 3)) w1.heap.size (.int .i64 n) (.int .i64 n) (.slice aS (n + 1) cS) (.slice aI gq cI) (.slice aV gq cV)) := Lib.hid inferInstance
          have A4 : Hid (Below w1.heap.size w1 (wk.alloc (.cells #[.int .i64 i] 3))) := Lib.hid (zbh)
          go_wp2_with (at_builtin; refine app_int2 rfl _ _ rfl (w1.heap.size + 1) vI q (icells I) rfl _ (i : Int) rfl (by have h := A1.out.oi; rw [hIq] at h; exact h) (by go_simp) (by omega) (by simp; omega) ?_; intro v5 w5 hown5 hg5 hob5; obtain ⟨o5, c5, rfl⟩ := own_slice' hown5; haveI B5 : N5 w5 (w1.heap.size + 1 + 1) (.int .i64 n) (.int .i64 n) vS vI vV := N5.grown A2.out hg5 A1.out.bI)
          have e5 := hg5.size
          simp at e5
          have M6 : R3 (w5.setCell ⟨w1.heap.size + 1 + 1, 3, none⟩ (.slice o5 (q + 1) c5)) (w1.heap.size + 1) (w1.heap.size + 1 + 1) vS (.slice o5 (q + 1) c5) vV S (I ++ [i]) X q := (A1.out.appI hIq hown5 hg5 hob5).sen (Or.inl rfl) 3 (.slice o5 (q + 1) c5)
          have B6 : N5 (w5.setCell ⟨w1.heap.size + 1 + 1, 3, none⟩ (.slice o5 (q + 1) c5)) (w1.heap.size + 1 + 1) (.int .i64 n) (.int .i64 n) vS (.slice o5 (q + 1) c5) vV := B5.se3 (.slice o5 (q + 1) c5)
          have R6 : N5 (w5.setCell ⟨w1.heap.size + 1 + 1, 3, none⟩ (.slice o5 (q + 1) c5)) w.heap.size (.int .i64 0) (.int .i64 0) (.slice none 0 0) (.slice none 0 0) (.slice none 0 0) := N5.st _ _ _ _ _ _ _ _ _ _ (N5.grown A3.out hg5 (own_ne A1.out.oi (by omega))) (by omega)
          have G6 : N5 (w5.setCell ⟨w1.heap.size + 1 + 1, 3, none⟩ (.slice o5 (q + 1) c5)) w1.heap.size (.int .i64 n) (.int .i64 n) (.slice aS (n + 1) cS) (.slice aI gq cI) (.slice aV gq cV) := N5.st _ _ _ _ _ _ _ _ _ _ (N5.grown A3g.out hg5 (own_ne A1.out.oi (by omega))) (by omega)
          have L6 : Below w1.heap.size w1 (w5.setCell ⟨w1.heap.size + 1 + 1, 3, none⟩ (.slice o5 (q + 1) c5)) := (A4.out.trans ((below_of_owns A1.out.oi hg5 (by simp; omega)).mono (by omega))).setCell (by simp; omega) _
          have e6 : wk.heap.size + 1 ≤ (w5.setCell ⟨w1.heap.size + 1 + 1, 3, none⟩ (.slice o5 (q + 1) c5)).heap.size := by rw [World.size_setCell]; omega
          generalize (w5.setCell ⟨w1.heap.size + 1 + 1, 3, none⟩ (.slice o5 (q + 1) c5)) = w6 at *
          haveI L6' : From w1 w6 := ⟨L6⟩
          clear A1 A2 A3 A3g A4 B5 hown5 hg5 hob5 e5 iM iB iR i5 hbr bw bk bwk L6
          refine bgj (fun w' => Below w6.heap.size w6 w') [7, 8, 9] (by kernel_rfl) (zbh) (fun hHeld => ?_)
          simp only [List.size_toArray, List.length_cons, List.length_nil, Nat.reduceAdd, Array.replicate_succ, Array.replicate_zero, List.push_toArray, List.nil_append, List.cons_append]
          refine tkj 0 83 ?_ [1, 7, 8, 9] (hy := ?_) (hS := zbh) (h := ?_)
          rotate_left
          · intro w hSw; haveI : From w6 w := ⟨hSw⟩; go_simp; (try with_reducible rfl)
          refine tkj 1 84 ?_ [7, 8, 9] (hy := ?_) (hS := zbh) (h := ?_)
          rotate_left
          · intro w hSw; haveI : From w6 w := ⟨hSw⟩; go_simp; (try with_reducible rfl)
          refine tkj 2 85 ?_ [5, 6, 7, 8, 9] (hy := ?_) (hS := zbh) (h := ?_)
          rotate_left
          · intro w hSw; haveI : From w6 w := ⟨hSw⟩; go_simp; (try with_reducible rfl)
          refine tkj 3 86 ?_ [5, 6, 7, 8, 9] (hy := ?_) (hS := zbh) (h := ?_)
          rotate_left
          · intro w hSw; haveI : From w6 w := ⟨hSw⟩; go_simp; (try with_reducible rfl)
          refine tkj 4 87 ?_ [5, 6, 7, 8, 9] (hy := ?_) (hS := zbh) (h := ?_)
          rotate_left
          · intro w hSw; haveI : From w6 w := ⟨hSw⟩; go_simp; (try with_reducible rfl)
          refine stj 5 (h := fun K hK => ?_)
          go_simp
          refine (HAi _).out.mono ?_; rintro o wb ⟨rfl, bb⟩
          go_simp
          refine hK.out _ _ (Or.inr zbh) ?_
          clear hK K
          try simp only [List.setIfInBounds_toArray, List.set_cons_zero, List.set_cons_succ]
          refine stj 6 (h := fun K hK => ?_)
          go_simp
          refine hK.out _ _ (Or.inr zbh) ?_
          clear hK K
          try simp only [List.setIfInBounds_toArray, List.set_cons_zero, List.set_cons_succ]
          refine stj 7 (h := fun K hK => ?_)
          refine step_app_float (by rfl) _ _ (by rfl) (w1.heap.size + 1) vV q (flist X q) (by rfl) _ (y : Int) (by rfl) (inferInstance : R3 (wb.alloc (.cells #[.int .u64 y] 40)) (w1.heap.size + 1) (w1.heap.size + 1 + 1) vS (.slice o5 (q + 1) c5) vV S (I ++ [i]) X q).ov (by go_simp) (by omega) (by have eb := bb.out.size; simp at eb; simp; omega) ?_
          intro g8 cap8 w8 hown8 hg8 hob8
          have A1 : Hid (R3 (wb.alloc (.cells #[.int .u64 y] 40)) (w1.heap.size + 1) (w1.heap.size + 1 + 1) vS (.slice o5 (q + 1) c5) vV S (I ++ [i]) X q) := Lib.hid inferInstance
          have A3 : Hid (N5 (wb.alloc (.cells #[.int .u64 y] 40)) w.heap.size (.int .i64 0) (.int .i64 0) (.slice none 0 0) (.slice none 0 0) (.slice none 0 0)) := Lib.hid inferInstance
          have A3g : Hid (N5 (wb.alloc (.cells #[.int .u64 y] 40)) w1.heap.size (.int .i64 n) (.int .i64 n) (.slice aS (n + 1) cS) (.slice aI gq cI) (.slice aV gq cV)) := Lib.hid inferInstance
          have A4 : Hid (Below w1.heap.size w1 (wb.alloc (.cells #[.int .u64 y] 40))) := Lib.hid (zbh)
          haveI B8 : N5 w8 (w1.heap.size + 1 + 1) (.int .i64 n) (.int .i64 n) vS (.slice o5 (q + 1) c5) vV := N5.grown (inferInstance : N5 (wb.alloc (.cells #[.int .u64 y] 40)) (w1.heap.size + 1 + 1) (.int .i64 n) (.int .i64 n) vS (.slice o5 (q + 1) c5) vV) hg8 A1.out.bV
          refine hK.out _ _ (Or.inl (by decide)) ?_
          clear hK K
          try simp only [Act.put, List.setIfInBounds_toArray, List.set_cons_zero, List.set_cons_succ]
          refine stj 8 (h := fun K hK => ?_)
          go_simp
          refine hK.out _ _ (Or.inl (by decide)) ?_
          clear hK K
          try simp only [List.setIfInBounds_toArray, List.set_cons_zero, List.set_cons_succ]
          refine stj 9 (h := fun K hK => ?_)
          go_simp
          refine hK.out _ _ (Or.inl (by decide)) ?_
          clear hK K
          try simp only [List.setIfInBounds_toArray, List.set_cons_zero, List.set_cons_succ]
          refine enj (by kernel_rfl) ?_ _
          have e8 := hg8.size
          have eb := bb.out.size
          simp at eb
          simp at e8
          have M9 := (A1.out.appV hown8 hg8 hob8).sen (g := w1.heap.size + 1 + 1) (Or.inl rfl) 4 (.slice (some ⟨g8, 0, none⟩) (q + 1) cap8)
          have B9 := B8.se4 (.slice (some ⟨g8, 0, none⟩) (q + 1) cap8)
          have R9 : N5 (w8.setCell ⟨w1.heap.size + 1 + 1, 4, none⟩ (.slice (some ⟨g8, 0, none⟩) (q + 1) cap8)) w.heap.size (.int .i64 0) (.int .i64 0) (.slice none 0 0) (.slice none 0 0) (.slice none 0 0) := N5.st _ _ _ _ _ _ _ _ _ _ (N5.grown A3.out hg8 (own_ne A1.out.ov (by omega))) (by omega)
          have G9 : N5 (w8.setCell ⟨w1.heap.size + 1 + 1, 4, none⟩ (.slice (some ⟨g8, 0, none⟩) (q + 1) cap8)) w1.heap.size (.int .i64 n) (.int .i64 n) (.slice aS (n + 1) cS) (.slice aI gq cI) (.slice aV gq cV) := N5.st _ _ _ _ _ _ _ _ _ _ (N5.grown A3g.out hg8 (own_ne A1.out.ov (by omega))) (by omega)
          have L9 : Below w1.heap.size w1 (w8.setCell ⟨w1.heap.size + 1 + 1, 4, none⟩ (.slice (some ⟨g8, 0, none⟩) (q + 1) cap8)) := (A4.out.trans ((below_of_owns A1.out.ov hg8 (by simp; omega)).mono (by omega))).setCell (by simp; omega) _
          have e9 : w1.heap.size + 3 ≤ (w8.setCell ⟨w1.heap.size + 1 + 1, 4, none⟩ (.slice (some ⟨g8, 0, none⟩) (q + 1) cap8)).heap.size := by rw [World.size_setCell]; omega
          have HX9 := HF.out.up (k := q) HY.out
          have HC9 := HC.out.put HG.out HEY.out
          generalize (w8.setCell ⟨w1.heap.size + 1 + 1, 4, none⟩ (.slice (some ⟨g8, 0, none⟩) (q + 1) cap8)) = w9 at *
          clear A1 A3 A3g A4 B8 hown8 hg8 hob8 L6' B6 R6 G6 M6
          go_wp2_with fail
          go_roundw
          case rel => exact ⟨i + 1, _, _, _, _, q + 1, by omega, by go_num, by omega, HG.out.put, HC9, HX9, M9, B9, G9, R9, L9, e9⟩
          case measure => simp [intOf]; omega
         | false =>
          have HSi := fun W [Tb W] [MX W n n aS cS aI gq cI aV cV GS GI GF] => HST W i j hin hlt
          rw [hst] at HSi
          have HEN := Lib.hid (HE3.out i j hij hst)
          clear hst HAT HST
          go_wp2_with fail
          refine (HSi _).out.mono ?_; rintro o wk ⟨rfl, bk⟩
          have ek := bk.out.size
          have LK : Below w1.heap.size w1 wk := zbh
          go_wp2_with fail
          go_roundw
          case rel => exact ⟨i + 1, vI, vV, I, X, q, by omega, by go_num, by omega, HG.out.skip, HC.out.skip HEN.out, HF.out, inferInstance, inferInstance, inferInstance, inferInstance, LK, by omega⟩
          case measure => simp [intOf]; omega
     · have hin' : i = n := by omega
       subst hin'
       obtain ⟨oI, cI', rfl, zI⟩ := own_ils iM.oi hIq
       clear zI
       have A1 : Hid (R3 (wr.alloc (.cells #[.int .i64 q] 3)) (w1.heap.size + 1) (w1.heap.size + 1 + 1) vS (.slice oI q cI') vV S I X q) := Lib.hid inferInstance
       have A2 : Hid (N5 (wr.alloc (.cells #[.int .i64 q] 3)) (w1.heap.size + 1 + 1) (.int .i64 i) (.int .i64 i) vS (.slice oI q cI') vV) := Lib.hid inferInstance
       have A3 : Hid (N5 (wr.alloc (.cells #[.int .i64 q] 3)) w.heap.size (.int .i64 0) (.int .i64 0) (.slice none 0 0) (.slice none 0 0) (.slice none 0 0)) := Lib.hid inferInstance
       have A3g : Hid (N5 (wr.alloc (.cells #[.int .i64 q] 3)) w1.heap.size (.int .i64 i) (.int .i64 i) (.slice aS (i + 1) cS) (.slice aI gq cI) (.slice aV gq cV)) := Lib.hid inferInstance
       have A4 : Hid (Below w1.heap.size w1 (wr.alloc (.cells #[.int .i64 q] 3))) := Lib.hid zbh
       go_wp2_with (at_builtin; refine app_int2 rfl _ _ rfl (w1.heap.size + 1) vS (j + 1) (icells S) rfl _ (q : Int) rfl (by have h := A1.out.os; rw [hSl] at h; exact h) (by go_simp) (by omega) (by simp; omega) ?_; intro v5 w5 hown5 hg5 hob5; obtain ⟨o5, c5, rfl⟩ := own_slice' hown5; haveI B5 : N5 w5 (w1.heap.size + 1 + 1) (.int .i64 i) (.int .i64 i) vS (.slice oI q cI') vV := N5.grown A2.out hg5 A1.out.bS)
       have e5 := hg5.size
       simp at e5
       have M6 : R3 (w5.setCell ⟨w1.heap.size + 1 + 1, 2, none⟩ (.slice o5 (j + 1 + 1) c5)) (w1.heap.size + 1) (w1.heap.size + 1 + 1) (.slice o5 (j + 1 + 1) c5) (.slice oI q cI') vV (S ++ [q]) I X q := (A1.out.appS hSl hown5 hg5 hob5).sen (Or.inl rfl) 2 (.slice o5 (j + 1 + 1) c5)
       have B6 : N5 (w5.setCell ⟨w1.heap.size + 1 + 1, 2, none⟩ (.slice o5 (j + 1 + 1) c5)) (w1.heap.size + 1 + 1) (.int .i64 i) (.int .i64 i) (.slice o5 (j + 1 + 1) c5) (.slice oI q cI') vV := B5.se2 (.slice o5 (j + 1 + 1) c5)
       have R6 : N5 (w5.setCell ⟨w1.heap.size + 1 + 1, 2, none⟩ (.slice o5 (j + 1 + 1) c5)) w.heap.size (.int .i64 0) (.int .i64 0) (.slice none 0 0) (.slice none 0 0) (.slice none 0 0) := N5.st _ _ _ _ _ _ _ _ _ _ (N5.grown A3.out hg5 (own_ne A1.out.os (by omega))) (by omega)
       have G6 : N5 (w5.setCell ⟨w1.heap.size + 1 + 1, 2, none⟩ (.slice o5 (j + 1 + 1) c5)) w1.heap.size (.int .i64 i) (.int .i64 i) (.slice aS (i + 1) cS) (.slice aI gq cI) (.slice aV gq cV) := N5.st _ _ _ _ _ _ _ _ _ _ (N5.grown A3g.out hg5 (own_ne A1.out.os (by omega))) (by omega)
       have L6 : Below w1.heap.size w1 (w5.setCell ⟨w1.heap.size + 1 + 1, 2, none⟩ (.slice o5 (j + 1 + 1) c5)) := (A4.out.trans ((below_of_owns A1.out.os hg5 (by simp; omega)).mono (by omega))).setCell (by simp; omega) _
       have e6 : w1.heap.size + 3 ≤ (w5.setCell ⟨w1.heap.size + 1 + 1, 2, none⟩ (.slice o5 (j + 1 + 1) c5)).heap.size := by rw [World.size_setCell]; omega
       generalize (w5.setCell ⟨w1.heap.size + 1 + 1, 2, none⟩ (.slice o5 (j + 1 + 1) c5)) = w6 at *
       clear A1 A2 A3 A3g A4 B5 hown5 hg5 hob5 e5 iM iB iR hbr bw
       go_roundw
       case rel => exact ⟨j + 1, (.slice o5 (j + 1 + 1) c5), .slice oI q cI', vV, S ++ [q], I, X, q, by omega, by go_num, by rw [Nat.add_mul, Nat.one_mul, ← HP.out]; omega, HG.out.close (by omega), HC.out.close HG.out, HF.out, M6, B6, G6, R6, L6, e6⟩
       case measure => simp [intOf]; omega
  · obtain rfl : j = n := by omega
    have hIq := hG.il
    have hSl := hG.sl
    have HG := Lib.hid hG
    have HC := Lib.hid hC
    have HF := Lib.hid hF
    clear hG hC hF
    obtain ⟨oS, kS, rfl, zS⟩ := own_ils iM.os hSl
    obtain ⟨oI, kI, rfl, zI⟩ := own_ils iM.oi hIq
    obtain ⟨oV, kV, rfl, zV⟩ := own_fls iM.ov (fun i _ => (HF.out i).1)
    have hl : w.heap.size = w1.heap.size + 1 + 1 ∨ w.heap.size < w1.heap.size + 1 := by omega
    have M6 := ((((iM.sen hl 0 (.int .i64 j)).sen hl 1 (.int .i64 j)).sen hl 2 (.slice oS (j + 1) kS)).sen hl 3 (.slice oI q kI)).sen hl 4 (.slice oV q kV)
    haveI bw : From w1 wr := ⟨hbr⟩
    clear zS zI zV
    have HQ := Lib.hid (show q ≤ 4096 from Nat.le_trans hq (Nat.mul_le_mul (show j ≤ 64 by omega) (show j ≤ 64 by omega)))
    go_wp2_with fail
    refine bodyPost_ret (v := .agg #[.int .i64 j, .int .i64 j, .slice oS (j + 1) kS, .slice oI q kI, .slice oV q kV]) (by simp only [results, Tryz.results44]; go_simp) rfl ?_
    obtain ⟨_, _, e1, zS⟩ := own_ils M6.os hSl
    obtain ⟨_, _, e2, zI⟩ := own_ils M6.oi hIq
    obtain ⟨_, _, e3, zV⟩ := own_fls M6.ov (fun i _ => (HF.out i).1)
    injection e1 with e11 _ e13; injection e2 with e21 _ e23; injection e3 with e31 _ e33
    subst e11 e13 e21 e23 e31 e33
    exact ⟨_, _, _, q, _, _, _, _, _, X, rfl, ⟨zS, zI, zV, HG.out.val HF.out⟩, HQ.out, ⟨gq, GS, GI, GF, HV.out, HB.out, fun i' j' h1 h2 => by rw [← HE.out]; exact HC.out.c j' i' h2 h1⟩, zbh⟩
end Go.Proofs.YtablcbgeeeboeaaGreatDoor
