/-
  Walks: Norm of both sides.
-/
import Derived.Test.YtablcbgeeeboeaaGreatDoorZfQj
import Derived.Test.YtablcbgeeeboeaaGreatDoorZfBg
set_option maxRecDepth 100000
set_option maxHeartbeats 40000000
namespace Go.Proofs.YtablcbgeeeboeaaGreatDoor
open Go.RowKit Sp
theorem dcmp_flip (d e : Option (Int × Int)) : dcmp d e = - dcmp e d := by
 cases d with
 | none => cases e <;> rfl
 | some p => cases e with
  | none => rfl
  | some q =>
   obtain ⟨m, e⟩ := p
   obtain ⟨n, f⟩ := q
   show cmpI (up m e (min e f)) (up n f (min e f)) = - cmpI (up n f (min f e)) (up m e (min f e))
   rw [Int.min_comm f e]
   unfold cmpI
   repeat' split
   all_goals omega
theorem fof_fabs {f : Nat} (h : ffin f = true) : fof (fabs f) = dabs (fof f) := by
 have h1 : fnan f = false := by
  unfold ffin at h; unfold fnan
  simp at h ⊢; omega
 have e1 : fabs f = fM f := by unfold fabs; rw [h1]; rfl
 have e2 : fM (fM f) = fM f := Nat.mod_mod _ _
 have e3 : ffin (fM f) = true := by unfold ffin at h ⊢; rw [e2]; exact h
 have e4 : fS (fM f) = false := by unfold fS; have := fM_lt f; simp; omega
 have e5 : fz (fM f) = ((fz f).natAbs : Int) := by unfold fz; rw [e2, e4, sgn_natAbs]; rfl
 rw [e1]
 unfold fof
 rw [if_pos e3, if_pos h, e5]
 have h2 := fof_some h
 exact (dabs_nrm (fz f) (-1074) h2).1.symm
def rowS (X : Nat → Nat) (r c i : Nat) : Option (Int × Int) := dsum (fun j => dabs (fof (X (j * r + i)))) c
theorem isN_rowS (X : Nat → Nat) (r c i : Nat) : IsN (rowS X r c i) := isN_sum _ _
theorem isN_dinf {d : Nat → Option (Int × Int)} (h : ∀ i, IsN (d i)) (n : Nat) : IsN (dinf d n) := by
 induction n with
 | zero => exact isN_zz
 | succ n ih => show IsN (if 0 < dcmp (d n) (dinf d n) then d n else dinf d n); split; exact h n; exact ih
theorem dinf_hi {d : Nat → Option (Int × Int)} {n : Nat} (h : 0 < dcmp (d n) (dinf d n)) : dinf d (n + 1) = d n := if_pos h
theorem dinf_lo {d : Nat → Option (Int × Int)} {n : Nat} (h : ¬ 0 < dcmp (d n) (dinf d n)) : dinf d (n + 1) = dinf d n := if_neg h
theorem rsum_one (X : Nat → Nat) {n : Nat} (hn : n ≤ 15) (h : ∀ i, i < n → ffin (X i) = true) : rsumD (fun i => dabs (fof (X i))) n = dsum (fun i => dabs (fof (X i))) n :=
 rsumD_fin (M := absL X) (E := -1074) (fun i hi => by
  show dabs (fof (X i)) = _ ∧ _
  rw [fof_fin (h i hi)]; exact dabs_nrm _ _ (fof_some (h i hi))) (fun k hk => aone_val (by omega) (fun i hi => h i (by omega))) n (Nat.le_refl _)
attribute [local irreducible] Calls
theorem r23less_any (w : World) [Tb w] (v s : Bool) (a : Option Addr) (n c : Nat) (e : Int) (d : Option (Int × Int)) [hx : DS w v s a n c e d] (v' s' : Bool) (a' : Option Addr) (n' c' : Nat) (e' : Int) (d' : Option (Int × Int)) [hy : DS w v' s' a' n' c' e' d'] :
 Calls Tryz.prog 86 #[.agg #[.bool v, .bool s, .slice a n c, .int .i64 e], .agg #[.bool v', .bool s', .slice a' n' c', .int .i64 e']] w fun o w' => o = .returned (.bool (decide (dcmp d d' < 0))) ∧ Below w.heap.size w w' := by
 have HR := fun W [i : DS W v s a n c e d] [j : DS W v' s' a' n' c' e' d'] [Tb W] => Lib.hid (frm (rdcmp_any W v s v' s' a a' n n' c c' e e' d d' i.out j.out tb))
 generalize dcmp d d' = z at *
 go_enter Tryz.func86, Tryz.ntmps86
 go_wp2_with fail
 refine (HR _).out.mono ?_; rintro o w1 ⟨rfl, b1⟩; go_wp2_with fail
 go_ret
 exact ⟨rfl, zbh⟩
theorem dnormp_any (w : World) [Tb w] (r c : Nat) (hr : r ≤ 15) (hc : c ≤ 15) (a : Option Addr) (cap : Nat) (X : Nat → Nat) [hL : FZ w a (r * c) cap X] (hX : ∀ t, t < r * c → ffin (X t) = true) :
 Calls Tryz.prog 41 #[.agg #[.int .i64 r, .int .i64 c, .slice a (r * c) cap]] w fun o w' => ∃ A C, o = .returned (.tuple #[.agg #[.bool (dbad (dinf (rowS X r c) r)), .bool (decide (dman (dinf (rowS X r c) r) < 0)), .slice A (nl (dman (dinf (rowS X r c) r)).natAbs) C, .int .i64 (dexp (dinf (rowS X r c) r))], .int .i64 0]) ∧ BI w' A (nl (dman (dinf (rowS X r c) r)).natAbs) C (dman (dinf (rowS X r c) r)).natAbs ∧ From w w' := by
 have HC := fun W [i : FZ W a (r * c) cap X] => Lib.hid (frm (dcheckp_any W r c a (r * c) cap X i.out))
 rw [chk_fin (show r ≤ 64 by omega) (show c ≤ 64 by omega) hX] at HC
 have HFI := fun W [Tb W] => Lib.hid (frF (dfromInt_any W 0 tb (by omega) (by omega)))
 rw [nrm_zero] at HFI
 obtain ⟨S, hS⟩ : ∃ S, S = rowS X r c := ⟨_, rfl⟩
 have HS := Lib.hid hS
 have HSN : Hid (∀ i, IsN (S i)) := Lib.hid fun i => by rw [hS]; exact isN_rowS _ _ _ _
 have HXR : Hid (∀ i, i < r → rsumD (fun j => dabs (fof (X (j * r + i)))) c = dsum (fun j => dabs (fof (X (j * r + i)))) c) := Lib.hid fun i hi => rsum_one (fun j => X (j * r + i)) hc fun j hj => hX _ (pq_lt hi hj)
 rw [← hS]
 obtain ⟨N, hN⟩ : ∃ N, N = r * c := ⟨_, rfl⟩
 have HN := Lib.hid hN
 have HX := Lib.hid hX
 have hN4 : N ≤ 225 := by rw [hN]; exact Nat.mul_le_mul hr hc
 rw [← hN] at HC HX ⊢
 haveI hF : FZ w a N cap X := by rw [hN]; exact hL
 clear hS hN hX hL
 go_enter Tryz.func41, Tryz.ntmps41
 go_wp2_with fail
 refine (HC _).out.mono ?_; rintro o w1 ⟨rfl, b1⟩
 have e1 := b1.out.size
 simp at e1
 clear HC
 go_wp2_with fail
 refine (HFI _).out.mono ?_; rintro o w2 ⟨a2, c2, rfl, i2, b2, f2⟩
 have e2 := b2.out.size
 clear HFI
 go_wp2_with fail
 go_loopw [21] (fun x wr => ∃ (i : Nat), i ≤ r ∧ x = .int .i64 i ∧ ∃ (A : Option Addr) (C : Nat), DB wr w2.heap.size (dbad (dinf S i)) (decide (dman (dinf S i) < 0)) (.slice A (nl (dman (dinf S i)).natAbs) C) (dexp (dinf S i)) ∧ BI wr A (nl (dman (dinf S i)).natAbs) C (dman (dinf S i)).natAbs ∧ (0 < nl (dman (dinf S i)).natAbs → w.heap.size + 2 ≤ ab A) ∧ N3 wr w.heap.size (.int .i64 r) (.int .i64 c) (.slice a N cap) ∧ DB wr (w.heap.size + 1) false false (.slice none 0 0) 0 ∧ Below w.heap.size w wr) (fun x _ => r - (intOf x).toNat)
 case atStart => exact ⟨0, by omega, rfl, a2, c2, (by exact inferInstance), (by show BI _ a2 (nl (dman (some ((0 : Int), (0 : Int)))).natAbs) c2 (dman (some ((0 : Int), (0 : Int)))).natAbs; exact inferInstance), fun h => absurd (show 0 < nl (dman (some ((0 : Int), (0 : Int)))).natAbs from h) (by decide), inferInstance, inferInstance, zbh⟩
 case round =>
  obtain ⟨i, hi, rfl, A, C, iG, iI, hfr, iB, iO, hbr⟩ := hrel
  rename World => wi
  haveI bw : From w wi := ⟨hbr⟩
  have hlg : w2.heap.size < wi.heap.size := iG.out.lt
  clear hbr
  by_cases hlt : i < r
  · obtain ⟨G, hG⟩ : ∃ G, G = fun j => dabs (fof (X (j * r + i))) := ⟨_, rfl⟩
    have HG := Lib.hid hG
    have HGN : Hid (∀ k, IsN (G k)) := Lib.hid fun k => by rw [hG]; exact isN_abs (isN_fof _)
    have HGD : Hid (S i = dsum G c) := Lib.hid (by rw [hG, HS.out]; rfl)
    have HRS : Hid (rsumD G c = dsum G c) := Lib.hid (by rw [hG]; exact HXR.out i hlt)
    clear hG
    go_wp2_with fail
    go_loopw [7, 26] (fun v x wk => ∃ (k : Nat) (A : Nat → Option Addr) (C : Nat → Nat), k ≤ c ∧ x = .int .i64 k ∧ DX wk wi.heap.size v k G A C ∧ Below wi.heap.size wi wk) (fun _ x _ => c - (intOf x).toNat)
    case atStart => exact ⟨0, _, _, by omega, rfl, ⟨(DM.nil wi wi.heap.size G).out⟩, Below.refl _ _⟩
    case round =>
     rename World => wk
     rename Value => tv
     obtain ⟨k, A', C', hk, rfl, iX, hbk⟩ := hrel
     haveI bwk : From wi wk := ⟨hbk⟩
     have ek := hbk.size
     clear hbk
     obtain ⟨ta, tc, hv9⟩ := own_slice' iX.out.own
     subst hv9
     by_cases hlt3 : k < c
     · obtain ⟨P1, hP1⟩ : ∃ P1, P1 = k * r := ⟨_, rfl⟩
       have l1 : (k : Int) * (r : Int) = (P1 : Int) := by rw [hP1]; exact (Int.natCast_mul _ _).symm
       have s1 : P1 + i < N := by rw [hP1, HN.out]; exact pq_lt hlt hlt3
       have hdc : G k = dabs (fof (X (P1 + i))) := by rw [HG.out, hP1]
       have hfx := HX.out _ s1
       have Fa : FZ wk a N cap X := inferInstance
       have g1 := Fa.out.idx _ s1
       rw [show (((P1 + i : Nat)) : Int) = (P1 : Int) + (i : Int) by omega] at g1
       have n1 := Fa.out.b _ s1
       have c1' := Fa.out.cell _ s1
       have ol1 := Fa.out.old (by omega)
       have x1 : IntKind.i64.wrap (P1 : Int) = (P1 : Int) := by rw [IntKind.wrap_i64]; omega
       have x2 : IntKind.i64.wrap ((P1 : Int) + (i : Int)) = (P1 : Int) + (i : Int) := by rw [IntKind.wrap_i64]; omega
       obtain ⟨o6, ho6⟩ : ∃ o6, o6 = P1 + i := ⟨_, rfl⟩
       rw [← ho6] at g1 n1 c1' hdc hfx
       generalize X o6 = f6 at *
       haveI q1 : CE wk (ab a) (ao a + o6) (.int .u64 ((f6 : Nat) : Int)) := ⟨c1', ol1⟩
       clear hP1 ho6 Fa c1' ol1 s1
       have HAB := fun W => Lib.hid (frm (fabs_any W f6 n1))
       have HFA := fof_fabs hfx
       have hlf : fabs f6 < 18446744073709551616 := by rw [show fabs f6 = fM f6 by unfold fabs; rw [show fnan f6 = false by unfold ffin at hfx; unfold fnan; simp at hfx ⊢; omega]; rfl]; have := fM_lt f6; omega
       rw [← HFA] at hdc
       generalize fabs f6 = f7 at *
       have HO1 := fun W [Tb W] => Lib.hid (frF (fof_any W f7 hlf tb))
       obtain ⟨dk, hdk⟩ : ∃ dk, dk = fof f7 := ⟨_, rfl⟩
       rw [← hdk] at HO1 hdc
       have HDC := Lib.hid hdc
       generalize ((f6 : Nat) : Int) = fi6 at *
       generalize ((f7 : Nat) : Int) = fi7 at *
       clear hdc hdk n1 HFA hlf hfx
       go_wp2_with fail
       refine (HAB _).out.mono ?_; rintro o z1 ⟨rfl, b1⟩; go_wp2_with fail
       refine (HO1 _).out.mono ?_; rintro o z2 ⟨a4, c4, rfl, i4, b4, f4⟩
       have q3 := b1.out.size
       have q5 := b4.out.size
       (try simp at q3 q5)
       have AA : Hid (DX (z2.alloc (.cells #[.bool (dbad dk), .bool (decide (dman dk < 0)), .slice a4 (nl (dman dk).natAbs) c4, .int .i64 (dexp dk)] 46)) wi.heap.size (.slice ta k tc) k G A' C') := Lib.hid inferInstance
       have LL : Hid (Below wi.heap.size wi (z2.alloc (.cells #[.bool (dbad dk), .bool (decide (dman dk < 0)), .slice a4 (nl (dman dk).natAbs) c4, .int .i64 (dexp dk)] 46))) := Lib.hid zbh
       go_wp2_with (at_builtin; refine app_dyad rfl _ _ rfl wi.heap.size (.slice ta k tc) k (dcells (mcell G A' C') k) rfl _ (dbad dk) (decide (dman dk < 0)) (.slice a4 (nl (dman dk).natAbs) c4) (dexp dk) rfl rfl AA.out.out.own (by go_simp) (by go_simp) (by go_simp) (by go_simp) (by omega) (by simp; omega) ?_; intro v6 w6 hown6 hg6 hob6; obtain ⟨o6, c6, rfl⟩ := own_slice' hown6)
       have hne : 0 < nl (dman dk).natAbs → some (ab a4) ≠ Value.ownBlock (.slice ta k tc) := fun h q => by have h1 := (iX.out.own.lt _ q.symm).2; have h2 := f4 h; omega
       have X5 := AA.out.app HDC.out hown6 hg6 hob6 (i4.out.alloc _) hne
       have L5 : Below wi.heap.size wi w6 := LL.out.trans (below_grown AA.out.out.own hg6 (by simp; omega))
       clear hown6 hg6 hob6 AA LL HO1 HAB
       go_wp2_with fail
       go_roundw
       case rel => exact ⟨k + 1, _, _, by omega, by go_num, X5, L5⟩
       case measure => simp [intOf]; omega
     · have hck : k = c := by omega
       subst hck
       obtain ⟨ds, hds⟩ : ∃ ds, ds = dsum G k := ⟨_, rfl⟩
       have HSUM := fun W (bx : Below wk.heap.size wk W) [Tb W] => Lib.hid (frF (by
        haveI bx' : From wk W := ⟨bx⟩
        have d6 : DX W wi.heap.size (.slice ta k tc) k G A' C' := inferInstance
        obtain ⟨oa', oc', hv', hZ'⟩ := dms_sum (tb (w := W)) d6.out HGN.out (show k ≤ 1048576 by omega)
        have hv1 : oa' = ta := by injection hv' with h1 h2 h3; exact h1.symm
        have hv3 : oc' = tc := by injection hv' with h1 h2 h3; exact h3.symm
        rw [hv1, hv3] at hZ'
        exact hZ'))
       rw [← hds] at HSUM
       have HDS : Hid (S i = ds) := Lib.hid (by rw [hds]; exact HGD.out)
       have HNds : Hid (IsN ds) := Lib.hid (by rw [hds]; exact isN_sum _ _)
       have HDG : Hid (∀ x, dinf S i = x → (0 < dcmp ds x → dinf S (i + 1) = ds) ∧ (¬ 0 < dcmp ds x → dinf S (i + 1) = x)) := Lib.hid fun x hx => by rw [← hx, ← HDS.out]; exact ⟨dinf_hi, dinf_lo⟩
       have HNG := Lib.hid (isN_dinf HSN.out i)
       obtain ⟨dg, hdg⟩ : ∃ dg, dinf S i = dg := ⟨_, rfl⟩
       rw [hdg] at HNG
       have HDG2 := Lib.hid (HDG.out dg hdg)
       have HCM := fun W a c a' c' [i1 : BI W a (nl (dman ds).natAbs) c (dman ds).natAbs] [i2 : BI W a' (nl (dman dg).natAbs) c' (dman dg).natAbs] [Tb W] => Lib.hid (frm (dcmp_any W (dbad ds) (decide (dman ds < 0)) (dbad dg) (decide (dman dg < 0)) a a' _ _ c c' (dexp ds) (dexp dg) ds dg (dyin_of HNds.out i1.out) (dyin_of HNG.out i2.out) tb))
       rw [hdg] at iG iI hfr
       clear hds hdg HDG
       generalize dcmp ds dg = u at *
       go_wp2_with fail
       refine (HSUM _ (by exact zbh)).out.mono ?_; rintro o w3 ⟨a3, c3, rfl, i3, b3, f3⟩
       clear HSUM
       go_wp2_with fail
       refine (HCM _ _ _ _ _).out.mono ?_; rintro o w4 ⟨rfl, b4⟩
       clear HCM
       by_cases hu : 0 < u
       · have HE := Lib.hid (HDG2.out.1 (by omega))
         haveI g4 : DB w4 w2.heap.size (dbad dg) (decide (dman dg < 0)) (.slice A (nl (dman dg).natAbs) C) (dexp dg) := inferInstance
         haveI m4 : BI w4 a3 (nl (dman ds).natAbs) c3 (dman ds).natAbs := inferInstance
         have hN3 : N3 w4 w.heap.size (.int .i64 r) (.int .i64 k) (.slice a N cap) := inferInstance
         have hO : DB w4 (w.heap.size + 1) false false (.slice none 0 0) 0 := inferInstance
         have L4 : Below w.heap.size w w4 := zbh
         have D5 := DB.pt4 g4 (dbad ds) (decide (dman ds < 0)) (.slice a3 (nl (dman ds).natAbs) c3) (dexp ds)
         have I5 : BI _ a3 (nl (dman ds).natAbs) c3 (dman ds).natAbs := ⟨Mag.st4 m4.out (g := w2.heap.size) (fun h => by have h2 := f3 h; omega) (.bool (dbad ds)) (.bool (decide (dman ds < 0))) (.slice a3 (nl (dman ds).natAbs) c3) (.int .i64 (dexp ds))⟩
         have hN5 := N3.sen (N3.sen (N3.sen (N3.sen hN3 (show w.heap.size ≠ w2.heap.size by omega) 0 (.bool (dbad ds))) (show w.heap.size ≠ w2.heap.size by omega) 1 (.bool (decide (dman ds < 0)))) (show w.heap.size ≠ w2.heap.size by omega) 2 (.slice a3 (nl (dman ds).natAbs) c3)) (show w.heap.size ≠ w2.heap.size by omega) 3 (.int .i64 (dexp ds))
         have hO5 := DB.st4 hO (g := w2.heap.size) (show w.heap.size + 1 ≠ w2.heap.size by omega) (.bool (dbad ds)) (.bool (decide (dman ds < 0))) (.slice a3 (nl (dman ds).natAbs) c3) (.int .i64 (dexp ds))
         have L5 := (((L4.setCell (p := ⟨w2.heap.size, 0, none⟩) (by show w.heap.size ≤ w2.heap.size; omega) (.bool (dbad ds))).setCell (p := ⟨w2.heap.size, 1, none⟩) (by show w.heap.size ≤ w2.heap.size; omega) (.bool (decide (dman ds < 0)))).setCell (p := ⟨w2.heap.size, 2, none⟩) (by show w.heap.size ≤ w2.heap.size; omega) (.slice a3 (nl (dman ds).natAbs) c3)).setCell (p := ⟨w2.heap.size, 3, none⟩) (by show w.heap.size ≤ w2.heap.size; omega) (.int .i64 (dexp ds))
         go_wp2_with fail
         go_roundw
         case rel => exact ⟨i + 1, by omega, by go_num, a3, c3, by rw [HE.out]; exact D5, by rw [HE.out]; exact I5, by rw [HE.out]; exact fun h => (by have h2 := f3 h; omega), hN5, hO5, L5⟩
         case measure => simp [intOf]; omega
       · have HE := Lib.hid (HDG2.out.2 (by omega))
         go_wp2_with fail
         go_roundw
         case rel => exact ⟨i + 1, by omega, by go_num, A, C, by rw [HE.out]; exact inferInstance, by rw [HE.out]; exact inferInstance, by rw [HE.out]; exact hfr, inferInstance, inferInstance, zbh⟩
         case measure => simp [intOf]; omega
  · have hir : i = r := by omega
    subst hir
    have HNG := Lib.hid (isN_dinf HSN.out i)
    obtain ⟨dg, hdg⟩ : ∃ dg, dg = dinf S i := ⟨_, rfl⟩
    rw [← hdg] at iG iI hfr
    have HGE := Lib.hid hdg
    clear hdg HNG
    have L4 : Below w.heap.size w wi := bw.out
    have I5 : BI _ A (nl (dman dg).natAbs) C (dman dg).natAbs := ⟨Mag.st4 iI.out (g := w.heap.size + 1) (fun h => by have h2 := hfr h; omega) (.bool (dbad dg)) (.bool (decide (dman dg < 0))) (.slice A (nl (dman dg).natAbs) C) (.int .i64 (dexp dg))⟩
    have L5 := (((L4.setCell (p := ⟨w.heap.size + 1, 0, none⟩) (Nat.le_succ _) (.bool (dbad dg))).setCell (p := ⟨w.heap.size + 1, 1, none⟩) (Nat.le_succ _) (.bool (decide (dman dg < 0)))).setCell (p := ⟨w.heap.size + 1, 2, none⟩) (Nat.le_succ _) (.slice A (nl (dman dg).natAbs) C)).setCell (p := ⟨w.heap.size + 1, 3, none⟩) (Nat.le_succ _) (.int .i64 (dexp dg))
    go_wp2_with fail
    refine bodyPost_ret (v := .tuple #[.agg #[.bool (dbad dg), .bool (decide (dman dg < 0)), .slice A (nl (dman dg).natAbs) C, .int .i64 (dexp dg)], .int .i64 0]) (by simp only [results, Tryz.results41]; go_simp) rfl ?_
    exact ⟨A, C, by rw [← HGE.out], by rw [← HGE.out]; exact I5, ⟨L5⟩⟩
theorem rnormp_any (w : World) [Tb w] (r c : Nat) (hr : r ≤ 15) (hc : c ≤ 15) (a : Option Addr) (cap : Nat) (X : Nat → Nat) [hL : FZ w a (r * c) cap X] (hX : ∀ t, t < r * c → ffin (X t) = true) :
 Calls Tryz.prog 42 #[.agg #[.int .i64 r, .int .i64 c, .slice a (r * c) cap]] w fun o w' => ∃ A C, o = .returned (.tuple #[.agg #[.bool (dbad (dinf (rowS X r c) r)), .bool (decide (dman (dinf (rowS X r c) r) < 0)), .slice A (nl (dman (dinf (rowS X r c) r)).natAbs) C, .int .i64 (dexp (dinf (rowS X r c) r))], .int .i64 0]) ∧ BI w' A (nl (dman (dinf (rowS X r c) r)).natAbs) C (dman (dinf (rowS X r c) r)).natAbs ∧ From w w' := by
 have HC := fun W [i : FZ W a (r * c) cap X] => Lib.hid (frm (rcheckp_any W r c a (r * c) cap X i.out))
 rw [chk_fin (show r ≤ 64 by omega) (show c ≤ 64 by omega) hX] at HC
 obtain ⟨S, hS⟩ : ∃ S, S = rowS X r c := ⟨_, rfl⟩
 have HS := Lib.hid hS
 have HSN : Hid (∀ i, IsN (S i)) := Lib.hid fun i => by rw [hS]; exact isN_rowS _ _ _ _
 have HXR : Hid (∀ i, i < r → rsumD (fun j => dabs (fof (X (j * r + i)))) c = dsum (fun j => dabs (fof (X (j * r + i)))) c) := Lib.hid fun i hi => rsum_one (fun j => X (j * r + i)) hc fun j hj => hX _ (pq_lt hi hj)
 rw [← hS]
 obtain ⟨N, hN⟩ : ∃ N, N = r * c := ⟨_, rfl⟩
 have HN := Lib.hid hN
 have HX := Lib.hid hX
 have hN4 : N ≤ 225 := by rw [hN]; exact Nat.mul_le_mul hr hc
 rw [← hN] at HC HX ⊢
 haveI hF : FZ w a N cap X := by rw [hN]; exact hL
 clear hS hN hX hL
 go_enter Tryz.func42, Tryz.ntmps42
 go_wp2_with fail
 refine (HC _).out.mono ?_; rintro o w1 ⟨rfl, b1⟩
 have e1 := b1.out.size
 simp at e1
 clear HC
 go_wp2_with fail
 have e2 : w1.heap.size ≤ w1.heap.size := Nat.le_refl _
 clear e2
 go_loopw [6] (fun x wr => ∃ (i : Nat), i ≤ r ∧ x = .int .i64 i ∧ ∃ (A : Option Addr) (C : Nat), DB wr w1.heap.size (dbad (dinf S i)) (decide (dman (dinf S i) < 0)) (.slice A (nl (dman (dinf S i)).natAbs) C) (dexp (dinf S i)) ∧ BI wr A (nl (dman (dinf S i)).natAbs) C (dman (dinf S i)).natAbs ∧ (0 < nl (dman (dinf S i)).natAbs → w.heap.size + 2 ≤ ab A) ∧ N3 wr w.heap.size (.int .i64 r) (.int .i64 c) (.slice a N cap) ∧ DB wr (w.heap.size + 1) false false (.slice none 0 0) 0 ∧ Below w.heap.size w wr) (fun x _ => r - (intOf x).toNat)
 case atStart => exact ⟨0, by omega, rfl, none, 0, (by exact (inferInstance : DB (w1.alloc (.cells #[.bool false, .bool false, .slice none 0 0, .int .i64 0] 46)) w1.heap.size false false (.slice none 0 0) 0)), ⟨Mag.nil _⟩, fun h => absurd (show 0 < nl (dman (some ((0 : Int), (0 : Int)))).natAbs from h) (by decide), inferInstance, inferInstance, zbh⟩
 case round =>
  obtain ⟨i, hi, rfl, A, C, iG, iI, hfr, iB, iO, hbr⟩ := hrel
  rename World => wi
  haveI bw : From w wi := ⟨hbr⟩
  have hlg : w1.heap.size < wi.heap.size := iG.out.lt
  clear hbr
  by_cases hlt : i < r
  · obtain ⟨G, hG⟩ : ∃ G, G = fun j => dabs (fof (X (j * r + i))) := ⟨_, rfl⟩
    have HG := Lib.hid hG
    have HGN : Hid (∀ k, IsN (G k)) := Lib.hid fun k => by rw [hG]; exact isN_abs (isN_fof _)
    have HGD : Hid (S i = dsum G c) := Lib.hid (by rw [hG, HS.out]; rfl)
    have HRS : Hid (rsumD G c = dsum G c) := Lib.hid (by rw [hG]; exact HXR.out i hlt)
    clear hG
    go_wp2_with fail
    have DB0 : DB (wi.alloc (.cells #[.bool false, .bool false, .slice none 0 0, .int .i64 0] 46)) wi.heap.size (dbad (rsumD G 0)) (decide (dman (rsumD G 0) < 0)) (.slice none (nl (dman (rsumD G 0)).natAbs) 0) (dexp (rsumD G 0)) := (inferInstance : DB (wi.alloc (.cells #[.bool false, .bool false, .slice none 0 0, .int .i64 0] 46)) wi.heap.size false false (.slice none 0 0) 0)
    have BI0 : BI (wi.alloc (.cells #[.bool false, .bool false, .slice none 0 0, .int .i64 0] 46)) none (nl (dman (rsumD G 0)).natAbs) 0 (dman (rsumD G 0)).natAbs := ⟨Mag.nil _⟩
    have L0 : Below wi.heap.size wi (wi.alloc (.cells #[.bool false, .bool false, .slice none 0 0, .int .i64 0] 46)) := zbh
    go_loopw [8] (fun x wk => ∃ (k : Nat) (A : Option Addr) (C : Nat), k ≤ c ∧ x = .int .i64 k ∧ DB wk wi.heap.size (dbad (rsumD G k)) (decide (dman (rsumD G k) < 0)) (.slice A (nl (dman (rsumD G k)).natAbs) C) (dexp (rsumD G k)) ∧ BI wk A (nl (dman (rsumD G k)).natAbs) C (dman (rsumD G k)).natAbs ∧ (0 < nl (dman (rsumD G k)).natAbs → wi.heap.size < ab A) ∧ Below wi.heap.size wi wk) (fun x _ => c - (intOf x).toNat)
    case atStart => exact ⟨0, _, _, by omega, rfl, DB0, BI0, fun h => absurd (show 0 < nl (dman (some ((0 : Int), (0 : Int)))).natAbs from h) (by decide), L0⟩
    case round =>
     clear DB0 BI0 L0
     rename World => wk
     obtain ⟨k, A', C', hk, rfl, iD, iJ, hfr2, hbk⟩ := hrel
     haveI bwk : From wi wk := ⟨hbk⟩
     have ek := hbk.size
     have hlD : wi.heap.size < wk.heap.size := iD.out.lt
     clear hbk
     by_cases hlt3 : k < c
     · obtain ⟨P1, hP1⟩ : ∃ P1, P1 = k * r := ⟨_, rfl⟩
       have l1 : (k : Int) * (r : Int) = (P1 : Int) := by rw [hP1]; exact (Int.natCast_mul _ _).symm
       have s1 : P1 + i < N := by rw [hP1, HN.out]; exact pq_lt hlt hlt3
       have hdc : G k = dabs (fof (X (P1 + i))) := by rw [HG.out, hP1]
       have hfx := HX.out _ s1
       have Fa : FZ wk a N cap X := inferInstance
       have g1 := Fa.out.idx _ s1
       rw [show (((P1 + i : Nat)) : Int) = (P1 : Int) + (i : Int) by omega] at g1
       have n1 := Fa.out.b _ s1
       have c1' := Fa.out.cell _ s1
       have ol1 := Fa.out.old (by omega)
       have x1 : IntKind.i64.wrap (P1 : Int) = (P1 : Int) := by rw [IntKind.wrap_i64]; omega
       have x2 : IntKind.i64.wrap ((P1 : Int) + (i : Int)) = (P1 : Int) + (i : Int) := by rw [IntKind.wrap_i64]; omega
       obtain ⟨o6, ho6⟩ : ∃ o6, o6 = P1 + i := ⟨_, rfl⟩
       rw [← ho6] at g1 n1 c1' hdc hfx
       generalize X o6 = f6 at *
       haveI q1 : CE wk (ab a) (ao a + o6) (.int .u64 ((f6 : Nat) : Int)) := ⟨c1', ol1⟩
       clear hP1 ho6 Fa c1' ol1 s1
       have HO1 := fun W [Tb W] => Lib.hid (frI (r3of_any W f6 n1 tb))
       have HAB := fun W a c [i : BI W a (nl (dman (fof f6)).natAbs) c (dman (fof f6)).natAbs] [Tb W] => Lib.hid (frF (rdabs_any W _ _ a _ c _ (fof f6) (dys_of (isN_fof f6) i.out) tb))
       obtain ⟨dk, hdk⟩ : ∃ dk, dk = dabs (fof f6) := ⟨_, rfl⟩
       have HDK := Lib.hid (show IsN dk by rw [hdk]; exact isN_abs (isN_fof f6))
       rw [← hdk] at HAB hdc
       have HAK : Hid (dadd (rsumD G k) dk = rsumD G (k + 1)) := Lib.hid (by rw [← hdc]; rfl)
       have HRN := Lib.hid (isN_rsum G k)
       obtain ⟨rk1, hk1⟩ : ∃ rk1, rk1 = rsumD G (k + 1) := ⟨_, rfl⟩
       rw [← hk1] at HAK
       have HK1 := Lib.hid hk1
       clear hk1 hdk
       generalize rsumD G k = rk at *
       have HAD := fun W a c a' c' [i : BI W a (nl (dman rk).natAbs) c (dman rk).natAbs] [j : BI W a' (nl (dman dk).natAbs) c' (dman dk).natAbs] [Tb W] => Lib.hid (frF (rdadd_any W _ _ _ _ a a' _ _ c c' _ _ rk dk (dys_of HRN.out i.out) (dys_of HDK.out j.out) tb))
       rw [HAK.out] at HAD
       generalize fof f6 = dj at *
       generalize ((f6 : Nat) : Int) = fi6 at *
       clear hdc n1 HAK hfx
       go_wp2_with fail
       refine bgj (fun w' => Below wk.heap.size wk w') [14] (by kernel_rfl) (zbh) (fun hHeld => ?_)
       simp only [List.size_toArray, List.length_cons, List.length_nil, Nat.reduceAdd, Array.replicate_succ, Array.replicate_zero, List.push_toArray, List.nil_append, List.cons_append]
       refine tkj 0 29 ?_ [13, 14] (hy := ?_) (hS := zbh) (h := ?_)
       rotate_left
       · intro w hSw; haveI : From wk w := ⟨hSw⟩; go_simp; (try with_reducible rfl)
       refine tkj 1 30 ?_ [2, 9, 10, 11, 12, 13, 14] (hy := ?_) (hS := zbh) (h := ?_)
       rotate_left
       · intro w hSw; haveI : From wk w := ⟨hSw⟩; go_simp; (try with_reducible rfl)
       refine tkj 2 31 ?_ [9, 10, 11, 12, 13, 14] (hy := ?_) (hS := zbh) (h := ?_)
       rotate_left
       · intro w hSw; haveI : From wk w := ⟨hSw⟩; go_simp; (try with_reducible rfl)
       refine tkj 3 32 ?_ [6, 8, 9, 10, 11, 12, 13, 14] (hy := ?_) (hS := zbh) (h := ?_)
       rotate_left
       · intro w hSw; haveI : From wk w := ⟨hSw⟩; go_simp; (try with_reducible rfl)
       refine tkj 4 33 ?_ [5, 6, 8, 9, 10, 11, 12, 13, 14] (hy := ?_) (hS := zbh) (h := ?_)
       rotate_left
       · intro w hSw; haveI : From wk w := ⟨hSw⟩; go_simp; (try with_reducible rfl)
       refine tkj 5 34 ?_ [6, 8, 9, 10, 11, 12, 13, 14] (hy := ?_) (hS := zbh) (h := ?_)
       rotate_left
       · intro w hSw; haveI : From wk w := ⟨hSw⟩; go_simp; (try with_reducible rfl)
       refine tkj 6 35 ?_ [8, 9, 10, 11, 12, 13, 14] (hy := ?_) (hS := zbh) (h := ?_)
       rotate_left
       · intro w hSw; haveI : From wk w := ⟨hSw⟩; go_simp; (try with_reducible rfl)
       refine tkj 7 36 ?_ [8, 9, 10, 11, 12, 13, 14] (hy := ?_) (hS := zbh) (h := ?_)
       rotate_left
       · intro w hSw; haveI : From wk w := ⟨hSw⟩; go_simp; (try with_reducible rfl)
       refine tkj 8 37 ?_ [9, 10, 11, 12, 13, 14] (hy := ?_) (hS := zbh) (h := ?_)
       rotate_left
       · intro w hSw; haveI : From wk w := ⟨hSw⟩; go_simp; (try with_reducible rfl)
       refine tkj 9 38 ?_ [10, 11, 12, 13, 14] (hy := ?_) (hS := zbh) (h := ?_)
       rotate_left
       · intro w hSw; haveI : From wk w := ⟨hSw⟩; go_simp; (try with_reducible rfl)
       refine tkj 10 39 ?_ [11, 12, 13, 14] (hy := ?_) (hS := zbh) (h := ?_)
       rotate_left
       · intro w hSw; haveI : From wk w := ⟨hSw⟩; go_simp; (try with_reducible rfl)
       refine stj 11 (h := fun K hK => ?_)
       go_simp
       go_at_call 20; refine (HO1 _).out.mono ?_; rintro o z1 ⟨a1, c1, rfl, i1, b1⟩
       go_simp
       refine hK.out _ _ (Or.inr zbh) ?_
       clear hK K
       try simp only [List.setIfInBounds_toArray, List.set_cons_zero, List.set_cons_succ]
       refine stj 12 (h := fun K hK => ?_)
       go_simp
       go_at_call 85; refine (HAB _ _ _).out.mono ?_; rintro o z2 ⟨a2, c2, rfl, i2, b2, f2⟩
       go_simp
       refine hK.out _ _ (Or.inr zbh) ?_
       clear hK K
       try simp only [List.setIfInBounds_toArray, List.set_cons_zero, List.set_cons_succ]
       refine stj 13 (h := fun K hK => ?_)
       go_simp
       go_at_call 74; refine (HAD _ _ _ _ _).out.mono ?_; rintro o z3 ⟨a3, c3, rfl, i3, b3, f3⟩
       go_simp
       refine hK.out _ _ (Or.inr zbh) ?_
       clear hK K
       try simp only [List.setIfInBounds_toArray, List.set_cons_zero, List.set_cons_succ]
       refine stj 14 (h := fun K hK => ?_)
       go_simp
       refine hK.out _ _ (Or.inl (by decide)) ?_
       clear hK K
       try simp only [List.setIfInBounds_toArray, List.set_cons_zero, List.set_cons_succ]
       refine enj (by kernel_rfl) ?_ _
       have q3 := b1.out.size
       have q4 := b2.out.size
       (try simp at q3 q4)
       have hne : 0 < nl (dman rk1).natAbs → ab a3 ≠ wi.heap.size := fun h e => by have h2 := f3 h; omega
       have hf5 : 0 < nl (dman rk1).natAbs → wi.heap.size < ab a3 := fun h => by have h2 := f3 h; omega
       have L5 : Below wi.heap.size wi z3 := zbh
       have D5 := DB.pt4 (inferInstance : DB z3 wi.heap.size (dbad rk) (decide (dman rk < 0)) (.slice A' (nl (dman rk).natAbs) C') (dexp rk)) (dbad rk1) (decide (dman rk1 < 0)) (.slice a3 (nl (dman rk1).natAbs) c3) (dexp rk1)
       have I5 : BI _ a3 (nl (dman rk1).natAbs) c3 (dman rk1).natAbs := ⟨Mag.st4 i3.out hne (.bool (dbad rk1)) (.bool (decide (dman rk1 < 0))) (.slice a3 (nl (dman rk1).natAbs) c3) (.int .i64 (dexp rk1))⟩
       have L6 := (((L5.setCell (p := ⟨wi.heap.size, 0, none⟩) (Nat.le_refl _) (.bool (dbad rk1))).setCell (p := ⟨wi.heap.size, 1, none⟩) (Nat.le_refl _) (.bool (decide (dman rk1 < 0)))).setCell (p := ⟨wi.heap.size, 2, none⟩) (Nat.le_refl _) (.slice a3 (nl (dman rk1).natAbs) c3)).setCell (p := ⟨wi.heap.size, 3, none⟩) (Nat.le_refl _) (.int .i64 (dexp rk1))
       clear HO1 HAB HAD
       go_wp2_with fail
       go_roundw
       case rel => exact ⟨k + 1, a3, c3, by omega, by go_num, by rw [← HK1.out]; exact D5, by rw [← HK1.out]; exact I5, by rw [← HK1.out]; exact hf5, L6⟩
       case measure => simp [intOf]; omega
     · have hck : k = c := by omega
       subst hck
       have hrs : rsumD G k = dsum G k := HRS.out
       rw [hrs] at iD iJ hfr2
       obtain ⟨ds, hds⟩ : ∃ ds, ds = dsum G k := ⟨_, rfl⟩
       rw [← hds] at iD iJ hfr2
       have HDS : Hid (S i = ds) := Lib.hid (by rw [hds]; exact HGD.out)
       have HNds : Hid (IsN ds) := Lib.hid (by rw [hds]; exact isN_sum _ _)
       have HDG : Hid (∀ x, dinf S i = x → (dcmp x ds < 0 → dinf S (i + 1) = ds) ∧ (¬ dcmp x ds < 0 → dinf S (i + 1) = x)) := Lib.hid fun x hx => by rw [← hx, ← HDS.out, dcmp_flip]; exact ⟨fun h => dinf_hi (by omega), fun h => dinf_lo (by omega)⟩
       have HNG := Lib.hid (isN_dinf HSN.out i)
       obtain ⟨dg, hdg⟩ : ∃ dg, dinf S i = dg := ⟨_, rfl⟩
       rw [hdg] at HNG
       have HDG2 := Lib.hid (HDG.out dg hdg)
       have HCM := fun W a c a' c' [i1 : BI W a (nl (dman dg).natAbs) c (dman dg).natAbs] [i2 : BI W a' (nl (dman ds).natAbs) c' (dman ds).natAbs] [Tb W] => Lib.hid (by
        haveI x1 : DS W (dbad dg) (decide (dman dg < 0)) a (nl (dman dg).natAbs) c (dexp dg) dg := ⟨dys_of HNG.out i1.out⟩
        haveI x2 : DS W (dbad ds) (decide (dman ds < 0)) a' (nl (dman ds).natAbs) c' (dexp ds) ds := ⟨dys_of HNds.out i2.out⟩
        exact frm (r23less_any W (dbad dg) (decide (dman dg < 0)) a (nl (dman dg).natAbs) c (dexp dg) dg (dbad ds) (decide (dman ds < 0)) a' (nl (dman ds).natAbs) c' (dexp ds) ds))
       rw [hdg] at iG iI hfr
       clear hds hdg HDG hrs
       generalize dcmp dg ds = u at *
       by_cases hu : u < 0
       · have HE := Lib.hid (HDG2.out.1 (by omega))
         go_wp2_with fail
         refine (HCM _ _ _ _ _).out.mono ?_; rintro o w4 ⟨rfl, b4⟩
         clear HCM
         haveI g4 : DB w4 w1.heap.size (dbad dg) (decide (dman dg < 0)) (.slice A (nl (dman dg).natAbs) C) (dexp dg) := inferInstance
         haveI m4 : BI w4 A' (nl (dman ds).natAbs) C' (dman ds).natAbs := inferInstance
         have hN3 : N3 w4 w.heap.size (.int .i64 r) (.int .i64 k) (.slice a N cap) := inferInstance
         have hO : DB w4 (w.heap.size + 1) false false (.slice none 0 0) 0 := inferInstance
         have L4 : Below w.heap.size w w4 := zbh
         have D5 := DB.pt4 g4 (dbad ds) (decide (dman ds < 0)) (.slice A' (nl (dman ds).natAbs) C') (dexp ds)
         have I5 : BI _ A' (nl (dman ds).natAbs) C' (dman ds).natAbs := ⟨Mag.st4 m4.out (g := w1.heap.size) (fun h => by have h2 := hfr2 h; omega) (.bool (dbad ds)) (.bool (decide (dman ds < 0))) (.slice A' (nl (dman ds).natAbs) C') (.int .i64 (dexp ds))⟩
         have hN5 := N3.sen (N3.sen (N3.sen (N3.sen hN3 (show w.heap.size ≠ w1.heap.size by omega) 0 (.bool (dbad ds))) (show w.heap.size ≠ w1.heap.size by omega) 1 (.bool (decide (dman ds < 0)))) (show w.heap.size ≠ w1.heap.size by omega) 2 (.slice A' (nl (dman ds).natAbs) C')) (show w.heap.size ≠ w1.heap.size by omega) 3 (.int .i64 (dexp ds))
         have hO5 := DB.st4 hO (g := w1.heap.size) (show w.heap.size + 1 ≠ w1.heap.size by omega) (.bool (dbad ds)) (.bool (decide (dman ds < 0))) (.slice A' (nl (dman ds).natAbs) C') (.int .i64 (dexp ds))
         have L5 := (((L4.setCell (p := ⟨w1.heap.size, 0, none⟩) (by show w.heap.size ≤ w1.heap.size; omega) (.bool (dbad ds))).setCell (p := ⟨w1.heap.size, 1, none⟩) (by show w.heap.size ≤ w1.heap.size; omega) (.bool (decide (dman ds < 0)))).setCell (p := ⟨w1.heap.size, 2, none⟩) (by show w.heap.size ≤ w1.heap.size; omega) (.slice A' (nl (dman ds).natAbs) C')).setCell (p := ⟨w1.heap.size, 3, none⟩) (by show w.heap.size ≤ w1.heap.size; omega) (.int .i64 (dexp ds))
         go_wp2_with fail
         go_roundw
         case rel => exact ⟨i + 1, by omega, by go_num, A', C', by rw [HE.out]; exact D5, by rw [HE.out]; exact I5, by rw [HE.out]; exact fun h => (by have h2 := hfr2 h; omega), hN5, hO5, L5⟩
         case measure => simp [intOf]; omega
       · have HE := Lib.hid (HDG2.out.2 (by omega))
         go_wp2_with fail
         refine (HCM _ _ _ _ _).out.mono ?_; rintro o w4 ⟨rfl, b4⟩
         clear HCM
         go_wp2_with fail
         go_roundw
         case rel => exact ⟨i + 1, by omega, by go_num, A, C, by rw [HE.out]; exact inferInstance, by rw [HE.out]; exact inferInstance, by rw [HE.out]; exact hfr, inferInstance, inferInstance, zbh⟩
         case measure => simp [intOf]; omega
  · have hir : i = r := by omega
    subst hir
    have HNG := Lib.hid (isN_dinf HSN.out i)
    obtain ⟨dg, hdg⟩ : ∃ dg, dg = dinf S i := ⟨_, rfl⟩
    rw [← hdg] at iG iI hfr
    have HGE := Lib.hid hdg
    clear hdg HNG
    have L4 : Below w.heap.size w wi := bw.out
    have I5 : BI _ A (nl (dman dg).natAbs) C (dman dg).natAbs := ⟨Mag.st4 iI.out (g := w.heap.size + 1) (fun h => by have h2 := hfr h; omega) (.bool (dbad dg)) (.bool (decide (dman dg < 0))) (.slice A (nl (dman dg).natAbs) C) (.int .i64 (dexp dg))⟩
    have L5 := (((L4.setCell (p := ⟨w.heap.size + 1, 0, none⟩) (Nat.le_succ _) (.bool (dbad dg))).setCell (p := ⟨w.heap.size + 1, 1, none⟩) (Nat.le_succ _) (.bool (decide (dman dg < 0)))).setCell (p := ⟨w.heap.size + 1, 2, none⟩) (Nat.le_succ _) (.slice A (nl (dman dg).natAbs) C)).setCell (p := ⟨w.heap.size + 1, 3, none⟩) (Nat.le_succ _) (.int .i64 (dexp dg))
    go_wp2_with fail
    refine bodyPost_ret (v := .tuple #[.agg #[.bool (dbad dg), .bool (decide (dman dg < 0)), .slice A (nl (dman dg).natAbs) C, .int .i64 (dexp dg)], .int .i64 0]) (by simp only [results, Tryz.results42]; go_simp) rfl ?_
    exact ⟨A, C, by rw [← HGE.out], by rw [← HGE.out]; exact I5, ⟨L5⟩⟩
end Go.Proofs.YtablcbgeeeboeaaGreatDoor
