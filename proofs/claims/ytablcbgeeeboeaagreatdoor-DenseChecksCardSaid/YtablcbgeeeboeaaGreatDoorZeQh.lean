/-
  Walks: the law DenseChecks.
-/
import Derived.WalkKit
import Derived.Lib.Hide
import Derived.Deep.QuietTactic
import Derived.Laws.CopyOwn
import Derived.WalkLawsBesides
import Derived.WalkSpells
import Derived.BigQuiet
import Derived.Lib.Strings
import Derived.Lib.Slices
import Derived.Lib.Small
import Derived.Lib.Walk
import Derived.Lib.BitFns
import Derived.Deep.DeepCutAuto
import Derived.Deep.CutBlock
import Derived.Deep.LoopGhost
import Derived.Deep.RegionHeld3
import Derived.ProofKit
import Derived.OpenShut
import Derived.Carry
import Derived.Laws.LoneSync
import Derived.Deep.DeepHandedRow
import Derived.Lib.LaidTab
import Derived.Deep.RegionWith
import Derived.Maps.AppendAt
import Derived.Deep.AppendLies
import Derived.Deep.RegionLaw
import Derived.Test.YtablcbgeeeboeaaGreatDoorZdBL
import Derived.Test.YtablcbgeeeboeaaGreatDoorZdBa
import Derived.Test.YtablcbgeeeboeaaGreatDoorZdBb
import Derived.Test.YtablcbgeeeboeaaGreatDoorZdBc
import Derived.Test.YtablcbgeeeboeaaGreatDoorZdBd
import Derived.Test.YtablcbgeeeboeaaGreatDoorZdBe
import Derived.Test.YtablcbgeeeboeaaGreatDoorZdBf
import Derived.Test.YtablcbgeeeboeaaGreatDoorZdBg
import Derived.Test.YtablcbgeeeboeaaGreatDoorZdBh
import Derived.Test.YtablcbgeeeboeaaGreatDoorZdCm
import Derived.Test.YtablcbgeeeboeaaGreatDoorZdCs
import Derived.Test.YtablcbgeeeboeaaGreatDoorZdFP
import Derived.Test.YtablcbgeeeboeaaGreatDoorZdGo
import Derived.Test.YtablcbgeeeboeaaGreatDoorZdGq
import Derived.Test.YtablcbgeeeboeaaGreatDoorZdGr
import Derived.Test.YtablcbgeeeboeaaGreatDoorZdKw
import Derived.Test.YtablcbgeeeboeaaGreatDoorZdOpen
import Derived.Test.YtablcbgeeeboeaaGreatDoorZdOpenW
import Derived.Test.YtablcbgeeeboeaaGreatDoorZdPFa
import Derived.Test.YtablcbgeeeboeaaGreatDoorZdPFb
import Derived.Test.YtablcbgeeeboeaaGreatDoorZdPFc
import Derived.Test.YtablcbgeeeboeaaGreatDoorZdPb
import Derived.Test.YtablcbgeeeboeaaGreatDoorZdPd
import Derived.Test.YtablcbgeeeboeaaGreatDoorZdPf
import Derived.Test.YtablcbgeeeboeaaGreatDoorZdPh
import Derived.Test.YtablcbgeeeboeaaGreatDoorZdPj
import Derived.Test.YtablcbgeeeboeaaGreatDoorZdPq
import Derived.Test.YtablcbgeeeboeaaGreatDoorZdPt
import Derived.Test.YtablcbgeeeboeaaGreatDoorZdPx
import Derived.Test.YtablcbgeeeboeaaGreatDoorZdPy
import Derived.Test.YtablcbgeeeboeaaGreatDoorZdPz
import Derived.Test.YtablcbgeeeboeaaGreatDoorZdQuo
import Derived.Test.YtablcbgeeeboeaaGreatDoorZdRd
import Derived.Test.YtablcbgeeeboeaaGreatDoorZdRe
import Derived.Test.YtablcbgeeeboeaaGreatDoorZdRm
import Derived.Test.YtablcbgeeeboeaaGreatDoorZdRp
import Derived.Test.YtablcbgeeeboeaaGreatDoorZdRq
import Derived.Test.YtablcbgeeeboeaaGreatDoorZdRt
import Derived.Test.YtablcbgeeeboeaaGreatDoorZdRy
import Derived.Test.YtablcbgeeeboeaaGreatDoorZdS3
import Derived.Test.YtablcbgeeeboeaaGreatDoorZdSqt
import Derived.Test.YtablcbgeeeboeaaGreatDoorZdSumLaw
import Derived.Test.YtablcbgeeeboeaaGreatDoorZdTd
set_option maxRecDepth 100000
set_option maxHeartbeats 20000000
namespace Go.Proofs.YtablcbgeeeboeaaGreatDoor
open Go.RowKit Sp
attribute [local irreducible] Calls
theorem dcheckp_any (w : World) (r c : Int) (a : Option Addr) (n cap : Nat) (X : Nat → Nat) (hL : Fls w a n cap X) :
 Calls Tryz.prog 29 #[.agg #[.int .i64 r, .int .i64 c, .slice a n cap]] w fun o w' => o = .returned (.int .i64 (chkE r c n (!allfin X n))) ∧ Below w.heap.size w w' := by
 have l1 := hL.lim
 have l2 := hL.fits
 have HS := fun W => Lib.hid (frw (dsizes_any W r c n))
 unfold chkE
 by_cases hE : szE r c n = 0
 · rw [if_pos hE]
   rw [hE] at HS
   have HV := fun k W => Lib.hid (frw (ffin_any W (X k)))
   have HD := Lib.hid hL
   obtain ⟨E, hE1⟩ : ∃ E : Int, E = (if !allfin X n then 4 else 0) := ⟨_, rfl⟩
   rw [← hE1]
   have HE := Lib.hid hE1
   clear hL hE hE1
   go_enter Tryz.func29, Tryz.ntmps29
   go_wp2_with fail
   refine (HS _).out.mono ?_; rintro o w2 ⟨rfl, b2⟩
   go_wp2_with fail
   have hw2 := Lib.hid (show Beh w w2 from inferInstance)
   go_loopw [20] (fun i wr => ∃ k : Nat, k ≤ n ∧ i = .int .i64 k ∧ allfin X k = true ∧ Below w2.heap.size w2 wr) (fun i _ => n - (intOf i).toNat)
   case atStart => exact ⟨0, by omega, rfl, rfl, Below.refl _ _⟩
   case round =>
    obtain ⟨k, hk, rfl, hz, hbr⟩ := hrel
    haveI bw : From w2 wr := ⟨hbr⟩
    have hs := hbr.size
    have HZ := Lib.hid hz
    clear hbr hz
    by_cases hlt : k < n
    · have hLr := HD.out.below (w' := wr) zbh
      haveI z0 : CE wr (ab a) (ao a + k) (.int .u64 ((X k : Nat) : Int)) := ⟨hLr.cell k hlt, hLr.old (by omega)⟩
      have zi := hLr.idx k hlt
      have HVk := HV k
      clear hLr HV
      obtain ⟨v, hv⟩ : ∃ v, v = ffin (X k) := ⟨_, rfl⟩
      rw [← hv] at HVk
      have HVV := Lib.hid hv
      clear hv
      cases v with
      | true =>
       go_wp2_with fail
       refine (HVk _).out.mono ?_; rintro o w3 ⟨rfl, b3⟩
       go_wp2_with fail
       go_roundw
       case rel => exact ⟨k + 1, by omega, by go_num, by rw [allfin_iff]; intro i hi; rcases Nat.lt_succ_iff_lt_or_eq.1 hi with h | h; exact (allfin_iff X k).1 HZ.out i h; rw [h]; exact HVV.out.symm, zbh⟩
       case measure => simp [intOf]; omega
      | false =>
       have e4 : Hid (allfin X n = false) := (by cases hh : allfin X n with | false => rfl | true => (have := (allfin_iff X n).1 hh k hlt; rw [← HVV.out] at this; cases this))
       go_wp2_with fail
       refine (HVk _).out.mono ?_; rintro o w3 ⟨rfl, b3⟩
       go_wp2_with fail
       go_ret
       exact ⟨by rw [HE.out, e4.out]; rfl, zbh⟩
    · obtain rfl : k = n := by omega
      go_wp2_with fail
      go_ret
      exact ⟨by rw [HE.out, HZ.out]; rfl, zbh⟩
 · rw [if_neg hE]
   generalize szE r c n = E at *
   clear hL
   go_enter Tryz.func29, Tryz.ntmps29
   go_wp2_with fail
   refine (HS _).out.mono ?_; rintro o w2 ⟨rfl, b2⟩
   go_wp2_with fail
   go_ret
   exact ⟨rfl, zbh⟩
theorem rcheckp_any (w : World) (r c : Int) (a : Option Addr) (n cap : Nat) (X : Nat → Nat) (hL : Fls w a n cap X) :
 Calls Tryz.prog 30 #[.agg #[.int .i64 r, .int .i64 c, .slice a n cap]] w fun o w' => o = .returned (.int .i64 (chkE r c n (!allfin X n))) ∧ Below w.heap.size w w' := by
 have l1 := hL.lim
 have l2 := hL.fits
 have HS := fun W => Lib.hid (frw (rshape_any W r c n))
 unfold chkE
 by_cases hE : szE r c n = 0
 · rw [if_pos hE]
   rw [hE] at HS
   have HV := fun k W => Lib.hid (frw (rfin_any W (X k)))
   have HD := Lib.hid hL
   obtain ⟨E, hE1⟩ : ∃ E : Int, E = (if !allfin X n then 4 else 0) := ⟨_, rfl⟩
   rw [← hE1]
   have HE := Lib.hid hE1
   clear hL hE hE1
   go_enter Tryz.func30, Tryz.ntmps30
   go_wp2_with fail
   refine (HS _).out.mono ?_; rintro o w2 ⟨rfl, b2⟩
   go_wp2_with fail
   have hw2 := Lib.hid (show Beh w w2 from inferInstance)
   go_loopw [4] (fun i wr => ∃ k : Nat, k ≤ n ∧ i = .int .i64 k ∧ allfin X k = true ∧ Below w2.heap.size w2 wr) (fun i _ => n - (intOf i).toNat)
   case atStart => exact ⟨0, by omega, rfl, rfl, Below.refl _ _⟩
   case round =>
    obtain ⟨k, hk, rfl, hz, hbr⟩ := hrel
    haveI bw : From w2 wr := ⟨hbr⟩
    have hs := hbr.size
    have HZ := Lib.hid hz
    clear hbr hz
    by_cases hlt : k < n
    · have hLr := HD.out.below (w' := wr) zbh
      haveI z0 : CE wr (ab a) (ao a + k) (.int .u64 ((X k : Nat) : Int)) := ⟨hLr.cell k hlt, hLr.old (by omega)⟩
      have zi := hLr.idx k hlt
      have HVk := HV k
      clear hLr HV
      obtain ⟨v, hv⟩ : ∃ v, v = ffin (X k) := ⟨_, rfl⟩
      rw [← hv] at HVk
      have HVV := Lib.hid hv
      clear hv
      cases v with
      | true =>
       go_wp2_with fail
       refine (HVk _).out.mono ?_; rintro o w3 ⟨rfl, b3⟩
       go_wp2_with fail
       go_roundw
       case rel => exact ⟨k + 1, by omega, by go_num, by rw [allfin_iff]; intro i hi; rcases Nat.lt_succ_iff_lt_or_eq.1 hi with h | h; exact (allfin_iff X k).1 HZ.out i h; rw [h]; exact HVV.out.symm, zbh⟩
       case measure => simp [intOf]; omega
      | false =>
       have e4 : Hid (allfin X n = false) := (by cases hh : allfin X n with | false => rfl | true => (have := (allfin_iff X n).1 hh k hlt; rw [← HVV.out] at this; cases this))
       go_wp2_with fail
       refine (HVk _).out.mono ?_; rintro o w3 ⟨rfl, b3⟩
       go_wp2_with fail
       go_ret
       exact ⟨by rw [HE.out, e4.out]; rfl, zbh⟩
    · obtain rfl : k = n := by omega
      go_wp2_with fail
      go_ret
      exact ⟨by rw [HE.out, HZ.out]; rfl, zbh⟩
 · rw [if_neg hE]
   generalize szE r c n = E at *
   clear hL
   go_enter Tryz.func30, Tryz.ntmps30
   go_wp2_with fail
   refine (HS _).out.mono ?_; rintro o w2 ⟨rfl, b2⟩
   go_wp2_with fail
   go_ret
   exact ⟨rfl, zbh⟩
end Go.Proofs.YtablcbgeeeboeaaGreatDoor
namespace Go.Proofs.YtablcbgeeeboeaaGreatDoor
open Go.RowKit Sp
def b4 (t : Nat) : Option (Int × Int) := match t with | 0 => nrm 4 0 | 1 => nrm 2 0 | 2 => nrm 2 0 | 3 => nrm 5 0 | _ => some (0, 0)
theorem isN_b4 (t : Nat) : IsN (b4 t) := by
 unfold b4
 split
 · exact isN_nrm _ _
 · exact isN_nrm _ _
 · exact isN_nrm _ _
 · exact isN_nrm _ _
 · rw [← nrm_zero 0]; exact isN_nrm _ _
theorem b4_V (V : Nat → Nat) (i j : Nat) : dleft b4 2 V i j 0 = dleft b4 2 (fun _ => 0) i j 0 := dleft_congr fun _ hc => absurd hc (Nat.not_lt_zero _)
theorem b4_00 (V : Nat → Nat) : dleft b4 2 V 0 0 0 = some (1, 2) := (b4_V V 0 0).trans (by decide +kernel)
theorem b4_10 (V : Nat → Nat) : dleft b4 2 V 1 0 0 = some (1, 1) := (b4_V V 1 0).trans (by decide +kernel)
theorem root4 : froot (some (1, 2)) 0 = 4611686018427387904 := by
 show (if (1 : Int) < 0 then fNaN else if (1 : Int) = 0 then 0 else frnd false (isq ((1 : Int).natAbs * 2 ^ rsh 1 2 56)) ((2 - (rsh 1 2 56 : Nat)) / 2) (decide (isq ((1 : Int).natAbs * 2 ^ rsh 1 2 56) * isq ((1 : Int).natAbs * 2 ^ rsh 1 2 56) ≠ (1 : Int).natAbs * 2 ^ rsh 1 2 56)) 0) = _
 rw [if_neg (by decide), if_neg (by decide), show rsh 1 2 56 = 118 by decide +kernel, show (1 : Int).natAbs * 2 ^ 118 = 2 ^ 59 * 2 ^ 59 by decide +kernel, isq_sq]
 decide +kernel
theorem pval4_0 (V : Nat → Nat) : pval b4 2 V 0 0 = 4611686018427387904 := by unfold pval; rw [if_pos rfl, b4_00, root4]
theorem pval4_1 (V : Nat → Nat) : pval b4 2 V 0 1 = 4607182418800017408 := by
 unfold pval; rw [if_neg (by decide), b4_10, b4_00, root4]; decide +kernel
theorem pan4 : pan b4 2 1 1 = 4607182418800017408 := by
 simp only [pan]
 rw [if_pos (by decide), if_neg (by decide)]
 exact pval4_1 _
theorem elie4 : eliE b4 2 1 = 0 := firstE_all _ _ fun j h1 h2 => by
 obtain rfl : j = 0 := by omega
 refine firstE_all _ _ fun i h3 h4 => ?_
 unfold ccode
 rcases (show i = 0 ∨ i = 1 by omega) with rfl | rfl
 · rw [b4_00, pval4_0, if_neg (by decide), if_neg (by decide), if_pos (by decide)]
 · rw [b4_10, pval4_1, if_neg (by decide), if_neg (by decide), if_pos (by decide)]
theorem rest4 : dleft b4 2 (pan b4 2 1) 1 1 1 = some (1, 2) := by
 rw [dleft_congr (V' := fun _ => 4607182418800017408) (fun c hc => by obtain rfl : c = 0 := (by omega); exact ⟨pan4, pan4⟩)]
 decide +kernel
theorem cone4 : conE b4 2 1 = 0 := firstE_all _ _ fun j h1 h2 => by
 obtain rfl : j = 1 := by omega
 refine firstE_all _ _ fun i h3 h4 => ?_
 obtain rfl : i = 1 := by omega
 unfold resE'
 rw [rest4]; rfl
theorem elime4 : elimE b4 2 1 = 0 := by unfold elimE; rw [if_pos elie4, cone4]
theorem elimk4 : elimK b4 2 1 = 1 := by unfold elimK; rw [if_pos elime4]
theorem rest4' : rest b4 2 1 0 = some (1, 2) := by unfold rest; exact rest4
theorem bad4 : anyBad b4 4 = false := by decide +kernel
end Go.Proofs.YtablcbgeeeboeaaGreatDoor
namespace Go.Proofs.YtablcbgeeeboeaaGreatDoor
open Go.RowKit Sp
theorem dz4 {W : World} (d : Nat → Option (Int × Int)) (A : Nat → Option Addr) (C : Nat → Nat) (hN : ∀ i, IsN (d i)) (hm : ∀ i, i < 4 → Mag W (A i) (nl (dman (d i)).natAbs) (C i) (dman (d i)).natAbs) {g : Nat} (hg : g = W.heap.size) :
 Dz (W.alloc (.cells #[.bool (dbad (d 0)), .bool (decide (dman (d 0) < 0)), .slice (A 0) (nl (dman (d 0)).natAbs) (C 0), .int .i64 (dexp (d 0)), .bool (dbad (d 1)), .bool (decide (dman (d 1) < 0)), .slice (A 1) (nl (dman (d 1)).natAbs) (C 1), .int .i64 (dexp (d 1)), .bool (dbad (d 2)), .bool (decide (dman (d 2) < 0)), .slice (A 2) (nl (dman (d 2)).natAbs) (C 2), .int .i64 (dexp (d 2)), .bool (dbad (d 3)), .bool (decide (dman (d 3) < 0)), .slice (A 3) (nl (dman (d 3)).natAbs) (C 3), .int .i64 (dexp (d 3))] 46)) (some ⟨g, 0, none⟩) 4 4 d := by
 subst hg
 refine ⟨⟨A, C, ⟨by omega, by omega, fun _ => rfl, fun i hi => ?_, fun i hi => ?_, fun i hi => ?_, fun i hi => ?_, fun i hi => (hm i hi).alloc _, fun i hi => ?_, fun _ => by show W.heap.size < _; simp⟩⟩, fun i _ => hN i⟩
 · rcases (show i = 0 ∨ i = 1 ∨ i = 2 ∨ i = 3 by omega) with rfl | rfl | rfl | rfl <;> (rw [ab_some, ao_some, World.cell?_alloc_new]; rfl)
 · rcases (show i = 0 ∨ i = 1 ∨ i = 2 ∨ i = 3 by omega) with rfl | rfl | rfl | rfl <;> (rw [ab_some, ao_some, World.cell?_alloc_new]; rfl)
 · rcases (show i = 0 ∨ i = 1 ∨ i = 2 ∨ i = 3 by omega) with rfl | rfl | rfl | rfl <;> (rw [ab_some, ao_some, World.cell?_alloc_new]; rfl)
 · rcases (show i = 0 ∨ i = 1 ∨ i = 2 ∨ i = 3 by omega) with rfl | rfl | rfl | rfl <;> (rw [ab_some, ao_some, World.cell?_alloc_new]; rfl)
 · have := isN_bounds (hN i)
   exact ⟨by show -9223372036854775808 ≤ dexp (d i); omega, by show dexp (d i) ≤ 9223372036854775807; omega⟩
theorem dz4' {W : World} (d : Nat → Option (Int × Int)) (hN : ∀ i, IsN (d i)) {e0 e1 e2 e3 : Option (Int × Int)} {a0 a1 a2 a3 : Option Addr} {c0 c1 c2 c3 : Nat} (h0 : d 0 = e0) (h1 : d 1 = e1) (h2 : d 2 = e2) (h3 : d 3 = e3)
 (m0 : Mag W a0 (nl (dman e0).natAbs) c0 (dman e0).natAbs) (m1 : Mag W a1 (nl (dman e1).natAbs) c1 (dman e1).natAbs) (m2 : Mag W a2 (nl (dman e2).natAbs) c2 (dman e2).natAbs) (m3 : Mag W a3 (nl (dman e3).natAbs) c3 (dman e3).natAbs) {g : Nat} (hg : g = W.heap.size) :
 Dz (W.alloc (.cells #[.bool (dbad e0), .bool (decide (dman e0 < 0)), .slice a0 (nl (dman e0).natAbs) c0, .int .i64 (dexp e0), .bool (dbad e1), .bool (decide (dman e1 < 0)), .slice a1 (nl (dman e1).natAbs) c1, .int .i64 (dexp e1), .bool (dbad e2), .bool (decide (dman e2 < 0)), .slice a2 (nl (dman e2).natAbs) c2, .int .i64 (dexp e2), .bool (dbad e3), .bool (decide (dman e3 < 0)), .slice a3 (nl (dman e3).natAbs) c3, .int .i64 (dexp e3)] 46)) (some ⟨g, 0, none⟩) 4 4 d := by
 subst h0 h1 h2 h3
 exact dz4 d (fun i => match i with | 0 => a0 | 1 => a1 | 2 => a2 | _ => a3) (fun i => match i with | 0 => c0 | 1 => c1 | 2 => c2 | _ => c3) hN (fun i hi => by
  rcases (show i = 0 ∨ i = 1 ∨ i = 2 ∨ i = 3 by omega) with rfl | rfl | rfl | rfl
  · exact m0
  · exact m1
  · exact m2
  · exact m3) hg
attribute [local irreducible] Calls
theorem awake23_any (w : World) [Tb w] : Calls Tryz.prog 17 #[] w fun o w' => o = .returned (.bool true) ∧ Below w.heap.size w w' := by
 have H4 := fun W [Tb W] => Lib.hid (frI (rdfromInt_any W 4 tb (by omega) (by omega)))
 have H2 := fun W [Tb W] => Lib.hid (frI (rdfromInt_any W 2 tb (by omega) (by omega)))
 have H5 := fun W [Tb W] => Lib.hid (frI (rdfromInt_any W 5 tb (by omega) (by omega)))
 have HE := fun W a c [DZ W a 4 c b4] [Tb W] => Lib.hid (delim_any W 2 1 1 a 4 c b4 rfl (by omega) isN_b4 bad4 (by omega) (by omega) (by omega))
 rw [elime4, elimk4] at HE
 obtain ⟨d4, h4⟩ : ∃ d, d = nrm 4 0 := ⟨_, rfl⟩
 obtain ⟨d2, h2⟩ : ∃ d, d = nrm 2 0 := ⟨_, rfl⟩
 obtain ⟨d5, h5⟩ : ∃ d, d = nrm 5 0 := ⟨_, rfl⟩
 rw [← h4] at H4
 rw [← h2] at H2
 rw [← h5] at H5
 have h40 := Lib.hid (show b4 0 = d4 from h4.symm)
 have h41 := Lib.hid (show b4 1 = d2 from h2.symm)
 have h42 := Lib.hid (show b4 2 = d2 from h2.symm)
 have h43 := Lib.hid (show b4 3 = d5 from h5.symm)
 have hr4 := Lib.hid (show d4 = some (1, 2) by rw [h4]; decide)
 clear h4 h2 h5
 go_enter Tryz.func17, Tryz.ntmps17
 go_wp2_with fail
 refine (H4 _).out.mono ?_; rintro o w1 ⟨a1, c1, rfl, i1, b1⟩
 go_wp2_with fail
 refine (H2 _).out.mono ?_; rintro o w2 ⟨a2, c2, rfl, i2, b2⟩
 go_wp2_with fail
 refine (H5 _).out.mono ?_; rintro o w3 ⟨a3, c3, rfl, i3, b3⟩
 go_wp2_with fail
 have hDz := dz4' (W := ((w3.alloc (.cells #[.bool (dbad d4), .bool (decide (dman d4 < 0)), .slice a1 (nl (dman d4).natAbs) c1, .int .i64 (dexp d4)] 46)).alloc (.cells #[.bool (dbad d2), .bool (decide (dman d2 < 0)), .slice a2 (nl (dman d2).natAbs) c2, .int .i64 (dexp d2)] 46)).alloc (.cells #[.bool (dbad d5), .bool (decide (dman d5 < 0)), .slice a3 (nl (dman d5).natAbs) c3, .int .i64 (dexp d5)] 46)) b4 isN_b4 h40.out h41.out h42.out h43.out (inferInstance : BI _ a1 (nl (dman d4).natAbs) c1 (dman d4).natAbs).out (inferInstance : BI _ a2 (nl (dman d2).natAbs) c2 (dman d2).natAbs).out (inferInstance : BI _ a2 (nl (dman d2).natAbs) c2 (dman d2).natAbs).out (inferInstance : BI _ a3 (nl (dman d5).natAbs) c3 (dman d5).natAbs).out (g := w3.heap.size + 1 + 1 + 1) (by simp)
 haveI hDZ := DZ.mk hDz
 clear hDz
 refine (HE _ _ _).out.mono ?_
 rintro o w4 ⟨pr, pc, r, pa, oa, pm, pcp, m, oc, V, D, rfl, ⟨⟨_, hF⟩, hD0, hDN⟩, h5, _, b4'⟩
 have hD := hD0.dz hDN
 obtain ⟨rfl, rfl, rfl, rfl, rfl, hV, hR⟩ := h5 (by first | exact rfl | trivial)
 haveI f4 : From _ w4 := ⟨b4'⟩
 have v1 : V 1 = 4607182418800017408 := (hV 1 (by omega)).trans pan4
 have r0 : D 0 = d4 := ((hR 0 (by omega)).trans rest4').trans hr4.out.symm
 have hF1 := hF.cell 1 (by omega)
 have hF2 : ∀ W, (Instr.indexAt 28 (.slice pa 2 pcp) (.int .i64 1)).run Tryz.prog W = .ok (.pointer (some ⟨ab pa, ao pa + 1, none⟩)) W := hF.idx 1 (by omega)
 have hF3 := hF.old (by omega)
 rw [v1] at hF1
 haveI zF : CE w4 (ab pa) (ao pa + 1) (.int .u64 4607182418800017408) := ⟨hF1, hF3⟩
 obtain ⟨p0, q0, z0, z1, z2, z3, z4⟩ := hD.el (i := 0) (by omega)
 have hD2 : ∀ W, (Instr.indexAt 23 (.slice oa 1 oc) (.int .i64 0)).run Tryz.prog W = .ok (.pointer (some ⟨ab oa, ao oa, none⟩)) W := hD.idx 0 (by omega)
 rw [r0] at z0 z1 z2 z3 z4
 simp only [Nat.zero_mul, Nat.add_zero] at z0 z1 z2 z3
 have HS := fun W p q p' q' [i : BI W p (nl (dman d4).natAbs) q (dman d4).natAbs] [j : BI W p' (nl (dman d4).natAbs) q' (dman d4).natAbs] [Tb W] => Lib.hid (by
  have hN4 : IsN d4 := by have := isN_b4 0; rwa [h40.out] at this
  haveI x1 : DS W (dbad d4) (decide (dman d4 < 0)) p (nl (dman d4).natAbs) q (dexp d4) d4 := ⟨dys_of hN4 i.out⟩
  haveI x2 : DS W (dbad d4) (decide (dman d4 < 0)) p' (nl (dman d4).natAbs) q' (dexp d4) d4 := ⟨dys_of hN4 j.out⟩
  exact frm (gsame_any W (dbad d4) (decide (dman d4 < 0)) (dbad d4) (decide (dman d4 < 0)) p p' (nl (dman d4).natAbs) (nl (dman d4).natAbs) q q' (dexp d4) (dexp d4) d4 d4 true (by simp)))
 clear hF hD hD0 hDN hV hR b4' v1 r0 hF1 h40 h41 h42 h43 hr4 HE H4 H2 H5
 go_wp2_with fail
 first
 | go_region_held3 (fun w' => w'.cell? ⟨w4.heap.size, 2, none⟩ = some (.slice pa 2 pcp) ∧ w'.cell? ⟨w4.heap.size + 1, 2, none⟩ = some (.slice oa 1 oc) ∧ w'.cell? ⟨ab pa, ao pa + 1, none⟩ = some (.int .u64 4607182418800017408) ∧ w'.cell? ⟨ab oa, ao oa, none⟩ = some (.bool (dbad d4)) ∧ w'.cell? ⟨ab oa, ao oa + 1, none⟩ = some (.bool (decide (dman d4 < 0))) ∧ w'.cell? ⟨ab oa, ao oa + 2, none⟩ = some (.slice p0 (nl (dman d4).natAbs) q0) ∧ w'.cell? ⟨ab oa, ao oa + 3, none⟩ = some (.int .i64 (dexp d4)) ∧ w'.cell? ⟨w3.heap.size, 0, none⟩ = some (.bool (dbad d4)) ∧ w'.cell? ⟨w3.heap.size, 1, none⟩ = some (.bool (decide (dman d4 < 0))) ∧ w'.cell? ⟨w3.heap.size, 2, none⟩ = some (.slice a1 (nl (dman d4).natAbs) c1) ∧ w'.cell? ⟨w3.heap.size, 3, none⟩ = some (.int .i64 (dexp d4))) (first | (go_simp; done))
  (first
   | (go_at_call 24; refine (HS _ _ _ _ _).out.mono ?_; rintro o w5 ⟨rfl, b5⟩)
   | fail)
 | fail "region"
 all_goals (
  go_wp2_with fail
  go_ret
  exact ⟨rfl, zbh⟩)
end Go.Proofs.YtablcbgeeeboeaaGreatDoor
namespace Go.Proofs.YtablcbgeeeboeaaGreatDoor
open Go.RowKit Sp
class BG (W : World) (n : Nat) : Prop where out : n ≤ W.heap.size
section
variable {W : World} {n : Nat}
instance BG.dr [h : BG W n] : BG W.drew n := ⟨h.out⟩
instance BG.dn (q : Nat) [h : BG W n] : BG (W.drewN q) n := ⟨h.out⟩
instance BG.al (o : Obj) [h : BG W n] : BG (W.alloc o) n := ⟨by rw [World.size_alloc]; exact Nat.le_succ_of_le h.out⟩
instance BG.fr (L : World) [f : From L W] [h : BG L n] : BG W n := ⟨Nat.le_trans h.out f.out.size⟩
instance BG.se (p : Addr) (v : Value) [h : BG W n] : BG (W.setCell p v) n := ⟨by rw [World.size_setCell]; exact h.out⟩
end
class BL (base : Nat) (wr W : World) : Prop where out : Below base wr W
section
variable {base : Nat} {wr W : World}
instance BL.rf : BL base wr wr := ⟨Below.refl _ _⟩
instance BL.dr [h : BL base wr W] : BL base wr W.drew := ⟨h.out.drew⟩
instance BL.dn (q : Nat) [h : BL base wr W] : BL base wr (W.drewN q) := ⟨below_drewN h.out _⟩
instance BL.al (o : Obj) [h : BL base wr W] [k : BG W base] : BL base wr (W.alloc o) := ⟨h.out.alloc k.out o⟩
instance BL.fr (L : World) [f : From L W] [h : BL base wr L] [k : BG L base] : BL base wr W := ⟨h.out.trans (f.out.mono k.out)⟩
end
theorem N3.lo {W W' : World} {b base : Nat} {x0 x1 x2 : Value} (h : N3 W b x0 x1 x2) (hb : Below base W W') (lt : b < base) : N3 W' b x0 x1 x2 := by
 obtain ⟨h1, h2⟩ := bcell hb
 exact ⟨(h1 _ _ lt).trans h.c0, (h1 _ _ lt).trans h.c1, (h1 _ _ lt).trans h.c2, fun i => (h2 _ _ lt).trans (h.z i), Nat.lt_of_lt_of_le h.lt hb.size⟩
theorem CE.lo {W W' : World} {b i base : Nat} {v : Value} (h : CE W b i v) (hb : Below base W W') (lt : b < base) : CE W' b i v := ⟨((bcell hb).1 _ _ lt).trans h.out, Nat.lt_of_lt_of_le h.lt hb.size⟩
theorem Beh.size {w w' : World} [h : Beh w w'] : w.heap.size ≤ w'.heap.size := h.out.size
section
variable {P : Program} {ops : Array Oper} {Q : Exit → Act → World → Prop} {md : Region.Mode} {T : World → Prop} {last : List Nat}
theorem stj2 {fuel : Nat} {l : Array Bool} {a : Act} {w : World} (i j : Nat) {o o' : Oper} (ho : ops[i]? = some o := by rfl) (ho' : ops[j]? = some o' := by rfl) (hr : Region.ready md ops l = [i, j] := by kernel_rfl)
 (h : ∀ K : Act → World → Prop, Shut (∀ a' w', (i ∈ last ∨ T w') → wpAnyJ P md ops Q T last fuel (l.setIfInBounds i true) a' w' → K a' w') →
  if Region.wanted o (yielded ops a.tmps) = true then Oper.wp P o a w K Q else K (a.put o.dst undef) w)
 (h' : ∀ K : Act → World → Prop, Shut (∀ a' w', (j ∈ last ∨ T w') → wpAnyJ P md ops Q T last fuel (l.setIfInBounds j true) a' w' → K a' w') →
  if Region.wanted o' (yielded ops a.tmps) = true then Oper.wp P o' a w K Q else K (a.put o'.dst undef) w) : wpAnyJ P md ops Q T last (fuel + 1) l a w := by
 refine ⟨fun h0 => (by rw [hr] at h0; cases h0), fun x hx => ?_⟩
 rw [hr] at hx
 have hx2 : x = i ∨ x = j := by simpa using hx
 rcases hx2 with rfl | rfl
 · exact wpOp_step ho fun K hK => h K fun a' w' h1 h2 => hK a' w' ⟨h1, h2⟩
 · exact wpOp_step ho' fun K hK => h' K fun a' w' h1 h2 => hK a' w' ⟨h1, h2⟩
end
end Go.Proofs.YtablcbgeeeboeaaGreatDoor
set_option maxRecDepth 100000
set_option maxHeartbeats 40000000
namespace Go.Proofs.YtablcbgeeeboeaaGreatDoor
open Go.RowKit Sp
def lcell (L : Nat → El) (i : Nat) : Value × Value × Value × Value := (.bool (L i).bd, .bool (L i).s, .slice (L i).a (L i).n (L i).p, .int .i64 (L i).e)
theorem dys_of_row {w : World} {base : Nat} {v : Value} {k : Nat} {L : Nat → El} (h : w.ownsRow base 46 4 v k (dcells (lcell L) k)) (hm : ∀ i, i < k → Mag w (L i).a (L i).n (L i).p (L i).x) (hb : ∀ i, i < k → -9223372036854775808 ≤ (L i).e ∧ (L i).e ≤ 9223372036854775807) :
 ∃ a cap, v = .slice a k cap ∧ Dys w a k cap L := by
 rcases h.2 with ⟨hv, hk⟩ | ⟨g, cap, cur, hv, hbg, hgg, hkc, hcm, hcs, htake⟩
 · subst hk
   exact ⟨none, 0, hv, ⟨by omega, by omega, by omega, fun i hi => by omega, fun i hi => by omega, fun i hi => by omega, fun i hi => by omega, fun i hi => by omega, fun i hi => by omega, by omega⟩⟩
 · have ho := h
   rw [hv] at ho
   have hc : ∀ j, j < k * 4 → w.cell? ⟨g, j, none⟩ = (dcells (lcell L) k)[j]? := fun j hj => ho.cellAt j hj
   refine ⟨some ⟨g, 0, none⟩, cap, hv, hkc, by unfold maxLen at hcm; omega, fun _ => rfl, fun i hi => ?_, fun i hi => ?_, fun i hi => ?_, fun i hi => ?_, hm, hb, fun _ => (Array.getElem?_eq_some_iff.1 hgg).1⟩
   · rw [ab_some, ao_some, Nat.zero_add, hc _ (by omega)]; exact (dcells_get _ hi).1
   · rw [ab_some, ao_some, Nat.zero_add, hc _ (by omega)]; exact (dcells_get _ hi).2.1
   · rw [ab_some, ao_some, Nat.zero_add, hc _ (by omega)]; exact (dcells_get _ hi).2.2.1
   · rw [ab_some, ao_some, Nat.zero_add, hc _ (by omega)]; exact (dcells_get _ hi).2.2.2
def ElK (E : El) : Prop := E.n ≤ 549755813888 ∧ blen E.x ≤ 1048576 ∧ -9223372036854775808 ≤ E.e ∧ E.e ≤ 9223372036854775807
class Ck (w : World) (base : Nat) (vE : Value) (k : Nat) (vV : Value) (q : Nat) (L : outParam (Nat → El)) (X : outParam (Nat → Nat)) : Prop where
 oE : w.ownsRow base 46 4 vE k (dcells (lcell L) k)
 oV : w.ownsRow base 40 1 vV q (flist X q)
 ne : vE.ownBlock = none ∨ vE.ownBlock ≠ vV.ownBlock
 m : ∀ i, i < k → Mag w (L i).a (L i).n (L i).p (L i).x
 fr : ∀ i, i < k → 0 < (L i).n → base ≤ ab (L i).a
 ap : ∀ i, i < k → 0 < (L i).n → some (ab (L i).a) ≠ vE.ownBlock ∧ some (ab (L i).a) ≠ vV.ownBlock
 ok : ∀ i, i < k → ElK (L i)
section
variable {w w' : World} {base k q : Nat} {vE vV v' : Value} {L : Nat → El} {X : Nat → Nat}
theorem Ck.below (h : Ck w base vE k vV q L X) (hb : Below w.heap.size w w') : Ck w' base vE k vV q L X := ⟨ownsRow_below h.oE hb, ownsRow_below h.oV hb, h.ne, fun i hi => (h.m i hi).below hb, h.fr, h.ap, h.ok⟩
instance Ck.dr [h : Ck w base vE k vV q L X] : Ck w.drew base vE k vV q L X := h.below (Below.refl _ _).drew
instance Ck.dn (j : Nat) [h : Ck w base vE k vV q L X] : Ck (w.drewN j) base vE k vV q L X := h.below (below_drewN (Below.refl _ _) _)
instance Ck.al (o : Obj) [h : Ck w base vE k vV q L X] : Ck (w.alloc o) base vE k vV q L X := h.below ((Below.refl _ _).alloc (Nat.le_refl _) _)
instance Ck.fr' (W : World) [f : From W w] [h : Ck W base vE k vV q L X] : Ck w base vE k vV q L X := h.below f.out
theorem Ck.nil (w : World) (base : Nat) (L : Nat → El) (X : Nat → Nat) : Ck w base (.slice none 0 0) 0 (.slice none 0 0) 0 L X :=
 ⟨World.ownsRow_nil _ _ _ _, World.ownsRow_nil _ _ _ _, Or.inl rfl, fun i hi => by omega, fun i hi => by omega, fun i hi => by omega, fun i hi => by omega⟩
theorem Ck.sen (h : Ck w base vE k vV q L X) {b : Nat} (hb : b < base) (i : Nat) (u : Value) : Ck (w.setCell ⟨b, i, none⟩ u) base vE k vV q L X :=
 ⟨own_sen h.oE hb i u, own_sen h.oV hb i u, h.ne, fun j hj => (h.m j hj).set (fun hp e => by have := h.fr j hj hp; omega) i u, h.fr, h.ap, h.ok⟩
theorem Ck.appE (h : Ck w base vE k vV q L X) {E : El}
 (ho : w'.ownsRow base 46 4 v' (k + 1) (dcells (lcell L) k ++ [.bool E.bd, .bool E.s, .slice E.a E.n E.p, .int .i64 E.e]))
 (hg : w.grownBy w' vE.ownBlock) (hv : v'.ownBlock = vE.ownBlock ∨ v'.ownBlock = some w.heap.size) (hm : Mag w E.a E.n E.p E.x) (hf : 0 < E.n → base ≤ ab E.a) (hne : 0 < E.n → some (ab E.a) ≠ vE.ownBlock ∧ some (ab E.a) ≠ vV.ownBlock) (hE : ElK E) :
 Ck w' base v' (k + 1) vV q (fun i => if i = k then E else L i) X := by
 have hap : ∀ (x : Option Addr) (n : Nat), (0 < n → ab x < w.heap.size) → (0 < n → some (ab x) ≠ vE.ownBlock) → 0 < n → some (ab x) ≠ v'.ownBlock := fun x n h1 h2 h3 h4 => by
  rcases hv with hv | hv
  · rw [hv] at h4; exact h2 h3 h4
  · rw [hv] at h4; injection h4 with h4; have := h1 h3; omega
 refine ⟨?_, h.oV.kept hg (ne_symm h.ne), ne_symm (ne_new h.oV hv (ne_symm h.ne)), fun i hi => ?_, fun i hi => ?_, fun i hi => ?_, fun i hi => ?_⟩
 · have e1 : dcells (lcell fun i => if i = k then E else L i) k = dcells (lcell L) k := dcells_congr fun i hi => by
    unfold lcell; simp only [if_neg (show ¬ i = k by omega)]
   simp only [dcells]
   rw [e1]
   unfold lcell
   simp only [if_true]
   exact ho
 · by_cases e : i = k
   · simp only [if_pos e]; exact mag_grown hm hg fun hp => (hne hp).1
   · simp only [if_neg e]; exact mag_grown (h.m i (by omega)) hg fun hp => (h.ap i (by omega) hp).1
 · by_cases e : i = k
   · simp only [if_pos e]; exact hf
   · simp only [if_neg e]; exact h.fr i (by omega)
 · by_cases e : i = k
   · simp only [if_pos e]; exact fun hp => ⟨hap _ _ hm.old (fun hp => (hne hp).1) hp, (hne hp).2⟩
   · simp only [if_neg e]; exact fun hp => ⟨hap _ _ (h.m i (by omega)).old (fun hp => (h.ap i (by omega) hp).1) hp, (h.ap i (by omega) hp).2⟩
 · by_cases e : i = k
   · simp only [if_pos e]; exact hE
   · simp only [if_neg e]; exact h.ok i (by omega)
theorem Ck.appV (h : Ck w base vE k vV q L X) {y : Nat} (ho : w'.ownsRow base 40 1 v' (q + 1) (flist X q ++ [.int .u64 ((y : Nat) : Int)])) (hg : w.grownBy w' vV.ownBlock) (hob : v'.ownBlock = vV.ownBlock ∨ v'.ownBlock = some w.heap.size) :
 Ck w' base vE k v' (q + 1) L (fun t => if t = q then y else X t) := by
 refine ⟨h.oE.kept hg h.ne, ?_, ne_new h.oE hob h.ne, fun i hi => mag_grown (h.m i hi) hg fun hp => (h.ap i hi hp).2, h.fr, fun i hi hp => ⟨(h.ap i hi hp).1, fun h4 => ?_⟩, h.ok⟩
 · have e : flist (fun t => if t = q then y else X t) (q + 1) = flist X q ++ [.int .u64 ((y : Nat) : Int)] := by
    show flist _ q ++ [.int .u64 (((if q = q then y else X q : Nat)) : Int)] = _
    rw [if_pos rfl, flist_congr (L := fun t => if t = q then y else X t) (L' := X) fun i hi => if_neg (by omega)]
   rw [e]; exact ho
 · rcases hob with hv | hv
   · rw [hv] at h4; exact (h.ap i hi hp).2 h4
   · rw [hv] at h4; injection h4 with h4; have := (h.m i hi).old hp; omega
theorem Ck.lists (h : Ck w base vE k vV q L X) (hX : ∀ i, i < q → X i < 18446744073709551616) : ∃ a c a' c', vE = .slice a k c ∧ vV = .slice a' q c' ∧ Dys w a k c L ∧ Fls w a' q c' X ∧ ElB L k := by
 obtain ⟨a, c, e1, h1⟩ := dys_of_row h.oE h.m fun i hi => (h.ok i hi).2.2
 obtain ⟨a', c', e2, h2⟩ := own_fls h.oV hX
 exact ⟨a, c, a', c', e1, e2, h1, h2, fun i hi => ⟨(h.ok i hi).1, (h.ok i hi).2.1⟩⟩
end
theorem N3.gr {W W' : World} {b : Nat} {x0 x1 x2 : Value} {row : Option Nat} [h : N3 W b x0 x1 x2] (hg : W.grownBy W' row) (hne : some b ≠ row) : N3 W' b x0 x1 x2 := by
 have hblk := hg.block b h.lt hne
 have hc : ∀ i, W'.cell? ⟨b, i, none⟩ = W.cell? ⟨b, i, none⟩ := fun i => World.cell?_of_block (a := ⟨b, i, none⟩) hblk
 exact ⟨(hc 0).trans h.c0, (hc 1).trans h.c1, (hc 2).trans h.c2, fun i => (World.frozen?_of_block (a := ⟨b, i, none⟩) hblk).trans (h.z i), Nat.lt_of_lt_of_le h.lt hg.size⟩
theorem up_lt {X : Nat → Nat} {k x B : Nat} (h : ∀ t, X t < B) (hx : x < B) (t : Nat) : (if t = k then x else X t) < B := by
 split
 · exact hx
 · exact h t
section
variable {w w' w0 wr : World} {base k q b0 b1 b2 b3 : Nat} {vE vV v' x0 x1 x2 y0 y1 y2 z0 z1 z2 u0 u1 u2 : Value} {L : Nat → El} {X : Nat → Nat}
theorem Ck.stepE (h : Ck w base vE k vV q L X) [i0 : N3 w b0 x0 x1 x2] [i1 : N3 w b1 y0 y1 y2] [i2 : N3 w b2 z0 z1 z2] [i3 : N3 w b3 u0 u1 u2] [hb : Beh w0 w] [hs : BG w base] [hl : BL base wr w] (E : El) (hm : BI w E.a E.n E.p E.x) (h0 : w0.heap.size ≤ base) (n0 : b0 < base) (n1 : b1 < base) (n2 : b2 < base) (n3 : b3 < base)
 (ho : w'.ownsRow base 46 4 v' (k + 1) (dcells (lcell L) k ++ [.bool E.bd, .bool E.s, .slice E.a E.n E.p, .int .i64 E.e]))
 (hg : w.grownBy w' vE.ownBlock) (hv : v'.ownBlock = vE.ownBlock ∨ v'.ownBlock = some w.heap.size) (hf : 0 < E.n → base ≤ ab E.a) (hne : 0 < E.n → some (ab E.a) ≠ vE.ownBlock ∧ some (ab E.a) ≠ vV.ownBlock) (hE : ElK E) :
 N3 w' b0 x0 x1 x2 ∧ N3 w' b1 y0 y1 y2 ∧ N3 w' b2 z0 z1 z2 ∧ N3 w' b3 u0 u1 u2 ∧ Ck w' base v' (k + 1) vV q (fun i => if i = k then E else L i) X ∧ From w0 w' ∧ BG w' base ∧ BL base wr w' :=
 ⟨N3.gr hg (own_ne h.oE n0), N3.gr hg (own_ne h.oE n1), N3.gr hg (own_ne h.oE n2), N3.gr hg (own_ne h.oE n3), h.appE ho hg hv hm.out hf hne hE, ⟨hb.out.trans ((below_grown h.oE hg hs.out).mono h0)⟩, ⟨Nat.le_trans hs.out hg.size⟩, ⟨hl.out.trans (below_grown h.oE hg hs.out)⟩⟩
theorem Ck.stepV (h : Ck w base vE k vV q L X) [i0 : N3 w b0 x0 x1 x2] [i1 : N3 w b1 y0 y1 y2] [i2 : N3 w b2 z0 z1 z2] [i3 : N3 w b3 u0 u1 u2] [hb : Beh w0 w] [hs : BG w base] [hl : BL base wr w] {y : Nat} (h0 : w0.heap.size ≤ base) (n0 : b0 < base) (n1 : b1 < base) (n2 : b2 < base) (n3 : b3 < base)
 (ho : w'.ownsRow base 40 1 v' (q + 1) (flist X q ++ [.int .u64 ((y : Nat) : Int)])) (hg : w.grownBy w' vV.ownBlock) (hob : v'.ownBlock = vV.ownBlock ∨ v'.ownBlock = some w.heap.size) :
 N3 w' b0 x0 x1 x2 ∧ N3 w' b1 y0 y1 y2 ∧ N3 w' b2 z0 z1 z2 ∧ N3 w' b3 u0 u1 u2 ∧ Ck w' base vE k v' (q + 1) L (fun t => if t = q then y else X t) ∧ From w0 w' ∧ BG w' base ∧ BL base wr w' :=
 ⟨N3.gr hg (own_ne h.oV n0), N3.gr hg (own_ne h.oV n1), N3.gr hg (own_ne h.oV n2), N3.gr hg (own_ne h.oV n3), h.appV ho hg hob, ⟨hb.out.trans ((below_grown h.oV hg hs.out).mono h0)⟩, ⟨Nat.le_trans hs.out hg.size⟩, ⟨hl.out.trans (below_grown h.oV hg hs.out)⟩⟩
end
theorem lt_of_cellQ {w : World} {a : Addr} {v : Value} (h : w.cell? a = some v) : a.block < w.heap.size := by
 rcases Nat.lt_or_ge a.block w.heap.size with h1 | h1
 · exact h1
 · unfold World.cell? at h
   rw [show w.heap[a.block]? = none from Array.getElem?_eq_none h1] at h
   cases h
instance CE.mk1 (W : World) (t : TypeId) (v : Value) (n : Nat) [h : Sz W n] : CE (W.alloc (.cells #[v] t)) n 0 v := ⟨by have := h.out; subst this; rw [World.cell?_alloc_new]; rfl, by have := h.out; rw [World.size_alloc]; omega⟩
theorem keep_lit {wr W w' : World} {base n s : Nat} {e : TypeId} {xs : List Value} {v : Value} (ho : wr.ownsRow base e s v n xs) (hg : W.grownBy w' v.ownBlock) (b i : Nat) (u : Value) (h : W.cell? ⟨b, i, none⟩ = some u) (hb : wr.heap.size ≤ b) : w'.cell? ⟨b, i, none⟩ = some u :=
 (World.cell?_of_block (a := ⟨b, i, none⟩) (hg.block b (lt_of_cellQ h) fun e => by have := (ho.lt _ e.symm).2; omega)).trans h
theorem Ck.kept2 {wb W w' : World} {base k q : Nat} {vE vV : Value} {L : Nat → El} {X : Nat → Nat} (h : Ck W base vE k vV q L X) (hb : Ck wb base vE k vV q L X) {row : Option Nat} (hg : W.grownBy w' row) (hr : ∀ g, row = some g → wb.heap.size ≤ g) : Ck w' base vE k vV q L X := by
 have ho : ∀ v : Value, (∀ g, v.ownBlock = some g → g < wb.heap.size) → v.ownBlock = none ∨ v.ownBlock ≠ row := fun v h1 => by
  rcases hv : v.ownBlock with _ | g
  · exact Or.inl rfl
  · refine Or.inr fun e => ?_
    have := h1 g hv
    have := hr g e.symm
    omega
 exact ⟨h.oE.kept hg (ho _ fun g e => (hb.oE.lt g e).2), h.oV.kept hg (ho _ fun g e => (hb.oV.lt g e).2), h.ne, fun i hi => mag_grown (h.m i hi) hg fun hp e => by have := (hb.m i hi).old hp; have := hr _ e.symm; omega, h.fr, h.ap, h.ok⟩
class DY (W : World) (a : Option Addr) (n c : Nat) (L : outParam (Nat → El)) : Prop where out : Dys W a n c L
section
variable {W : World} {a : Option Addr} {n c : Nat} {L : Nat → El}
instance DY.dr [h : DY W a n c L] : DY W.drew a n c L := ⟨h.out.below (Below.refl _ _).drew⟩
instance DY.dn (q : Nat) [h : DY W a n c L] : DY (W.drewN q) a n c L := ⟨h.out.below (below_drewN (Below.refl _ _) _)⟩
instance DY.al (o : Obj) [h : DY W a n c L] : DY (W.alloc o) a n c L := ⟨h.out.below ((Below.refl _ _).alloc (Nat.le_refl _) _)⟩
instance DY.fr (L' : World) [k : From L' W] [h : DY L' a n c L] : DY W a n c L := ⟨h.out.below k.out⟩
end
def elD (b : Bool) (d : Option (Int × Int)) (a : Option Addr) (c : Nat) : El := ⟨b, decide (dman d < 0), a, nl (dman d).natAbs, c, dexp d, (dman d).natAbs⟩
theorem elD_ok {d : Option (Int × Int)} (h : IsN d) (b : Bool) (a : Option Addr) (c : Nat) : ElK (elD b d a c) := by
 have := isN_bounds h
 exact ⟨Nat.le_trans (nl_le_blen _) (by omega), by show blen (dman d).natAbs ≤ _; omega, by show _ ≤ dexp d; omega, by show dexp d ≤ _; omega⟩
attribute [local irreducible] Calls
theorem dchecks_no (w : World) [Tb w] (r c : Int) (a : Option Addr) (n cap : Nat) (L : Nat → Nat) [_hL : FZ w a n cap L] (bd : Bool) (at1 : Int) (hn : 60 < n) :
 Calls Tryz.prog 7 #[.int .i64 r, .int .i64 c, .slice a n cap, .bool bd, .int .i64 at1] w fun o w' => o = .returned (.bool true) ∧ Below w.heap.size w w' := by
 have HAW := fun W [Tb W] => Lib.hid (frm (awake23_any W))
 go_enter Tryz.func7, Tryz.ntmps7
 go_wp2_with fail
 refine (HAW _).out.mono ?_; rintro o w7 ⟨rfl, b7⟩
 go_wp2_with fail
 go_ret
 exact ⟨rfl, zbh⟩
theorem dchecks_any (w : World) [Tb w] (r c : Int) (a : Option Addr) (n cap : Nat) (L : Nat → Nat) [hL : FZ w a n cap L] (bd : Bool) (at1 : Int) (hn : n ≤ 60) :
 Calls Tryz.prog 7 #[.int .i64 r, .int .i64 c, .slice a n cap, .bool bd, .int .i64 at1] w fun o w' => o = .returned (.bool true) ∧ Below w.heap.size w w' := by
 have HAW := fun W [Tb W] => Lib.hid (frm (awake23_any W))
 obtain ⟨p, hp, hp6⟩ := pl_nat r 6 (by omega)
 obtain ⟨q, hq, hq6⟩ := pl_nat c 6 (by omega)
 obtain ⟨m, hm, hm30⟩ := pl_nat at1 30 (by omega)
 have HMR := fun W => Lib.hid (gmod_any W r 6 (by omega) (by omega))
 have HMC := fun W => Lib.hid (gmod_any W c 6 (by omega) (by omega))
 have HMA := fun W => Lib.hid (gmod_any W at1 30 (by omega) (by omega))
 rw [show ((6 : Nat) : Int) = 6 from rfl] at hp hq
 rw [show ((30 : Nat) : Int) = 30 from rfl] at hm
 rw [hp] at HMR
 rw [hq] at HMC
 rw [hm] at HMA
 have HW := fun W k (h0 : 0 ≤ k) (hk : k ≤ 1000000) [i : FZ W a n cap L] => Lib.hid (frWd (gword_any W a n cap L i.out k h0 hk))
 have HN1 := fun W x (hx : x < 18446744073709551616) [Tb W] => Lib.hid (frNu (gnum_any W x hx 1 tb))
 have HN2 := fun W x (hx : x < 18446744073709551616) [Tb W] => Lib.hid (frNu (gnum_any W x hx 2 tb))
 have HO := fun W y (hy : y < 18446744073709551616) [Tb W] => Lib.hid (frF (r3of_any W y hy tb))
 clear hp hq hm
 go_enter Tryz.func7, Tryz.ntmps7
 go_wp2_with fail
 refine (HMR _).out.mono ?_; rintro o z ⟨rfl, rfl⟩; go_wp2_with fail
 refine (HMC _).out.mono ?_; rintro o z ⟨rfl, rfl⟩; go_wp2_with fail
 refine (HMR _).out.mono ?_; rintro o z ⟨rfl, rfl⟩; go_wp2_with fail
 refine (HMC _).out.mono ?_; rintro o z ⟨rfl, rfl⟩; go_wp2_with fail
 go_loopw [15] (fun x wr => ∃ (k : Nat) (vE vV : Value) (E : Nat → El) (X : Nat → Nat), k ≤ n ∧ x = .int .i64 k ∧ (∀ t, X t < 18446744073709551616) ∧ Ck wr (w.heap.size + 4) vE k vV k E X ∧ N3 wr w.heap.size (.int .i64 r) (.int .i64 c) vE ∧ N3 wr (w.heap.size + 1) (.int .i64 r) (.int .i64 c) vV ∧ N3 wr (w.heap.size + 1 + 1) (.int .i64 p) (.int .i64 q) (.slice none 0 0) ∧ N3 wr (w.heap.size + 1 + 1 + 1) (.int .i64 p) (.int .i64 q) (.slice none 0 0) ∧ Below w.heap.size w wr ∧ (w.heap.size + 4) ≤ wr.heap.size) (fun x _ => n - (intOf x).toNat)
 case atStart => exact ⟨0, _, _, fun _ => elD false none none 0, fun _ => 0, by omega, rfl, fun _ => (by show 0 < 18446744073709551616; omega), Ck.nil _ _ _ _, inferInstance, inferInstance, inferInstance, inferInstance, zbh, by simp⟩
 case round =>
  obtain ⟨k, vE, vV, E, X, hk, rfl, hX, iC, iB, iP, iC2, iQ, hbr, hsz⟩ := hrel
  haveI bw : From w wr := ⟨hbr⟩
  have HX := Lib.hid hX
  clear hX
  by_cases hlt : k < n
  · obtain ⟨ea, ec, hvE⟩ := own_slice' iC.oE
    obtain ⟨fa, fc, hvV⟩ := own_slice' iC.oV
    subst hvE hvV
    have Fk : FZ wr a n cap L := inferInstance
    have g1 := Fk.out.idx _ hlt
    have g1' := Fk.out.idxU _ hlt
    have n1 := Fk.out.b _ hlt
    haveI q1 : CE w (ab a) (ao a + k) (.int .u64 ((L k : Nat) : Int)) := ⟨hL.out.cell _ hlt, hL.out.old (by omega)⟩
    have HXk := Lib.hid n1
    have q2 : CE wr (ab a) (ao a + k) (.int .u64 ((L k : Nat) : Int)) := inferInstance
    have lt2 : ab a < w.heap.size := hL.out.old (by omega)
    haveI wf : From wr wr := ⟨Below.refl _ _⟩
    clear Fk wf
    haveI G0 : BG wr (w.heap.size + 4) := ⟨hsz⟩
    generalize L k = x at *
    go_wp2_with fail
    refine bgj (fun w' => Below (w.heap.size + 4) wr w') [19, 20, 21] (by kernel_rfl) ((by exact BL.out)) (fun hHeld => ?_)
    simp only [List.size_toArray, List.length_cons, List.length_nil, Nat.reduceAdd, Array.replicate_succ, Array.replicate_zero, List.push_toArray, List.nil_append, List.cons_append]
    refine tkj 0 44 ?_ [1, 9, 17, 18, 19, 20, 21] (hy := ?_) (hS := (by exact BL.out)) (h := ?_)
    rotate_left
    · intro w hSw; haveI := N3.lo iB hSw (by omega); haveI := N3.lo iP hSw (by omega); haveI := CE.lo q2 hSw (by omega); go_simp; (try with_reducible rfl)
    refine tkj 1 45 ?_ [9, 17, 18, 19, 20, 21] (hy := ?_) (hS := (by exact BL.out)) (h := ?_)
    rotate_left
    · intro w hSw; haveI := N3.lo iB hSw (by omega); haveI := N3.lo iP hSw (by omega); haveI := CE.lo q2 hSw (by omega); go_simp; (try with_reducible rfl)
    refine tkj 2 46 ?_ [4, 5, 6, 7, 8, 9, 17, 18, 19, 20, 21] (hy := ?_) (hS := (by exact BL.out)) (h := ?_)
    rotate_left
    · intro w hSw; haveI := N3.lo iB hSw (by omega); haveI := N3.lo iP hSw (by omega); haveI := CE.lo q2 hSw (by omega); go_simp; (try with_reducible rfl)
    refine tkj 3 47 ?_ [4, 5, 6, 7, 8, 9, 17, 18, 19, 20, 21] (hy := ?_) (hS := (by exact BL.out)) (h := ?_)
    rotate_left
    · intro w hSw; haveI := N3.lo iB hSw (by omega); haveI := N3.lo iP hSw (by omega); haveI := CE.lo q2 hSw (by omega); go_simp; (try with_reducible rfl)
    refine tkj 4 48 ?_ [5, 6, 7, 8, 9, 17, 18, 19, 20, 21] (hy := ?_) (hS := (by exact BL.out)) (h := ?_)
    rotate_left
    · intro w hSw; haveI := N3.lo iB hSw (by omega); haveI := N3.lo iP hSw (by omega); haveI := CE.lo q2 hSw (by omega); go_simp; (try with_reducible rfl)
    refine tkj 5 49 ?_ [6, 7, 8, 9, 17, 18, 19, 20, 21] (hy := ?_) (hS := (by exact BL.out)) (h := ?_)
    rotate_left
    · intro w hSw; haveI := N3.lo iB hSw (by omega); haveI := N3.lo iP hSw (by omega); haveI := CE.lo q2 hSw (by omega); go_simp; (try with_reducible rfl)
    refine tkj 10 54 ?_ [11, 17, 19, 20, 21] (hy := ?_) (hS := (by exact BL.out)) (h := ?_)
    rotate_left
    · intro w hSw; haveI := N3.lo iB hSw (by omega); haveI := N3.lo iP hSw (by omega); haveI := CE.lo q2 hSw (by omega); go_simp; (try with_reducible rfl)
    refine tkj 11 55 ?_ [17, 19, 20, 21] (hy := ?_) (hS := (by exact BL.out)) (h := ?_)
    rotate_left
    · intro w hSw; haveI := N3.lo iB hSw (by omega); haveI := N3.lo iP hSw (by omega); haveI := CE.lo q2 hSw (by omega); go_simp; (try with_reducible rfl)
    refine tkj 12 56 ?_ [14, 15, 16, 17, 19, 20, 21] (hy := ?_) (hS := (by exact BL.out)) (h := ?_)
    rotate_left
    · intro w hSw; haveI := N3.lo iB hSw (by omega); haveI := N3.lo iP hSw (by omega); haveI := CE.lo q2 hSw (by omega); go_simp; (try with_reducible rfl)
    refine tkj 13 57 ?_ [14, 15, 16, 17, 19, 20, 21] (hy := ?_) (hS := (by exact BL.out)) (h := ?_)
    rotate_left
    · intro w hSw; haveI := N3.lo iB hSw (by omega); haveI := N3.lo iP hSw (by omega); haveI := CE.lo q2 hSw (by omega); go_simp; (try with_reducible rfl)
    refine tkj 14 58 ?_ [15, 16, 17, 19, 20, 21] (hy := ?_) (hS := (by exact BL.out)) (h := ?_)
    rotate_left
    · intro w hSw; haveI := N3.lo iB hSw (by omega); haveI := N3.lo iP hSw (by omega); haveI := CE.lo q2 hSw (by omega); go_simp; (try with_reducible rfl)
    refine tkj 15 59 ?_ [16, 17, 19, 20, 21] (hy := ?_) (hS := (by exact BL.out)) (h := ?_)
    rotate_left
    · intro w hSw; haveI := N3.lo iB hSw (by omega); haveI := N3.lo iP hSw (by omega); haveI := CE.lo q2 hSw (by omega); go_simp; (try with_reducible rfl)
    refine stj2 6 16 (h := fun K hK => ?_) (h' := fun K hK => ?_)
    · go_simp
      go_at_call 25; refine (HN1 _ x n1).out.mono ?_; rintro o w1 ⟨y, ⟨hy1, hy2, _⟩, rfl, b1⟩
      go_simp
      refine hK.out _ _ (Or.inr (by exact BL.out)) ?_
      clear hK K
      try simp only [List.setIfInBounds_toArray, List.set_cons_zero, List.set_cons_succ]
      refine stj2 7 16 (h := fun K hK => ?_) (h' := fun K hK => ?_)
      · go_simp
        go_at_call 20; refine (HO _ y hy1).out.mono ?_; rintro o w2 ⟨a3, c3, rfl, i3, b2, f3⟩
        have hfw : 0 < nl (dman (fof y)).natAbs → wr.heap.size ≤ ab a3 := fun h => Nat.le_trans (@Beh.size wr _ inferInstance) (f3 h)
        have hf : 0 < nl (dman (fof y)).natAbs → (w.heap.size + 4) ≤ ab a3 := fun h => Nat.le_trans hsz (hfw h)
        have hne : 0 < nl (dman (fof y)).natAbs → some (ab a3) ≠ (Value.slice ea k ec).ownBlock ∧ some (ab a3) ≠ (Value.slice fa k fc).ownBlock := fun h => ⟨fun e => Nat.not_lt_of_le (hfw h) (iC.oE.lt _ e.symm).2, fun e => Nat.not_lt_of_le (hfw h) (iC.oV.lt _ e.symm).2⟩
        have HND := Lib.hid (isN_fof y)
        clear hfw f3
        go_simp
        refine hK.out _ _ (Or.inr (by exact BL.out)) ?_
        clear hK K
        try simp only [List.setIfInBounds_toArray, List.set_cons_zero, List.set_cons_succ]
        refine stj2 8 16 (h := fun K hK => ?_) (h' := fun K hK => ?_)
        · go_simp
          refine hK.out _ _ (Or.inr (by exact BL.out)) ?_
          clear hK K
          try simp only [List.setIfInBounds_toArray, List.set_cons_zero, List.set_cons_succ]
          refine stj2 9 16 (h := fun K hK => ?_) (h' := fun K hK => ?_)
          · refine step_app_dyad (by rfl) _ _ (by rfl) (w.heap.size + 4) (.slice ea k ec) k (dcells (lcell E) k) (by rfl) _ (dbad (fof y)) (decide (dman (fof y) < 0)) (.slice a3 (nl (dman (fof y)).natAbs) c3) (dexp (fof y)) (by rfl) (by rfl) (by exact @Ck.oE _ (w.heap.size + 4) (.slice ea k ec) k (.slice fa k fc) k E X inferInstance) (by go_simp) (by go_simp) (by go_simp) (by go_simp) (by omega) (by exact BG.out) ?_
            intro g4 cap4 w4 hown4 hg4 hob4
            obtain ⟨iB4, iP4, iC4, iQ4, C4, f4, G4, L4⟩ := Ck.stepE (vE := .slice ea k ec) (vV := .slice fa k fc) (q := k) (L := E) (X := X) (b0 := w.heap.size) (b1 := w.heap.size + 1) (b2 := w.heap.size + 1 + 1) (b3 := w.heap.size + 1 + 1 + 1) (w0 := w) (wr := wr) inferInstance (elD (dbad (fof y)) (fof y) a3 c3) (by unfold elD; exact inferInstance) (by omega) (by omega) (by omega) (by omega) (by omega) hown4 hg4 hob4 hf hne (elD_ok HND.out _ _ _)
            have KC := Lib.hid (keep_lit iC.oE hg4)
            clear hown4 hg4 hob4
            refine hK.out _ _ (Or.inr (by exact BL.out)) ?_
            clear hK K
            try simp only [Act.put, List.setIfInBounds_toArray, List.set_cons_zero, List.set_cons_succ]
            refine tkj 18 62 ?_ [19, 20, 21] (hy := ?_) (hS := (by exact BL.out)) (h := ?_)
            rotate_left
            · intro w hSw; haveI := N3.lo iB hSw (by omega); haveI := N3.lo iP hSw (by omega); haveI := CE.lo q2 hSw (by omega); go_simp; (try with_reducible rfl)
            refine stj 16 (h := fun K hK => ?_)
            go_simp
            refine hK.out _ _ (Or.inr (by exact BL.out)) ?_
            clear hK K
            try simp only [List.setIfInBounds_toArray, List.set_cons_zero, List.set_cons_succ]
            refine stj 17 (h := fun K hK => ?_)
            refine step_app_float (by rfl) _ _ (by rfl) (w.heap.size + 4) (.slice fa k fc) k (flist X k) (by rfl) _ (x : Int) (by rfl) (by exact @Ck.oV _ (w.heap.size + 4) (.slice (some ⟨g4, 0, none⟩) (k + 1) cap4) (k + 1) (.slice fa k fc) k _ X inferInstance) (by first | (go_simp; done) | exact KC.out _ _ _ (by go_simp) (by first | exact Nat.le_refl _ | exact @Beh.size wr _ inferInstance | exact Nat.le_succ_of_le (@Beh.size wr _ inferInstance))) (by omega) (by exact BG.out) ?_
            intro g6 cap6 w6 hown6 hg6 hob6
            obtain ⟨iB6, iP6, iC6, iQ6, C6, f6, G6, L6⟩ := Ck.stepV (vE := .slice (some ⟨g4, 0, none⟩) (k + 1) cap4) (k := k + 1) (vV := .slice fa k fc) (X := X) (b0 := w.heap.size) (b1 := w.heap.size + 1) (b2 := w.heap.size + 1 + 1) (b3 := w.heap.size + 1 + 1 + 1) (w0 := w) (wr := wr) inferInstance (by omega) (by omega) (by omega) (by omega) (by omega) hown6 hg6 hob6
            clear hown6 hg6 hob6
            refine hK.out _ _ (Or.inr (by exact BL.out)) ?_
            clear hK K
            try simp only [Act.put, List.setIfInBounds_toArray, List.set_cons_zero, List.set_cons_succ]
            refine stj 19 (h := fun K hK => ?_)
            go_simp
            refine hK.out _ _ (Or.inl (by decide)) ?_
            clear hK K
            try simp only [List.setIfInBounds_toArray, List.set_cons_zero, List.set_cons_succ]
            refine stj 20 (h := fun K hK => ?_)
            go_simp
            refine hK.out _ _ (Or.inl (by decide)) ?_
            clear hK K
            try simp only [List.setIfInBounds_toArray, List.set_cons_zero, List.set_cons_succ]
            refine stj 21 (h := fun K hK => ?_)
            go_simp
            refine hK.out _ _ (Or.inl (by decide)) ?_
            clear hK K
            try simp only [List.setIfInBounds_toArray, List.set_cons_zero, List.set_cons_succ]
            refine enj (by kernel_rfl) ?_ _
            have C9 := (C6.sen (show w.heap.size < (w.heap.size + 4) by omega) 2 (.slice (some ⟨g4, 0, none⟩) (k + 1) cap4)).sen (show w.heap.size + 1 < (w.heap.size + 4) by omega) 2 (.slice (some ⟨g6, 0, none⟩) (k + 1) cap6)
            have E1 := N3.sen (N3.se2 iB6 (.slice (some ⟨g4, 0, none⟩) (k + 1) cap4)) (show w.heap.size ≠ w.heap.size + 1 by omega) 2 (.slice (some ⟨g6, 0, none⟩) (k + 1) cap6)
            have E2 := N3.se2 (N3.sen iP6 (show w.heap.size + 1 ≠ w.heap.size by omega) 2 (.slice (some ⟨g4, 0, none⟩) (k + 1) cap4)) (.slice (some ⟨g6, 0, none⟩) (k + 1) cap6)
            have E3 := N3.sen (N3.sen iC6 (show w.heap.size + 1 + 1 ≠ w.heap.size by omega) 2 (.slice (some ⟨g4, 0, none⟩) (k + 1) cap4)) (show w.heap.size + 1 + 1 ≠ w.heap.size + 1 by omega) 2 (.slice (some ⟨g6, 0, none⟩) (k + 1) cap6)
            have E4 := N3.sen (N3.sen iQ6 (show w.heap.size + 1 + 1 + 1 ≠ w.heap.size by omega) 2 (.slice (some ⟨g4, 0, none⟩) (k + 1) cap4)) (show w.heap.size + 1 + 1 + 1 ≠ w.heap.size + 1 by omega) 2 (.slice (some ⟨g6, 0, none⟩) (k + 1) cap6)
            have B9 : Below w.heap.size w ((w6.setCell ⟨w.heap.size, 2, none⟩ (.slice (some ⟨g4, 0, none⟩) (k + 1) cap4)).setCell ⟨w.heap.size + 1, 2, none⟩ (.slice (some ⟨g6, 0, none⟩) (k + 1) cap6)) := (f6.out.setCell (Nat.le_refl _) _).setCell (Nat.le_succ _) _
            have S9 : (w.heap.size + 4) ≤ ((w6.setCell ⟨w.heap.size, 2, none⟩ (.slice (some ⟨g4, 0, none⟩) (k + 1) cap4)).setCell ⟨w.heap.size + 1, 2, none⟩ (.slice (some ⟨g6, 0, none⟩) (k + 1) cap6)).heap.size := by rw [World.size_setCell, World.size_setCell]; exact G6.out
            generalize ((w6.setCell ⟨w.heap.size, 2, none⟩ (.slice (some ⟨g4, 0, none⟩) (k + 1) cap4)).setCell ⟨w.heap.size + 1, 2, none⟩ (.slice (some ⟨g6, 0, none⟩) (k + 1) cap6)) = w9 at *
            clear C6 iB6 iP6 iC6 iQ6 f6 G6 L6
            go_wp2_with fail
            go_roundw
            case rel => exact ⟨k + 1, _, _, _, _, by omega, by go_num, up_lt HX.out HXk.out, C9, E1, E2, E3, E4, B9, S9⟩
            case measure => simp [intOf]; omega
          · go_simp
            refine hK.out _ _ (Or.inr (by exact BL.out)) ?_
            clear hK K
            try simp only [List.setIfInBounds_toArray, List.set_cons_zero, List.set_cons_succ]
            refine stj 9 (h := fun K hK => ?_)
            refine step_app_dyad (by rfl) _ _ (by rfl) (w.heap.size + 4) (.slice ea k ec) k (dcells (lcell E) k) (by rfl) _ (dbad (fof y)) (decide (dman (fof y) < 0)) (.slice a3 (nl (dman (fof y)).natAbs) c3) (dexp (fof y)) (by rfl) (by rfl) (by exact @Ck.oE _ (w.heap.size + 4) (.slice ea k ec) k (.slice fa k fc) k E X inferInstance) (by go_simp) (by go_simp) (by go_simp) (by go_simp) (by omega) (by exact BG.out) ?_
            intro g4 cap4 w4 hown4 hg4 hob4
            obtain ⟨iB4, iP4, iC4, iQ4, C4, f4, G4, L4⟩ := Ck.stepE (vE := .slice ea k ec) (vV := .slice fa k fc) (q := k) (L := E) (X := X) (b0 := w.heap.size) (b1 := w.heap.size + 1) (b2 := w.heap.size + 1 + 1) (b3 := w.heap.size + 1 + 1 + 1) (w0 := w) (wr := wr) inferInstance (elD (dbad (fof y)) (fof y) a3 c3) (by unfold elD; exact inferInstance) (by omega) (by omega) (by omega) (by omega) (by omega) hown4 hg4 hob4 hf hne (elD_ok HND.out _ _ _)
            have KC := Lib.hid (keep_lit iC.oE hg4)
            clear hown4 hg4 hob4
            refine hK.out _ _ (Or.inr (by exact BL.out)) ?_
            clear hK K
            try simp only [Act.put, List.setIfInBounds_toArray, List.set_cons_zero, List.set_cons_succ]
            refine tkj 18 62 ?_ [19, 20, 21] (hy := ?_) (hS := (by exact BL.out)) (h := ?_)
            rotate_left
            · intro w hSw; haveI := N3.lo iB hSw (by omega); haveI := N3.lo iP hSw (by omega); haveI := CE.lo q2 hSw (by omega); go_simp; (try with_reducible rfl)
            refine stj 17 (h := fun K hK => ?_)
            refine step_app_float (by rfl) _ _ (by rfl) (w.heap.size + 4) (.slice fa k fc) k (flist X k) (by rfl) _ (x : Int) (by rfl) (by exact @Ck.oV _ (w.heap.size + 4) (.slice (some ⟨g4, 0, none⟩) (k + 1) cap4) (k + 1) (.slice fa k fc) k _ X inferInstance) (by first | (go_simp; done) | exact KC.out _ _ _ (by go_simp) (by first | exact Nat.le_refl _ | exact @Beh.size wr _ inferInstance | exact Nat.le_succ_of_le (@Beh.size wr _ inferInstance))) (by omega) (by exact BG.out) ?_
            intro g6 cap6 w6 hown6 hg6 hob6
            obtain ⟨iB6, iP6, iC6, iQ6, C6, f6, G6, L6⟩ := Ck.stepV (vE := .slice (some ⟨g4, 0, none⟩) (k + 1) cap4) (k := k + 1) (vV := .slice fa k fc) (X := X) (b0 := w.heap.size) (b1 := w.heap.size + 1) (b2 := w.heap.size + 1 + 1) (b3 := w.heap.size + 1 + 1 + 1) (w0 := w) (wr := wr) inferInstance (by omega) (by omega) (by omega) (by omega) (by omega) hown6 hg6 hob6
            clear hown6 hg6 hob6
            refine hK.out _ _ (Or.inr (by exact BL.out)) ?_
            clear hK K
            try simp only [Act.put, List.setIfInBounds_toArray, List.set_cons_zero, List.set_cons_succ]
            refine stj 19 (h := fun K hK => ?_)
            go_simp
            refine hK.out _ _ (Or.inl (by decide)) ?_
            clear hK K
            try simp only [List.setIfInBounds_toArray, List.set_cons_zero, List.set_cons_succ]
            refine stj 20 (h := fun K hK => ?_)
            go_simp
            refine hK.out _ _ (Or.inl (by decide)) ?_
            clear hK K
            try simp only [List.setIfInBounds_toArray, List.set_cons_zero, List.set_cons_succ]
            refine stj 21 (h := fun K hK => ?_)
            go_simp
            refine hK.out _ _ (Or.inl (by decide)) ?_
            clear hK K
            try simp only [List.setIfInBounds_toArray, List.set_cons_zero, List.set_cons_succ]
            refine enj (by kernel_rfl) ?_ _
            have C9 := (C6.sen (show w.heap.size < (w.heap.size + 4) by omega) 2 (.slice (some ⟨g4, 0, none⟩) (k + 1) cap4)).sen (show w.heap.size + 1 < (w.heap.size + 4) by omega) 2 (.slice (some ⟨g6, 0, none⟩) (k + 1) cap6)
            have E1 := N3.sen (N3.se2 iB6 (.slice (some ⟨g4, 0, none⟩) (k + 1) cap4)) (show w.heap.size ≠ w.heap.size + 1 by omega) 2 (.slice (some ⟨g6, 0, none⟩) (k + 1) cap6)
            have E2 := N3.se2 (N3.sen iP6 (show w.heap.size + 1 ≠ w.heap.size by omega) 2 (.slice (some ⟨g4, 0, none⟩) (k + 1) cap4)) (.slice (some ⟨g6, 0, none⟩) (k + 1) cap6)
            have E3 := N3.sen (N3.sen iC6 (show w.heap.size + 1 + 1 ≠ w.heap.size by omega) 2 (.slice (some ⟨g4, 0, none⟩) (k + 1) cap4)) (show w.heap.size + 1 + 1 ≠ w.heap.size + 1 by omega) 2 (.slice (some ⟨g6, 0, none⟩) (k + 1) cap6)
            have E4 := N3.sen (N3.sen iQ6 (show w.heap.size + 1 + 1 + 1 ≠ w.heap.size by omega) 2 (.slice (some ⟨g4, 0, none⟩) (k + 1) cap4)) (show w.heap.size + 1 + 1 + 1 ≠ w.heap.size + 1 by omega) 2 (.slice (some ⟨g6, 0, none⟩) (k + 1) cap6)
            have B9 : Below w.heap.size w ((w6.setCell ⟨w.heap.size, 2, none⟩ (.slice (some ⟨g4, 0, none⟩) (k + 1) cap4)).setCell ⟨w.heap.size + 1, 2, none⟩ (.slice (some ⟨g6, 0, none⟩) (k + 1) cap6)) := (f6.out.setCell (Nat.le_refl _) _).setCell (Nat.le_succ _) _
            have S9 : (w.heap.size + 4) ≤ ((w6.setCell ⟨w.heap.size, 2, none⟩ (.slice (some ⟨g4, 0, none⟩) (k + 1) cap4)).setCell ⟨w.heap.size + 1, 2, none⟩ (.slice (some ⟨g6, 0, none⟩) (k + 1) cap6)).heap.size := by rw [World.size_setCell, World.size_setCell]; exact G6.out
            generalize ((w6.setCell ⟨w.heap.size, 2, none⟩ (.slice (some ⟨g4, 0, none⟩) (k + 1) cap4)).setCell ⟨w.heap.size + 1, 2, none⟩ (.slice (some ⟨g6, 0, none⟩) (k + 1) cap6)) = w9 at *
            clear C6 iB6 iP6 iC6 iQ6 f6 G6 L6
            go_wp2_with fail
            go_roundw
            case rel => exact ⟨k + 1, _, _, _, _, by omega, by go_num, up_lt HX.out HXk.out, C9, E1, E2, E3, E4, B9, S9⟩
            case measure => simp [intOf]; omega
        · go_simp
          refine hK.out _ _ (Or.inr (by exact BL.out)) ?_
          clear hK K
          try simp only [List.setIfInBounds_toArray, List.set_cons_zero, List.set_cons_succ]
          refine stj 8 (h := fun K hK => ?_)
          go_simp
          refine hK.out _ _ (Or.inr (by exact BL.out)) ?_
          clear hK K
          try simp only [List.setIfInBounds_toArray, List.set_cons_zero, List.set_cons_succ]
          refine stj 9 (h := fun K hK => ?_)
          refine step_app_dyad (by rfl) _ _ (by rfl) (w.heap.size + 4) (.slice ea k ec) k (dcells (lcell E) k) (by rfl) _ (dbad (fof y)) (decide (dman (fof y) < 0)) (.slice a3 (nl (dman (fof y)).natAbs) c3) (dexp (fof y)) (by rfl) (by rfl) (by exact @Ck.oE _ (w.heap.size + 4) (.slice ea k ec) k (.slice fa k fc) k E X inferInstance) (by go_simp) (by go_simp) (by go_simp) (by go_simp) (by omega) (by exact BG.out) ?_
          intro g4 cap4 w4 hown4 hg4 hob4
          obtain ⟨iB4, iP4, iC4, iQ4, C4, f4, G4, L4⟩ := Ck.stepE (vE := .slice ea k ec) (vV := .slice fa k fc) (q := k) (L := E) (X := X) (b0 := w.heap.size) (b1 := w.heap.size + 1) (b2 := w.heap.size + 1 + 1) (b3 := w.heap.size + 1 + 1 + 1) (w0 := w) (wr := wr) inferInstance (elD (dbad (fof y)) (fof y) a3 c3) (by unfold elD; exact inferInstance) (by omega) (by omega) (by omega) (by omega) (by omega) hown4 hg4 hob4 hf hne (elD_ok HND.out _ _ _)
          have KC := Lib.hid (keep_lit iC.oE hg4)
          clear hown4 hg4 hob4
          refine hK.out _ _ (Or.inr (by exact BL.out)) ?_
          clear hK K
          try simp only [Act.put, List.setIfInBounds_toArray, List.set_cons_zero, List.set_cons_succ]
          refine tkj 18 62 ?_ [19, 20, 21] (hy := ?_) (hS := (by exact BL.out)) (h := ?_)
          rotate_left
          · intro w hSw; haveI := N3.lo iB hSw (by omega); haveI := N3.lo iP hSw (by omega); haveI := CE.lo q2 hSw (by omega); go_simp; (try with_reducible rfl)
          refine stj 17 (h := fun K hK => ?_)
          refine step_app_float (by rfl) _ _ (by rfl) (w.heap.size + 4) (.slice fa k fc) k (flist X k) (by rfl) _ (x : Int) (by rfl) (by exact @Ck.oV _ (w.heap.size + 4) (.slice (some ⟨g4, 0, none⟩) (k + 1) cap4) (k + 1) (.slice fa k fc) k _ X inferInstance) (by first | (go_simp; done) | exact KC.out _ _ _ (by go_simp) (by first | exact Nat.le_refl _ | exact @Beh.size wr _ inferInstance | exact Nat.le_succ_of_le (@Beh.size wr _ inferInstance))) (by omega) (by exact BG.out) ?_
          intro g6 cap6 w6 hown6 hg6 hob6
          obtain ⟨iB6, iP6, iC6, iQ6, C6, f6, G6, L6⟩ := Ck.stepV (vE := .slice (some ⟨g4, 0, none⟩) (k + 1) cap4) (k := k + 1) (vV := .slice fa k fc) (X := X) (b0 := w.heap.size) (b1 := w.heap.size + 1) (b2 := w.heap.size + 1 + 1) (b3 := w.heap.size + 1 + 1 + 1) (w0 := w) (wr := wr) inferInstance (by omega) (by omega) (by omega) (by omega) (by omega) hown6 hg6 hob6
          clear hown6 hg6 hob6
          refine hK.out _ _ (Or.inr (by exact BL.out)) ?_
          clear hK K
          try simp only [Act.put, List.setIfInBounds_toArray, List.set_cons_zero, List.set_cons_succ]
          refine stj 19 (h := fun K hK => ?_)
          go_simp
          refine hK.out _ _ (Or.inl (by decide)) ?_
          clear hK K
          try simp only [List.setIfInBounds_toArray, List.set_cons_zero, List.set_cons_succ]
          refine stj 20 (h := fun K hK => ?_)
          go_simp
          refine hK.out _ _ (Or.inl (by decide)) ?_
          clear hK K
          try simp only [List.setIfInBounds_toArray, List.set_cons_zero, List.set_cons_succ]
          refine stj 21 (h := fun K hK => ?_)
          go_simp
          refine hK.out _ _ (Or.inl (by decide)) ?_
          clear hK K
          try simp only [List.setIfInBounds_toArray, List.set_cons_zero, List.set_cons_succ]
          refine enj (by kernel_rfl) ?_ _
          have C9 := (C6.sen (show w.heap.size < (w.heap.size + 4) by omega) 2 (.slice (some ⟨g4, 0, none⟩) (k + 1) cap4)).sen (show w.heap.size + 1 < (w.heap.size + 4) by omega) 2 (.slice (some ⟨g6, 0, none⟩) (k + 1) cap6)
          have E1 := N3.sen (N3.se2 iB6 (.slice (some ⟨g4, 0, none⟩) (k + 1) cap4)) (show w.heap.size ≠ w.heap.size + 1 by omega) 2 (.slice (some ⟨g6, 0, none⟩) (k + 1) cap6)
          have E2 := N3.se2 (N3.sen iP6 (show w.heap.size + 1 ≠ w.heap.size by omega) 2 (.slice (some ⟨g4, 0, none⟩) (k + 1) cap4)) (.slice (some ⟨g6, 0, none⟩) (k + 1) cap6)
          have E3 := N3.sen (N3.sen iC6 (show w.heap.size + 1 + 1 ≠ w.heap.size by omega) 2 (.slice (some ⟨g4, 0, none⟩) (k + 1) cap4)) (show w.heap.size + 1 + 1 ≠ w.heap.size + 1 by omega) 2 (.slice (some ⟨g6, 0, none⟩) (k + 1) cap6)
          have E4 := N3.sen (N3.sen iQ6 (show w.heap.size + 1 + 1 + 1 ≠ w.heap.size by omega) 2 (.slice (some ⟨g4, 0, none⟩) (k + 1) cap4)) (show w.heap.size + 1 + 1 + 1 ≠ w.heap.size + 1 by omega) 2 (.slice (some ⟨g6, 0, none⟩) (k + 1) cap6)
          have B9 : Below w.heap.size w ((w6.setCell ⟨w.heap.size, 2, none⟩ (.slice (some ⟨g4, 0, none⟩) (k + 1) cap4)).setCell ⟨w.heap.size + 1, 2, none⟩ (.slice (some ⟨g6, 0, none⟩) (k + 1) cap6)) := (f6.out.setCell (Nat.le_refl _) _).setCell (Nat.le_succ _) _
          have S9 : (w.heap.size + 4) ≤ ((w6.setCell ⟨w.heap.size, 2, none⟩ (.slice (some ⟨g4, 0, none⟩) (k + 1) cap4)).setCell ⟨w.heap.size + 1, 2, none⟩ (.slice (some ⟨g6, 0, none⟩) (k + 1) cap6)).heap.size := by rw [World.size_setCell, World.size_setCell]; exact G6.out
          generalize ((w6.setCell ⟨w.heap.size, 2, none⟩ (.slice (some ⟨g4, 0, none⟩) (k + 1) cap4)).setCell ⟨w.heap.size + 1, 2, none⟩ (.slice (some ⟨g6, 0, none⟩) (k + 1) cap6)) = w9 at *
          clear C6 iB6 iP6 iC6 iQ6 f6 G6 L6
          go_wp2_with fail
          go_roundw
          case rel => exact ⟨k + 1, _, _, _, _, by omega, by go_num, up_lt HX.out HXk.out, C9, E1, E2, E3, E4, B9, S9⟩
          case measure => simp [intOf]; omega
      · go_simp
        refine hK.out _ _ (Or.inr (by exact BL.out)) ?_
        clear hK K
        try simp only [List.setIfInBounds_toArray, List.set_cons_zero, List.set_cons_succ]
        refine stj 7 (h := fun K hK => ?_)
        go_simp
        go_at_call 20; refine (HO _ y hy1).out.mono ?_; rintro o w2 ⟨a3, c3, rfl, i3, b2, f3⟩
        have hfw : 0 < nl (dman (fof y)).natAbs → wr.heap.size ≤ ab a3 := fun h => Nat.le_trans (@Beh.size wr _ inferInstance) (f3 h)
        have hf : 0 < nl (dman (fof y)).natAbs → (w.heap.size + 4) ≤ ab a3 := fun h => Nat.le_trans hsz (hfw h)
        have hne : 0 < nl (dman (fof y)).natAbs → some (ab a3) ≠ (Value.slice ea k ec).ownBlock ∧ some (ab a3) ≠ (Value.slice fa k fc).ownBlock := fun h => ⟨fun e => Nat.not_lt_of_le (hfw h) (iC.oE.lt _ e.symm).2, fun e => Nat.not_lt_of_le (hfw h) (iC.oV.lt _ e.symm).2⟩
        have HND := Lib.hid (isN_fof y)
        clear hfw f3
        go_simp
        refine hK.out _ _ (Or.inr (by exact BL.out)) ?_
        clear hK K
        try simp only [List.setIfInBounds_toArray, List.set_cons_zero, List.set_cons_succ]
        refine stj 8 (h := fun K hK => ?_)
        go_simp
        refine hK.out _ _ (Or.inr (by exact BL.out)) ?_
        clear hK K
        try simp only [List.setIfInBounds_toArray, List.set_cons_zero, List.set_cons_succ]
        refine stj 9 (h := fun K hK => ?_)
        refine step_app_dyad (by rfl) _ _ (by rfl) (w.heap.size + 4) (.slice ea k ec) k (dcells (lcell E) k) (by rfl) _ (dbad (fof y)) (decide (dman (fof y) < 0)) (.slice a3 (nl (dman (fof y)).natAbs) c3) (dexp (fof y)) (by rfl) (by rfl) (by exact @Ck.oE _ (w.heap.size + 4) (.slice ea k ec) k (.slice fa k fc) k E X inferInstance) (by go_simp) (by go_simp) (by go_simp) (by go_simp) (by omega) (by exact BG.out) ?_
        intro g4 cap4 w4 hown4 hg4 hob4
        obtain ⟨iB4, iP4, iC4, iQ4, C4, f4, G4, L4⟩ := Ck.stepE (vE := .slice ea k ec) (vV := .slice fa k fc) (q := k) (L := E) (X := X) (b0 := w.heap.size) (b1 := w.heap.size + 1) (b2 := w.heap.size + 1 + 1) (b3 := w.heap.size + 1 + 1 + 1) (w0 := w) (wr := wr) inferInstance (elD (dbad (fof y)) (fof y) a3 c3) (by unfold elD; exact inferInstance) (by omega) (by omega) (by omega) (by omega) (by omega) hown4 hg4 hob4 hf hne (elD_ok HND.out _ _ _)
        have KC := Lib.hid (keep_lit iC.oE hg4)
        clear hown4 hg4 hob4
        refine hK.out _ _ (Or.inr (by exact BL.out)) ?_
        clear hK K
        try simp only [Act.put, List.setIfInBounds_toArray, List.set_cons_zero, List.set_cons_succ]
        refine tkj 18 62 ?_ [19, 20, 21] (hy := ?_) (hS := (by exact BL.out)) (h := ?_)
        rotate_left
        · intro w hSw; haveI := N3.lo iB hSw (by omega); haveI := N3.lo iP hSw (by omega); haveI := CE.lo q2 hSw (by omega); go_simp; (try with_reducible rfl)
        refine stj 17 (h := fun K hK => ?_)
        refine step_app_float (by rfl) _ _ (by rfl) (w.heap.size + 4) (.slice fa k fc) k (flist X k) (by rfl) _ (x : Int) (by rfl) (by exact @Ck.oV _ (w.heap.size + 4) (.slice (some ⟨g4, 0, none⟩) (k + 1) cap4) (k + 1) (.slice fa k fc) k _ X inferInstance) (by first | (go_simp; done) | exact KC.out _ _ _ (by go_simp) (by first | exact Nat.le_refl _ | exact @Beh.size wr _ inferInstance | exact Nat.le_succ_of_le (@Beh.size wr _ inferInstance))) (by omega) (by exact BG.out) ?_
        intro g6 cap6 w6 hown6 hg6 hob6
        obtain ⟨iB6, iP6, iC6, iQ6, C6, f6, G6, L6⟩ := Ck.stepV (vE := .slice (some ⟨g4, 0, none⟩) (k + 1) cap4) (k := k + 1) (vV := .slice fa k fc) (X := X) (b0 := w.heap.size) (b1 := w.heap.size + 1) (b2 := w.heap.size + 1 + 1) (b3 := w.heap.size + 1 + 1 + 1) (w0 := w) (wr := wr) inferInstance (by omega) (by omega) (by omega) (by omega) (by omega) hown6 hg6 hob6
        clear hown6 hg6 hob6
        refine hK.out _ _ (Or.inr (by exact BL.out)) ?_
        clear hK K
        try simp only [Act.put, List.setIfInBounds_toArray, List.set_cons_zero, List.set_cons_succ]
        refine stj 19 (h := fun K hK => ?_)
        go_simp
        refine hK.out _ _ (Or.inl (by decide)) ?_
        clear hK K
        try simp only [List.setIfInBounds_toArray, List.set_cons_zero, List.set_cons_succ]
        refine stj 20 (h := fun K hK => ?_)
        go_simp
        refine hK.out _ _ (Or.inl (by decide)) ?_
        clear hK K
        try simp only [List.setIfInBounds_toArray, List.set_cons_zero, List.set_cons_succ]
        refine stj 21 (h := fun K hK => ?_)
        go_simp
        refine hK.out _ _ (Or.inl (by decide)) ?_
        clear hK K
        try simp only [List.setIfInBounds_toArray, List.set_cons_zero, List.set_cons_succ]
        refine enj (by kernel_rfl) ?_ _
        have C9 := (C6.sen (show w.heap.size < (w.heap.size + 4) by omega) 2 (.slice (some ⟨g4, 0, none⟩) (k + 1) cap4)).sen (show w.heap.size + 1 < (w.heap.size + 4) by omega) 2 (.slice (some ⟨g6, 0, none⟩) (k + 1) cap6)
        have E1 := N3.sen (N3.se2 iB6 (.slice (some ⟨g4, 0, none⟩) (k + 1) cap4)) (show w.heap.size ≠ w.heap.size + 1 by omega) 2 (.slice (some ⟨g6, 0, none⟩) (k + 1) cap6)
        have E2 := N3.se2 (N3.sen iP6 (show w.heap.size + 1 ≠ w.heap.size by omega) 2 (.slice (some ⟨g4, 0, none⟩) (k + 1) cap4)) (.slice (some ⟨g6, 0, none⟩) (k + 1) cap6)
        have E3 := N3.sen (N3.sen iC6 (show w.heap.size + 1 + 1 ≠ w.heap.size by omega) 2 (.slice (some ⟨g4, 0, none⟩) (k + 1) cap4)) (show w.heap.size + 1 + 1 ≠ w.heap.size + 1 by omega) 2 (.slice (some ⟨g6, 0, none⟩) (k + 1) cap6)
        have E4 := N3.sen (N3.sen iQ6 (show w.heap.size + 1 + 1 + 1 ≠ w.heap.size by omega) 2 (.slice (some ⟨g4, 0, none⟩) (k + 1) cap4)) (show w.heap.size + 1 + 1 + 1 ≠ w.heap.size + 1 by omega) 2 (.slice (some ⟨g6, 0, none⟩) (k + 1) cap6)
        have B9 : Below w.heap.size w ((w6.setCell ⟨w.heap.size, 2, none⟩ (.slice (some ⟨g4, 0, none⟩) (k + 1) cap4)).setCell ⟨w.heap.size + 1, 2, none⟩ (.slice (some ⟨g6, 0, none⟩) (k + 1) cap6)) := (f6.out.setCell (Nat.le_refl _) _).setCell (Nat.le_succ _) _
        have S9 : (w.heap.size + 4) ≤ ((w6.setCell ⟨w.heap.size, 2, none⟩ (.slice (some ⟨g4, 0, none⟩) (k + 1) cap4)).setCell ⟨w.heap.size + 1, 2, none⟩ (.slice (some ⟨g6, 0, none⟩) (k + 1) cap6)).heap.size := by rw [World.size_setCell, World.size_setCell]; exact G6.out
        generalize ((w6.setCell ⟨w.heap.size, 2, none⟩ (.slice (some ⟨g4, 0, none⟩) (k + 1) cap4)).setCell ⟨w.heap.size + 1, 2, none⟩ (.slice (some ⟨g6, 0, none⟩) (k + 1) cap6)) = w9 at *
        clear C6 iB6 iP6 iC6 iQ6 f6 G6 L6
        go_wp2_with fail
        go_roundw
        case rel => exact ⟨k + 1, _, _, _, _, by omega, by go_num, up_lt HX.out HXk.out, C9, E1, E2, E3, E4, B9, S9⟩
        case measure => simp [intOf]; omega
    · go_simp
      refine hK.out _ _ (Or.inr (by exact BL.out)) ?_
      clear hK K
      try simp only [List.setIfInBounds_toArray, List.set_cons_zero, List.set_cons_succ]
      refine stj 6 (h := fun K hK => ?_)
      go_simp
      go_at_call 25; refine (HN1 _ x n1).out.mono ?_; rintro o w1 ⟨y, ⟨hy1, hy2, _⟩, rfl, b1⟩
      go_simp
      refine hK.out _ _ (Or.inr (by exact BL.out)) ?_
      clear hK K
      try simp only [List.setIfInBounds_toArray, List.set_cons_zero, List.set_cons_succ]
      refine stj 7 (h := fun K hK => ?_)
      go_simp
      go_at_call 20; refine (HO _ y hy1).out.mono ?_; rintro o w2 ⟨a3, c3, rfl, i3, b2, f3⟩
      have hfw : 0 < nl (dman (fof y)).natAbs → wr.heap.size ≤ ab a3 := fun h => Nat.le_trans (@Beh.size wr _ inferInstance) (f3 h)
      have hf : 0 < nl (dman (fof y)).natAbs → (w.heap.size + 4) ≤ ab a3 := fun h => Nat.le_trans hsz (hfw h)
      have hne : 0 < nl (dman (fof y)).natAbs → some (ab a3) ≠ (Value.slice ea k ec).ownBlock ∧ some (ab a3) ≠ (Value.slice fa k fc).ownBlock := fun h => ⟨fun e => Nat.not_lt_of_le (hfw h) (iC.oE.lt _ e.symm).2, fun e => Nat.not_lt_of_le (hfw h) (iC.oV.lt _ e.symm).2⟩
      have HND := Lib.hid (isN_fof y)
      clear hfw f3
      go_simp
      refine hK.out _ _ (Or.inr (by exact BL.out)) ?_
      clear hK K
      try simp only [List.setIfInBounds_toArray, List.set_cons_zero, List.set_cons_succ]
      refine stj 8 (h := fun K hK => ?_)
      go_simp
      refine hK.out _ _ (Or.inr (by exact BL.out)) ?_
      clear hK K
      try simp only [List.setIfInBounds_toArray, List.set_cons_zero, List.set_cons_succ]
      refine stj 9 (h := fun K hK => ?_)
      refine step_app_dyad (by rfl) _ _ (by rfl) (w.heap.size + 4) (.slice ea k ec) k (dcells (lcell E) k) (by rfl) _ (dbad (fof y)) (decide (dman (fof y) < 0)) (.slice a3 (nl (dman (fof y)).natAbs) c3) (dexp (fof y)) (by rfl) (by rfl) (by exact @Ck.oE _ (w.heap.size + 4) (.slice ea k ec) k (.slice fa k fc) k E X inferInstance) (by go_simp) (by go_simp) (by go_simp) (by go_simp) (by omega) (by exact BG.out) ?_
      intro g4 cap4 w4 hown4 hg4 hob4
      obtain ⟨iB4, iP4, iC4, iQ4, C4, f4, G4, L4⟩ := Ck.stepE (vE := .slice ea k ec) (vV := .slice fa k fc) (q := k) (L := E) (X := X) (b0 := w.heap.size) (b1 := w.heap.size + 1) (b2 := w.heap.size + 1 + 1) (b3 := w.heap.size + 1 + 1 + 1) (w0 := w) (wr := wr) inferInstance (elD (dbad (fof y)) (fof y) a3 c3) (by unfold elD; exact inferInstance) (by omega) (by omega) (by omega) (by omega) (by omega) hown4 hg4 hob4 hf hne (elD_ok HND.out _ _ _)
      have KC := Lib.hid (keep_lit iC.oE hg4)
      clear hown4 hg4 hob4
      refine hK.out _ _ (Or.inr (by exact BL.out)) ?_
      clear hK K
      try simp only [Act.put, List.setIfInBounds_toArray, List.set_cons_zero, List.set_cons_succ]
      refine tkj 18 62 ?_ [19, 20, 21] (hy := ?_) (hS := (by exact BL.out)) (h := ?_)
      rotate_left
      · intro w hSw; haveI := N3.lo iB hSw (by omega); haveI := N3.lo iP hSw (by omega); haveI := CE.lo q2 hSw (by omega); go_simp; (try with_reducible rfl)
      refine stj 17 (h := fun K hK => ?_)
      refine step_app_float (by rfl) _ _ (by rfl) (w.heap.size + 4) (.slice fa k fc) k (flist X k) (by rfl) _ (x : Int) (by rfl) (by exact @Ck.oV _ (w.heap.size + 4) (.slice (some ⟨g4, 0, none⟩) (k + 1) cap4) (k + 1) (.slice fa k fc) k _ X inferInstance) (by first | (go_simp; done) | exact KC.out _ _ _ (by go_simp) (by first | exact Nat.le_refl _ | exact @Beh.size wr _ inferInstance | exact Nat.le_succ_of_le (@Beh.size wr _ inferInstance))) (by omega) (by exact BG.out) ?_
      intro g6 cap6 w6 hown6 hg6 hob6
      obtain ⟨iB6, iP6, iC6, iQ6, C6, f6, G6, L6⟩ := Ck.stepV (vE := .slice (some ⟨g4, 0, none⟩) (k + 1) cap4) (k := k + 1) (vV := .slice fa k fc) (X := X) (b0 := w.heap.size) (b1 := w.heap.size + 1) (b2 := w.heap.size + 1 + 1) (b3 := w.heap.size + 1 + 1 + 1) (w0 := w) (wr := wr) inferInstance (by omega) (by omega) (by omega) (by omega) (by omega) hown6 hg6 hob6
      clear hown6 hg6 hob6
      refine hK.out _ _ (Or.inr (by exact BL.out)) ?_
      clear hK K
      try simp only [Act.put, List.setIfInBounds_toArray, List.set_cons_zero, List.set_cons_succ]
      refine stj 19 (h := fun K hK => ?_)
      go_simp
      refine hK.out _ _ (Or.inl (by decide)) ?_
      clear hK K
      try simp only [List.setIfInBounds_toArray, List.set_cons_zero, List.set_cons_succ]
      refine stj 20 (h := fun K hK => ?_)
      go_simp
      refine hK.out _ _ (Or.inl (by decide)) ?_
      clear hK K
      try simp only [List.setIfInBounds_toArray, List.set_cons_zero, List.set_cons_succ]
      refine stj 21 (h := fun K hK => ?_)
      go_simp
      refine hK.out _ _ (Or.inl (by decide)) ?_
      clear hK K
      try simp only [List.setIfInBounds_toArray, List.set_cons_zero, List.set_cons_succ]
      refine enj (by kernel_rfl) ?_ _
      have C9 := (C6.sen (show w.heap.size < (w.heap.size + 4) by omega) 2 (.slice (some ⟨g4, 0, none⟩) (k + 1) cap4)).sen (show w.heap.size + 1 < (w.heap.size + 4) by omega) 2 (.slice (some ⟨g6, 0, none⟩) (k + 1) cap6)
      have E1 := N3.sen (N3.se2 iB6 (.slice (some ⟨g4, 0, none⟩) (k + 1) cap4)) (show w.heap.size ≠ w.heap.size + 1 by omega) 2 (.slice (some ⟨g6, 0, none⟩) (k + 1) cap6)
      have E2 := N3.se2 (N3.sen iP6 (show w.heap.size + 1 ≠ w.heap.size by omega) 2 (.slice (some ⟨g4, 0, none⟩) (k + 1) cap4)) (.slice (some ⟨g6, 0, none⟩) (k + 1) cap6)
      have E3 := N3.sen (N3.sen iC6 (show w.heap.size + 1 + 1 ≠ w.heap.size by omega) 2 (.slice (some ⟨g4, 0, none⟩) (k + 1) cap4)) (show w.heap.size + 1 + 1 ≠ w.heap.size + 1 by omega) 2 (.slice (some ⟨g6, 0, none⟩) (k + 1) cap6)
      have E4 := N3.sen (N3.sen iQ6 (show w.heap.size + 1 + 1 + 1 ≠ w.heap.size by omega) 2 (.slice (some ⟨g4, 0, none⟩) (k + 1) cap4)) (show w.heap.size + 1 + 1 + 1 ≠ w.heap.size + 1 by omega) 2 (.slice (some ⟨g6, 0, none⟩) (k + 1) cap6)
      have B9 : Below w.heap.size w ((w6.setCell ⟨w.heap.size, 2, none⟩ (.slice (some ⟨g4, 0, none⟩) (k + 1) cap4)).setCell ⟨w.heap.size + 1, 2, none⟩ (.slice (some ⟨g6, 0, none⟩) (k + 1) cap6)) := (f6.out.setCell (Nat.le_refl _) _).setCell (Nat.le_succ _) _
      have S9 : (w.heap.size + 4) ≤ ((w6.setCell ⟨w.heap.size, 2, none⟩ (.slice (some ⟨g4, 0, none⟩) (k + 1) cap4)).setCell ⟨w.heap.size + 1, 2, none⟩ (.slice (some ⟨g6, 0, none⟩) (k + 1) cap6)).heap.size := by rw [World.size_setCell, World.size_setCell]; exact G6.out
      generalize ((w6.setCell ⟨w.heap.size, 2, none⟩ (.slice (some ⟨g4, 0, none⟩) (k + 1) cap4)).setCell ⟨w.heap.size + 1, 2, none⟩ (.slice (some ⟨g6, 0, none⟩) (k + 1) cap6)) = w9 at *
      clear C6 iB6 iP6 iC6 iQ6 f6 G6 L6
      go_wp2_with fail
      go_roundw
      case rel => exact ⟨k + 1, _, _, _, _, by omega, by go_num, up_lt HX.out HXk.out, C9, E1, E2, E3, E4, B9, S9⟩
      case measure => simp [intOf]; omega
  · obtain rfl : k = n := by omega
    rename World => wb
    have HCb := Lib.hid iC
    have HG := Lib.hid hsz
    have HPQ : Hid (p * q ≤ 36) := Lib.hid (Nat.mul_le_mul (show p ≤ 6 by omega) (show q ≤ 6 by omega))
    obtain ⟨N, hN⟩ : ∃ N, N = p * q := ⟨_, rfl⟩
    have hpq : (p : Int) * (q : Int) = (N : Int) := by rw [hN]; exact (Int.natCast_mul p q).symm
    have hN36 : N ≤ 36 := by rw [hN]; exact HPQ.out
    clear hN
    haveI G0 : BG wb (w.heap.size + 4) := ⟨hsz⟩
    haveI f0 : From w wb := ⟨hbr⟩
    have hsb : w.heap.size + 4 ≤ wb.heap.size := hsz
    clear hbr hsz bw
    go_wp2_with fail
    go_loopw [16] (fun x wr => ∃ (j : Nat) (vE2 vV2 : Value) (E2 : Nat → El) (X2 : Nat → Nat), j ≤ N ∧ x = .int .i64 j ∧ (∀ t, X2 t < 18446744073709551616) ∧ Ck wr (w.heap.size + 4) vE k vV k E X ∧ Ck wr wb.heap.size vE2 j vV2 j E2 X2 ∧ N3 wr w.heap.size (.int .i64 r) (.int .i64 c) vE ∧ N3 wr (w.heap.size + 1) (.int .i64 r) (.int .i64 c) vV ∧ N3 wr (w.heap.size + 1 + 1) (.int .i64 p) (.int .i64 q) vE2 ∧ N3 wr (w.heap.size + 1 + 1 + 1) (.int .i64 p) (.int .i64 q) vV2 ∧ Below w.heap.size w wr ∧ wb.heap.size ≤ wr.heap.size) (fun x _ => N - (intOf x).toNat)
    case atStart => exact ⟨0, _, _, fun _ => elD false none none 0, fun _ => 0, by omega, rfl, fun _ => (by show 0 < 18446744073709551616; omega), iC, Ck.nil _ _ _ _, inferInstance, inferInstance, inferInstance, inferInstance, zbh, by simp⟩
    case round =>
     clear iC iB iP iC2 iQ
     obtain ⟨j, vE2, vV2, E2, X2, hj, rfl, hX2, iC, iD, iB, iP, iC2, iQ, hbr, hsz⟩ := hrel
     haveI bw : From w wr := ⟨hbr⟩
     haveI G1 : BG wr wb.heap.size := ⟨hsz⟩
     have HX2 := Lib.hid hX2
     clear hX2 hbr
     by_cases hlt2 : j < N
     · obtain ⟨ea, ec, hvE⟩ := own_slice' iD.oE
       obtain ⟨fa, fc, hvV⟩ := own_slice' iD.oV
       subst hvE hvV
       cases bd with
       | false =>
        go_wp2_with fail
        refine (HW _ (j : Int) (by omega) (by omega)).out.mono ?_; rintro o w1 ⟨x, hx, rfl, b1⟩; go_wp2_with fail
        refine (HN2 _ x hx).out.mono ?_; rintro o w2 ⟨y, ⟨hy1, hy2, _⟩, rfl, b2⟩; go_wp2_with fail
        refine (HO _ y hy1).out.mono ?_; rintro o w3 ⟨a3, c3, rfl, i3, b3, f3⟩; go_wp2_with fail
        have hfw : 0 < nl (dman (fof y)).natAbs → wr.heap.size ≤ ab a3 := fun h => Nat.le_trans (@Beh.size wr _ inferInstance) (f3 h)
        have hf : 0 < nl (dman (fof y)).natAbs → wb.heap.size ≤ ab a3 := fun h => Nat.le_trans hsz (hfw h)
        have hne : 0 < nl (dman (fof y)).natAbs → some (ab a3) ≠ (Value.slice ea j ec).ownBlock ∧ some (ab a3) ≠ (Value.slice fa j fc).ownBlock := fun h => ⟨fun e => Nat.not_lt_of_le (hfw h) (iD.oE.lt _ e.symm).2, fun e => Nat.not_lt_of_le (hfw h) (iD.oV.lt _ e.symm).2⟩
        have HND := Lib.hid (isN_fof y)
        clear hfw f3
        refine bgj (fun w' => Below wb.heap.size wr w') [13, 14, 15] (by kernel_rfl) ((by exact BL.out)) (fun hHeld => ?_)
        simp only [List.size_toArray, List.length_cons, List.length_nil, Nat.reduceAdd, Array.replicate_succ, Array.replicate_zero, List.push_toArray, List.nil_append, List.cons_append]
        refine tkj 0 86 ?_ [1, 4, 9, 10, 11, 12, 13, 14, 15] (hy := ?_) (hS := (by exact BL.out)) (h := ?_)
        rotate_left
        · intro w hSw; haveI := N3.lo iC2 hSw (by omega); haveI := N3.lo iQ hSw (by omega); go_simp; (try with_reducible rfl)
        refine tkj 1 87 ?_ [4, 9, 10, 11, 12, 13, 14, 15] (hy := ?_) (hS := (by exact BL.out)) (h := ?_)
        rotate_left
        · intro w hSw; haveI := N3.lo iC2 hSw (by omega); haveI := N3.lo iQ hSw (by omega); go_simp; (try with_reducible rfl)
        refine tkj 5 91 ?_ [6, 11, 13, 14, 15] (hy := ?_) (hS := (by exact BL.out)) (h := ?_)
        rotate_left
        · intro w hSw; haveI := N3.lo iC2 hSw (by omega); haveI := N3.lo iQ hSw (by omega); go_simp; (try with_reducible rfl)
        refine tkj 6 92 ?_ [11, 13, 14, 15] (hy := ?_) (hS := (by exact BL.out)) (h := ?_)
        rotate_left
        · intro w hSw; haveI := N3.lo iC2 hSw (by omega); haveI := N3.lo iQ hSw (by omega); go_simp; (try with_reducible rfl)
        refine tkj 7 93 ?_ [9, 10, 11, 13, 14, 15] (hy := ?_) (hS := (by exact BL.out)) (h := ?_)
        rotate_left
        · intro w hSw; haveI := N3.lo iC2 hSw (by omega); haveI := N3.lo iQ hSw (by omega); go_simp; (try with_reducible rfl)
        refine tkj 8 94 ?_ [9, 10, 11, 13, 14, 15] (hy := ?_) (hS := (by exact BL.out)) (h := ?_)
        rotate_left
        · intro w hSw; haveI := N3.lo iC2 hSw (by omega); haveI := N3.lo iQ hSw (by omega); go_simp; (try with_reducible rfl)
        refine stj 2 (h := fun K hK => ?_)
        go_simp
        refine hK.out _ _ (Or.inr (by exact BL.out)) ?_
        clear hK K
        try simp only [List.setIfInBounds_toArray, List.set_cons_zero, List.set_cons_succ]
        refine stj 3 (h := fun K hK => ?_)
        go_simp
        refine hK.out _ _ (Or.inr (by exact BL.out)) ?_
        clear hK K
        try simp only [List.setIfInBounds_toArray, List.set_cons_zero, List.set_cons_succ]
        refine stj 4 (h := fun K hK => ?_)
        refine step_app_dyad (by rfl) _ _ (by rfl) wb.heap.size (.slice ea j ec) j (dcells (lcell E2) j) (by rfl) _ false (decide (dman (fof y) < 0)) (.slice a3 (nl (dman (fof y)).natAbs) c3) (dexp (fof y)) (by rfl) (by rfl) (by exact @Ck.oE _ wb.heap.size (.slice ea j ec) j (.slice fa j fc) j E2 X2 inferInstance) (by go_simp) (by go_simp) (by go_simp) (by go_simp) (by omega) (by exact BG.out) ?_
        intro g4 cap4 w4 hown4 hg4 hob4
        obtain ⟨iB4, iP4, iC4, iQ4, C4, f4, G4, L4⟩ := Ck.stepE (vE := .slice ea j ec) (vV := .slice fa j fc) (q := j) (L := E2) (X := X2) (b0 := w.heap.size) (b1 := w.heap.size + 1) (b2 := w.heap.size + 1 + 1) (b3 := w.heap.size + 1 + 1 + 1) (w0 := w) (wr := wr) inferInstance (elD false (fof y) a3 c3) (by unfold elD; exact inferInstance) (by omega) (by omega) (by omega) (by omega) (by omega) hown4 hg4 hob4 hf hne (elD_ok HND.out _ _ _)
        have C4' : Ck w4 (w.heap.size + 4) vE k vV k E X := Ck.kept2 (by exact inferInstance) HCb.out hg4 fun g e => (iD.oE.lt g e).1
        clear hown4 hg4 hob4
        refine hK.out _ _ (Or.inr (by exact BL.out)) ?_
        clear hK K
        try simp only [Act.put, List.setIfInBounds_toArray, List.set_cons_zero, List.set_cons_succ]
        refine tkj 12 98 ?_ [13, 14, 15] (hy := ?_) (hS := (by exact BL.out)) (h := ?_)
        rotate_left
        · intro w hSw; haveI := N3.lo iC2 hSw (by omega); haveI := N3.lo iQ hSw (by omega); go_simp; (try with_reducible rfl)
        refine stj 9 (h := fun K hK => ?_)
        go_simp
        go_at_call 26; refine (HW _ (j : Int) (by omega) (by omega)).out.mono ?_; rintro o w5 ⟨x5, hx5, rfl, b5⟩
        go_simp
        refine hK.out _ _ (Or.inr (by exact BL.out)) ?_
        clear hK K
        try simp only [List.setIfInBounds_toArray, List.set_cons_zero, List.set_cons_succ]
        refine stj 10 (h := fun K hK => ?_)
        go_simp
        refine hK.out _ _ (Or.inr (by exact BL.out)) ?_
        clear hK K
        try simp only [List.setIfInBounds_toArray, List.set_cons_zero, List.set_cons_succ]
        refine stj 11 (h := fun K hK => ?_)
        refine step_app_float (by rfl) _ _ (by rfl) wb.heap.size (.slice fa j fc) j (flist X2 j) (by rfl) _ (x5 : Int) (by rfl) (by exact @Ck.oV _ wb.heap.size (.slice (some ⟨g4, 0, none⟩) (j + 1) cap4) (j + 1) (.slice fa j fc) j _ X2 inferInstance) (by first | (go_simp; done) | exact KC.out _ _ _ (by go_simp) (by first | exact Nat.le_refl _ | exact @Beh.size wr _ inferInstance | exact Nat.le_succ_of_le (@Beh.size wr _ inferInstance))) (by omega) (by exact BG.out) ?_
        intro g6 cap6 w6 hown6 hg6 hob6
        obtain ⟨iB6, iP6, iC6, iQ6, C6, f6, G6, L6⟩ := Ck.stepV (vE := .slice (some ⟨g4, 0, none⟩) (j + 1) cap4) (k := j + 1) (vV := .slice fa j fc) (X := X2) (b0 := w.heap.size) (b1 := w.heap.size + 1) (b2 := w.heap.size + 1 + 1) (b3 := w.heap.size + 1 + 1 + 1) (w0 := w) (wr := wr) inferInstance (by omega) (by omega) (by omega) (by omega) (by omega) hown6 hg6 hob6
        have C6' : Ck w6 (w.heap.size + 4) vE k vV k E X := Ck.kept2 (by exact inferInstance) HCb.out hg6 fun g e => (iD.oV.lt g e).1
        clear hown6 hg6 hob6
        refine hK.out _ _ (Or.inr (by exact BL.out)) ?_
        clear hK K
        try simp only [Act.put, List.setIfInBounds_toArray, List.set_cons_zero, List.set_cons_succ]
        refine stj 13 (h := fun K hK => ?_)
        go_simp
        refine hK.out _ _ (Or.inl (by decide)) ?_
        clear hK K
        try simp only [List.setIfInBounds_toArray, List.set_cons_zero, List.set_cons_succ]
        refine stj 14 (h := fun K hK => ?_)
        go_simp
        refine hK.out _ _ (Or.inl (by decide)) ?_
        clear hK K
        try simp only [List.setIfInBounds_toArray, List.set_cons_zero, List.set_cons_succ]
        refine stj 15 (h := fun K hK => ?_)
        go_simp
        refine hK.out _ _ (Or.inl (by decide)) ?_
        clear hK K
        try simp only [List.setIfInBounds_toArray, List.set_cons_zero, List.set_cons_succ]
        refine enj (by kernel_rfl) ?_ _
        have C9 := (C6'.sen (show w.heap.size + 1 + 1 < (w.heap.size + 4) by omega) 2 (.slice (some ⟨g4, 0, none⟩) (j + 1) cap4)).sen (show w.heap.size + 1 + 1 + 1 < (w.heap.size + 4) by omega) 2 (.slice (some ⟨g6, 0, none⟩) (j + 1) cap6)
        have D9 := (C6.sen (show w.heap.size + 1 + 1 < wb.heap.size by omega) 2 (.slice (some ⟨g4, 0, none⟩) (j + 1) cap4)).sen (show w.heap.size + 1 + 1 + 1 < wb.heap.size by omega) 2 (.slice (some ⟨g6, 0, none⟩) (j + 1) cap6)
        have E1 := N3.sen (N3.sen iB6 (show w.heap.size ≠ w.heap.size + 1 + 1 by omega) 2 (.slice (some ⟨g4, 0, none⟩) (j + 1) cap4)) (show w.heap.size ≠ w.heap.size + 1 + 1 + 1 by omega) 2 (.slice (some ⟨g6, 0, none⟩) (j + 1) cap6)
        have E2 := N3.sen (N3.sen iP6 (show w.heap.size + 1 ≠ w.heap.size + 1 + 1 by omega) 2 (.slice (some ⟨g4, 0, none⟩) (j + 1) cap4)) (show w.heap.size + 1 ≠ w.heap.size + 1 + 1 + 1 by omega) 2 (.slice (some ⟨g6, 0, none⟩) (j + 1) cap6)
        have E3 := N3.sen (N3.se2 iC6 (.slice (some ⟨g4, 0, none⟩) (j + 1) cap4)) (show w.heap.size + 1 + 1 ≠ w.heap.size + 1 + 1 + 1 by omega) 2 (.slice (some ⟨g6, 0, none⟩) (j + 1) cap6)
        have E4 := N3.se2 (N3.sen iQ6 (show w.heap.size + 1 + 1 + 1 ≠ w.heap.size + 1 + 1 by omega) 2 (.slice (some ⟨g4, 0, none⟩) (j + 1) cap4)) (.slice (some ⟨g6, 0, none⟩) (j + 1) cap6)
        have B9 : Below w.heap.size w ((w6.setCell ⟨w.heap.size + 1 + 1, 2, none⟩ (.slice (some ⟨g4, 0, none⟩) (j + 1) cap4)).setCell ⟨w.heap.size + 1 + 1 + 1, 2, none⟩ (.slice (some ⟨g6, 0, none⟩) (j + 1) cap6)) := (f6.out.setCell (by show _ ≤ w.heap.size + 1 + 1; omega) _).setCell (by show _ ≤ w.heap.size + 1 + 1 + 1; omega) _
        have S9 : wb.heap.size ≤ ((w6.setCell ⟨w.heap.size + 1 + 1, 2, none⟩ (.slice (some ⟨g4, 0, none⟩) (j + 1) cap4)).setCell ⟨w.heap.size + 1 + 1 + 1, 2, none⟩ (.slice (some ⟨g6, 0, none⟩) (j + 1) cap6)).heap.size := by rw [World.size_setCell, World.size_setCell]; exact G6.out
        have HX9 := Lib.hid (up_lt HX2.out hx5 (k := j))
        generalize ((w6.setCell ⟨w.heap.size + 1 + 1, 2, none⟩ (.slice (some ⟨g4, 0, none⟩) (j + 1) cap4)).setCell ⟨w.heap.size + 1 + 1 + 1, 2, none⟩ (.slice (some ⟨g6, 0, none⟩) (j + 1) cap6)) = w9 at *
        clear C6 C6' iB6 iP6 iC6 iQ6 f6 G6 L6
        go_wp2_with fail
        go_roundw
        case rel => exact ⟨j + 1, _, _, _, _, by omega, by go_num, HX9.out, C9, D9, E1, E2, E3, E4, B9, S9⟩
        case measure => simp [intOf]; omega
       | true =>
        go_wp2_with fail
        refine (HW _ (j : Int) (by omega) (by omega)).out.mono ?_; rintro o w1 ⟨x, hx, rfl, b1⟩; go_wp2_with fail
        refine (HN2 _ x hx).out.mono ?_; rintro o w2 ⟨y, ⟨hy1, hy2, _⟩, rfl, b2⟩; go_wp2_with fail
        refine (HO _ y hy1).out.mono ?_; rintro o w3 ⟨a3, c3, rfl, i3, b3, f3⟩; go_wp2_with fail
        refine (HMA _).out.mono ?_; rintro o z ⟨rfl, rfl⟩; go_wp2_with fail
        obtain ⟨vb, hvb⟩ : ∃ vb : Bool, vb = ((j : Int) == (m : Int)) := ⟨_, rfl⟩
        rw [← hvb]
        clear hvb
        have hfw : 0 < nl (dman (fof y)).natAbs → wr.heap.size ≤ ab a3 := fun h => Nat.le_trans (@Beh.size wr _ inferInstance) (f3 h)
        have hf : 0 < nl (dman (fof y)).natAbs → wb.heap.size ≤ ab a3 := fun h => Nat.le_trans hsz (hfw h)
        have hne : 0 < nl (dman (fof y)).natAbs → some (ab a3) ≠ (Value.slice ea j ec).ownBlock ∧ some (ab a3) ≠ (Value.slice fa j fc).ownBlock := fun h => ⟨fun e => Nat.not_lt_of_le (hfw h) (iD.oE.lt _ e.symm).2, fun e => Nat.not_lt_of_le (hfw h) (iD.oV.lt _ e.symm).2⟩
        have HND := Lib.hid (isN_fof y)
        clear hfw f3
        refine bgj (fun w' => Below wb.heap.size wr w') [13, 14, 15] (by kernel_rfl) ((by exact BL.out)) (fun hHeld => ?_)
        simp only [List.size_toArray, List.length_cons, List.length_nil, Nat.reduceAdd, Array.replicate_succ, Array.replicate_zero, List.push_toArray, List.nil_append, List.cons_append]
        refine tkj 0 86 ?_ [1, 4, 9, 10, 11, 12, 13, 14, 15] (hy := ?_) (hS := (by exact BL.out)) (h := ?_)
        rotate_left
        · intro w hSw; haveI := N3.lo iC2 hSw (by omega); haveI := N3.lo iQ hSw (by omega); go_simp; (try with_reducible rfl)
        refine tkj 1 87 ?_ [4, 9, 10, 11, 12, 13, 14, 15] (hy := ?_) (hS := (by exact BL.out)) (h := ?_)
        rotate_left
        · intro w hSw; haveI := N3.lo iC2 hSw (by omega); haveI := N3.lo iQ hSw (by omega); go_simp; (try with_reducible rfl)
        refine tkj 5 91 ?_ [6, 11, 13, 14, 15] (hy := ?_) (hS := (by exact BL.out)) (h := ?_)
        rotate_left
        · intro w hSw; haveI := N3.lo iC2 hSw (by omega); haveI := N3.lo iQ hSw (by omega); go_simp; (try with_reducible rfl)
        refine tkj 6 92 ?_ [11, 13, 14, 15] (hy := ?_) (hS := (by exact BL.out)) (h := ?_)
        rotate_left
        · intro w hSw; haveI := N3.lo iC2 hSw (by omega); haveI := N3.lo iQ hSw (by omega); go_simp; (try with_reducible rfl)
        refine tkj 7 93 ?_ [9, 10, 11, 13, 14, 15] (hy := ?_) (hS := (by exact BL.out)) (h := ?_)
        rotate_left
        · intro w hSw; haveI := N3.lo iC2 hSw (by omega); haveI := N3.lo iQ hSw (by omega); go_simp; (try with_reducible rfl)
        refine tkj 8 94 ?_ [9, 10, 11, 13, 14, 15] (hy := ?_) (hS := (by exact BL.out)) (h := ?_)
        rotate_left
        · intro w hSw; haveI := N3.lo iC2 hSw (by omega); haveI := N3.lo iQ hSw (by omega); go_simp; (try with_reducible rfl)
        refine stj 2 (h := fun K hK => ?_)
        go_simp
        refine hK.out _ _ (Or.inr (by exact BL.out)) ?_
        clear hK K
        try simp only [List.setIfInBounds_toArray, List.set_cons_zero, List.set_cons_succ]
        refine stj 3 (h := fun K hK => ?_)
        go_simp
        refine hK.out _ _ (Or.inr (by exact BL.out)) ?_
        clear hK K
        try simp only [List.setIfInBounds_toArray, List.set_cons_zero, List.set_cons_succ]
        refine stj 4 (h := fun K hK => ?_)
        refine step_app_dyad (by rfl) _ _ (by rfl) wb.heap.size (.slice ea j ec) j (dcells (lcell E2) j) (by rfl) _ vb (decide (dman (fof y) < 0)) (.slice a3 (nl (dman (fof y)).natAbs) c3) (dexp (fof y)) (by rfl) (by rfl) (by exact @Ck.oE _ wb.heap.size (.slice ea j ec) j (.slice fa j fc) j E2 X2 inferInstance) (by go_simp) (by go_simp) (by go_simp) (by go_simp) (by omega) (by exact BG.out) ?_
        intro g4 cap4 w4 hown4 hg4 hob4
        obtain ⟨iB4, iP4, iC4, iQ4, C4, f4, G4, L4⟩ := Ck.stepE (vE := .slice ea j ec) (vV := .slice fa j fc) (q := j) (L := E2) (X := X2) (b0 := w.heap.size) (b1 := w.heap.size + 1) (b2 := w.heap.size + 1 + 1) (b3 := w.heap.size + 1 + 1 + 1) (w0 := w) (wr := wr) inferInstance (elD vb (fof y) a3 c3) (by unfold elD; exact inferInstance) (by omega) (by omega) (by omega) (by omega) (by omega) hown4 hg4 hob4 hf hne (elD_ok HND.out _ _ _)
        have C4' : Ck w4 (w.heap.size + 4) vE k vV k E X := Ck.kept2 (by exact inferInstance) HCb.out hg4 fun g e => (iD.oE.lt g e).1
        clear hown4 hg4 hob4
        refine hK.out _ _ (Or.inr (by exact BL.out)) ?_
        clear hK K
        try simp only [Act.put, List.setIfInBounds_toArray, List.set_cons_zero, List.set_cons_succ]
        refine tkj 12 98 ?_ [13, 14, 15] (hy := ?_) (hS := (by exact BL.out)) (h := ?_)
        rotate_left
        · intro w hSw; haveI := N3.lo iC2 hSw (by omega); haveI := N3.lo iQ hSw (by omega); go_simp; (try with_reducible rfl)
        refine stj 9 (h := fun K hK => ?_)
        go_simp
        go_at_call 26; refine (HW _ (j : Int) (by omega) (by omega)).out.mono ?_; rintro o w5 ⟨x5, hx5, rfl, b5⟩
        go_simp
        refine hK.out _ _ (Or.inr (by exact BL.out)) ?_
        clear hK K
        try simp only [List.setIfInBounds_toArray, List.set_cons_zero, List.set_cons_succ]
        refine stj 10 (h := fun K hK => ?_)
        go_simp
        refine hK.out _ _ (Or.inr (by exact BL.out)) ?_
        clear hK K
        try simp only [List.setIfInBounds_toArray, List.set_cons_zero, List.set_cons_succ]
        refine stj 11 (h := fun K hK => ?_)
        refine step_app_float (by rfl) _ _ (by rfl) wb.heap.size (.slice fa j fc) j (flist X2 j) (by rfl) _ (x5 : Int) (by rfl) (by exact @Ck.oV _ wb.heap.size (.slice (some ⟨g4, 0, none⟩) (j + 1) cap4) (j + 1) (.slice fa j fc) j _ X2 inferInstance) (by first | (go_simp; done) | exact KC.out _ _ _ (by go_simp) (by first | exact Nat.le_refl _ | exact @Beh.size wr _ inferInstance | exact Nat.le_succ_of_le (@Beh.size wr _ inferInstance))) (by omega) (by exact BG.out) ?_
        intro g6 cap6 w6 hown6 hg6 hob6
        obtain ⟨iB6, iP6, iC6, iQ6, C6, f6, G6, L6⟩ := Ck.stepV (vE := .slice (some ⟨g4, 0, none⟩) (j + 1) cap4) (k := j + 1) (vV := .slice fa j fc) (X := X2) (b0 := w.heap.size) (b1 := w.heap.size + 1) (b2 := w.heap.size + 1 + 1) (b3 := w.heap.size + 1 + 1 + 1) (w0 := w) (wr := wr) inferInstance (by omega) (by omega) (by omega) (by omega) (by omega) hown6 hg6 hob6
        have C6' : Ck w6 (w.heap.size + 4) vE k vV k E X := Ck.kept2 (by exact inferInstance) HCb.out hg6 fun g e => (iD.oV.lt g e).1
        clear hown6 hg6 hob6
        refine hK.out _ _ (Or.inr (by exact BL.out)) ?_
        clear hK K
        try simp only [Act.put, List.setIfInBounds_toArray, List.set_cons_zero, List.set_cons_succ]
        refine stj 13 (h := fun K hK => ?_)
        go_simp
        refine hK.out _ _ (Or.inl (by decide)) ?_
        clear hK K
        try simp only [List.setIfInBounds_toArray, List.set_cons_zero, List.set_cons_succ]
        refine stj 14 (h := fun K hK => ?_)
        go_simp
        refine hK.out _ _ (Or.inl (by decide)) ?_
        clear hK K
        try simp only [List.setIfInBounds_toArray, List.set_cons_zero, List.set_cons_succ]
        refine stj 15 (h := fun K hK => ?_)
        go_simp
        refine hK.out _ _ (Or.inl (by decide)) ?_
        clear hK K
        try simp only [List.setIfInBounds_toArray, List.set_cons_zero, List.set_cons_succ]
        refine enj (by kernel_rfl) ?_ _
        have C9 := (C6'.sen (show w.heap.size + 1 + 1 < (w.heap.size + 4) by omega) 2 (.slice (some ⟨g4, 0, none⟩) (j + 1) cap4)).sen (show w.heap.size + 1 + 1 + 1 < (w.heap.size + 4) by omega) 2 (.slice (some ⟨g6, 0, none⟩) (j + 1) cap6)
        have D9 := (C6.sen (show w.heap.size + 1 + 1 < wb.heap.size by omega) 2 (.slice (some ⟨g4, 0, none⟩) (j + 1) cap4)).sen (show w.heap.size + 1 + 1 + 1 < wb.heap.size by omega) 2 (.slice (some ⟨g6, 0, none⟩) (j + 1) cap6)
        have E1 := N3.sen (N3.sen iB6 (show w.heap.size ≠ w.heap.size + 1 + 1 by omega) 2 (.slice (some ⟨g4, 0, none⟩) (j + 1) cap4)) (show w.heap.size ≠ w.heap.size + 1 + 1 + 1 by omega) 2 (.slice (some ⟨g6, 0, none⟩) (j + 1) cap6)
        have E2 := N3.sen (N3.sen iP6 (show w.heap.size + 1 ≠ w.heap.size + 1 + 1 by omega) 2 (.slice (some ⟨g4, 0, none⟩) (j + 1) cap4)) (show w.heap.size + 1 ≠ w.heap.size + 1 + 1 + 1 by omega) 2 (.slice (some ⟨g6, 0, none⟩) (j + 1) cap6)
        have E3 := N3.sen (N3.se2 iC6 (.slice (some ⟨g4, 0, none⟩) (j + 1) cap4)) (show w.heap.size + 1 + 1 ≠ w.heap.size + 1 + 1 + 1 by omega) 2 (.slice (some ⟨g6, 0, none⟩) (j + 1) cap6)
        have E4 := N3.se2 (N3.sen iQ6 (show w.heap.size + 1 + 1 + 1 ≠ w.heap.size + 1 + 1 by omega) 2 (.slice (some ⟨g4, 0, none⟩) (j + 1) cap4)) (.slice (some ⟨g6, 0, none⟩) (j + 1) cap6)
        have B9 : Below w.heap.size w ((w6.setCell ⟨w.heap.size + 1 + 1, 2, none⟩ (.slice (some ⟨g4, 0, none⟩) (j + 1) cap4)).setCell ⟨w.heap.size + 1 + 1 + 1, 2, none⟩ (.slice (some ⟨g6, 0, none⟩) (j + 1) cap6)) := (f6.out.setCell (by show _ ≤ w.heap.size + 1 + 1; omega) _).setCell (by show _ ≤ w.heap.size + 1 + 1 + 1; omega) _
        have S9 : wb.heap.size ≤ ((w6.setCell ⟨w.heap.size + 1 + 1, 2, none⟩ (.slice (some ⟨g4, 0, none⟩) (j + 1) cap4)).setCell ⟨w.heap.size + 1 + 1 + 1, 2, none⟩ (.slice (some ⟨g6, 0, none⟩) (j + 1) cap6)).heap.size := by rw [World.size_setCell, World.size_setCell]; exact G6.out
        have HX9 := Lib.hid (up_lt HX2.out hx5 (k := j))
        generalize ((w6.setCell ⟨w.heap.size + 1 + 1, 2, none⟩ (.slice (some ⟨g4, 0, none⟩) (j + 1) cap4)).setCell ⟨w.heap.size + 1 + 1 + 1, 2, none⟩ (.slice (some ⟨g6, 0, none⟩) (j + 1) cap6)) = w9 at *
        clear C6 C6' iB6 iP6 iC6 iQ6 f6 G6 L6
        go_wp2_with fail
        go_roundw
        case rel => exact ⟨j + 1, _, _, _, _, by omega, by go_num, HX9.out, C9, D9, E1, E2, E3, E4, B9, S9⟩
        case measure => simp [intOf]; omega
     · have hjN : j = N := by omega
       subst hjN
       clear HCb HG HPQ
       obtain ⟨oa, oc, ua, uc, hv1, hv2, hD, hF, hB⟩ := iC.lists (fun i _ => HX.out i)
       obtain ⟨oa2, oc2, ua2, uc2, hv3, hv4, hD2, hF2, hB2⟩ := iD.lists (fun i _ => HX2.out i)
       subst hv1 hv2 hv3 hv4
       haveI d1 : DY wr oa k oc E := ⟨hD⟩
       haveI d2 : DY wr oa2 j oc2 E2 := ⟨hD2⟩
       haveI d3 : FZ wr ua k uc X := ⟨hF⟩
       haveI d4 : FZ wr ua2 j uc2 X2 := ⟨hF2⟩
       have HC1 := fun W [i : DY W oa k oc E] [Tb W] => Lib.hid (frm (dcheck_any W tb r c oa k oc E i.out hB))
       have HC2 := fun W [i : DY W oa k oc E] [Tb W] => Lib.hid (frm (rcheck_any W tb r c oa k oc E i.out hB))
       have HC3 := fun W [i : FZ W ua k uc X] => Lib.hid (frm (dcheckp_any W r c ua k uc X i.out))
       have HC4 := fun W [i : FZ W ua k uc X] => Lib.hid (frm (rcheckp_any W r c ua k uc X i.out))
       have HC5 := fun W [i : DY W oa2 j oc2 E2] [Tb W] => Lib.hid (frm (dcheck_any W tb (p : Int) (q : Int) oa2 j oc2 E2 i.out hB2))
       have HC6 := fun W [i : DY W oa2 j oc2 E2] [Tb W] => Lib.hid (frm (rcheck_any W tb (p : Int) (q : Int) oa2 j oc2 E2 i.out hB2))
       have HC7 := fun W [i : FZ W ua2 j uc2 X2] => Lib.hid (frm (dcheckp_any W (p : Int) (q : Int) ua2 j uc2 X2 i.out))
       have HC8 := fun W [i : FZ W ua2 j uc2 X2] => Lib.hid (frm (rcheckp_any W (p : Int) (q : Int) ua2 j uc2 X2 i.out))
       generalize chkE r c k (anyBad (fun i => (E i).d) k) = e1 at *
       generalize chkE r c k (!allfin X k) = e2 at *
       generalize chkE (p : Int) (q : Int) j (anyBad (fun i => (E2 i).d) j) = e3 at *
       generalize chkE (p : Int) (q : Int) j (!allfin X2 j) = e4 at *
       have t1 : (e1 == e1) = true := by simp
       have t2 : (e2 == e2) = true := by simp
       have t3 : (e3 == e3) = true := by simp
       have t4 : (e4 == e4) = true := by simp
       clear hD hF hB hD2 hF2 hB2 iC iD HW HN1 HN2 HO HMR HMC HMA
       go_wp2_with fail
       first
       | go_region_held3 (fun w' => w'.cell? ⟨w.heap.size, 0, none⟩ = some (.int .i64 r) ∧ w'.cell? ⟨w.heap.size, 1, none⟩ = some (.int .i64 c) ∧ w'.cell? ⟨w.heap.size, 2, none⟩ = some (.slice oa k oc) ∧ w'.cell? ⟨w.heap.size + 1, 0, none⟩ = some (.int .i64 r) ∧ w'.cell? ⟨w.heap.size + 1, 1, none⟩ = some (.int .i64 c) ∧ w'.cell? ⟨w.heap.size + 1, 2, none⟩ = some (.slice ua k uc) ∧ w'.cell? ⟨w.heap.size + 1 + 1, 0, none⟩ = some (.int .i64 p) ∧ w'.cell? ⟨w.heap.size + 1 + 1, 1, none⟩ = some (.int .i64 q) ∧ w'.cell? ⟨w.heap.size + 1 + 1, 2, none⟩ = some (.slice oa2 j oc2) ∧ w'.cell? ⟨w.heap.size + 1 + 1 + 1, 0, none⟩ = some (.int .i64 p) ∧ w'.cell? ⟨w.heap.size + 1 + 1 + 1, 1, none⟩ = some (.int .i64 q) ∧ w'.cell? ⟨w.heap.size + 1 + 1 + 1, 2, none⟩ = some (.slice ua2 j uc2)) (first | (go_simp; done))
        (first
         | (go_at_call 27; refine (HC1 _).out.mono ?_; rintro o y1 ⟨rfl, n1⟩)
         | (go_at_call 28; refine (HC2 _).out.mono ?_; rintro o y2 ⟨rfl, n2⟩)
         | (go_at_call 29; refine (HC3 _).out.mono ?_; rintro o y3 ⟨rfl, n3⟩)
         | (go_at_call 30; refine (HC4 _).out.mono ?_; rintro o y4 ⟨rfl, n4⟩)
         | (go_at_call 27; refine (HC5 _).out.mono ?_; rintro o y5 ⟨rfl, n5⟩)
         | (go_at_call 28; refine (HC6 _).out.mono ?_; rintro o y6 ⟨rfl, n6⟩)
         | (go_at_call 29; refine (HC7 _).out.mono ?_; rintro o y7 ⟨rfl, n7⟩)
         | (go_at_call 30; refine (HC8 _).out.mono ?_; rintro o y8 ⟨rfl, n8⟩)
         | (go_at_call 17; refine (HAW _).out.mono ?_; rintro o y9 ⟨rfl, n9⟩)
         | fail)
       | fail "region"
       all_goals (
        go_wp2_with fail
        go_ret
        exact ⟨rfl, zbh⟩)
theorem dchecks_all (w : World) (hT : Tab w) (r c : Int) (a : Option Addr) (n cap : Nat) (L : Nat → Nat) (hL : Fls w a n cap L) (bd : Bool) (at1 : Int) :
 Calls Tryz.prog 7 #[.int .i64 r, .int .i64 c, .slice a n cap, .bool bd, .int .i64 at1] w fun o w' => o = .returned (.bool true) ∧ Below w.heap.size w w' := by
 haveI : Tb w := ⟨hT⟩
 haveI : FZ w a n cap L := ⟨hL⟩
 by_cases h : n ≤ 60
 · exact dchecks_any w r c a n cap L bd at1 h
 · exact dchecks_no w r c a n cap L bd at1 (by omega)
end Go.Proofs.YtablcbgeeeboeaaGreatDoor
