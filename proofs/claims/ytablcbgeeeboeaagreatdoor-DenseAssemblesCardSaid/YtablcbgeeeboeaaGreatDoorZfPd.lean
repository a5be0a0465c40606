/-
  Walks: packages dense and sparseref23: the checks of blocks and panels.
-/
import Derived.Test.YtablcbgeeeboeaaGreatDoorZfPb
import Derived.Test.YtablcbgeeeboeaaGreatDoorZfBe
import Derived.Test.YtablcbgeeeboeaaGreatDoorZfRm
import Derived.Test.YtablcbgeeeboeaaGreatDoorZfS3
import Derived.Test.YtablcbgeeeboeaaGreatDoorZfRva
set_option maxRecDepth 100000
set_option maxHeartbeats 20000000
namespace Go.Proofs.YtablcbgeeeboeaaGreatDoor
open Go.RowKit Sp
def szE (r c : Int) (n : Nat) : Int := if r < 0 ∨ c < 0 then 5 else if 64 < r ∨ 64 < c then 6 else if (n : Int) = r * c then 0 else 2
theorem sz_mul {r c : Int} (h0 : ¬ r < 0) (h1 : ¬ c < 0) (h2 : ¬ 64 < r) (h3 : ¬ 64 < c) : 0 ≤ r * c ∧ r * c ≤ 4096 :=
 ⟨Int.mul_nonneg (by omega) (by omega), by have := Int.mul_le_mul (show r ≤ 64 by omega) (show c ≤ 64 by omega) (by omega) (by omega); omega⟩
def chkE (r c : Int) (n : Nat) (bad : Bool) : Int := if szE r c n = 0 then (if bad then 4 else 0) else szE r c n
theorem Dys.ce {w : World} {a : Option Addr} {n cap : Nat} {L : Nat → El} (h : Dys w a n cap L) {i : Nat} (hi : i < n) :
 CE w (ab a) (ao a + i * 4) (.bool (L i).bd) ∧ CE w (ab a) (ao a + i * 4 + 1) (.bool (L i).s) ∧ CE w (ab a) (ao a + i * 4 + 2) (.slice (L i).a (L i).n (L i).p) ∧ CE w (ab a) (ao a + i * 4 + 3) (.int .i64 (L i).e) := by
 have hl := h.old (by omega)
 exact ⟨⟨h.c0 i hi, hl⟩, ⟨h.c1 i hi, hl⟩, ⟨h.c2 i hi, hl⟩, ⟨h.c3 i hi, hl⟩⟩
def ElB (L : Nat → El) (n : Nat) : Prop := ∀ i, i < n → (L i).n ≤ 549755813888 ∧ blen (L i).x ≤ 1048576
theorem anyBad_step {d : Nat → Option (Int × Int)} {n k : Nat} (hk : k < n) (h : dbad (d k) = true) : anyBad d n = true := (anyBad_iff d n).2 ⟨k, hk, h⟩
attribute [local irreducible] Calls
theorem dsizes_any (w : World) (r c : Int) (n : Nat) :
 Calls Tryz.prog 66 #[.int .i64 r, .int .i64 c, .int .i64 n] w fun o w' => o = .returned (.int .i64 (szE r c n)) ∧ w = w' := by
 obtain ⟨E, hE⟩ : ∃ E, E = szE r c n := ⟨_, rfl⟩
 rw [← hE]
 unfold szE at hE
 by_cases h1 : r < 0
 · rw [if_pos (Or.inl h1)] at hE; subst hE
   go_enter Tryz.func66, Tryz.ntmps66
   go_wp2_with fail
   go_ret
   exact ⟨rfl, rfl⟩
 by_cases h2 : c < 0
 · rw [if_pos (Or.inr h2)] at hE; subst hE
   go_enter Tryz.func66, Tryz.ntmps66
   go_wp2_with fail
   go_ret
   exact ⟨rfl, rfl⟩
 rw [if_neg (by omega)] at hE
 by_cases h3 : 64 < r
 · rw [if_pos (Or.inl h3)] at hE; subst hE
   go_enter Tryz.func66, Tryz.ntmps66
   go_wp2_with fail
   go_ret
   exact ⟨rfl, rfl⟩
 by_cases h4 : 64 < c
 · rw [if_pos (Or.inr h4)] at hE; subst hE
   go_enter Tryz.func66, Tryz.ntmps66
   go_wp2_with fail
   go_ret
   exact ⟨rfl, rfl⟩
 rw [if_neg (by omega)] at hE
 obtain ⟨m0, m1⟩ := sz_mul h1 h2 h3 h4
 obtain ⟨p, hp⟩ : ∃ p, p = r * c := ⟨_, rfl⟩
 rw [← hp] at hE m0 m1
 have hw : wrap64 (r * c) = p := by rw [← hp]; unfold wrap64; omega
 clear hp
 by_cases h5 : (n : Int) = p
 · rw [if_pos h5] at hE; subst hE
   have hq : ((n : Int) != p) = false := by rw [h5]; simp
   go_enter Tryz.func66, Tryz.ntmps66
   go_wp2_with fail
   go_ret
   exact ⟨rfl, rfl⟩
 · rw [if_neg h5] at hE; subst hE
   have hq : ((n : Int) != p) = true := by rw [bne_iff_ne]; exact h5
   go_enter Tryz.func66, Tryz.ntmps66
   go_wp2_with fail
   go_ret
   exact ⟨rfl, rfl⟩
theorem rshape_any (w : World) (r c : Int) (n : Nat) :
 Calls Tryz.prog 68 #[.int .i64 r, .int .i64 c, .int .i64 n] w fun o w' => o = .returned (.int .i64 (szE r c n)) ∧ w = w' := by
 obtain ⟨E, hE⟩ : ∃ E, E = szE r c n := ⟨_, rfl⟩
 rw [← hE]
 unfold szE at hE
 by_cases h1 : r < 0
 · rw [if_pos (Or.inl h1)] at hE; subst hE
   go_enter Tryz.func68, Tryz.ntmps68
   go_wp2_with fail
   go_ret
   exact ⟨rfl, rfl⟩
 by_cases h2 : c < 0
 · rw [if_pos (Or.inr h2)] at hE; subst hE
   go_enter Tryz.func68, Tryz.ntmps68
   go_wp2_with fail
   go_ret
   exact ⟨rfl, rfl⟩
 rw [if_neg (by omega)] at hE
 by_cases h3 : 64 < r
 · rw [if_pos (Or.inl h3)] at hE; subst hE
   go_enter Tryz.func68, Tryz.ntmps68
   go_wp2_with fail
   go_ret
   exact ⟨rfl, rfl⟩
 by_cases h4 : 64 < c
 · rw [if_pos (Or.inr h4)] at hE; subst hE
   go_enter Tryz.func68, Tryz.ntmps68
   go_wp2_with fail
   go_ret
   exact ⟨rfl, rfl⟩
 rw [if_neg (by omega)] at hE
 obtain ⟨m0, m1⟩ := sz_mul h1 h2 h3 h4
 obtain ⟨p, hp⟩ : ∃ p, p = r * c := ⟨_, rfl⟩
 rw [← hp] at hE m0 m1
 have hw : wrap64 (r * c) = p := by rw [← hp]; unfold wrap64; omega
 clear hp
 by_cases h5 : (n : Int) = p
 · rw [if_pos h5] at hE; subst hE
   have hq : ((n : Int) != p) = false := by rw [h5]; simp
   go_enter Tryz.func68, Tryz.ntmps68
   go_wp2_with fail
   go_ret
   exact ⟨rfl, rfl⟩
 · rw [if_neg h5] at hE; subst hE
   have hq : ((n : Int) != p) = true := by rw [bne_iff_ne]; exact h5
   go_enter Tryz.func68, Tryz.ntmps68
   go_wp2_with fail
   go_ret
   exact ⟨rfl, rfl⟩
theorem dcheck_any_sz (w : World) (r c : Int) (a : Option Addr) (n cap : Nat) (L : Nat → El) (hL : Dys w a n cap L) (hE : szE r c n ≠ 0) :
 Calls Tryz.prog 27 #[.agg #[.int .i64 r, .int .i64 c, .slice a n cap]] w fun o w' => o = .returned (.int .i64 (szE r c n)) ∧ Below w.heap.size w w' := by
 have l1 := hL.lim
 have l2 := hL.fits
 have HS := fun W => Lib.hid (frw (dsizes_any W r c n))
 generalize szE r c n = E at *
 clear hL
 go_enter Tryz.func27, Tryz.ntmps27
 go_wp2_with fail
 refine (HS _).out.mono ?_; rintro o w2 ⟨rfl, b2⟩
 go_wp2_with fail
 go_ret
 exact ⟨rfl, zbh⟩
theorem dcheck_any (w : World) (hT : Tab w) (r c : Int) (a : Option Addr) (n cap : Nat) (L : Nat → El) (hL : Dys w a n cap L) (hB : ElB L n) :
 Calls Tryz.prog 27 #[.agg #[.int .i64 r, .int .i64 c, .slice a n cap]] w fun o w' => o = .returned (.int .i64 (chkE r c n (anyBad (fun i => (L i).d) n))) ∧ Below w.heap.size w w' := by
 by_cases hE : szE r c n = 0
 · unfold chkE
   rw [if_pos hE]
   have l1 := hL.lim
   have l2 := hL.fits
   have hb := hL.b
   have HS := fun W => Lib.hid (frw (dsizes_any W r c n))
   rw [hE] at HS
   have HV := fun k (hk : k < n) W [i : BI W (L k).a (L k).n (L k).p (L k).x] [Tb W] => Lib.hid (frm (dvalid_any W (L k).bd (L k).s (L k).a (L k).n (L k).p (L k).x (L k).e i.out (by have := (hB k hk).1; omega) tb (hB k hk).2 (tz_lim (hB k hk).2) (hb k hk).1 (hb k hk).2))
   haveI HT : Tb w := ⟨hT⟩
   have HD := Lib.hid hL
   obtain ⟨D, hD⟩ : ∃ D, D = fun i => (L i).d := ⟨_, rfl⟩
   have hDk : ∀ k, nrmB (L k).bd (sgn (L k).s (L k).x) (L k).e = D k := fun k => by rw [hD]; rfl
   rw [← hD]
   simp only [hDk] at HV
   obtain ⟨E, hE1⟩ : ∃ E : Int, E = (if anyBad D n then 4 else 0) := ⟨_, rfl⟩
   rw [← hE1]
   have HE := Lib.hid hE1
   clear hE1
   clear hL hE hB hb hD hDk
   go_enter Tryz.func27, Tryz.ntmps27
   go_wp2_with fail
   refine (HS _).out.mono ?_; rintro o w2 ⟨rfl, b2⟩
   go_wp2_with fail
   have hw2 := Lib.hid (show Beh w w2 from inferInstance)
   go_loopw [20] (fun i wr => ∃ k : Nat, k ≤ n ∧ i = .int .i64 k ∧ anyBad D k = false ∧ Below w2.heap.size w2 wr) (fun i _ => n - (intOf i).toNat)
   case atStart => exact ⟨0, by omega, rfl, rfl, Below.refl _ _⟩
   case round =>
    obtain ⟨k, hk, rfl, hz, hbr⟩ := hrel
    haveI bw : From w2 wr := ⟨hbr⟩
    have hs := hbr.size
    have HZ := Lib.hid hz
    clear hbr hz
    by_cases hlt : k < n
    · have hLr := HD.out.below (w' := wr) zbh
      obtain ⟨z0, z1, z2, z3⟩ := hLr.ce hlt
      haveI zm : BI wr (L k).a (L k).n (L k).p (L k).x := ⟨hLr.m k hlt⟩
      have zi := hLr.idx k hlt
      have HVk := HV k hlt
      have HDk := Lib.hid (show dbad (D k) = dbad (D k) from rfl)
      clear hLr HV
      obtain ⟨v, hv⟩ : ∃ v, v = dbad (D k) := ⟨_, rfl⟩
      rw [← hv] at HVk
      have HVV := Lib.hid hv
      clear hv
      cases v with
      | false =>
       go_wp2_with fail
       refine (HVk _).out.mono ?_; rintro o w3 ⟨rfl, b3⟩
       go_wp2_with fail
       go_roundw
       case rel => exact ⟨k + 1, by omega, by go_num, by show (anyBad D k || dbad (D k)) = false; rw [HZ.out, ← HVV.out]; rfl, zbh⟩
       case measure => simp [intOf]; omega
      | true =>
       have e4 := Lib.hid (anyBad_step hlt HVV.out.symm)
       go_wp2_with fail
       refine (HVk _).out.mono ?_; rintro o w3 ⟨rfl, b3⟩
       go_wp2_with fail
       go_ret
       exact ⟨by rw [HE.out, e4.out]; rfl, zbh⟩
    · obtain rfl : k = n := by omega
      go_wp2_with fail
      go_ret
      exact ⟨by rw [HE.out, HZ.out]; rfl, zbh⟩
 · unfold chkE
   rw [if_neg hE]
   exact dcheck_any_sz w r c a n cap L hL hE
theorem dcheckp_any (w : World) (r c : Int) (a : Option Addr) (n cap : Nat) (X : Nat → Nat) (hL : Fls w a n cap X) :
 Calls Tryz.prog 29 #[.agg #[.int .i64 r, .int .i64 c, .slice a n cap]] w fun o w' => o = .returned (.int .i64 (chkE r c n (!allfin X n))) ∧ Below w.heap.size w w' := by
 have l1 := hL.lim
 have l2 := hL.fits
 have HS := fun W => Lib.hid (frw (dsizes_any W r c n))
 unfold chkE
 by_cases hE : szE r c n = 0
 · rw [if_pos hE]
   rw [hE] at HS
   have HV := fun k W => Lib.hid (frw (ffin_any W (X k)))
   have HD := Lib.hid hL
   obtain ⟨E, hE1⟩ : ∃ E : Int, E = (if !allfin X n then 4 else 0) := ⟨_, rfl⟩
   rw [← hE1]
   have HE := Lib.hid hE1
   clear hL hE hE1
   go_enter Tryz.func29, Tryz.ntmps29
   go_wp2_with fail
   refine (HS _).out.mono ?_; rintro o w2 ⟨rfl, b2⟩
   go_wp2_with fail
   have hw2 := Lib.hid (show Beh w w2 from inferInstance)
   go_loopw [20] (fun i wr => ∃ k : Nat, k ≤ n ∧ i = .int .i64 k ∧ allfin X k = true ∧ Below w2.heap.size w2 wr) (fun i _ => n - (intOf i).toNat)
   case atStart => exact ⟨0, by omega, rfl, rfl, Below.refl _ _⟩
   case round =>
    obtain ⟨k, hk, rfl, hz, hbr⟩ := hrel
    haveI bw : From w2 wr := ⟨hbr⟩
    have hs := hbr.size
    have HZ := Lib.hid hz
    clear hbr hz
    by_cases hlt : k < n
    · have hLr := HD.out.below (w' := wr) zbh
      haveI z0 : CE wr (ab a) (ao a + k) (.int .u64 ((X k : Nat) : Int)) := ⟨hLr.cell k hlt, hLr.old (by omega)⟩
      have zi := hLr.idx k hlt
      have HVk := HV k
      clear hLr HV
      obtain ⟨v, hv⟩ : ∃ v, v = ffin (X k) := ⟨_, rfl⟩
      rw [← hv] at HVk
      have HVV := Lib.hid hv
      clear hv
      cases v with
      | true =>
       go_wp2_with fail
       refine (HVk _).out.mono ?_; rintro o w3 ⟨rfl, b3⟩
       go_wp2_with fail
       go_roundw
       case rel => exact ⟨k + 1, by omega, by go_num, by rw [allfin_iff]; intro i hi; rcases Nat.lt_succ_iff_lt_or_eq.1 hi with h | h; exact (allfin_iff X k).1 HZ.out i h; rw [h]; exact HVV.out.symm, zbh⟩
       case measure => simp [intOf]; omega
      | false =>
       have e4 : Hid (allfin X n = false) := (by cases hh : allfin X n with | false => rfl | true => (have := (allfin_iff X n).1 hh k hlt; rw [← HVV.out] at this; cases this))
       go_wp2_with fail
       refine (HVk _).out.mono ?_; rintro o w3 ⟨rfl, b3⟩
       go_wp2_with fail
       go_ret
       exact ⟨by rw [HE.out, e4.out]; rfl, zbh⟩
    · obtain rfl : k = n := by omega
      go_wp2_with fail
      go_ret
      exact ⟨by rw [HE.out, HZ.out]; rfl, zbh⟩
 · rw [if_neg hE]
   generalize szE r c n = E at *
   clear hL
   go_enter Tryz.func29, Tryz.ntmps29
   go_wp2_with fail
   refine (HS _).out.mono ?_; rintro o w2 ⟨rfl, b2⟩
   go_wp2_with fail
   go_ret
   exact ⟨rfl, zbh⟩
theorem rcheckp_any (w : World) (r c : Int) (a : Option Addr) (n cap : Nat) (X : Nat → Nat) (hL : Fls w a n cap X) :
 Calls Tryz.prog 30 #[.agg #[.int .i64 r, .int .i64 c, .slice a n cap]] w fun o w' => o = .returned (.int .i64 (chkE r c n (!allfin X n))) ∧ Below w.heap.size w w' := by
 have l1 := hL.lim
 have l2 := hL.fits
 have HS := fun W => Lib.hid (frw (rshape_any W r c n))
 unfold chkE
 by_cases hE : szE r c n = 0
 · rw [if_pos hE]
   rw [hE] at HS
   have HV := fun k W => Lib.hid (frw (rfin_any W (X k)))
   have HD := Lib.hid hL
   obtain ⟨E, hE1⟩ : ∃ E : Int, E = (if !allfin X n then 4 else 0) := ⟨_, rfl⟩
   rw [← hE1]
   have HE := Lib.hid hE1
   clear hL hE hE1
   go_enter Tryz.func30, Tryz.ntmps30
   go_wp2_with fail
   refine (HS _).out.mono ?_; rintro o w2 ⟨rfl, b2⟩
   go_wp2_with fail
   have hw2 := Lib.hid (show Beh w w2 from inferInstance)
   go_loopw [4] (fun i wr => ∃ k : Nat, k ≤ n ∧ i = .int .i64 k ∧ allfin X k = true ∧ Below w2.heap.size w2 wr) (fun i _ => n - (intOf i).toNat)
   case atStart => exact ⟨0, by omega, rfl, rfl, Below.refl _ _⟩
   case round =>
    obtain ⟨k, hk, rfl, hz, hbr⟩ := hrel
    haveI bw : From w2 wr := ⟨hbr⟩
    have hs := hbr.size
    have HZ := Lib.hid hz
    clear hbr hz
    by_cases hlt : k < n
    · have hLr := HD.out.below (w' := wr) zbh
      haveI z0 : CE wr (ab a) (ao a + k) (.int .u64 ((X k : Nat) : Int)) := ⟨hLr.cell k hlt, hLr.old (by omega)⟩
      have zi := hLr.idx k hlt
      have HVk := HV k
      clear hLr HV
      obtain ⟨v, hv⟩ : ∃ v, v = ffin (X k) := ⟨_, rfl⟩
      rw [← hv] at HVk
      have HVV := Lib.hid hv
      clear hv
      cases v with
      | true =>
       go_wp2_with fail
       refine (HVk _).out.mono ?_; rintro o w3 ⟨rfl, b3⟩
       go_wp2_with fail
       go_roundw
       case rel => exact ⟨k + 1, by omega, by go_num, by rw [allfin_iff]; intro i hi; rcases Nat.lt_succ_iff_lt_or_eq.1 hi with h | h; exact (allfin_iff X k).1 HZ.out i h; rw [h]; exact HVV.out.symm, zbh⟩
       case measure => simp [intOf]; omega
      | false =>
       have e4 : Hid (allfin X n = false) := (by cases hh : allfin X n with | false => rfl | true => (have := (allfin_iff X n).1 hh k hlt; rw [← HVV.out] at this; cases this))
       go_wp2_with fail
       refine (HVk _).out.mono ?_; rintro o w3 ⟨rfl, b3⟩
       go_wp2_with fail
       go_ret
       exact ⟨by rw [HE.out, e4.out]; rfl, zbh⟩
    · obtain rfl : k = n := by omega
      go_wp2_with fail
      go_ret
      exact ⟨by rw [HE.out, HZ.out]; rfl, zbh⟩
 · rw [if_neg hE]
   generalize szE r c n = E at *
   clear hL
   go_enter Tryz.func30, Tryz.ntmps30
   go_wp2_with fail
   refine (HS _).out.mono ?_; rintro o w2 ⟨rfl, b2⟩
   go_wp2_with fail
   go_ret
   exact ⟨rfl, zbh⟩
end Go.Proofs.YtablcbgeeeboeaaGreatDoor
set_option maxRecDepth 100000
set_option maxHeartbeats 20000000
namespace Go.Proofs.YtablcbgeeeboeaaGreatDoor
open Go.RowKit Sp
def mel (d : Nat → Option (Int × Int)) (A : Nat → Option Addr) (C : Nat → Nat) (i : Nat) : El :=
 ⟨dbad (d i), decide (dman (d i) < 0), A i, nl (dman (d i)).natAbs, C i, dexp (d i), (dman (d i)).natAbs⟩
theorem mel_d {d : Nat → Option (Int × Int)} {A : Nat → Option Addr} {C : Nat → Nat} {i : Nat} (h : IsN (d i)) : (mel d A C i).d = d i := by
 show nrmB (dbad (d i)) (sgn (decide (dman (d i) < 0)) (dman (d i)).natAbs) (dexp (d i)) = d i
 rw [sgn_self]; exact isN_self h
structure Dz (w : World) (a : Option Addr) (n c : Nat) (d : Nat → Option (Int × Int)) : Prop where
 ex : ∃ A C, Dys w a n c (mel d A C)
 N : ∀ i, i < n → IsN (d i)
class DZ (W : World) (a : Option Addr) (n c : Nat) (d : outParam (Nat → Option (Int × Int))) : Prop where out : Dz W a n c d
section
variable {W W' : World} {a : Option Addr} {n c : Nat} {d d' : Nat → Option (Int × Int)}
theorem Dz.below (h : Dz W a n c d) (hb : Below W.heap.size W W') : Dz W' a n c d := by
 obtain ⟨⟨A, C, h1⟩, h2⟩ := h; exact ⟨⟨A, C, h1.below hb⟩, h2⟩
instance DZ.dr [h : DZ W a n c d] : DZ W.drew a n c d := ⟨h.out.below (Below.refl _ _).drew⟩
instance DZ.dn (q : Nat) [h : DZ W a n c d] : DZ (W.drewN q) a n c d := ⟨h.out.below (below_drewN (Below.refl _ _) _)⟩
instance DZ.al (o : Obj) [h : DZ W a n c d] : DZ (W.alloc o) a n c d := ⟨h.out.below ((Below.refl _ _).alloc (Nat.le_refl _) _)⟩
instance DZ.fr (L : World) [k : From L W] [h : DZ L a n c d] : DZ W a n c d := ⟨h.out.below k.out⟩
theorem Dz.fits (h : Dz W a n c d) : n ≤ c ∧ c ≤ 9223372036854775807 := by obtain ⟨⟨A, C, h1⟩, _⟩ := h; exact ⟨h1.fits, h1.lim⟩
theorem Dz.idx (h : Dz W a n c d) (i : Nat) (hi : i < n) (V : World) : (Instr.indexAt 23 (.slice a n c) (.int .i64 i)).run Tryz.prog V = .ok (.pointer (some ⟨ab a, ao a + i * 4, none⟩)) V := by
 obtain ⟨⟨A, C, h1⟩, _⟩ := h; exact h1.idx i hi V
theorem Dz.el (h : Dz W a n c d) {i : Nat} (hi : i < n) : ∃ A C, CE W (ab a) (ao a + i * 4) (.bool (dbad (d i))) ∧ CE W (ab a) (ao a + i * 4 + 1) (.bool (decide (dman (d i) < 0))) ∧
 CE W (ab a) (ao a + i * 4 + 2) (.slice A (nl (dman (d i)).natAbs) C) ∧ CE W (ab a) (ao a + i * 4 + 3) (.int .i64 (dexp (d i))) ∧ BI W A (nl (dman (d i)).natAbs) C (dman (d i)).natAbs := by
 obtain ⟨⟨A, C, h1⟩, _⟩ := h
 obtain ⟨z0, z1, z2, z3⟩ := h1.ce hi
 exact ⟨A i, C i, z0, z1, z2, z3, ⟨h1.m i hi⟩⟩
theorem mel_b (h : ∀ i, i < n → IsN (d i)) (A : Nat → Option Addr) (C : Nat → Nat) : ElB (mel d A C) n := fun i hi => by
 have := isN_bounds (h i hi)
 exact ⟨Nat.le_trans (nl_le_blen _) (by omega), by show blen (dman (d i)).natAbs ≤ _; omega⟩
theorem Dz.congr (h : Dz W a n c d) (e : ∀ i, i < n → d i = d' i) : Dz W a n c d' := by
 obtain ⟨⟨A, C, h1⟩, h2⟩ := h
 have em : ∀ i, i < n → mel d A C i = mel d' A C i := fun i hi => by unfold mel; rw [e i hi]
 exact ⟨⟨A, C, ⟨h1.fits, h1.lim, h1.addr, fun i hi => by rw [← em i hi]; exact h1.c0 i hi, fun i hi => by rw [← em i hi]; exact h1.c1 i hi, fun i hi => by rw [← em i hi]; exact h1.c2 i hi, fun i hi => by rw [← em i hi]; exact h1.c3 i hi, fun i hi => by rw [← em i hi]; exact h1.m i hi, fun i hi => by rw [← em i hi]; exact h1.b i hi, h1.old⟩⟩, fun i hi => by rw [← e i hi]; exact h2 i hi⟩
theorem Dms.dz {base : Nat} {v : Value} {A : Nat → Option Addr} {C : Nat → Nat} (h : Dms W base v n d A C) (hd : ∀ i, IsN (d i)) : ∃ a c, v = .slice a n c ∧ Dz W a n c d := by
 obtain ⟨a, c, h1, h2⟩ := h.dys hd
 exact ⟨a, c, h1, ⟨A, C, h2⟩, fun i _ => hd i⟩
end
attribute [local irreducible] Calls
theorem gsame_any (w : World) [Tb w] (v s v' s' : Bool) (a a' : Option Addr) (n n' c c' : Nat) (e e' : Int) (d d' : Option (Int × Int)) [hx : DS w v s a n c e d] [hy : DS w v' s' a' n' c' e' d'] (y : Bool) (hv : y = decide (d = d')) :
 Calls Tryz.prog 24 #[.agg #[.bool v, .bool s, .slice a n c, .int .i64 e], .agg #[.bool v', .bool s', .slice a' n' c', .int .i64 e']] w fun o w' => o = .returned (.bool y) ∧ Below w.heap.size w w' := by
 have N1 : IsN d := hx.out.1.isN
 have N2 : IsN d' := hy.out.1.isN
 have HN := fun W [i : DS W v s a n c e d] [Tb W] => Lib.hid (frI (rdnorm_in W i.out tb))
 have HM := fun W [i : DS W v' s' a' n' c' e' d'] [Tb W] => Lib.hid (frI (rdnorm_in W i.out tb))
 have HK := fun W b q b' q' [i : BI W b (nl (dman d).natAbs) q (dman d).natAbs] [j : BI W b' (nl (dman d').natAbs) q' (dman d').natAbs] => Lib.hid (frm (kdyad_any W (dbad d) (dbad d') (decide (dman d < 0)) (decide (dman d' < 0)) b b' _ _ q q' _ _ (dexp d) (dexp d') i.out j.out rfl rfl y (by rw [hv, dyEq_dec])))
 clear hv N1 N2
 go_enter Tryz.func24, Tryz.ntmps24
 go_wp2_with fail
 first
 | go_region_held3 (fun w' => w'.cell? ⟨w.heap.size, 0, none⟩ = some (.bool v) ∧ w'.cell? ⟨w.heap.size, 1, none⟩ = some (.bool s) ∧ w'.cell? ⟨w.heap.size, 2, none⟩ = some (.slice a n c) ∧ w'.cell? ⟨w.heap.size, 3, none⟩ = some (.int .i64 e) ∧ w'.cell? ⟨w.heap.size + 1, 0, none⟩ = some (.bool v') ∧ w'.cell? ⟨w.heap.size + 1, 1, none⟩ = some (.bool s') ∧ w'.cell? ⟨w.heap.size + 1, 2, none⟩ = some (.slice a' n' c') ∧ w'.cell? ⟨w.heap.size + 1, 3, none⟩ = some (.int .i64 e')) (first | (go_simp; done))
  (first
   | (go_at_call 55; refine (HN _).out.mono ?_; rintro o w1 ⟨a1, c1, rfl, i1, b1⟩)
   | (go_at_call 55; refine (HM _).out.mono ?_; rintro o w2 ⟨a2, c2, rfl, i2, b2⟩)
   | (go_at_call 64; refine (HK _ _ _ _ _).out.mono ?_; rintro o w3 ⟨rfl, b3⟩)
   | fail)
 | fail "region"
 all_goals (
  go_wp2_with fail
  go_ret
  exact ⟨rfl, zbh⟩)
theorem gsamep_any (w : World) (r s : Int) (a a' : Option Addr) (n c c' : Nat) (X : Nat → Nat) [hx : FZ w a n c X] [hy : FZ w a' n c' X] :
 Calls Tryz.prog 15 #[.agg #[.int .i64 r, .int .i64 s, .slice a n c], .agg #[.int .i64 r, .int .i64 s, .slice a' n c']] w fun o w' => o = .returned (.bool true) ∧ Below w.heap.size w w' := by
 have HS := fun W [i : FZ W a n c X] [j : FZ W a' n c' X] => Lib.hid (frm (kfloats_any W a a' n c c' X i.out j.out))
 go_enter Tryz.func15, Tryz.ntmps15
 go_wp2_with fail
 refine (HS _).out.mono ?_; rintro o w3 ⟨rfl, b3⟩
 go_wp2_with fail
 go_ret
 exact ⟨rfl, zbh⟩
end Go.Proofs.YtablcbgeeeboeaaGreatDoor
