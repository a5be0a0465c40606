/-
  Plain law: exact sums of floats (the statements about accumulation). No program in sight.
  Plain law: roots of sums of squares; the rounding error of a sum (the statements about accumulation). No program in sight.
-/
import Derived.Test.YtablcbgeeeboeaaGreatDoorZfFP
import Derived.Test.YtablcbgeeeboeaaGreatDoorZfSumLaw
import Derived.Test.YtablcbgeeeboeaaGreatDoorZfGr
import Derived.Test.YtablcbgeeeboeaaGreatDoorZfGo
import Derived.Test.YtablcbgeeeboeaaGreatDoorZfBg
namespace Go.Proofs.YtablcbgeeeboeaaGreatDoor
open Go.RowKit Sp
def sumI (M : Nat → Int) : Nat → Int
 | 0 => 0
 | k + 1 => sumI M k + M k
theorem up_nrm {M E m e : Int} (h : nrm M E = some (m, e)) (hE : E ≤ 0) : E ≤ e ∧ up m e E = M := by
 by_cases h0 : M = 0
 · subst h0; rw [nrm_zero] at h; injection h with h; injection h with h1 h2; subst h1 h2; exact ⟨hE, up_zero _ _⟩
 · obtain ⟨t, ht, he, _⟩ := nrm_some h0 h
   subst he
   exact ⟨by omega, by rw [up_nat]; exact ht.symm⟩
theorem dsum_nrm (d : Nat → Option (Int × Int)) (M : Nat → Int) {E : Int} (hE : E ≤ 0) (n : Nat) (h : ∀ i, i < n → d i = nrm (M i) E ∧ nrm (M i) E ≠ none) : dsum d n = nrm (sumI M n) E := by
 have hb : anyBad d n = false := by
  cases hc : anyBad d n with
  | false => rfl
  | true =>
   obtain ⟨i, hi, hd⟩ := (anyBad_iff d n).1 hc
   have h1 := h i hi
   rw [h1.1] at hd
   exact absurd (dbad_nn.2 h1.2) (by rw [hd]; decide)
 have hu : ∀ i, i < n → E ≤ dexp (d i) ∧ up (dman (d i)) (dexp (d i)) E = M i := fun i hi => by
  obtain ⟨h1, h2⟩ := h i hi
  cases hd : nrm (M i) E with
  | none => exact absurd hd h2
  | some p => obtain ⟨m, e⟩ := p; rw [h1, hd]; exact up_nrm hd hE
 rw [dsum_unit d hb (fun i hi => (hu i hi).1) hE]
 congr 1
 clear hb h
 induction n with
 | zero => rfl
 | succ n ih => simp only [smE, sumI]; rw [ih (fun i hi => hu i (by omega)), (hu n (by omega)).2]
theorem sumI_abs (M : Nat → Int) (P n : Nat) (h : ∀ i, i < n → blen (M i).natAbs ≤ P) : (sumI M n).natAbs ≤ n * 2 ^ P := by
 induction n with
 | zero => simp [sumI]
 | succ n ih =>
  have h1 := ih (fun i hi => h i (by omega))
  have h2 := abs_lt_pow (h n (by omega))
  simp only [sumI]
  have h3 := Int.natAbs_add_le (sumI M n) (M n)
  rw [Nat.add_mul, Nat.one_mul]
  omega
theorem sumI_blen (M : Nat → Int) {P n : Nat} (hn : n ≤ 15) (h : ∀ i, i < n → blen (M i).natAbs ≤ P) : blen (sumI M n).natAbs ≤ 4 + P := by
 refine blen_le (Nat.lt_of_le_of_lt (sumI_abs M P n h) ?_)
 rw [Nat.pow_add]
 exact Nat.mul_lt_mul_of_pos_right (by omega) (Nat.pow_pos (by decide))
theorem blen_fz_mul {a b : Nat} (ha : ffin a = true) (hb : ffin b = true) : blen (fz a * fz b).natAbs ≤ 4196 := by
 have := bl_mul (fz a) (fz b); have := blen_fz ha; have := blen_fz hb; omega
def dotI (X Y : Nat → Nat) (n : Nat) : Int := sumI (fun i => fz (X i) * fz (Y i)) n
def ddot (X Y : Nat → Nat) (n : Nat) : Option (Int × Int) := dsum (fun i => dmul (fof (X i)) (fof (Y i))) n
theorem adot_blen {X Y : Nat → Nat} {n : Nat} (hn : n ≤ 15) (hx : ∀ i, i < n → ffin (X i) = true) (hy : ∀ i, i < n → ffin (Y i) = true) : blen (dotI X Y n).natAbs ≤ 4200 :=
 sumI_blen (fun i => fz (X i) * fz (Y i)) hn (P := 4196) (fun i hi => blen_fz_mul (hx i hi) (hy i hi))
theorem adot_val {X Y : Nat → Nat} {n : Nat} (hn : n ≤ 15) (hx : ∀ i, i < n → ffin (X i) = true) (hy : ∀ i, i < n → ffin (Y i) = true) :
 ddot X Y n = nrm (dotI X Y n) (-2148) ∧ nrm (dotI X Y n) (-2148) ≠ none := by
 refine ⟨dsum_nrm _ (fun i => fz (X i) * fz (Y i)) (by omega) n (fun i hi => fmul_val (hx i hi) (hy i hi)), ?_⟩
 have := adot_blen hn hx hy
 exact nrm_valid (by omega) (by omega)
theorem nrm_neg_valid {M E : Int} (h : nrm M E ≠ none) : nrm (-M) E ≠ none := by
 rw [← dneg_nrm _ _ h]
 cases k : nrm M E with
 | none => exact absurd k h
 | some p => obtain ⟨m, e⟩ := p; exact fun h' => by cases h'
def dinf (d : Nat → Option (Int × Int)) : Nat → Option (Int × Int)
 | 0 => some (0, 0)
 | k + 1 => if 0 < dcmp (d k) (dinf d k) then d k else dinf d k
theorem dabs_nrm (M E : Int) (h : nrm M E ≠ none) : dabs (nrm M E) = nrm (M.natAbs : Int) E ∧ nrm (M.natAbs : Int) E ≠ none := by
 rcases Int.natAbs_eq M with h1 | h1
 · rw [← h1]
   refine ⟨?_, h⟩
   cases k : nrm M E with
   | none => exact absurd k h
   | some p =>
    obtain ⟨m, e⟩ := p
    show some ((m.natAbs : Int), e) = _
    have : 0 ≤ m := by
     by_cases h0 : M = 0
     · subst h0; rw [nrm_zero] at k; injection k with k; injection k with h2 h3; omega
     · obtain ⟨t, ht, _⟩ := nrm_some h0 k
       have := (mul_pow_neg m t).1; rw [← ht] at this; omega
    rw [show (m.natAbs : Int) = m by omega]
 · have e1 : (M.natAbs : Int) = -M := by omega
   rw [e1]
   refine ⟨?_, nrm_neg_valid h⟩
   rw [← dneg_nrm _ _ h]
   cases k : nrm M E with
   | none => exact absurd k h
   | some p =>
    obtain ⟨m, e⟩ := p
    show some ((m.natAbs : Int), e) = some (-m, e)
    have : m ≤ 0 := by
     by_cases h0 : M = 0
     · subst h0; rw [nrm_zero] at k; injection k with k; injection k with h2 h3; omega
     · obtain ⟨t, ht, _⟩ := nrm_some h0 k
       have := (mul_pow_neg m t).2; rw [← ht] at this; omega
    rw [show (m.natAbs : Int) = -m by omega]
def absL (X : Nat → Nat) (i : Nat) : Int := ((fz (X i)).natAbs : Int)
theorem aone_val {X : Nat → Nat} {n : Nat} (hn : n ≤ 15) (hx : ∀ i, i < n → ffin (X i) = true) :
 dsum (fun i => dabs (fof (X i))) n = nrm (sumI (absL X) n) (-1074) ∧ nrm (sumI (absL X) n) (-1074) ≠ none := by
 refine ⟨dsum_nrm _ (absL X) (by omega) n (fun i hi => by
  show dabs (fof (X i)) = _ ∧ _
  rw [fof_fin (hx i hi)]; exact dabs_nrm _ _ (fof_some (hx i hi))), ?_⟩
 have := sumI_blen (absL X) hn (P := 2098) (fun i hi => by unfold absL; rw [Int.natAbs_natCast]; exact blen_fz (hx i hi))
 exact nrm_valid (by omega) (by omega)
end Go.Proofs.YtablcbgeeeboeaaGreatDoor
set_option maxRecDepth 100000
set_option maxHeartbeats 2000000
namespace Go.Proofs.YtablcbgeeeboeaaGreatDoor
open Go.RowKit Sp
theorem dNorm_d (w : World) {bd s : Bool} {a : Option Addr} {n cap : Nat} {e : Int} {d : Option (Int × Int)} (h : DyIn w bd s a n cap e d) (hT : Tab w) :
 Calls Tryz.prog 72 #[.agg #[.bool bd, .bool s, .slice a n cap, .int .i64 e]] w (RetDy w d) := by
 obtain ⟨x, h1, h2, h3, h4, h5, rfl⟩ := h
 exact dNorm_any w bd s a n cap x e h1 h2 hT h3 (tz_lim h3) h4 h5
theorem wround_bad (w : World) (bd s : Bool) (a : Option Addr) (n cap : Nat) (e mode : Int) (d : Option (Int × Int)) (hx : DyIn w bd s a n cap e d) (hT : Tab w) (hbd : dbad d = true) :
 Calls Tryz.prog 78 #[.agg #[.bool bd, .bool s, .slice a n cap, .int .i64 e], .int .i64 mode] w fun o w' => o = .returned (.int .u64 9221120237041090560) ∧ Below w.heap.size w w' := by
 have HN := fun W h ht => Lib.hid (@dNorm_d W bd s a n cap e d h ht)
 have hN := Lib.hid hx.isN
 go_enter Tryz.func78, Tryz.ntmps78
 go_wp2_with fail
 have I0 := DyV.made w 46 bd s (.slice a n cap) e
 have B0 : Below w.heap.size w (w.alloc (.cells #[.bool bd, .bool s, .slice a n cap, .int .i64 e] 46)) := zbh
 generalize (w.alloc (.cells #[.bool bd, .bool s, .slice a n cap, .int .i64 e] 46)) = w0 at I0 B0 ⊢
 generalize hz0 : w.heap.size = b0 at I0 ⊢
 refine (HN _ (hx.below B0) (hT.below B0)).out.mono ?_
 rintro e1 w1 ⟨a1, c1, rfl, M1, hb1, hf1⟩
 have B1 := below_box (w := w) B0 hb1
 have hlt := I0.lt
 have hfr : 0 < nl (dman d).natAbs → b0 < ab a1 := fun h => by have := hf1 h; omega
 obtain ⟨p0, p1, p2, p3, p4, p5⟩ := I0.below hb1
 clear hb1 hf1 I0
 go_wp2_with fail
 go_ret
 exact ⟨rfl, (by have hszw := (B1).size; repeat (with_reducible first | refine Below.setCell ?_ (by first | omega | (simp <;> omega)) _ | refine Below.alloc ?_ (by first | omega | (simp <;> omega)) _ | refine Below.drew ?_ | refine below_drewN ?_ _ | exact B1))⟩
theorem wround_zero (w : World) (bd s : Bool) (a : Option Addr) (n cap : Nat) (e mode : Int) (d : Option (Int × Int)) (hx : DyIn w bd s a n cap e d) (hT : Tab w) (hbd : dbad d = false) (hz : dman d = 0) :
 Calls Tryz.prog 78 #[.agg #[.bool bd, .bool s, .slice a n cap, .int .i64 e], .int .i64 mode] w fun o w' => o = .returned (.int .u64 0) ∧ Below w.heap.size w w' := by
 have HN := fun W h ht => Lib.hid (@dNorm_d W bd s a n cap e d h ht)
 have hN := Lib.hid hx.isN
 have HG := fun W b c (h : Mag W b (nl (dman d).natAbs) c (dman d).natAbs) ht => Lib.hid (dsign_any W (dbad d) (decide (dman d < 0)) b _ c (dexp d) d (dyin_of hN.out h) ht)
 rw [hbd] at HG
 obtain ⟨g, hg⟩ : ∃ g, g = cmpI (dman d) 0 := ⟨_, rfl⟩
 rw [← hg] at HG
 have hge : (g == 0) = true := by rw [hg, hz]; rfl
 clear hg
 have HZ := Lib.hid hz
 clear hz
 go_enter Tryz.func78, Tryz.ntmps78
 go_wp2_with fail
 have I0 := DyV.made w 46 bd s (.slice a n cap) e
 have B0 : Below w.heap.size w (w.alloc (.cells #[.bool bd, .bool s, .slice a n cap, .int .i64 e] 46)) := zbh
 generalize (w.alloc (.cells #[.bool bd, .bool s, .slice a n cap, .int .i64 e] 46)) = w0 at I0 B0 ⊢
 generalize hz0 : w.heap.size = b0 at I0 ⊢
 refine (HN _ (hx.below B0) (hT.below B0)).out.mono ?_
 rintro e1 w1 ⟨a1, c1, rfl, M1, hb1, hf1⟩
 have B1 := below_box (w := w) B0 hb1
 have hlt := I0.lt
 have hfr : 0 < nl (dman d).natAbs → b0 < ab a1 := fun h => by have := hf1 h; omega
 obtain ⟨p0, p1, p2, p3, p4, p5⟩ := I0.below hb1
 clear hb1 hf1 I0
 go_wp2_with fail
 have hzb : w.heap.size ≤ b0 := by omega
 have B2 : Below w.heap.size w ((((w1.setCell ⟨b0, 0, none⟩ (.bool false)).setCell ⟨b0, 1, none⟩ (.bool (decide (dman d < 0)))).setCell ⟨b0, 2, none⟩ (.slice a1 (nl (dman d).natAbs) c1)).setCell ⟨b0, 3, none⟩ (.int .i64 (dexp d))) := (((B1.setCell hzb _).setCell hzb _).setCell hzb _).setCell hzb _
 have K0 : DyV ((((w1.setCell ⟨b0, 0, none⟩ (.bool false)).setCell ⟨b0, 1, none⟩ (.bool (decide (dman d < 0)))).setCell ⟨b0, 2, none⟩ (.slice a1 (nl (dman d).natAbs) c1)).setCell ⟨b0, 3, none⟩ (.int .i64 (dexp d))) b0 false (decide (dman d < 0)) (.slice a1 (nl (dman d).natAbs) c1) (dexp d) := ⟨by go_simp, by go_simp, by go_simp, by go_simp, fun i => by go_simp, by simpa using p5⟩
 have ne1 : 0 < nl (dman d).natAbs → ab a1 ≠ b0 := fun h => by have := hfr h; omega
 have m2 := (((M1.set ne1 0 (.bool false)).set ne1 1 (.bool (decide (dman d < 0)))).set ne1 2 (.slice a1 (nl (dman d).natAbs) c1)).set ne1 3 (.int .i64 (dexp d))
 generalize ((((w1.setCell ⟨b0, 0, none⟩ (.bool false)).setCell ⟨b0, 1, none⟩ (.bool (decide (dman d < 0)))).setCell ⟨b0, 2, none⟩ (.slice a1 (nl (dman d).natAbs) c1)).setCell ⟨b0, 3, none⟩ (.int .i64 (dexp d))) = w2 at B2 K0 m2 ⊢
 clear p0 p1 p2 p3 p4 p5 M1 B1
 refine (HG _ a1 c1 m2 (hT.below B2)).out.mono ?_
 rintro e1 w3 ⟨rfl, hb⟩
 have B3 := below_box (w := w) B2 hb
 have m3 := m2.below hb
 obtain ⟨p0, p1, p2, p3, p4, p5⟩ := K0.below hb
 clear K0 hb m2
 go_wp2_with fail
 go_ret
 exact ⟨rfl, B3⟩
theorem wround_ok (w : World) (bd s : Bool) (a : Option Addr) (n cap : Nat) (e mode : Int) (d : Option (Int × Int)) (hx : DyIn w bd s a n cap e d) (hT : Tab w) (hbd : dbad d = false) (hz : dman d ≠ 0) :
 Calls Tryz.prog 78 #[.agg #[.bool bd, .bool s, .slice a n cap, .int .i64 e], .int .i64 mode] w fun o w' => o = .returned (.int .u64 ((frnd (decide (dman d < 0)) (dman d).natAbs (dexp d) false mode : Nat) : Int)) ∧ Below w.heap.size w w' := by
 have HN := fun W h ht => Lib.hid (@dNorm_d W bd s a n cap e d h ht)
 have hN := Lib.hid hx.isN
 have HG := fun W b c (h : Mag W b (nl (dman d).natAbs) c (dman d).natAbs) ht => Lib.hid (dsign_any W (dbad d) (decide (dman d < 0)) b _ c (dexp d) d (dyin_of hN.out h) ht)
 rw [hbd] at HG
 obtain ⟨g, hg⟩ : ∃ g, g = cmpI (dman d) 0 := ⟨_, rfl⟩
 rw [← hg] at HG
 have hge : (g == 0) = false := by rw [hg]; unfold cmpI; split <;> (try split) <;> first | decide | (exfalso; omega)
 obtain ⟨q0, q1, q2⟩ := isN_bounds hN.out
 have HO := fun W b c h => Lib.hid (of_any W false b c (dman d) (dexp d) _ h (nl_lim (by omega)) rfl)
 obtain ⟨y, hy⟩ : ∃ y : Int, y = ((dman d).natAbs : Int) := ⟨_, rfl⟩
 have hya : y.natAbs = (dman d).natAbs := by omega
 have hy0 : decide (y < 0) = false := by simp; omega
 rw [← hy] at HO
 have HR := fun W b c h ht => Lib.hid (rounded_any W (decide (dman d < 0)) false b c y.natAbs (dexp d) mode h (by omega) (by rw [hya]; omega) (by omega) (by omega) ht)
 rw [← hya]
 generalize ((frnd (decide (dman d < 0)) y.natAbs (dexp d) false mode : Nat) : Int) = V at *
 clear hg q0 q1 q2 hy hya hz
 go_enter Tryz.func78, Tryz.ntmps78
 go_wp2_with fail
 have I0 := DyV.made w 46 bd s (.slice a n cap) e
 have B0 : Below w.heap.size w (w.alloc (.cells #[.bool bd, .bool s, .slice a n cap, .int .i64 e] 46)) := zbh
 generalize (w.alloc (.cells #[.bool bd, .bool s, .slice a n cap, .int .i64 e] 46)) = w0 at I0 B0 ⊢
 generalize hz0 : w.heap.size = b0 at I0 ⊢
 refine (HN _ (hx.below B0) (hT.below B0)).out.mono ?_
 rintro e1 w1 ⟨a1, c1, rfl, M1, hb1, hf1⟩
 have B1 := below_box (w := w) B0 hb1
 have hlt := I0.lt
 have hfr : 0 < nl (dman d).natAbs → b0 < ab a1 := fun h => by have := hf1 h; omega
 obtain ⟨p0, p1, p2, p3, p4, p5⟩ := I0.below hb1
 clear hb1 hf1 I0
 go_wp2_with fail
 have hzb : w.heap.size ≤ b0 := by omega
 have B2 : Below w.heap.size w ((((w1.setCell ⟨b0, 0, none⟩ (.bool false)).setCell ⟨b0, 1, none⟩ (.bool (decide (dman d < 0)))).setCell ⟨b0, 2, none⟩ (.slice a1 (nl (dman d).natAbs) c1)).setCell ⟨b0, 3, none⟩ (.int .i64 (dexp d))) := (((B1.setCell hzb _).setCell hzb _).setCell hzb _).setCell hzb _
 have K0 : DyV ((((w1.setCell ⟨b0, 0, none⟩ (.bool false)).setCell ⟨b0, 1, none⟩ (.bool (decide (dman d < 0)))).setCell ⟨b0, 2, none⟩ (.slice a1 (nl (dman d).natAbs) c1)).setCell ⟨b0, 3, none⟩ (.int .i64 (dexp d))) b0 false (decide (dman d < 0)) (.slice a1 (nl (dman d).natAbs) c1) (dexp d) := ⟨by go_simp, by go_simp, by go_simp, by go_simp, fun i => by go_simp, by simpa using p5⟩
 have ne1 : 0 < nl (dman d).natAbs → ab a1 ≠ b0 := fun h => by have := hfr h; omega
 have m2 := (((M1.set ne1 0 (.bool false)).set ne1 1 (.bool (decide (dman d < 0)))).set ne1 2 (.slice a1 (nl (dman d).natAbs) c1)).set ne1 3 (.int .i64 (dexp d))
 generalize ((((w1.setCell ⟨b0, 0, none⟩ (.bool false)).setCell ⟨b0, 1, none⟩ (.bool (decide (dman d < 0)))).setCell ⟨b0, 2, none⟩ (.slice a1 (nl (dman d).natAbs) c1)).setCell ⟨b0, 3, none⟩ (.int .i64 (dexp d))) = w2 at B2 K0 m2 ⊢
 clear p0 p1 p2 p3 p4 p5 M1 B1
 refine (HG _ a1 c1 m2 (hT.below B2)).out.mono ?_
 rintro e1 w3 ⟨rfl, hb⟩
 have B3 := below_box (w := w) B2 hb
 have m3 := m2.below hb
 obtain ⟨p0, p1, p2, p3, p4, p5⟩ := K0.below hb
 clear K0 hb m2
 go_wp2_with fail
 refine (HO _ a1 c1 m3).out.mono ?_
 rintro e1 w4 ⟨a4, c4, rfl, m4, hb, _⟩
 have B4 := below_box (w := w) B3 hb
 clear hb p0 p1 p2 p3 p4 p5
 go_wp2_with fail
 refine (HR _ a4 c4 m4 (hT.below B4)).out.mono ?_
 rintro e1 w5 ⟨rfl, hb⟩
 have B5 := below_box (w := w) B4 hb
 go_wp2_with fail
 go_ret
 exact ⟨rfl, B5⟩
theorem dcases (d : Option (Int × Int)) : d = none ∨ ∃ m e, d = some (m, e) := by
 cases d with
 | none => exact Or.inl rfl
 | some p => exact Or.inr ⟨p.1, p.2, rfl⟩
theorem fround_any (w : World) (bd s : Bool) (a : Option Addr) (n cap : Nat) (e mode : Int) (d : Option (Int × Int)) (hx : DyIn w bd s a n cap e d) (hT : Tab w) :
 Calls Tryz.prog 78 #[.agg #[.bool bd, .bool s, .slice a n cap, .int .i64 e], .int .i64 mode] w fun o w' => o = .returned (.int .u64 (fround d mode : Nat)) ∧ Below w.heap.size w w' := by
 rcases dcases d with rfl | ⟨m, f, rfl⟩
 · exact wround_bad w bd s a n cap e mode none hx hT rfl
 · by_cases h0 : m = 0
   · have := wround_zero w bd s a n cap e mode (some (m, f)) hx hT rfl h0
     rwa [show fround (some (m, f)) mode = 0 by unfold fround; simp only; rw [if_pos h0]]
   · have := wround_ok w bd s a n cap e mode (some (m, f)) hx hT rfl h0
     rwa [show fround (some (m, f)) mode = frnd (decide (m < 0)) m.natAbs f false mode by unfold fround; simp only; rw [if_neg h0]]
end Go.Proofs.YtablcbgeeeboeaaGreatDoor
