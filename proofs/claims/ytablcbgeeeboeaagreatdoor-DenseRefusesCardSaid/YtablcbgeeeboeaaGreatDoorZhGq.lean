/-
  Plain law: exact sums of floats (the statements about accumulation). No program in sight.
  Plain law: roots of sums of squares; the rounding error of a sum (the statements about accumulation). No program in sight.
-/
import Derived.Test.YtablcbgeeeboeaaGreatDoorZhFP
import Derived.Test.YtablcbgeeeboeaaGreatDoorZhSum
import Derived.Test.YtablcbgeeeboeaaGreatDoorZhGr
import Derived.Test.YtablcbgeeeboeaaGreatDoorZhGo
import Derived.Test.YtablcbgeeeboeaaGreatDoorZhBg
namespace Go.Proofs.YtablcbgeeeboeaaGreatDoor
open Go.RowKit Sp
def zJf (M : Nat → Int) : Nat → Int
 | 0 => 0
 | k + 1 => zJf M k + M k
theorem zO7 {M E m e : Int} (h : nrm M E = some (m, e)) (hE : E ≤ 0) : E ≤ e ∧ up m e E = M := by
 by_cases h0 : M = 0
 · subst h0; rw [zBc] at h; injection h with h; injection h with h1 h2; subst h1 h2; exact ⟨hE, zB6 _ _⟩
 · obtain ⟨t, ht, he, _⟩ := zDc h0 h
   subst he
   exact ⟨by omega, by rw [zJ2]; exact ht.symm⟩
theorem zM7 (d : Nat → Option (Int × Int)) (M : Nat → Int) {E : Int} (hE : E ≤ 0) (n : Nat) (h : ∀ i, i < n → d i = nrm (M i) E ∧ nrm (M i) E ≠ none) : zBv d n = nrm (zJf M n) E := by
 have hb : zA5 d n = false := by
  cases hc : zA5 d n with
  | false => rfl
  | true =>
   obtain ⟨i, hi, hd⟩ := (zCe d n).1 hc
   have h1 := h i hi
   rw [h1.1] at hd
   exact absurd (dbad_nn.2 h1.2) (by rw [hd]; decide)
 have hu : ∀ i, i < n → E ≤ zA2 (d i) ∧ up (zA1 (d i)) (zA2 (d i)) E = M i := fun i hi => by
  obtain ⟨h1, h2⟩ := h i hi
  cases hd : nrm (M i) E with
  | none => exact absurd hd h2
  | some p => obtain ⟨m, e⟩ := p; rw [h1, hd]; exact zO7 hd hE
 rw [zKE d hb (fun i hi => (hu i hi).1) hE]
 congr 1
 clear hb h
 induction n with
 | zero => rfl
 | succ n ih => simp only [smE, zJf]; rw [ih (fun i hi => hu i (by omega)), (hu n (by omega)).2]
theorem zLo (M : Nat → Int) (P n : Nat) (h : ∀ i, i < n → zA4 (M i).natAbs ≤ P) : (zJf M n).natAbs ≤ n * 2 ^ P := by
 induction n with
 | zero => simp [zJf]
 | succ n ih =>
  have h1 := ih (fun i hi => h i (by omega))
  have h2 := zF2 (h n (by omega))
  simp only [zJf]
  have h3 := Int.natAbs_add_le (zJf M n) (M n)
  rw [Nat.add_mul, Nat.one_mul]
  omega
theorem zJe (M : Nat → Int) {P n : Nat} (hn : n ≤ 15) (h : ∀ i, i < n → zA4 (M i).natAbs ≤ P) : zA4 (zJf M n).natAbs ≤ 4 + P := by
 refine zAq (Nat.lt_of_le_of_lt (zLo M P n h) ?_)
 rw [Nat.pow_add]
 exact Nat.mul_lt_mul_of_pos_right (by omega) (Nat.pow_pos (by decide))
theorem zHc {a b : Nat} (ha : zB0 a = true) (hb : zB0 b = true) : zA4 (fz a * fz b).natAbs ≤ 4196 := by
 have := zL4 (fz a) (fz b); have := zEt ha; have := zEt hb; omega
def zPu (X Y : Nat → Nat) (n : Nat) : Int := zJf (fun i => fz (X i) * fz (Y i)) n
def zPD (X Y : Nat → Nat) (n : Nat) : Option (Int × Int) := zBv (fun i => zCZ (fof (X i)) (fof (Y i))) n
theorem zLa {X Y : Nat → Nat} {n : Nat} (hn : n ≤ 15) (hx : ∀ i, i < n → zB0 (X i) = true) (hy : ∀ i, i < n → zB0 (Y i) = true) : zA4 (zPu X Y n).natAbs ≤ 4200 :=
 zJe (fun i => fz (X i) * fz (Y i)) hn (P := 4196) (fun i hi => zHc (hx i hi) (hy i hi))
theorem zMv {X Y : Nat → Nat} {n : Nat} (hn : n ≤ 15) (hx : ∀ i, i < n → zB0 (X i) = true) (hy : ∀ i, i < n → zB0 (Y i) = true) :
 zPD X Y n = nrm (zPu X Y n) (-2148) ∧ nrm (zPu X Y n) (-2148) ≠ none := by
 refine ⟨zM7 _ (fun i => fz (X i) * fz (Y i)) (by omega) n (fun i hi => zHQ (hx i hi) (hy i hi)), ?_⟩
 have := zLa hn hx hy
 exact zEa (by omega) (by omega)
end Go.Proofs.YtablcbgeeeboeaaGreatDoor
set_option maxRecDepth 100000
set_option maxHeartbeats 2000000
namespace Go.Proofs.YtablcbgeeeboeaaGreatDoor
open Go.RowKit Sp
theorem zBY (w : World) {bd s : Bool} {a : Option Addr} {n cap : Nat} {e : Int} {d : Option (Int × Int)} (h : DyIn w bd s a n cap e d) (hT : Tab w) :
 Calls Tryz.prog 72 #[.agg #[.bool bd, .bool s, .slice a n cap, .int .i64 e]] w (zAy w d) := by
 obtain ⟨x, h1, h2, h3, h4, h5, rfl⟩ := h
 exact zKT w bd s a n cap x e h1 h2 hT h3 (zDC h3) h4 h5
theorem zI4 (w : World) (bd s : Bool) (a : Option Addr) (n cap : Nat) (e mode : Int) (d : Option (Int × Int)) (hx : DyIn w bd s a n cap e d) (hT : Tab w) (hbd : zA3 d = true) :
 Calls Tryz.prog 78 #[.agg #[.bool bd, .bool s, .slice a n cap, .int .i64 e], .int .i64 mode] w fun o w' => o = .returned (.int .u64 9221120237041090560) ∧ Below w.heap.size w w' := by
 have HN := fun W h ht => Lib.hid (@zBY W bd s a n cap e d h ht)
 have hN := Lib.hid hx.isN
 go_enter Tryz.func78, Tryz.ntmps78
 go_wp2_with fail
 have I0 := DyV.made w 46 bd s (.slice a n cap) e
 have B0 : Below w.heap.size w (w.alloc (.cells #[.bool bd, .bool s, .slice a n cap, .int .i64 e] 46)) := zbh
 generalize (w.alloc (.cells #[.bool bd, .bool s, .slice a n cap, .int .i64 e] 46)) = w0 at I0 B0 ⊢
 generalize hz0 : w.heap.size = b0 at I0 ⊢
 refine (HN _ (hx.below B0) (hT.below B0)).out.mono ?_
 rintro e1 w1 ⟨a1, c1, rfl, M1, hb1, hf1⟩
 have B1 := zA0 (w := w) B0 hb1
 have hlt := I0.lt
 have hfr : 0 < nl (zA1 d).natAbs → b0 < ab a1 := fun h => by have := hf1 h; omega
 obtain ⟨p0, p1, p2, p3, p4, p5⟩ := I0.below hb1
 clear hb1 hf1 I0
 go_wp2_with fail
 go_ret
 exact ⟨rfl, (by have hszw := (B1).size; repeat (with_reducible first | refine Below.setCell ?_ (by first | omega | (simp <;> omega)) _ | refine Below.alloc ?_ (by first | omega | (simp <;> omega)) _ | refine Below.drew ?_ | refine below_drewN ?_ _ | exact B1))⟩
theorem zGE (w : World) (bd s : Bool) (a : Option Addr) (n cap : Nat) (e mode : Int) (d : Option (Int × Int)) (hx : DyIn w bd s a n cap e d) (hT : Tab w) (hbd : zA3 d = false) (hz : zA1 d = 0) :
 Calls Tryz.prog 78 #[.agg #[.bool bd, .bool s, .slice a n cap, .int .i64 e], .int .i64 mode] w fun o w' => o = .returned (.int .u64 0) ∧ Below w.heap.size w w' := by
 have HN := fun W h ht => Lib.hid (@zBY W bd s a n cap e d h ht)
 have hN := Lib.hid hx.isN
 have HG := fun W b c (h : Mag W b (nl (zA1 d).natAbs) c (zA1 d).natAbs) ht => Lib.hid (zBG W (zA3 d) (decide (zA1 d < 0)) b _ c (zA2 d) d (zAI hN.out h) ht)
 rw [hbd] at HG
 obtain ⟨g, hg⟩ : ∃ g, g = zAr (zA1 d) 0 := ⟨_, rfl⟩
 rw [← hg] at HG
 have hge : (g == 0) = true := by rw [hg, hz]; rfl
 clear hg
 have HZ := Lib.hid hz
 clear hz
 go_enter Tryz.func78, Tryz.ntmps78
 go_wp2_with fail
 have I0 := DyV.made w 46 bd s (.slice a n cap) e
 have B0 : Below w.heap.size w (w.alloc (.cells #[.bool bd, .bool s, .slice a n cap, .int .i64 e] 46)) := zbh
 generalize (w.alloc (.cells #[.bool bd, .bool s, .slice a n cap, .int .i64 e] 46)) = w0 at I0 B0 ⊢
 generalize hz0 : w.heap.size = b0 at I0 ⊢
 refine (HN _ (hx.below B0) (hT.below B0)).out.mono ?_
 rintro e1 w1 ⟨a1, c1, rfl, M1, hb1, hf1⟩
 have B1 := zA0 (w := w) B0 hb1
 have hlt := I0.lt
 have hfr : 0 < nl (zA1 d).natAbs → b0 < ab a1 := fun h => by have := hf1 h; omega
 obtain ⟨p0, p1, p2, p3, p4, p5⟩ := I0.below hb1
 clear hb1 hf1 I0
 go_wp2_with fail
 have hzb : w.heap.size ≤ b0 := by omega
 have B2 : Below w.heap.size w ((((w1.setCell ⟨b0, 0, none⟩ (.bool false)).setCell ⟨b0, 1, none⟩ (.bool (decide (zA1 d < 0)))).setCell ⟨b0, 2, none⟩ (.slice a1 (nl (zA1 d).natAbs) c1)).setCell ⟨b0, 3, none⟩ (.int .i64 (zA2 d))) := (((B1.setCell hzb _).setCell hzb _).setCell hzb _).setCell hzb _
 have K0 : DyV ((((w1.setCell ⟨b0, 0, none⟩ (.bool false)).setCell ⟨b0, 1, none⟩ (.bool (decide (zA1 d < 0)))).setCell ⟨b0, 2, none⟩ (.slice a1 (nl (zA1 d).natAbs) c1)).setCell ⟨b0, 3, none⟩ (.int .i64 (zA2 d))) b0 false (decide (zA1 d < 0)) (.slice a1 (nl (zA1 d).natAbs) c1) (zA2 d) := ⟨by go_simp, by go_simp, by go_simp, by go_simp, fun i => by go_simp, by simpa using p5⟩
 have ne1 : 0 < nl (zA1 d).natAbs → ab a1 ≠ b0 := fun h => by have := hfr h; omega
 have m2 := (((M1.set ne1 0 (.bool false)).set ne1 1 (.bool (decide (zA1 d < 0)))).set ne1 2 (.slice a1 (nl (zA1 d).natAbs) c1)).set ne1 3 (.int .i64 (zA2 d))
 generalize ((((w1.setCell ⟨b0, 0, none⟩ (.bool false)).setCell ⟨b0, 1, none⟩ (.bool (decide (zA1 d < 0)))).setCell ⟨b0, 2, none⟩ (.slice a1 (nl (zA1 d).natAbs) c1)).setCell ⟨b0, 3, none⟩ (.int .i64 (zA2 d))) = w2 at B2 K0 m2 ⊢
 clear p0 p1 p2 p3 p4 p5 M1 B1
 refine (HG _ a1 c1 m2 (hT.below B2)).out.mono ?_
 rintro e1 w3 ⟨rfl, hb⟩
 have B3 := zA0 (w := w) B2 hb
 have m3 := m2.below hb
 obtain ⟨p0, p1, p2, p3, p4, p5⟩ := K0.below hb
 clear K0 hb m2
 go_wp2_with fail
 go_ret
 exact ⟨rfl, B3⟩
theorem zIW (w : World) (bd s : Bool) (a : Option Addr) (n cap : Nat) (e mode : Int) (d : Option (Int × Int)) (hx : DyIn w bd s a n cap e d) (hT : Tab w) (hbd : zA3 d = false) (hz : zA1 d ≠ 0) :
 Calls Tryz.prog 78 #[.agg #[.bool bd, .bool s, .slice a n cap, .int .i64 e], .int .i64 mode] w fun o w' => o = .returned (.int .u64 ((zCf (decide (zA1 d < 0)) (zA1 d).natAbs (zA2 d) false mode : Nat) : Int)) ∧ Below w.heap.size w w' := by
 have HN := fun W h ht => Lib.hid (@zBY W bd s a n cap e d h ht)
 have hN := Lib.hid hx.isN
 have HG := fun W b c (h : Mag W b (nl (zA1 d).natAbs) c (zA1 d).natAbs) ht => Lib.hid (zBG W (zA3 d) (decide (zA1 d < 0)) b _ c (zA2 d) d (zAI hN.out h) ht)
 rw [hbd] at HG
 obtain ⟨g, hg⟩ : ∃ g, g = zAr (zA1 d) 0 := ⟨_, rfl⟩
 rw [← hg] at HG
 have hge : (g == 0) = false := by rw [hg]; unfold zAr; split <;> (try split) <;> first | decide | (exfalso; omega)
 obtain ⟨q0, q1, q2⟩ := zA7 hN.out
 have HO := fun W b c h => Lib.hid (zOx W false b c (zA1 d) (zA2 d) _ h (zAz (by omega)) rfl)
 obtain ⟨y, hy⟩ : ∃ y : Int, y = ((zA1 d).natAbs : Int) := ⟨_, rfl⟩
 have hya : y.natAbs = (zA1 d).natAbs := by omega
 have hy0 : decide (y < 0) = false := by simp; omega
 rw [← hy] at HO
 have HR := fun W b c h ht => Lib.hid (zCW W (decide (zA1 d < 0)) false b c y.natAbs (zA2 d) mode h (by omega) (by rw [hya]; omega) (by omega) (by omega) ht)
 rw [← hya]
 generalize ((zCf (decide (zA1 d < 0)) y.natAbs (zA2 d) false mode : Nat) : Int) = V at *
 clear hg q0 q1 q2 hy hya hz
 go_enter Tryz.func78, Tryz.ntmps78
 go_wp2_with fail
 have I0 := DyV.made w 46 bd s (.slice a n cap) e
 have B0 : Below w.heap.size w (w.alloc (.cells #[.bool bd, .bool s, .slice a n cap, .int .i64 e] 46)) := zbh
 generalize (w.alloc (.cells #[.bool bd, .bool s, .slice a n cap, .int .i64 e] 46)) = w0 at I0 B0 ⊢
 generalize hz0 : w.heap.size = b0 at I0 ⊢
 refine (HN _ (hx.below B0) (hT.below B0)).out.mono ?_
 rintro e1 w1 ⟨a1, c1, rfl, M1, hb1, hf1⟩
 have B1 := zA0 (w := w) B0 hb1
 have hlt := I0.lt
 have hfr : 0 < nl (zA1 d).natAbs → b0 < ab a1 := fun h => by have := hf1 h; omega
 obtain ⟨p0, p1, p2, p3, p4, p5⟩ := I0.below hb1
 clear hb1 hf1 I0
 go_wp2_with fail
 have hzb : w.heap.size ≤ b0 := by omega
 have B2 : Below w.heap.size w ((((w1.setCell ⟨b0, 0, none⟩ (.bool false)).setCell ⟨b0, 1, none⟩ (.bool (decide (zA1 d < 0)))).setCell ⟨b0, 2, none⟩ (.slice a1 (nl (zA1 d).natAbs) c1)).setCell ⟨b0, 3, none⟩ (.int .i64 (zA2 d))) := (((B1.setCell hzb _).setCell hzb _).setCell hzb _).setCell hzb _
 have K0 : DyV ((((w1.setCell ⟨b0, 0, none⟩ (.bool false)).setCell ⟨b0, 1, none⟩ (.bool (decide (zA1 d < 0)))).setCell ⟨b0, 2, none⟩ (.slice a1 (nl (zA1 d).natAbs) c1)).setCell ⟨b0, 3, none⟩ (.int .i64 (zA2 d))) b0 false (decide (zA1 d < 0)) (.slice a1 (nl (zA1 d).natAbs) c1) (zA2 d) := ⟨by go_simp, by go_simp, by go_simp, by go_simp, fun i => by go_simp, by simpa using p5⟩
 have ne1 : 0 < nl (zA1 d).natAbs → ab a1 ≠ b0 := fun h => by have := hfr h; omega
 have m2 := (((M1.set ne1 0 (.bool false)).set ne1 1 (.bool (decide (zA1 d < 0)))).set ne1 2 (.slice a1 (nl (zA1 d).natAbs) c1)).set ne1 3 (.int .i64 (zA2 d))
 generalize ((((w1.setCell ⟨b0, 0, none⟩ (.bool false)).setCell ⟨b0, 1, none⟩ (.bool (decide (zA1 d < 0)))).setCell ⟨b0, 2, none⟩ (.slice a1 (nl (zA1 d).natAbs) c1)).setCell ⟨b0, 3, none⟩ (.int .i64 (zA2 d))) = w2 at B2 K0 m2 ⊢
 clear p0 p1 p2 p3 p4 p5 M1 B1
 refine (HG _ a1 c1 m2 (hT.below B2)).out.mono ?_
 rintro e1 w3 ⟨rfl, hb⟩
 have B3 := zA0 (w := w) B2 hb
 have m3 := m2.below hb
 obtain ⟨p0, p1, p2, p3, p4, p5⟩ := K0.below hb
 clear K0 hb m2
 go_wp2_with fail
 refine (HO _ a1 c1 m3).out.mono ?_
 rintro e1 w4 ⟨a4, c4, rfl, m4, hb, _⟩
 have B4 := zA0 (w := w) B3 hb
 clear hb p0 p1 p2 p3 p4 p5
 go_wp2_with fail
 refine (HR _ a4 c4 m4 (hT.below B4)).out.mono ?_
 rintro e1 w5 ⟨rfl, hb⟩
 have B5 := zA0 (w := w) B4 hb
 go_wp2_with fail
 go_ret
 exact ⟨rfl, B5⟩
theorem zKQ (d : Option (Int × Int)) : d = none ∨ ∃ m e, d = some (m, e) := by
 cases d with
 | none => exact Or.inl rfl
 | some p => exact Or.inr ⟨p.1, p.2, rfl⟩
theorem zIJ (w : World) (bd s : Bool) (a : Option Addr) (n cap : Nat) (e mode : Int) (d : Option (Int × Int)) (hx : DyIn w bd s a n cap e d) (hT : Tab w) :
 Calls Tryz.prog 78 #[.agg #[.bool bd, .bool s, .slice a n cap, .int .i64 e], .int .i64 mode] w fun o w' => o = .returned (.int .u64 (zAF d mode : Nat)) ∧ Below w.heap.size w w' := by
 rcases zKQ d with rfl | ⟨m, f, rfl⟩
 · exact zI4 w bd s a n cap e mode none hx hT rfl
 · by_cases h0 : m = 0
   · have := zGE w bd s a n cap e mode (some (m, f)) hx hT rfl h0
     rwa [show zAF (some (m, f)) mode = 0 by unfold zAF; simp only; rw [if_pos h0]]
   · have := zIW w bd s a n cap e mode (some (m, f)) hx hT rfl h0
     rwa [show zAF (some (m, f)) mode = zCf (decide (m < 0)) m.natAbs f false mode by unfold zAF; simp only; rw [if_neg h0]]
end Go.Proofs.YtablcbgeeeboeaaGreatDoor
