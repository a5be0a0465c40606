/-
  Walks: package dense: set, column.
-/
import Derived.Test.YtablcbgeeeboeaaGreatDoorZhQn
import Derived.Test.YtablcbgeeeboeaaGreatDoorZhSqt
import Derived.Test.YtablcbgeeeboeaaGreatDoorZhKit
import Derived.Test.YtablcbgeeeboeaaGreatDoorZhPx
set_option maxRecDepth 100000
set_option maxHeartbeats 20000000
namespace Go.Proofs.YtablcbgeeeboeaaGreatDoor
open Go.RowKit Sp
theorem zPc : Tryz.prog.underlying 28 = some (.slice (Tryz.prog.elem 28)) := by kernel_rfl
theorem zPk (w : World) : (Go.sizeOf (Tryz.prog.elem 28)).run Tryz.prog w = .ok 1 w := by kernel_rfl
theorem zPr (g q N : Nat) (hq : q < N) (W : World) : (Instr.indexAt 28 (.slice (some ⟨g, 0, none⟩) N N) (.int .i64 ((q : Nat) : Int))).run Tryz.prog W = .ok (.pointer (some ⟨g, q, none⟩)) W := by
 rw [run_indexAt_slice _ _ _ _ _ _ _ zPc, if_pos ⟨by omega, by omega⟩, zPk]
 simp only [Result.andThen, Int.toNat_natCast, Nat.mul_one, Addr.add_lit, Nat.zero_add]
class OB (W : World) (g : Nat) : Prop where
 z : ∀ i, W.frozen? ⟨g, i, none⟩ = false
 lt : g < W.heap.size
theorem OB.below {W W' : World} {g : Nat} (h : OB W g) (hb : Below W.heap.size W W') : OB W' g := by
 obtain ⟨_, h2⟩ := zA8 hb
 exact ⟨fun i => (h2 _ _ h.lt).trans (h.z i), Nat.lt_of_lt_of_le h.lt hb.size⟩
section
variable {W : World} {g : Nat}
instance OB.dr [h : OB W g] : OB W.drew g := h.below (Below.refl _ _).drew
instance OB.dn (q : Nat) [h : OB W g] : OB (W.drewN q) g := h.below (below_drewN (Below.refl _ _) _)
instance OB.al (o : Obj) [h : OB W g] : OB (W.alloc o) g := h.below ((Below.refl _ _).alloc (Nat.le_refl _) _)
instance OB.fr (L : World) [k : From L W] [h : OB L g] : OB W g := h.below k.out
instance OB.se {b i : Nat} {v : Value} [h : OB W g] : OB (W.setCell ⟨b, i, none⟩ v) g := ⟨fun j => (zAn _ _ _).trans (h.z j), by rw [World.size_setCell]; exact h.lt⟩
end
@[go_sem] theorem OB.rz (W : World) (g i : Nat) [h : OB W g] : W.frozen? ⟨g, i, none⟩ = false := h.z i
instance CE.sen {W : World} {b i g j : Nat} {v u : Value} [h : CE W b i v] [k : NB b g] : CE (W.setCell ⟨g, j, none⟩ u) b i v := ⟨(zAk k.out _ _ _).trans h.out, by rw [World.size_setCell]; exact h.lt⟩
attribute [local irreducible] Calls
theorem zM9 (w : World) [Tb w] (base b n k gp ge : Nat) (vE : Value) (V : Nat → Nat) (d : Nat → Option (Int × Int)) [hS : St base w b n k vE gp ge V d]
 (hn : n ≤ 64) (i j f : Nat) (hi : i < n) (hj : j < k) (hk : k ≤ 64) (hf : f < 18446744073709551616) :
 Calls Tryz.prog 95 #[.pointer (some ⟨b, 0, none⟩), .int .i64 i, .int .i64 j, .int .u64 f] w fun o w' => o = .returned (.bool (zB0 f)) ∧
  St base w' b n k vE gp ge (fun t => if t = j * n + i then f else V t) (fun t => if t = j * n + i then fof f else d t) ∧ Below base w w' := by
 have P1 := zCc hi hj
 have P2 : j * n ≤ 4096 := Nat.mul_le_mul (show j ≤ 64 by omega) hn
 obtain ⟨p, hp⟩ : ∃ p, p = j * n := ⟨_, rfl⟩
 have hN : (j : Int) * (n : Int) = (p : Int) := by rw [hp]; exact (Int.natCast_mul j n).symm
 rw [← hp] at P1 P2 ⊢
 clear hp
 obtain ⟨N, hNk⟩ : ∃ N, N = n * k := ⟨_, rfl⟩
 have hl := hS.ltP
 have hne := hS.ne
 have hP := hS.op.cellAt (p + i) (by omega)
 rw [zBF _ P1] at hP
 haveI zP : CE w gp (p + i) (.int .u64 ((V (p + i) : Nat) : Int)) := ⟨hP, hl.1⟩
 obtain ⟨A0, C0, z0, z1, z2, z3, z4⟩ := hS.dz.el P1
 have y1 := hS.dz.idx _ P1
 simp only [zAo, zAO, Nat.zero_add] at z0 z1 z2 z3 y1
 have hNk2 : n * k ≤ 4096 := Nat.mul_le_mul hn hk
 have y2 := zPr gp (p + i) (n * k) P1
 rw [show (((p + i : Nat)) : Int) = (p : Int) + (i : Int) by omega] at y1 y2
 haveI o1 : OB w gp := ⟨fun i => hS.op.frozenAt i, hl.1⟩
 haveI o2 : OB w ge := ⟨fun i => by obtain ⟨A, C, q1, _⟩ := hS.ox; exact q1.own.frozenAt i, hl.2.1⟩
 haveI n1 : NB gp ge := ⟨hne.1⟩
 haveI n2 : NB ge gp := ⟨fun e => hne.1 e.symm⟩
 haveI n3 : NB b gp := ⟨hne.2.1⟩
 haveI n4 : NB b ge := ⟨hne.2.2⟩
 haveI x0 : CE w b 0 (.int .i64 n) := ⟨hS.c0, hS.lt⟩
 haveI x5 : CE w b 5 (.slice (some ⟨gp, 0, none⟩) (n * k) (n * k)) := ⟨hS.c5, hS.lt⟩
 haveI x6 : CE w b 6 (.slice (some ⟨ge, 0, none⟩) (n * k) (n * k)) := ⟨hS.c6, hS.lt⟩
 have w1 : IntKind.i64.wrap (p : Int) = (p : Int) := by rw [IntKind.wrap_i64]; omega
 have w2 : IntKind.i64.wrap ((p : Int) + (i : Int)) = (p : Int) + (i : Int) := by rw [IntKind.wrap_i64]; omega
 have HO := fun W [Tb W] => Lib.hid (frF (zFw W f hf tb))
 have HF := fun W => Lib.hid (zFz W f)
 have HS := Lib.hid hS
 obtain ⟨df, hdf⟩ : ∃ df, df = fof f := ⟨_, rfl⟩
 have hdN := Lib.hid (zBI f)
 rw [← hdf] at HO hdN ⊢
 have hlt := hS.lt
 have hlb := hS.lb
 clear hP hdf hNk hNk2
 go_enter Tryz.func95, Tryz.ntmps95
 go_wp2_with fail
 first
 | go_region_held3 (fun w' => w'.cell? ⟨b, 0, none⟩ = some (.int .i64 n) ∧ w'.cell? ⟨b, 5, none⟩ = some (.slice (some ⟨gp, 0, none⟩) (n * k) (n * k)) ∧ w'.cell? ⟨b, 6, none⟩ = some (.slice (some ⟨ge, 0, none⟩) (n * k) (n * k))) (first | (go_simp; done))
  (first
   | (go_at_call 77; refine (HO _).out.mono ?_; rintro o w1 ⟨a1, c1, rfl, i1, b1, f1⟩)
   | fail)
 | fail "region"
 all_goals (
  have e1 := b1.out.size
  have S1 : St base w1 b n k vE gp ge V d := inferInstance
  have hfr : 0 < nl (zA1 df).natAbs → ab a1 ≠ b ∧ ab a1 ≠ gp ∧ ab a1 ≠ ge := fun h => by have := f1 h; simp at this; omega
  have M5 := (S1.putV P1 f).putD P1 hdN.out (i1.out.set (fun h => (hfr h).2.1) (p + i) (.int .u64 ((f : Nat) : Int))) hfr
  have B5 : Below base w (((((w1.setCell ⟨gp, p + i, none⟩ (.int .u64 ((f : Nat) : Int))).setCell ⟨ge, (p + i) * 4, none⟩ (.bool (zA3 df))).setCell ⟨ge, (p + i) * 4 + 1, none⟩ (.bool (decide (zA1 df < 0)))).setCell ⟨ge, (p + i) * 4 + 2, none⟩ (.slice a1 (nl (zA1 df).natAbs) c1)).setCell ⟨ge, (p + i) * 4 + 3, none⟩ (.int .i64 (zA2 df))) := ((((((show Below w.heap.size w w1 from zbh).mono (by omega)).setCell (by simp; omega) _).setCell (by simp; omega) _).setCell (by simp; omega) _).setCell (by simp; omega) _).setCell (by simp; omega) _
  generalize (((((w1.setCell ⟨gp, p + i, none⟩ (.int .u64 ((f : Nat) : Int))).setCell ⟨ge, (p + i) * 4, none⟩ (.bool (zA3 df))).setCell ⟨ge, (p + i) * 4 + 1, none⟩ (.bool (decide (zA1 df < 0)))).setCell ⟨ge, (p + i) * 4 + 2, none⟩ (.slice a1 (nl (zA1 df).natAbs) c1)).setCell ⟨ge, (p + i) * 4 + 3, none⟩ (.int .i64 (zA2 df))) = w5 at *
  clear S1 i1 b1 f1 z0 z1 z2 z3 z4 zP o1 o2 x0 x5 x6 HS y1 y2
  go_wp2_with fail
  refine (HF _).out.mono ?_; rintro o w6 ⟨rfl, rfl⟩
  go_wp2_with fail
  go_ret
  exact ⟨rfl, M5, B5⟩)
theorem zM2 {d d' : Option (Int × Int)} {m : Int} (h : zB0 (zH0 d d' m) = true) : zA3 d = false := by
 cases d with
 | none => rw [zM3] at h; cases h
 | some p => rfl
theorem zMr {B : Nat → Option (Int × Int)} {n j i : Nat} (hi : j < i) : zD4 B n j i = if zB0 (zE8 B n (pan B n j) j i) then 0 else 233 := by
 unfold zD4
 by_cases hf : zB0 (zE8 B n (pan B n j) j i) = true
 · have hb : zA3 (zAQ B n (pan B n j) i j j) = false := by
    unfold zE8 at hf
    rw [if_neg (by omega)] at hf
    exact zM2 hf
   rw [hb, if_neg (by decide), if_neg (by omega)]
 · rw [if_neg hf]
   split
   · rfl
   · rw [if_neg (by omega)]
theorem zHB (s : Bool) (X : Nat) (E : Int) (more : Bool) (mode : Int) : zCf s X E more mode < 18446744073709551616 := zKA _ _ _
theorem zHC (d d' : Option (Int × Int)) (mode : Int) : zH0 d d' mode < 18446744073709551616 := by
 unfold zH0; split
 · split
   · decide
   · split
     · decide
     · exact zHB _ _ _ _ _
 · decide
theorem zGe (d : Option (Int × Int)) (mode : Int) : zBE d mode < 18446744073709551616 := by
 unfold zBE; split
 · decide
 · split
   · decide
   · split
     · decide
     · exact zHB _ _ _ _ _
theorem zKZ (m : Int) : (decide (zAr m 0 ≤ 0)) = decide (m ≤ 0) := by
 unfold zAr; by_cases h : m < 0
 · rw [if_pos h]; simp; omega
 · rw [if_neg h]; by_cases h2 : 0 < m
   · rw [if_pos h2]; simp; omega
   · rw [if_neg h2]; simp; omega
theorem zJ0 {V : Nat → Nat} {d : Nat → Option (Int × Int)} {N t f : Nat} (h : ∀ i, i < N → d i = fof (V i)) : ∀ i, i < N → (fun i => if i = t then fof f else d i) i = fof ((fun i => if i = t then f else V i) i) := fun i hi => by
 show (if i = t then fof f else d i) = fof (if i = t then f else V i)
 split
 · rfl
 · exact h i hi
theorem zH8 (w0 w : World) [Tb w0] [bw : From w0 w] (b n k gp ge : Nat) (ae : Option Addr) (M ce : Nat) (B : Nat → Option (Int × Int)) (d : Nat → Option (Int × Int)) [hB : DZ w0 ae M ce B] (j : Nat) [hS : St w0.heap.size w b n k (.slice ae M ce) gp ge (pan B n j) d]
 (hM : M = n * n) (hn : n ≤ 64) (hBN : ∀ t, IsN (B t)) (hd : ∀ t, t < n * k → d t = fof (pan B n j t)) (hj : j < k) (hkn : k ≤ n) :
 Calls Tryz.prog 45 #[.pointer (some ⟨b, 0, none⟩), .int .i64 j] w fun o w' => ∃ V' d', o = .returned (.int .i64 (zCQ B n j)) ∧ St w0.heap.size w' b n k (.slice ae M ce) gp ge V' d' ∧ (∀ t, t < n * k → d' t = fof (V' t)) ∧ (zCQ B n j = 0 → V' = pan B n (j + 1)) ∧ Below w0.heap.size w0 w' := by
 have hjn : j < n := by omega
 have HSc := fun W V' d' (hd' : ∀ t, t < n * k → d' t = fof (V' t)) [St w0.heap.size W b n k (.slice ae M ce) gp ge V' d'] [DZ W ae M ce B] [Tb W] (i : Nat) (hi : i < n) => Lib.hid (frF (zFT W w0.heap.size b n k gp ge ae M ce B V' d' hM hn hBN hd' i j j hi hjn (by omega) (by omega)))
 have HSt := fun W V' d' [St w0.heap.size W b n k (.slice ae M ce) gp ge V' d'] [Tb W] (i f : Nat) (hi : i < n) (hf : f < 18446744073709551616) => Lib.hid (zM9 W w0.heap.size b n k gp ge (.slice ae M ce) V' d' hn i j f hi hj (by omega) hf)
 have HV := fun W (s : Option (Int × Int)) (hs : IsN s) a c [i1 : BI W a (nl (zA1 s).natAbs) c (zA1 s).natAbs] [Tb W] => Lib.hid (frm (by
  have hb := zA7 hs
  have h := zCJ W (zA3 s) (decide (zA1 s < 0)) a (nl (zA1 s).natAbs) c (zA1 s).natAbs (zA2 s) i1.out (Nat.le_trans (zAe _) (by omega)) tb (by omega) (zDC (by omega)) (by omega) (by omega)
  rwa [show zFm (zA3 s) (sgn (decide (zA1 s < 0)) (zA1 s).natAbs) (zA2 s) = s from by rw [zAg]; exact zCF hs] at h))
 have HG := fun W (s : Option (Int × Int)) (hs : IsN s) a c [i1 : BI W a (nl (zA1 s).natAbs) c (zA1 s).natAbs] [Tb W] => Lib.hid (frm (zBG W (zA3 s) (decide (zA1 s < 0)) a _ c (zA2 s) s (zAI hs i1.out) tb))
 have HR := fun W (s : Option (Int × Int)) (hs : IsN s) a c [i1 : BI W a (nl (zA1 s).natAbs) c (zA1 s).natAbs] [Tb W] => Lib.hid (frm (zIZ W (zA3 s) (decide (zA1 s < 0)) a _ c (zA2 s) 0 s (zAI hs i1.out) tb))
 have HK := fun W f => Lib.hid (frw (zKz W f))
 have hs0 := zCb B n (pan B n j) j j j
 have hc0 : zCQ B n j = zAA (zD4 B n j) j (n - j) := rfl
 have hcc : zD4 B n j j = zD4 B n j j := rfl
 conv at hcc => rhs; unfold zD4
 have hpv : zE8 B n (pan B n j) j j = zBE (zAQ B n (pan B n j) j j j) 0 := by unfold zE8; rw [if_pos rfl]
 rw [hpv] at hcc
 have hp64 := zGe (zAQ B n (pan B n j) j j j) 0
 have HScj := fun W [St w0.heap.size W b n k (.slice ae M ce) gp ge (pan B n j) d] [DZ W ae M ce B] [Tb W] => HSc W (pan B n j) d hd j hjn
 obtain ⟨s, hs⟩ : ∃ s, s = zAQ B n (pan B n j) j j j := ⟨_, rfl⟩
 rw [← hs] at hs0 hcc hp64 hpv
 have HScj2 : ∀ W [St w0.heap.size W b n k (.slice ae M ce) gp ge (pan B n j) d] [DZ W ae M ce B] [Tb W], Hid (Calls Tryz.prog 91 #[.pointer (some ⟨b, 0, none⟩), .int .i64 j, .int .i64 j, .int .i64 j] W fun e w' => ∃ a c, e = .returned (.agg #[.bool (zA3 s), .bool (decide (zA1 s < 0)), .slice a (nl (zA1 s).natAbs) c, .int .i64 (zA2 s)]) ∧ BI w' a (nl (zA1 s).natAbs) c (zA1 s).natAbs ∧ From W w' ∧ (0 < nl (zA1 s).natAbs → W.heap.size ≤ ab a)) := by rw [hs]; exact HScj
 have HVs := fun W => HV W s hs0
 have HGs := fun W => HG W s hs0
 have HRs := fun W => HR W s hs0
 clear HScj HV HG HR
 by_cases hb : zA3 s = true
 · have he : zCQ B n j = 233 := by rw [hc0, zAu (by rw [hcc, if_pos hb]; decide) (by omega), hcc, if_pos hb]
   rw [he]
   rw [hb] at HVs
   simp only [hb] at HScj2
   clear hcc hc0 he hpv hs HSt HGs HRs HK HSc
   go_enter Tryz.func45, Tryz.ntmps45
   go_wp2_with fail
   refine (HScj2 _).out.mono ?_; rintro o w1 ⟨a1, c1, rfl, i1, b1, f1⟩
   go_wp2_with fail
   refine (HVs _ _ _).out.mono ?_; rintro o w2 ⟨rfl, b2⟩
   go_wp2_with fail
   go_ret
   exact ⟨pan B n j, d, rfl, inferInstance, hd, (fun h => by cases h), zbh⟩
 rw [if_neg hb] at hcc
 have hb' : zA3 s = false := by simpa using hb
 rw [hb'] at HVs HGs HRs
 have HScj3 := HScj2
 simp only [hb'] at HScj3
 clear HScj2
 have hd0 := zKZ (zA1 s)
 by_cases hg : zA1 s ≤ 0
 · have he : zCQ B n j = 231 := by rw [hc0, zAu (by rw [hcc, if_pos ⟨rfl, Or.inl hg⟩]; decide) (by omega), hcc, if_pos ⟨rfl, Or.inl hg⟩]
   rw [he]
   have hg1 : zAr (zA1 s) 0 ≤ 0 := by rw [decide_eq_true hg] at hd0; exact of_decide_eq_true hd0
   generalize zAr (zA1 s) 0 = z at *
   clear hcc hc0 he hpv hs HSt HRs HK HSc hd0 hg hb
   go_enter Tryz.func45, Tryz.ntmps45
   go_wp2_with fail
   refine (HScj3 _).out.mono ?_; rintro o w1 ⟨a1, c1, rfl, i1, b1, f1⟩
   go_wp2_with fail
   refine (HVs _ _ _).out.mono ?_; rintro o w2 ⟨rfl, b2⟩
   go_wp2_with fail
   refine (HGs _ _ _).out.mono ?_; rintro o w3 ⟨rfl, b3⟩
   go_wp2_with fail
   go_ret
   exact ⟨pan B n j, d, rfl, inferInstance, hd, (fun h => by cases h), zbh⟩
 have hg1 : ¬ zAr (zA1 s) 0 ≤ 0 := by rw [decide_eq_false hg] at hd0; exact of_decide_eq_false hd0
 generalize zAr (zA1 s) 0 = z at *
 obtain ⟨f, hf⟩ : ∃ f, f = zBE s 0 := ⟨_, rfl⟩
 rw [← hf] at hcc hp64 hpv HRs
 have hk0 := (zKy f).2.2
 have HKf := fun W => HK W f
 clear HK
 by_cases hz : zCY f = true
 · have he : zCQ B n j = 231 := by rw [hc0, zAu (by rw [hcc, if_pos ⟨rfl, Or.inr hz⟩]; decide) (by omega), hcc, if_pos ⟨rfl, Or.inr hz⟩]
   rw [he]
   rw [hz] at hk0
   generalize zFy f = kd at *
   clear hcc hc0 he hpv hs hf HSt HSc hd0 hg hb hz
   go_enter Tryz.func45, Tryz.ntmps45
   go_wp2_with fail
   refine (HScj3 _).out.mono ?_; rintro o w1 ⟨a1, c1, rfl, i1, b1, f1⟩
   go_wp2_with fail
   refine (HVs _ _ _).out.mono ?_; rintro o w2 ⟨rfl, b2⟩
   go_wp2_with fail
   refine (HGs _ _ _).out.mono ?_; rintro o w3 ⟨rfl, b3⟩
   go_wp2_with fail
   refine (HRs _ _ _).out.mono ?_; rintro o w4 ⟨rfl, b4⟩
   go_wp2_with fail
   refine (HKf _).out.mono ?_; rintro o w5 ⟨rfl, b5⟩
   go_wp2_with fail
   go_ret
   exact ⟨pan B n j, d, rfl, inferInstance, hd, (fun h => by cases h), zbh⟩
 rw [if_neg (by rintro ⟨_, h | h⟩; exact hg h; exact hz h)] at hcc
 have hz' : zCY f = false := by simpa using hz
 rw [hz'] at hk0
 generalize zFy f = kd at *
 have HStj := fun W [St w0.heap.size W b n k (.slice ae M ce) gp ge (pan B n j) d] [Tb W] => HSt W (pan B n j) d j f hjn hp64
 have hst : (fun t => if t = j * n + j then f else pan B n j t) = zCE B n j (j + 1) := by
  rw [← zE9 hjn (Nat.le_refl j), zEL (Nat.le_refl j), hpv]
 have hdd := zJ0 (t := j * n + j) (f := f) hd
 rw [hst] at HStj hdd
 obtain ⟨d1, hd1⟩ : ∃ d1, d1 = fun t => if t = j * n + j then fof f else d t := ⟨_, rfl⟩
 rw [← hd1] at HStj hdd
 clear hd1 hst
 by_cases hff : zB0 f = true
 · rw [if_pos hff] at hcc
   rw [hff] at HStj
   have hc1 : zCQ B n j = zAA (zD4 B n j) (j + 1) (n - (j + 1)) := by rw [hc0, zBa hcc (by omega)]; congr 1
   have hqv : ∀ i, j < i → zH0 (zAQ B n (pan B n j) i j j) (fof f) 0 = zE8 B n (pan B n j) j i := fun i hi => by unfold zE8; rw [if_neg (by omega), hf, hs]
   have HC1 := Lib.hid hc1
   have HO := fun W [Tb W] => Lib.hid (frF (zFw W f hp64 tb))
   have HQ := fun W (s : Option (Int × Int)) (hs : IsN s) a c a' c' [i1 : BI W a (nl (zA1 s).natAbs) c (zA1 s).natAbs] [i2 : BI W a' (nl (zA1 (fof f)).natAbs) c' (zA1 (fof f)).natAbs] [Tb W] => Lib.hid (frm (zLh W (zA3 s) (decide (zA1 s < 0)) (zA3 (fof f)) (decide (zA1 (fof f) < 0)) a a' _ _ c c' (zA2 s) (zA2 (fof f)) 0 s (fof f) (zAI hs i1.out) (zAI (zBI f) i2.out) tb))
   have HQV := Lib.hid hqv
   generalize fof f = ff at *
   clear hcc hc0 hc1 hpv hs hf hd0 hg hb hz hff hqv
   go_enter Tryz.func45, Tryz.ntmps45
   go_wp2_with fail
   refine (HScj3 _).out.mono ?_; rintro o w1 ⟨a1, c1, rfl, i1, b1, f1⟩
   go_wp2_with fail
   refine (HVs _ _ _).out.mono ?_; rintro o w2 ⟨rfl, b2⟩
   go_wp2_with fail
   refine (HGs _ _ _).out.mono ?_; rintro o w3 ⟨rfl, b3⟩
   go_wp2_with fail
   refine (HRs _ _ _).out.mono ?_; rintro o w4 ⟨rfl, b4⟩
   go_wp2_with fail
   refine (HKf _).out.mono ?_; rintro o w5 ⟨rfl, b5⟩
   go_wp2_with fail
   have b05 : Below w0.heap.size w0 w5 := zbh
   have hs5 := b05.size
   refine (HStj _).out.mono ?_; rintro o w6 ⟨rfl, S6, b6⟩
   have b06 := b05.trans b6
   clear HStj HKf HRs HGs HVs HScj3 b05 b6 b1 b2 b3 b4 b5 i1 f1
   go_wp2_with fail
   go_loopw [7] (fun v wr => ∃ (i : Nat) (d' : Nat → Option (Int × Int)), j + 1 ≤ i ∧ i ≤ n ∧ v = .int .i64 i ∧ St w0.heap.size wr b n k (.slice ae M ce) gp ge (zCE B n j i) d' ∧ (∀ t, t < n * k → d' t = fof (zCE B n j i t)) ∧ zCQ B n j = zAA (zD4 B n j) i (n - i) ∧ Below w0.heap.size w0 wr) (fun v _ => n - (intOf v).toNat)
   case atStart => exact ⟨j + 1, d1, by omega, by omega, rfl, S6, hdd, HC1.out, b06⟩
   case round =>
    clear S6 b06 hdd HC1
    obtain ⟨i, d', hi0, hi1, rfl, iS, hdi, hce, hbr⟩ := hrel
    haveI bwr : From w0 wr := ⟨hbr⟩
    have HCE := Lib.hid hce
    have HDI := Lib.hid hdi
    clear hce hdi
    by_cases hlt : i < n
    · have HSi := HSc wr (zCE B n j i) d' HDI.out i hlt
      rw [zEV hlt hjn] at HSi
      have hN2 := zCb B n (pan B n j) i j j
      have hq := HQV.out i (by omega)
      obtain ⟨s2, hs2⟩ : ∃ s2, s2 = zAQ B n (pan B n j) i j j := ⟨_, rfl⟩
      rw [← hs2] at HSi hN2 hq
      have HQi := fun W => HQ W s2 hN2
      obtain ⟨q, hqe⟩ : ∃ q, q = zH0 s2 ff 0 := ⟨_, rfl⟩
      have hq64 : q < 18446744073709551616 := by rw [hqe]; exact zHC _ _ _
      rw [← hqe] at HQi hq
      have hcg := zMr (B := B) (n := n) (show j < i by omega)
      rw [← hq] at hcg
      have HStq := fun W [St w0.heap.size W b n k (.slice ae M ce) gp ge (zCE B n j i) d'] [Tb W] => HSt W (zCE B n j i) d' i q hlt hq64
      have hst : (fun t => if t = j * n + i then q else zCE B n j i t) = zCE B n j (i + 1) := by rw [hq]; exact zE9 hlt (by omega)
      have hdd := zJ0 (t := j * n + i) (f := q) HDI.out
      rw [hst] at HStq hdd
      obtain ⟨d2, hd2⟩ : ∃ d2, d2 = fun t => if t = j * n + i then fof q else d' t := ⟨_, rfl⟩
      rw [← hd2] at HStq hdd
      clear hd2 hst hqe hs2 hq
      by_cases hfq : zB0 q = true
      · rw [if_pos hfq] at hcg
        rw [hfq] at HStq
        have HC2 := Lib.hid (show zCQ B n j = zAA (zD4 B n j) (i + 1) (n - (i + 1)) by rw [HCE.out, zBa hcg (by omega)]; congr 1)
        have HDD := Lib.hid hdd
        clear hcg hdd hfq
        go_wp2_with fail
        refine HSi.out.mono ?_; rintro o v1 ⟨a1, c1, rfl, i1, b1, f1⟩
        go_wp2_with fail
        refine (HO _).out.mono ?_; rintro o v2 ⟨a2, c2, rfl, i2, b2, f2⟩
        go_wp2_with fail
        refine (HQi _ _ _ _ _).out.mono ?_; rintro o v3 ⟨rfl, b3⟩
        go_wp2_with fail
        have b03 : Below w0.heap.size w0 v3 := zbh
        have hs3 := b03.size
        refine (HStq _).out.mono ?_; rintro o v4 ⟨rfl, S4, b4⟩
        have b04 := b03.trans b4
        go_wp2_with fail
        go_roundw
        case rel => exact ⟨i + 1, d2, by omega, by omega, by go_num, S4, HDD.out, HC2.out, b04⟩
        case measure => simp [intOf]; omega
      · rw [if_neg hfq] at hcg
        have hfq' : zB0 q = false := by simpa using hfq
        rw [hfq'] at HStq
        have HC2 := Lib.hid (show zCQ B n j = 233 by rw [HCE.out, zAu (by rw [hcg]; decide) (by omega), hcg])
        have HDD := Lib.hid hdd
        clear hcg hdd hfq
        go_wp2_with fail
        refine HSi.out.mono ?_; rintro o v1 ⟨a1, c1, rfl, i1, b1, f1⟩
        go_wp2_with fail
        refine (HO _).out.mono ?_; rintro o v2 ⟨a2, c2, rfl, i2, b2, f2⟩
        go_wp2_with fail
        refine (HQi _ _ _ _ _).out.mono ?_; rintro o v3 ⟨rfl, b3⟩
        go_wp2_with fail
        have b03 : Below w0.heap.size w0 v3 := zbh
        have hs3 := b03.size
        refine (HStq _).out.mono ?_; rintro o v4 ⟨rfl, S4, b4⟩
        have b04 := b03.trans b4
        go_wp2_with fail
        go_ret
        rw [HC2.out]
        exact ⟨zCE B n j (i + 1), d2, rfl, S4, HDD.out, (fun h => by cases h), b04⟩
    · obtain rfl : i = n := by omega
      have hE : zCQ B i j = 0 := by rw [HCE.out, Nat.sub_self]; rfl
      have HE := Lib.hid hE
      have hPL := zGf (B := B) (n := i) (j := j) (by omega)
      have HPL := Lib.hid hPL
      clear hE hPL HCE
      go_wp2_with fail
      go_ret
      rw [HE.out]
      exact ⟨zCE B i j i, d', rfl, iS, HDI.out, (fun _ => HPL.out), hbr⟩
 · have hff' : zB0 f = false := by simpa using hff
   have he : zCQ B n j = 233 := by rw [hc0, zAu (by rw [hcc, if_neg hff]; decide) (by omega), hcc, if_neg hff]
   rw [he]
   rw [hff'] at HStj
   clear hcc hc0 he hpv hs hf HSt HSc hd0 hg hb hz hff
   go_enter Tryz.func45, Tryz.ntmps45
   go_wp2_with fail
   refine (HScj3 _).out.mono ?_; rintro o w1 ⟨a1, c1, rfl, i1, b1, f1⟩
   go_wp2_with fail
   refine (HVs _ _ _).out.mono ?_; rintro o w2 ⟨rfl, b2⟩
   go_wp2_with fail
   refine (HGs _ _ _).out.mono ?_; rintro o w3 ⟨rfl, b3⟩
   go_wp2_with fail
   refine (HRs _ _ _).out.mono ?_; rintro o w4 ⟨rfl, b4⟩
   go_wp2_with fail
   refine (HKf _).out.mono ?_; rintro o w5 ⟨rfl, b5⟩
   go_wp2_with fail
   have b05 : Below w0.heap.size w0 w5 := zbh
   have hs5 := b05.size
   refine (HStj _).out.mono ?_; rintro o w6 ⟨rfl, S6, b6⟩
   have b06 := b05.trans b6
   go_wp2_with fail
   go_ret
   exact ⟨zCE B n j (j + 1), d1, rfl, S6, hdd, (fun h => by cases h), b06⟩
end Go.Proofs.YtablcbgeeeboeaaGreatDoor
namespace Go.Proofs.YtablcbgeeeboeaaGreatDoor
open Go.RowKit Sp
theorem zNN {d : Option (Int × Int)} (h : d ≠ none) : zA3 d = false := by cases d with | none => exact absurd rfl h | some p => rfl
end Go.Proofs.YtablcbgeeeboeaaGreatDoor
