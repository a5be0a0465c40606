/-
  Walks: Multiply of both sides.
-/
import Derived.Test.YtablcbgeeeboeaaGreatDoorZhQi
import Derived.Test.YtablcbgeeeboeaaGreatDoorZhQn
import Derived.Test.YtablcbgeeeboeaaGreatDoorZhPo
import Derived.Test.YtablcbgeeeboeaaGreatDoorZhTk
import Derived.Test.YtablcbgeeeboeaaGreatDoorZhPk
set_option maxRecDepth 100000
set_option maxHeartbeats 40000000
namespace Go.Proofs.YtablcbgeeeboeaaGreatDoor
open Go.RowKit Sp
def zDO (X Y : Nat → Nat) (r c i j k : Nat) : Option (Int × Int) := zCZ (fof (X (k * r + i))) (fof (Y (j * c + k)))
noncomputable def zGV (X Y : Nat → Nat) (r c t : Nat) : Nat := zAF (zBv (zDO X Y r c (t % r) (t / r)) c) 0
theorem zK6 {X Y : Nat → Nat} {r c i j : Nat} (hi : i < r) : zGV X Y r c (j * r + i) = zAF (zBv (zDO X Y r c i j) c) 0 := by
 unfold zGV
 rw [Nat.mul_comm j r, Nat.mul_add_mod, Nat.mod_eq_of_lt hi, Nat.mul_add_div (by omega), Nat.div_eq_of_lt hi, Nat.add_zero]
theorem zK5 (X Y : Nat → Nat) (r c t : Nat) : zGV X Y r c t < 18446744073709551616 := zDx _ _
theorem zEN {X Y : Nat → Nat} {r c i j : Nat} (hc : c ≤ 15) (hX : ∀ k, k < c → zB0 (X (k * r + i)) = true) (hY : ∀ k, k < c → zB0 (Y (j * c + k)) = true) : zBq (zDO X Y r c i j) c = zBv (zDO X Y r c i j) c :=
 zLC (fun k => X (k * r + i)) (fun k => Y (j * c + k)) hc ((zAD _ c).2 hX) ((zAD _ c).2 hY)
def mpn (b : Bool) (x : Nat) : Nat := if b then x else 0
def mpe (b : Bool) : Int := if b then 0 else 233
def MuR (R T N : Nat) (U : Nat → Nat) (E : Int) (v : Value) (lo hi : Nat) (w : World) : Prop := ∃ (pa : Option Addr) (pc : Nat), v = .tuple #[.agg #[.int .i64 R, .int .i64 T, .slice pa N pc], .int .i64 E] ∧ FW pa N pc U lo hi w
theorem MuR.zero (U : Nat → Nat) (E : Int) (lo hi : Nat) (w : World) : MuR 0 0 0 U E (.tuple #[.agg #[.int .i64 0, .int .i64 0, .slice none 0 0], .int .i64 E]) lo hi w :=
 ⟨none, 0, rfl, fun h => absurd h (Nat.lt_irrefl _), zFx _ _⟩
theorem zGA {D : Nat → Nat} {n : Nat} (h : zAp D n = true) (h1 : zB0 (D n) = true) : zAp D (n + 1) = true := (zAD D (n + 1)).2 fun i hi => by
 rcases Nat.lt_succ_iff_lt_or_eq.1 hi with h2 | h2
 · exact (zAD D n).1 h i h2
 · rw [h2]; exact h1
attribute [local irreducible] Calls
theorem zGc (w : World) [Tb w] (v s : Bool) (a : Option Addr) (n c : Nat) (e : Int) (d : Option (Int × Int)) [hx : DS w v s a n c e d] :
 Calls Tryz.prog 81 #[.agg #[.bool v, .bool s, .slice a n c, .int .i64 e]] w fun o w' => o = .returned (.int .u64 (zAF d 0 : Nat)) ∧ Below w.heap.size w w' := by
 have HR := fun W [i : DS W v s a n c e d] [Tb W] => Lib.hid (frm (zE6 W v s a n c e 0 d i.out tb))
 generalize ((zAF d 0 : Nat) : Int) = z at *
 go_enter Tryz.func81, Tryz.ntmps81
 go_wp2_with fail
 refine (HR _).out.mono ?_; rintro o w1 ⟨rfl, b1⟩; go_wp2_with fail
 go_ret
 exact ⟨rfl, zbh⟩
theorem zH4 (w : World)  (r c s t : Nat) (a b : Option Addr) (cap cab : Nat) (X Y : Nat → Nat) (hr : r ≤ 15) (hc : c ≤ 15) (hs : s ≤ 15) (ht : t ≤ 15) [hA : FZ w a (r * c) cap X] [hB : FZ w b (s * t) cab Y] (hX : ∀ x, x < r * c → zB0 (X x) = true) (hY : ∀ x, x < s * t → zB0 (Y x) = true) (hcs : c ≠ s) :
 Calls Tryz.prog 37 #[.agg #[.int .i64 r, .int .i64 c, .slice a (r * c) cap], .agg #[.int .i64 s, .int .i64 t, .slice b (s * t) cab]] w fun o w' => ∃ v, o = .returned v ∧ MuR 0 0 0 X 5 v w.heap.size w'.heap.size w' ∧ From w w' := by
 have HC1 := fun W [i : FZ W a (r * c) cap X] => Lib.hid (frm (zCo W r c a (r * c) cap X i.out))
 have HC2 := fun W [i : FZ W b (s * t) cab Y] => Lib.hid (frm (zCo W s t b (s * t) cab Y i.out))
 rw [zCA (show r ≤ 64 by omega) (show c ≤ 64 by omega) hX] at HC1
 rw [zCA (show s ≤ 64 by omega) (show t ≤ 64 by omega) hY] at HC2
 have hne : ((c : Int) != (s : Int)) = true := by rw [bne_iff_ne]; omega
 generalize r * c = N at *
 generalize s * t = M at *
 clear hX hY
 go_enter Tryz.func37, Tryz.ntmps37
 go_wp2_with fail
 refine (HC1 _).out.mono ?_; rintro o w1 ⟨rfl, b1⟩
 go_wp2_with fail
 refine (HC2 _).out.mono ?_; rintro o w2 ⟨rfl, b2⟩
 have e1 := b1.out.size
 have e2 := b2.out.size
 simp at e1
 clear HC1 HC2
 go_wp2_with fail
 refine bodyPost_ret (v := .tuple #[.agg #[.int .i64 0, .int .i64 0, .slice none 0 0], .int .i64 5]) (by simp only [results, Tryz.results37]; go_simp) rfl ?_
 exact ⟨_, rfl, MuR.zero _ _ _ _ _, ⟨zbh⟩⟩
theorem zGL (w : World)  (r c s t : Nat) (a b : Option Addr) (cap cab : Nat) (X Y : Nat → Nat) (hr : r ≤ 15) (hc : c ≤ 15) (hs : s ≤ 15) (ht : t ≤ 15) [hA : FZ w a (r * c) cap X] [hB : FZ w b (s * t) cab Y] (hX : ∀ x, x < r * c → zB0 (X x) = true) (hY : ∀ x, x < s * t → zB0 (Y x) = true) (hcs : c ≠ s) :
 Calls Tryz.prog 38 #[.agg #[.int .i64 r, .int .i64 c, .slice a (r * c) cap], .agg #[.int .i64 s, .int .i64 t, .slice b (s * t) cab]] w fun o w' => ∃ v, o = .returned v ∧ MuR 0 0 0 X 5 v w.heap.size w'.heap.size w' ∧ From w w' := by
 have HC1 := fun W [i : FZ W a (r * c) cap X] => Lib.hid (frm (zCj W r c a (r * c) cap X i.out))
 have HC2 := fun W [i : FZ W b (s * t) cab Y] => Lib.hid (frm (zCj W s t b (s * t) cab Y i.out))
 rw [zCA (show r ≤ 64 by omega) (show c ≤ 64 by omega) hX] at HC1
 rw [zCA (show s ≤ 64 by omega) (show t ≤ 64 by omega) hY] at HC2
 have hne : ((c : Int) != (s : Int)) = true := by rw [bne_iff_ne]; omega
 generalize r * c = N at *
 generalize s * t = M at *
 clear hX hY
 go_enter Tryz.func38, Tryz.ntmps38
 go_wp2_with fail
 refine (HC1 _).out.mono ?_; rintro o w1 ⟨rfl, b1⟩
 go_wp2_with fail
 refine (HC2 _).out.mono ?_; rintro o w2 ⟨rfl, b2⟩
 have e1 := b1.out.size
 have e2 := b2.out.size
 simp at e1
 clear HC1 HC2
 go_wp2_with fail
 refine bodyPost_ret (v := .tuple #[.agg #[.int .i64 0, .int .i64 0, .slice none 0 0], .int .i64 5]) (by simp only [results, Tryz.results38]; go_simp) rfl ?_
 exact ⟨_, rfl, MuR.zero _ _ _ _ _, ⟨zbh⟩⟩
theorem zMh (w : World) [Tb w] (r c t : Nat) (a b : Option Addr) (cap cab : Nat) (X Y : Nat → Nat) (hr : r ≤ 15) (hc : c ≤ 15) (ht : t ≤ 15) [hA : FZ w a (r * c) cap X] [hB : FZ w b (c * t) cab Y] (hX : ∀ x, x < r * c → zB0 (X x) = true) (hY : ∀ x, x < c * t → zB0 (Y x) = true) :
 Calls Tryz.prog 37 #[.agg #[.int .i64 r, .int .i64 c, .slice a (r * c) cap], .agg #[.int .i64 c, .int .i64 t, .slice b (c * t) cab]] w fun o w' => ∃ v, o = .returned v ∧ MuR (mpn (zAp (zGV X Y r c) (r * t)) r) (mpn (zAp (zGV X Y r c) (r * t)) t) (mpn (zAp (zGV X Y r c) (r * t)) (r * t)) (zGV X Y r c) (mpe (zAp (zGV X Y r c) (r * t))) v w.heap.size w'.heap.size w' ∧ From w w' := by
 have HC1 := fun W [i : FZ W a (r * c) cap X] => Lib.hid (frm (zCo W r c a (r * c) cap X i.out))
 have HC2 := fun W [i : FZ W b (c * t) cab Y] => Lib.hid (frm (zCo W c t b (c * t) cab Y i.out))
 rw [zCA (show r ≤ 64 by omega) (show c ≤ 64 by omega) hX] at HC1
 rw [zCA (show c ≤ 64 by omega) (show t ≤ 64 by omega) hY] at HC2
 obtain ⟨D, hD⟩ : ∃ D, D = zGV X Y r c := ⟨_, rfl⟩
 have HD : Hid (∀ i j, i < r → D (j * r + i) = zAF (zBv (zDO X Y r c i j) c) 0) := Lib.hid fun i j h => by rw [hD]; exact zK6 h
 have HDB : Hid (∀ x, D x < 18446744073709551616) := Lib.hid fun x => by rw [hD]; exact zK5 _ _ _ _ _
 rw [← hD]
 have HXF : Hid (∀ i j, i < r → j < t → zBq (zDO X Y r c i j) c = zBv (zDO X Y r c i j) c) := Lib.hid fun i j hi hj => zEN hc (fun k hk => hX _ (zEA hi hk)) (fun k hk => hY _ (zEA hk hj))
 obtain ⟨N, hN⟩ : ∃ N, N = r * c := ⟨_, rfl⟩
 obtain ⟨M, hM⟩ : ∃ M, M = c * t := ⟨_, rfl⟩
 have HN := Lib.hid hN
 have HM := Lib.hid hM
 have hN4 : N ≤ 225 := by rw [hN]; exact Nat.mul_le_mul hr hc
 have hM4 : M ≤ 225 := by rw [hM]; exact Nat.mul_le_mul hc ht
 rw [← hN] at HC1 ⊢
 rw [← hM] at HC2 ⊢
 haveI hFa : FZ w a N cap X := by rw [hN]; exact hA
 haveI hFb : FZ w b M cab Y := by rw [hM]; exact hB
 clear hD hN hM hX hY hA hB
 go_enter Tryz.func37, Tryz.ntmps37
 go_wp2_with fail
 refine (HC1 _).out.mono ?_; rintro o w1 ⟨rfl, b1⟩
 go_wp2_with fail
 refine (HC2 _).out.mono ?_; rintro o w2 ⟨rfl, b2⟩
 have e1 := b1.out.size
 have e2 := b2.out.size
 simp at e1
 clear HC1 HC2
 go_wp2_with fail
 go_loopw [39] (fun x wr => ∃ (j : Nat) (v : Value), j ≤ t ∧ x = .int .i64 j ∧ zAp D (j * r) = true ∧ FO wr (w2.heap.size + 1) v (j * r) D ∧ N3 wr w2.heap.size (.int .i64 r) (.int .i64 t) v ∧ N3 wr (w.heap.size + 1 + 1) (.int .i64 0) (.int .i64 0) (.slice none 0 0) ∧ N3 wr (w.heap.size + 1) (.int .i64 c) (.int .i64 t) (.slice b M cab) ∧ N3 wr w.heap.size (.int .i64 r) (.int .i64 c) (.slice a N cap) ∧ Below w.heap.size w wr ∧ (w2.heap.size + 1) ≤ wr.heap.size) (fun x _ => t - (intOf x).toNat)
 case atStart => exact ⟨0, _, by omega, rfl, by rw [Nat.zero_mul]; rfl, by rw [Nat.zero_mul]; exact FO.nil _ _ _, inferInstance, inferInstance, inferInstance, inferInstance, zbh, by simp⟩
 case round =>
  obtain ⟨j, v, hj, rfl, hal, iM, iT, iO, iB, iA, hbr, hsz⟩ := hrel
  haveI bw : From w wr := ⟨hbr⟩
  by_cases hlt : j < t
  · obtain ⟨q, hq⟩ : ∃ q, q = j * r := ⟨_, rfl⟩
    have hq1 : q ≤ 225 := by rw [hq]; exact Nat.mul_le_mul (show j ≤ 15 by omega) hr
    have HQ := Lib.hid hq
    rw [← hq] at iM hal
    have HAL0 := Lib.hid hal
    clear hq hal
    go_wp2_with fail
    go_loopw [44] (fun x wr => ∃ (i : Nat) (v : Value), i ≤ r ∧ x = .int .i64 i ∧ zAp D (q + i) = true ∧ FO wr (w2.heap.size + 1) v (q + i) D ∧ N3 wr w2.heap.size (.int .i64 r) (.int .i64 t) v ∧ N3 wr (w.heap.size + 1 + 1) (.int .i64 0) (.int .i64 0) (.slice none 0 0) ∧ N3 wr (w.heap.size + 1) (.int .i64 c) (.int .i64 t) (.slice b M cab) ∧ N3 wr w.heap.size (.int .i64 r) (.int .i64 c) (.slice a N cap) ∧ Below w.heap.size w wr ∧ (w2.heap.size + 1) ≤ wr.heap.size) (fun x _ => r - (intOf x).toNat)
    case atStart => exact ⟨0, v, by omega, rfl, HAL0.out, inferInstance, inferInstance, inferInstance, inferInstance, inferInstance, zbh, hsz⟩
    case round =>
     clear iM iT iO iB iA hbr hsz bw HAL0
     rename World => wi
     obtain ⟨i, v, hi, rfl, hal, iM, iT, iO, iB, iA, hbr, hsz⟩ := hrel
     have HAL := Lib.hid hal
     clear hal
     haveI bw : From w wi := ⟨hbr⟩
     haveI G0 : BG wi (w2.heap.size + 1) := ⟨hsz⟩
     by_cases hlt2 : i < r
     · obtain ⟨G, hG⟩ : ∃ G, G = zDO X Y r c i j := ⟨_, rfl⟩
       have HG := Lib.hid hG
       have HGN : Hid (∀ k, IsN (G k)) := Lib.hid fun k => by rw [hG]; exact zDv _ _
       have HGD : Hid (D (q + i) = zAF (zBv G c) 0) := Lib.hid (by rw [hG, HQ.out]; exact HD.out i j hlt2)
       have HRS : Hid (zBq G c = zBv G c) := Lib.hid (by rw [hG]; exact HXF.out i j hlt2 hlt)
       clear hG
       go_wp2_with fail
       go_loopw [11, 49] (fun v x wk => ∃ (k : Nat) (A : Nat → Option Addr) (C : Nat → Nat), k ≤ c ∧ x = .int .i64 k ∧ DX wk wi.heap.size v k G A C ∧ Below wi.heap.size wi wk) (fun _ x _ => c - (intOf x).toNat)
       case atStart => exact ⟨0, _, _, by omega, rfl, ⟨(DM.nil wi wi.heap.size G).out⟩, Below.refl _ _⟩
       case round =>
        rename World => wk
        rename Value => tv
        obtain ⟨k, A, C, hk, rfl, iX, hbk⟩ := hrel
        haveI bwk : From wi wk := ⟨hbk⟩
        have ek := hbk.size
        clear hbk
        obtain ⟨ta, tc, hv9⟩ := zBs iX.out.own
        subst hv9
        by_cases hlt3 : k < c
        · obtain ⟨P1, hP1⟩ : ∃ P1, P1 = k * r := ⟨_, rfl⟩
          obtain ⟨P2, hP2⟩ : ∃ P2, P2 = j * c := ⟨_, rfl⟩
          have l1 : (k : Int) * (r : Int) = (P1 : Int) := by rw [hP1]; exact (Int.natCast_mul _ _).symm
          have l2 : (j : Int) * (c : Int) = (P2 : Int) := by rw [hP2]; exact (Int.natCast_mul _ _).symm
          have s1 : P1 + i < N := by rw [hP1, HN.out]; exact zEA hlt2 hlt3
          have s2 : P2 + k < M := by rw [hP2, HM.out]; exact zEA hlt3 hlt
          have hdc : G k = zCZ (fof (X (P1 + i))) (fof (Y (P2 + k))) := by rw [HG.out, hP1, hP2]; rfl
          have Fa : FZ wk a N cap X := inferInstance
          have Fb : FZ wk b M cab Y := inferInstance
          have g1 := Fa.out.idx _ s1
          have g2 := Fb.out.idx _ s2
          rw [show (((P1 + i : Nat)) : Int) = (P1 : Int) + (i : Int) by omega] at g1
          rw [show (((P2 + k : Nat)) : Int) = (P2 : Int) + (k : Int) by omega] at g2
          have n1 := Fa.out.b _ s1
          have n2 := Fb.out.b _ s2
          have c1' := Fa.out.cell _ s1
          have c2' := Fb.out.cell _ s2
          have ol1 := Fa.out.old (by omega)
          have ol2 := Fb.out.old (by omega)
          have x1 : IntKind.i64.wrap (P1 : Int) = (P1 : Int) := by rw [IntKind.wrap_i64]; omega
          have x2 : IntKind.i64.wrap ((P1 : Int) + (i : Int)) = (P1 : Int) + (i : Int) := by rw [IntKind.wrap_i64]; omega
          have x3 : IntKind.i64.wrap (P2 : Int) = (P2 : Int) := by rw [IntKind.wrap_i64]; omega
          have x4 : IntKind.i64.wrap ((P2 : Int) + (k : Int)) = (P2 : Int) + (k : Int) := by rw [IntKind.wrap_i64]; omega
          obtain ⟨o6, ho6⟩ : ∃ o6, o6 = P1 + i := ⟨_, rfl⟩
          obtain ⟨o7, ho7⟩ : ∃ o7, o7 = P2 + k := ⟨_, rfl⟩
          rw [← ho6] at g1 n1 c1' hdc
          rw [← ho7] at g2 n2 c2' hdc
          generalize X o6 = f6 at *
          generalize Y o7 = f7 at *
          haveI q1 : CE wk (ab a) (ao a + o6) (.int .u64 ((f6 : Nat) : Int)) := ⟨c1', ol1⟩
          haveI q2 : CE wk (ab b) (ao b + o7) (.int .u64 ((f7 : Nat) : Int)) := ⟨c2', ol2⟩
          clear hP1 hP2 ho6 ho7 Fa Fb c1' c2' ol1 ol2 s1 s2
          have HO1 := fun W [Tb W] => Lib.hid (frF (zFw W f6 n1 tb))
          have HO2 := fun W [Tb W] => Lib.hid (frF (zFw W f7 n2 tb))
          have HMU := fun W a c a' c' [i : BI W a (nl (zA1 (fof f6)).natAbs) c (zA1 (fof f6)).natAbs] [j : BI W a' (nl (zA1 (fof f7)).natAbs) c' (zA1 (fof f7)).natAbs] [Tb W] => Lib.hid (frF (zHT W _ _ _ _ a a' _ _ c c' _ _ (fof f6) (fof f7) (zAI (zBI f6) i.out) (zAI (zBI f7) j.out) tb))
          obtain ⟨dk, hdk⟩ : ∃ dk, dk = zCZ (fof f6) (fof f7) := ⟨_, rfl⟩
          rw [← hdk] at HMU hdc
          have HDC := Lib.hid hdc
          generalize ((f6 : Nat) : Int) = fi6 at *
          generalize ((f7 : Nat) : Int) = fi7 at *
          clear hdc hdk n1 n2
          go_wp2_with fail
          refine bgj (fun w' => Below wk.heap.size wk w') [25, 26] (by kernel_rfl) (zbh) (fun hHeld => ?_)
          simp only [List.size_toArray, List.length_cons, List.length_nil, Nat.reduceAdd, Array.replicate_succ, Array.replicate_zero, List.push_toArray, List.nil_append, List.cons_append]
          refine tk 0 52 [25, 26] ?_
          refine tk 1 53 [2, 9, 10, 11, 22, 23, 24, 25, 26] ?_
          refine tk 2 54 [9, 10, 11, 22, 23, 24, 25, 26] ?_
          refine tk 3 55 [6, 8, 9, 10, 11, 22, 23, 24, 25, 26] ?_
          refine tk 4 56 [5, 6, 8, 9, 10, 11, 22, 23, 24, 25, 26] ?_
          refine tk 5 57 [6, 8, 9, 10, 11, 22, 23, 24, 25, 26] ?_
          refine tk 6 58 [8, 9, 10, 11, 22, 23, 24, 25, 26] ?_
          refine tk 7 59 [8, 9, 10, 11, 22, 23, 24, 25, 26] ?_
          refine tk 8 60 [9, 10, 11, 22, 23, 24, 25, 26] ?_
          refine tk 9 61 [10, 11, 22, 23, 24, 25, 26] ?_
          refine tk 10 62 [11, 22, 23, 24, 25, 26] ?_
          refine tk 12 64 [13, 20, 21, 22, 23, 24, 25, 26] ?_
          refine tk 13 65 [20, 21, 22, 23, 24, 25, 26] ?_
          refine tk 14 66 [17, 19, 20, 21, 22, 23, 24, 25, 26] ?_
          refine tk 15 67 [16, 17, 19, 20, 21, 22, 23, 24, 25, 26] ?_
          refine tk 16 68 [17, 19, 20, 21, 22, 23, 24, 25, 26] ?_
          refine tk 17 69 [19, 20, 21, 22, 23, 24, 25, 26] ?_
          refine tk 18 70 [19, 20, 21, 22, 23, 24, 25, 26] ?_
          refine tk 19 71 [20, 21, 22, 23, 24, 25, 26] ?_
          refine tk 20 72 [21, 22, 23, 24, 25, 26] ?_
          refine tk 21 73 [22, 23, 24, 25, 26] ?_
          refine stj 11 (h := fun K hK => ?_)
          go_simp
          go_at_call 77; refine (HO1 _).out.mono ?_; rintro o z1 ⟨a1, c1, rfl, i1, b1, f1⟩
          go_simp
          refine hK.out _ _ (Or.inr zbh) ?_
          clear hK K
          try simp only [List.setIfInBounds_toArray, List.set_cons_zero, List.set_cons_succ]
          refine stj 22 (h := fun K hK => ?_)
          go_simp
          go_at_call 77; refine (HO2 _).out.mono ?_; rintro o z2 ⟨a2, c2, rfl, i2, b2, f2⟩
          go_simp
          refine hK.out _ _ (Or.inr zbh) ?_
          clear hK K
          try simp only [List.setIfInBounds_toArray, List.set_cons_zero, List.set_cons_succ]
          refine stj 23 (h := fun K hK => ?_)
          go_simp
          go_at_call 76; refine (HMU _ _ _ _ _).out.mono ?_; rintro o z3 ⟨a4, c4, rfl, i4, b4, f4⟩
          go_simp
          refine hK.out _ _ (Or.inr zbh) ?_
          clear hK K
          try simp only [List.setIfInBounds_toArray, List.set_cons_zero, List.set_cons_succ]
          refine stj 24 (h := fun K hK => ?_)
          go_simp
          refine hK.out _ _ (Or.inr zbh) ?_
          clear hK K
          try simp only [List.setIfInBounds_toArray, List.set_cons_zero, List.set_cons_succ]
          refine stj 25 (h := fun K hK => ?_)
          refine zBK (by rfl) _ _ (by rfl) wi.heap.size (.slice ta k tc) k (zAm (zBe G A C) k) (by rfl) _ (zA3 dk) (decide (zA1 dk < 0)) (.slice a4 (nl (zA1 dk).natAbs) c4) (zA2 dk) (by rfl) (by rfl) (inferInstance : DX (z3.alloc (.cells #[.bool (zA3 dk), .bool (decide (zA1 dk < 0)), .slice a4 (nl (zA1 dk).natAbs) c4, .int .i64 (zA2 dk)] 46)) wi.heap.size (.slice ta k tc) k G A C).out.own (by go_simp) (by go_simp) (by go_simp) (by go_simp) (by omega) (by have q1 := b1.out.size; have q2 := b2.out.size; have q4 := b4.out.size; simp at q1 q2 q4 ⊢; omega) ?_
          intro g6 cap6 w6 hown6 hg6 hob6
          have AA : Hid (DX (z3.alloc (.cells #[.bool (zA3 dk), .bool (decide (zA1 dk < 0)), .slice a4 (nl (zA1 dk).natAbs) c4, .int .i64 (zA2 dk)] 46)) wi.heap.size (.slice ta k tc) k G A C) := Lib.hid inferInstance
          have LL : Hid (Below wi.heap.size wi (z3.alloc (.cells #[.bool (zA3 dk), .bool (decide (zA1 dk < 0)), .slice a4 (nl (zA1 dk).natAbs) c4, .int .i64 (zA2 dk)] 46))) := Lib.hid zbh
          refine hK.out _ _ (Or.inl (by decide)) ?_
          clear hK K
          try simp only [Act.put, List.setIfInBounds_toArray, List.set_cons_zero, List.set_cons_succ]
          refine stj 26 (h := fun K hK => ?_)
          go_simp
          refine hK.out _ _ (Or.inl (by decide)) ?_
          clear hK K
          try simp only [List.setIfInBounds_toArray, List.set_cons_zero, List.set_cons_succ]
          refine enj (by kernel_rfl) ?_ _
          have q3 := b1.out.size
          have q4 := b2.out.size
          have q5 := b4.out.size
          simp at q3 q4 q5
          have hne : 0 < nl (zA1 dk).natAbs → some (ab a4) ≠ Value.ownBlock (.slice ta k tc) := fun h q => by have h1 := (iX.out.own.lt _ q.symm).2; have h2 := f4 h; omega
          have X5 := AA.out.app HDC.out hown6 hg6 hob6 (i4.out.alloc _) hne
          have L5 : Below wi.heap.size wi w6 := LL.out.trans (zB3 AA.out.out.own hg6 (by simp; omega))
          clear hown6 hg6 hob6 AA LL HO1 HO2 HMU
          go_wp2_with fail
          go_roundw
          case rel => exact ⟨k + 1, _, _, by omega, by go_num, X5, L5⟩
          case measure => simp [intOf]; omega
        · have hck : k = c := by omega
          subst hck
          obtain ⟨ds, hds⟩ : ∃ ds, ds = zBv G k := ⟨_, rfl⟩
          have HSUM := fun W (bx : Below wk.heap.size wk W) [Tb W] => Lib.hid (frF (by
           haveI bx' : From wk W := ⟨bx⟩
           have d6 : DX W wi.heap.size (.slice ta k tc) k G A C := inferInstance
           obtain ⟨oa', oc', hv', hZ'⟩ := zKH (tb (w := W)) d6.out HGN.out (show k ≤ 1048576 by omega)
           have hv1 : oa' = ta := by injection hv' with h1 h2 h3; exact h1.symm
           have hv3 : oc' = tc := by injection hv' with h1 h2 h3; exact h3.symm
           rw [hv1, hv3] at hZ'
           exact hZ'))
          rw [← hds] at HSUM
          have HDS : Hid (D (q + i) = zAF ds 0) := Lib.hid (by rw [hds]; exact HGD.out)
          have hNds : IsN ds := by rw [hds]; exact zKj _ _
          have HR := fun W a c [i1 : BI W a (nl (zA1 ds).natAbs) c (zA1 ds).natAbs] [Tb W] => Lib.hid (frm (zIJ W (zA3 ds) (decide (zA1 ds < 0)) a _ c (zA2 ds) 0 ds (zAI hNds i1.out) tb))
          have HF := fun W => Lib.hid (frw (zFz W (zAF ds 0)))
          have hlY := zDx ds 0
          generalize zAF ds 0 = y at *
          clear hds hNds
          go_wp2_with fail
          refine (HSUM _ (by exact zbh)).out.mono ?_; rintro o w3 ⟨a3, c3, rfl, i3, b3, f3⟩
          go_wp2_with fail
          refine (HR _ _ _).out.mono ?_; rintro o w4 ⟨rfl, b4⟩
          clear HSUM HR
          cases hy : zB0 y with
          | true =>
           rw [hy] at HF
           have HY := Lib.hid hy
           clear hy
           go_wp2_with fail
           refine (HF _).out.mono ?_; rintro o w5 ⟨rfl, b5⟩
           have A1 : Hid (FO (w5.alloc (.cells #[.int .u64 ((y : Nat) : Int)] 40)) (w2.heap.size + 1) v (q + i) D) := Lib.hid inferInstance
           have A2 : Hid (BL (w2.heap.size + 1) wi (w5.alloc (.cells #[.int .u64 ((y : Nat) : Int)] 40))) := Lib.hid inferInstance
           have A3 : Hid (Beh w (w5.alloc (.cells #[.int .u64 ((y : Nat) : Int)] 40))) := Lib.hid inferInstance
           have A4 : Hid (BG (w5.alloc (.cells #[.int .u64 ((y : Nat) : Int)] 40)) (w2.heap.size + 1)) := Lib.hid inferInstance
           clear HF
           go_wp2_with (at_builtin; refine zF0 rfl _ _ rfl (w2.heap.size + 1) v (q + i) (zAX D (q + i)) rfl _ ((y : Nat) : Int) rfl A1.out.out (by go_simp) (by omega) A4.out.out ?_; intro v6 w6 hown6 hg6 hob6; obtain ⟨o6, c6, rfl⟩ := zBs hown6; haveI := A2.out; haveI := A3.out; haveI := A4.out; obtain ⟨M6, f6, G6, L6⟩ := FO.step (w0 := w) (wr := wi) A1.out (by omega) HDS.out hown6 hg6; haveI iT6 := N3.lo iT L6.out (by omega))
           have C9 := M6.sen (show w2.heap.size < (w2.heap.size + 1) by omega) 2 (.slice o6 (q + i + 1) c6)
           have E1 := N3.se2 iT6 (.slice o6 (q + i + 1) c6)
           have E2 := N3.sen (N3.lo iO L6.out (by omega)) (show w.heap.size + 1 + 1 ≠ w2.heap.size by omega) 2 (.slice o6 (q + i + 1) c6)
           have E3 := N3.sen (N3.lo iB L6.out (by omega)) (show w.heap.size + 1 ≠ w2.heap.size by omega) 2 (.slice o6 (q + i + 1) c6)
           have E4 := N3.sen (N3.lo iA L6.out (by omega)) (show w.heap.size ≠ w2.heap.size by omega) 2 (.slice o6 (q + i + 1) c6)
           have B9 : Below w.heap.size w (w6.setCell ⟨w2.heap.size, 2, none⟩ (.slice o6 (q + i + 1) c6)) := f6.out.setCell (by show w.heap.size ≤ w2.heap.size; omega) _
           have S9 : (w2.heap.size + 1) ≤ (w6.setCell ⟨w2.heap.size, 2, none⟩ (.slice o6 (q + i + 1) c6)).heap.size := by rw [World.size_setCell]; exact G6.out
           have HAF : Hid (zAp D (q + i + 1) = true) := Lib.hid (zGA HAL.out (by rw [HDS.out]; exact HY.out))
           generalize (w6.setCell ⟨w2.heap.size, 2, none⟩ (.slice o6 (q + i + 1) c6)) = w9 at *
           clear M6 f6 G6 L6 A1 A2 A3 A4 iT6
           go_wp2_with fail
           go_roundw
           case rel => exact ⟨i + 1, _, by omega, by go_num, HAF.out, C9, E1, E2, E3, E4, B9, S9⟩
           case measure => simp [intOf]; omega
          | false =>
           rw [hy] at HF
           have HE : Hid (zAp D (r * t) = false) := Lib.hid (zF1 (i := q + i) (by have h1 := zEA hlt2 hlt; rwa [← HQ.out] at h1) (by rw [HDS.out]; exact hy))
           clear hy
           go_wp2_with fail
           refine (HF _).out.mono ?_; rintro o w5 ⟨rfl, b5⟩
           haveI iO5 : N3 w5 (w.heap.size + 1 + 1) (.int .i64 0) (.int .i64 0) (.slice none 0 0) := inferInstance
           have L5 : Below w.heap.size w w5 := zbh
           clear HF
           go_wp2_with fail
           refine bodyPost_ret (v := .tuple #[.agg #[.int .i64 0, .int .i64 0, .slice none 0 0], .int .i64 233]) (by simp only [results, Tryz.results37]; go_simp) rfl ?_
           refine ⟨_, rfl, ?_, ⟨((L5.setCell (p := ⟨w.heap.size + 1 + 1, 0, none⟩) (by show w.heap.size ≤ w.heap.size + 1 + 1; omega) _).setCell (p := ⟨w.heap.size + 1 + 1, 1, none⟩) (by show w.heap.size ≤ w.heap.size + 1 + 1; omega) _).setCell (p := ⟨w.heap.size + 1 + 1, 2, none⟩) (by show w.heap.size ≤ w.heap.size + 1 + 1; omega) _⟩⟩
           rw [HE.out]; exact MuR.zero _ _ _ _ _
     · have hir : i = r := by omega
       subst hir
       have hM : FO wi (w2.heap.size + 1) v ((j + 1) * i) D := by rw [Nat.add_mul, Nat.one_mul, ← HQ.out]; exact iM
       have hA' : Hid (zAp D ((j + 1) * i) = true) := Lib.hid (by rw [Nat.add_mul, Nat.one_mul, ← HQ.out]; exact HAL.out)
       clear iM
       go_wp2_with fail
       go_roundw
       case rel => exact ⟨j + 1, v, by omega, by go_num, hA'.out, hM, iT, iO, iB, iA, hbr, hsz⟩
       case measure => simp [intOf]; omega
  · have hjt : j = t := by omega
    subst hjt
    have HAF : Hid (zAp D (r * j) = true) := Lib.hid (by rw [Nat.mul_comm]; exact hal)
    obtain ⟨K, hK⟩ : ∃ K, K = j * r := ⟨_, rfl⟩
    have HK := Lib.hid hK
    rw [← hK] at iM
    clear hal hK
    obtain ⟨ea, ec, hv⟩ := zBs iM.out
    subst hv
    have hl : w.heap.size + 1 + 1 < (w2.heap.size + 1) := by omega
    have M6 := ((iM.sen hl 0 (.int .i64 r)).sen hl 1 (.int .i64 j)).sen hl 2 (.slice ea K ec)
    have L6 : From w (((wr.setCell ⟨w.heap.size + 1 + 1, 0, none⟩ (.int .i64 r)).setCell ⟨w.heap.size + 1 + 1, 1, none⟩ (.int .i64 j)).setCell ⟨w.heap.size + 1 + 1, 2, none⟩ (.slice ea K ec)) := ⟨((hbr.setCell (by show w.heap.size ≤ w.heap.size + 1 + 1; omega) _).setCell (by show w.heap.size ≤ w.heap.size + 1 + 1; omega) _).setCell (by show w.heap.size ≤ w.heap.size + 1 + 1; omega) _⟩
    go_wp2_with fail
    refine bodyPost_ret (v := .tuple #[.agg #[.int .i64 r, .int .i64 j, .slice ea K ec], .int .i64 0]) (by simp only [results, Tryz.results37]; go_simp) rfl ?_
    refine ⟨_, rfl, ?_, L6⟩
    rw [HAF.out, show r * j = K by rw [HK.out, Nat.mul_comm]]
    exact ⟨ea, ec, rfl, M6.fw (by omega) (fun x _ => HDB.out x)⟩
theorem zLx (w : World) [Tb w] (r c t : Nat) (a b : Option Addr) (cap cab : Nat) (X Y : Nat → Nat) (hr : r ≤ 15) (hc : c ≤ 15) (ht : t ≤ 15) [hA : FZ w a (r * c) cap X] [hB : FZ w b (c * t) cab Y] (hX : ∀ x, x < r * c → zB0 (X x) = true) (hY : ∀ x, x < c * t → zB0 (Y x) = true) :
 Calls Tryz.prog 38 #[.agg #[.int .i64 r, .int .i64 c, .slice a (r * c) cap], .agg #[.int .i64 c, .int .i64 t, .slice b (c * t) cab]] w fun o w' => ∃ v, o = .returned v ∧ MuR (mpn (zAp (zGV X Y r c) (r * t)) r) (mpn (zAp (zGV X Y r c) (r * t)) t) (mpn (zAp (zGV X Y r c) (r * t)) (r * t)) (zGV X Y r c) (mpe (zAp (zGV X Y r c) (r * t))) v w.heap.size w'.heap.size w' ∧ From w w' := by
 have HC1 := fun W [i : FZ W a (r * c) cap X] => Lib.hid (frm (zCj W r c a (r * c) cap X i.out))
 have HC2 := fun W [i : FZ W b (c * t) cab Y] => Lib.hid (frm (zCj W c t b (c * t) cab Y i.out))
 rw [zCA (show r ≤ 64 by omega) (show c ≤ 64 by omega) hX] at HC1
 rw [zCA (show c ≤ 64 by omega) (show t ≤ 64 by omega) hY] at HC2
 obtain ⟨D, hD⟩ : ∃ D, D = zGV X Y r c := ⟨_, rfl⟩
 have HD : Hid (∀ i j, i < r → D (j * r + i) = zAF (zBv (zDO X Y r c i j) c) 0) := Lib.hid fun i j h => by rw [hD]; exact zK6 h
 have HDB : Hid (∀ x, D x < 18446744073709551616) := Lib.hid fun x => by rw [hD]; exact zK5 _ _ _ _ _
 rw [← hD]
 have HXF : Hid (∀ i j, i < r → j < t → zBq (zDO X Y r c i j) c = zBv (zDO X Y r c i j) c) := Lib.hid fun i j hi hj => zEN hc (fun k hk => hX _ (zEA hi hk)) (fun k hk => hY _ (zEA hk hj))
 obtain ⟨N, hN⟩ : ∃ N, N = r * c := ⟨_, rfl⟩
 obtain ⟨M, hM⟩ : ∃ M, M = c * t := ⟨_, rfl⟩
 have HN := Lib.hid hN
 have HM := Lib.hid hM
 have hN4 : N ≤ 225 := by rw [hN]; exact Nat.mul_le_mul hr hc
 have hM4 : M ≤ 225 := by rw [hM]; exact Nat.mul_le_mul hc ht
 rw [← hN] at HC1 ⊢
 rw [← hM] at HC2 ⊢
 haveI hFa : FZ w a N cap X := by rw [hN]; exact hA
 haveI hFb : FZ w b M cab Y := by rw [hM]; exact hB
 clear hD hN hM hX hY hA hB
 go_enter Tryz.func38, Tryz.ntmps38
 go_wp2_with fail
 refine (HC1 _).out.mono ?_; rintro o w1 ⟨rfl, b1⟩
 go_wp2_with fail
 refine (HC2 _).out.mono ?_; rintro o w2 ⟨rfl, b2⟩
 have e1 := b1.out.size
 have e2 := b2.out.size
 simp at e1
 clear HC1 HC2
 go_wp2_with fail
 go_loopw [9] (fun x wr => ∃ (j : Nat) (v : Value), j ≤ t ∧ x = .int .i64 j ∧ zAp D (j * r) = true ∧ FO wr (w2.heap.size + 1) v (j * r) D ∧ N3 wr w2.heap.size (.int .i64 r) (.int .i64 t) v ∧ N3 wr (w.heap.size + 1 + 1) (.int .i64 0) (.int .i64 0) (.slice none 0 0) ∧ N3 wr (w.heap.size + 1) (.int .i64 c) (.int .i64 t) (.slice b M cab) ∧ N3 wr w.heap.size (.int .i64 r) (.int .i64 c) (.slice a N cap) ∧ Below w.heap.size w wr ∧ (w2.heap.size + 1) ≤ wr.heap.size) (fun x _ => t - (intOf x).toNat)
 case atStart => exact ⟨0, _, by omega, rfl, by rw [Nat.zero_mul]; rfl, by rw [Nat.zero_mul]; exact FO.nil _ _ _, inferInstance, inferInstance, inferInstance, inferInstance, zbh, by simp⟩
 case round =>
  obtain ⟨j, v, hj, rfl, hal, iM, iT, iO, iB, iA, hbr, hsz⟩ := hrel
  haveI bw : From w wr := ⟨hbr⟩
  by_cases hlt : j < t
  · obtain ⟨q, hq⟩ : ∃ q, q = j * r := ⟨_, rfl⟩
    have hq1 : q ≤ 225 := by rw [hq]; exact Nat.mul_le_mul (show j ≤ 15 by omega) hr
    have HQ := Lib.hid hq
    rw [← hq] at iM hal
    have HAL0 := Lib.hid hal
    clear hq hal
    go_wp2_with fail
    go_loopw [10] (fun x wr => ∃ (i : Nat) (v : Value), i ≤ r ∧ x = .int .i64 i ∧ zAp D (q + i) = true ∧ FO wr (w2.heap.size + 1) v (q + i) D ∧ N3 wr w2.heap.size (.int .i64 r) (.int .i64 t) v ∧ N3 wr (w.heap.size + 1 + 1) (.int .i64 0) (.int .i64 0) (.slice none 0 0) ∧ N3 wr (w.heap.size + 1) (.int .i64 c) (.int .i64 t) (.slice b M cab) ∧ N3 wr w.heap.size (.int .i64 r) (.int .i64 c) (.slice a N cap) ∧ Below w.heap.size w wr ∧ (w2.heap.size + 1) ≤ wr.heap.size) (fun x _ => r - (intOf x).toNat)
    case atStart => exact ⟨0, v, by omega, rfl, HAL0.out, inferInstance, inferInstance, inferInstance, inferInstance, inferInstance, zbh, hsz⟩
    case round =>
     clear iM iT iO iB iA hbr hsz bw HAL0
     rename World => wi
     obtain ⟨i, v, hi, rfl, hal, iM, iT, iO, iB, iA, hbr, hsz⟩ := hrel
     have HAL := Lib.hid hal
     clear hal
     haveI bw : From w wi := ⟨hbr⟩
     haveI G0 : BG wi (w2.heap.size + 1) := ⟨hsz⟩
     by_cases hlt2 : i < r
     · obtain ⟨G, hG⟩ : ∃ G, G = zDO X Y r c i j := ⟨_, rfl⟩
       have HG := Lib.hid hG
       have HGN : Hid (∀ k, IsN (G k)) := Lib.hid fun k => by rw [hG]; exact zDv _ _
       have HGD : Hid (D (q + i) = zAF (zBv G c) 0) := Lib.hid (by rw [hG, HQ.out]; exact HD.out i j hlt2)
       have HRS : Hid (zBq G c = zBv G c) := Lib.hid (by rw [hG]; exact HXF.out i j hlt2 hlt)
       clear hG
       go_wp2_with fail
       have DB0 : DB (wi.alloc (.cells #[.bool false, .bool false, .slice none 0 0, .int .i64 0] 46)) wi.heap.size (zA3 (zBq G 0)) (decide (zA1 (zBq G 0) < 0)) (.slice none (nl (zA1 (zBq G 0)).natAbs) 0) (zA2 (zBq G 0)) := (inferInstance : DB (wi.alloc (.cells #[.bool false, .bool false, .slice none 0 0, .int .i64 0] 46)) wi.heap.size false false (.slice none 0 0) 0)
       have BI0 : BI (wi.alloc (.cells #[.bool false, .bool false, .slice none 0 0, .int .i64 0] 46)) none (nl (zA1 (zBq G 0)).natAbs) 0 (zA1 (zBq G 0)).natAbs := ⟨Mag.nil _⟩
       have L0 : Below wi.heap.size wi (wi.alloc (.cells #[.bool false, .bool false, .slice none 0 0, .int .i64 0] 46)) := zbh
       go_loopw [12] (fun x wk => ∃ (k : Nat) (A : Option Addr) (C : Nat), k ≤ c ∧ x = .int .i64 k ∧ DB wk wi.heap.size (zA3 (zBq G k)) (decide (zA1 (zBq G k) < 0)) (.slice A (nl (zA1 (zBq G k)).natAbs) C) (zA2 (zBq G k)) ∧ BI wk A (nl (zA1 (zBq G k)).natAbs) C (zA1 (zBq G k)).natAbs ∧ Below wi.heap.size wi wk) (fun x _ => c - (intOf x).toNat)
       case atStart => exact ⟨0, _, _, by omega, rfl, DB0, BI0, L0⟩
       case round =>
        clear DB0 BI0 L0
        rename World => wk
        obtain ⟨k, A, C, hk, rfl, iD, iI, hbk⟩ := hrel
        haveI bwk : From wi wk := ⟨hbk⟩
        have ek := hbk.size
        have hlD : wi.heap.size < wk.heap.size := iD.out.lt
        clear hbk
        by_cases hlt3 : k < c
        · obtain ⟨P1, hP1⟩ : ∃ P1, P1 = k * r := ⟨_, rfl⟩
          obtain ⟨P2, hP2⟩ : ∃ P2, P2 = j * c := ⟨_, rfl⟩
          have l1 : (k : Int) * (r : Int) = (P1 : Int) := by rw [hP1]; exact (Int.natCast_mul _ _).symm
          have l2 : (j : Int) * (c : Int) = (P2 : Int) := by rw [hP2]; exact (Int.natCast_mul _ _).symm
          have s1 : P1 + i < N := by rw [hP1, HN.out]; exact zEA hlt2 hlt3
          have s2 : P2 + k < M := by rw [hP2, HM.out]; exact zEA hlt3 hlt
          have hdc : G k = zCZ (fof (X (P1 + i))) (fof (Y (P2 + k))) := by rw [HG.out, hP1, hP2]; rfl
          have Fa : FZ wk a N cap X := inferInstance
          have Fb : FZ wk b M cab Y := inferInstance
          have g1 := Fa.out.idx _ s1
          have g2 := Fb.out.idx _ s2
          rw [show (((P1 + i : Nat)) : Int) = (P1 : Int) + (i : Int) by omega] at g1
          rw [show (((P2 + k : Nat)) : Int) = (P2 : Int) + (k : Int) by omega] at g2
          have n1 := Fa.out.b _ s1
          have n2 := Fb.out.b _ s2
          have c1' := Fa.out.cell _ s1
          have c2' := Fb.out.cell _ s2
          have ol1 := Fa.out.old (by omega)
          have ol2 := Fb.out.old (by omega)
          have x1 : IntKind.i64.wrap (P1 : Int) = (P1 : Int) := by rw [IntKind.wrap_i64]; omega
          have x2 : IntKind.i64.wrap ((P1 : Int) + (i : Int)) = (P1 : Int) + (i : Int) := by rw [IntKind.wrap_i64]; omega
          have x3 : IntKind.i64.wrap (P2 : Int) = (P2 : Int) := by rw [IntKind.wrap_i64]; omega
          have x4 : IntKind.i64.wrap ((P2 : Int) + (k : Int)) = (P2 : Int) + (k : Int) := by rw [IntKind.wrap_i64]; omega
          obtain ⟨o6, ho6⟩ : ∃ o6, o6 = P1 + i := ⟨_, rfl⟩
          obtain ⟨o7, ho7⟩ : ∃ o7, o7 = P2 + k := ⟨_, rfl⟩
          rw [← ho6] at g1 n1 c1' hdc
          rw [← ho7] at g2 n2 c2' hdc
          generalize X o6 = f6 at *
          generalize Y o7 = f7 at *
          haveI q1 : CE wk (ab a) (ao a + o6) (.int .u64 ((f6 : Nat) : Int)) := ⟨c1', ol1⟩
          haveI q2 : CE wk (ab b) (ao b + o7) (.int .u64 ((f7 : Nat) : Int)) := ⟨c2', ol2⟩
          clear hP1 hP2 ho6 ho7 Fa Fb c1' c2' ol1 ol2 s1 s2
          have HP := fun W [Tb W] => Lib.hid (frF (zE7 W f6 f7 n1 n2))
          have HAK : Hid (zEX (zBq G k) (zCZ (fof f6) (fof f7)) = zBq G (k + 1)) := Lib.hid (by rw [← hdc]; rfl)
          have HRN := Lib.hid (zLX G k)
          obtain ⟨rk1, hk1⟩ : ∃ rk1, rk1 = zBq G (k + 1) := ⟨_, rfl⟩
          rw [← hk1] at HAK
          have HK1 := Lib.hid hk1
          clear hk1
          generalize zBq G k = rk at *
          have HAD := fun W a c a' c' [i : BI W a (nl (zA1 rk).natAbs) c (zA1 rk).natAbs] [j : BI W a' (nl (zA1 (zCZ (fof f6) (fof f7))).natAbs) c' (zA1 (zCZ (fof f6) (fof f7))).natAbs] [Tb W] => Lib.hid (frF (zGa W _ _ _ _ a a' _ _ c c' _ _ rk (zCZ (fof f6) (fof f7)) (zBp HRN.out i.out) (zBp (zDv _ _) j.out) tb))
          rw [HAK.out] at HAD
          generalize zCZ (fof f6) (fof f7) = dk at *
          generalize ((f6 : Nat) : Int) = fi6 at *
          generalize ((f7 : Nat) : Int) = fi7 at *
          clear hdc n1 n2 HAK
          go_wp2_with fail
          refine bgj (fun w' => Below wk.heap.size wk w') [23] (by kernel_rfl) (zbh) (fun hHeld => ?_)
          simp only [List.size_toArray, List.length_cons, List.length_nil, Nat.reduceAdd, Array.replicate_succ, Array.replicate_zero, List.push_toArray, List.nil_append, List.cons_append]
          refine tk 0 56 [22, 23] ?_
          refine tk 1 57 [2, 9, 10, 21, 22, 23] ?_
          refine tk 2 58 [9, 10, 21, 22, 23] ?_
          refine tk 3 59 [6, 8, 9, 10, 21, 22, 23] ?_
          refine tk 4 60 [5, 6, 8, 9, 10, 21, 22, 23] ?_
          refine tk 5 61 [6, 8, 9, 10, 21, 22, 23] ?_
          refine tk 6 62 [8, 9, 10, 21, 22, 23] ?_
          refine tk 7 63 [8, 9, 10, 21, 22, 23] ?_
          refine tk 8 64 [9, 10, 21, 22, 23] ?_
          refine tk 9 65 [10, 21, 22, 23] ?_
          refine tk 10 66 [21, 22, 23] ?_
          refine tk 11 67 [12, 19, 20, 21, 22, 23] ?_
          refine tk 12 68 [19, 20, 21, 22, 23] ?_
          refine tk 13 69 [16, 18, 19, 20, 21, 22, 23] ?_
          refine tk 14 70 [15, 16, 18, 19, 20, 21, 22, 23] ?_
          refine tk 15 71 [16, 18, 19, 20, 21, 22, 23] ?_
          refine tk 16 72 [18, 19, 20, 21, 22, 23] ?_
          refine tk 17 73 [18, 19, 20, 21, 22, 23] ?_
          refine tk 18 74 [19, 20, 21, 22, 23] ?_
          refine tk 19 75 [20, 21, 22, 23] ?_
          refine tk 20 76 [21, 22, 23] ?_
          refine stj 21 (h := fun K hK => ?_)
          go_simp
          go_at_call 80; refine (HP _).out.mono ?_; rintro o z1 ⟨a1, c1, rfl, i1, b1, f1⟩
          go_simp
          refine hK.out _ _ (Or.inr zbh) ?_
          clear hK K
          try simp only [List.setIfInBounds_toArray, List.set_cons_zero, List.set_cons_succ]
          refine stj 22 (h := fun K hK => ?_)
          go_simp
          go_at_call 74; refine (HAD _ _ _ _ _).out.mono ?_; rintro o z2 ⟨a2, c2, rfl, i2, b2, f2⟩
          go_simp
          refine hK.out _ _ (Or.inr zbh) ?_
          clear hK K
          try simp only [List.setIfInBounds_toArray, List.set_cons_zero, List.set_cons_succ]
          refine stj 23 (h := fun K hK => ?_)
          go_simp
          refine hK.out _ _ (Or.inl (by decide)) ?_
          clear hK K
          try simp only [List.setIfInBounds_toArray, List.set_cons_zero, List.set_cons_succ]
          refine enj (by kernel_rfl) ?_ _
          have q3 := b1.out.size
          have q4 := b2.out.size
          simp at q3 q4
          have hne : 0 < nl (zA1 rk1).natAbs → ab a2 ≠ wi.heap.size := fun h e => by have h2 := f2 h; omega
          have L5 : Below wi.heap.size wi z2 := zbh
          have D5 := DB.pt4 (inferInstance : DB z2 wi.heap.size (zA3 rk) (decide (zA1 rk < 0)) (.slice A (nl (zA1 rk).natAbs) C) (zA2 rk)) (zA3 rk1) (decide (zA1 rk1 < 0)) (.slice a2 (nl (zA1 rk1).natAbs) c2) (zA2 rk1)
          have I5 : BI _ a2 (nl (zA1 rk1).natAbs) c2 (zA1 rk1).natAbs := ⟨Mag.st4 i2.out hne (.bool (zA3 rk1)) (.bool (decide (zA1 rk1 < 0))) (.slice a2 (nl (zA1 rk1).natAbs) c2) (.int .i64 (zA2 rk1))⟩
          have L6 := (((L5.setCell (p := ⟨wi.heap.size, 0, none⟩) (Nat.le_refl _) (.bool (zA3 rk1))).setCell (p := ⟨wi.heap.size, 1, none⟩) (Nat.le_refl _) (.bool (decide (zA1 rk1 < 0)))).setCell (p := ⟨wi.heap.size, 2, none⟩) (Nat.le_refl _) (.slice a2 (nl (zA1 rk1).natAbs) c2)).setCell (p := ⟨wi.heap.size, 3, none⟩) (Nat.le_refl _) (.int .i64 (zA2 rk1))
          clear HP HAD
          go_wp2_with fail
          go_roundw
          case rel => exact ⟨k + 1, a2, c2, by omega, by go_num, by rw [← HK1.out]; exact D5, by rw [← HK1.out]; exact I5, L6⟩
          case measure => simp [intOf]; omega
        · have hck : k = c := by omega
          subst hck
          have hrs : zBq G k = zBv G k := HRS.out
          rw [hrs] at iD iI
          obtain ⟨ds, hds⟩ : ∃ ds, ds = zBv G k := ⟨_, rfl⟩
          rw [← hds] at iD iI
          have HDS : Hid (D (q + i) = zAF ds 0) := Lib.hid (by rw [hds]; exact HGD.out)
          have HNds := Lib.hid (show IsN ds by rw [hds]; exact zKj _ _)
          have HR := fun W a c [i1 : BI W a (nl (zA1 ds).natAbs) c (zA1 ds).natAbs] [Tb W] => Lib.hid (by
           haveI x1 : DS W (zA3 ds) (decide (zA1 ds < 0)) a (nl (zA1 ds).natAbs) c (zA2 ds) ds := ⟨zBp HNds.out i1.out⟩
           exact frm (zGc W (zA3 ds) (decide (zA1 ds < 0)) a (nl (zA1 ds).natAbs) c (zA2 ds) ds))
          have HF := fun W => Lib.hid (frw (zCi W (zAF ds 0)))
          have hlY := zDx ds 0
          generalize zAF ds 0 = y at *
          clear hds hrs
          go_wp2_with fail
          refine (HR _ _ _).out.mono ?_; rintro o w4 ⟨rfl, b4⟩
          clear HR
          cases hy : zB0 y with
          | true =>
           rw [hy] at HF
           have HY := Lib.hid hy
           clear hy
           go_wp2_with fail
           refine (HF _).out.mono ?_; rintro o w5 ⟨rfl, b5⟩
           have A1 : Hid (FO (w5.alloc (.cells #[.int .u64 ((y : Nat) : Int)] 40)) (w2.heap.size + 1) v (q + i) D) := Lib.hid inferInstance
           have A2 : Hid (BL (w2.heap.size + 1) wi (w5.alloc (.cells #[.int .u64 ((y : Nat) : Int)] 40))) := Lib.hid inferInstance
           have A3 : Hid (Beh w (w5.alloc (.cells #[.int .u64 ((y : Nat) : Int)] 40))) := Lib.hid inferInstance
           have A4 : Hid (BG (w5.alloc (.cells #[.int .u64 ((y : Nat) : Int)] 40)) (w2.heap.size + 1)) := Lib.hid inferInstance
           clear HF
           go_wp2_with (at_builtin; refine zF0 rfl _ _ rfl (w2.heap.size + 1) v (q + i) (zAX D (q + i)) rfl _ ((y : Nat) : Int) rfl A1.out.out (by go_simp) (by omega) A4.out.out ?_; intro v6 w6 hown6 hg6 hob6; obtain ⟨o6, c6, rfl⟩ := zBs hown6; haveI := A2.out; haveI := A3.out; haveI := A4.out; obtain ⟨M6, f6, G6, L6⟩ := FO.step (w0 := w) (wr := wi) A1.out (by omega) HDS.out hown6 hg6; haveI iT6 := N3.lo iT L6.out (by omega))
           have C9 := M6.sen (show w2.heap.size < (w2.heap.size + 1) by omega) 2 (.slice o6 (q + i + 1) c6)
           have E1 := N3.se2 iT6 (.slice o6 (q + i + 1) c6)
           have E2 := N3.sen (N3.lo iO L6.out (by omega)) (show w.heap.size + 1 + 1 ≠ w2.heap.size by omega) 2 (.slice o6 (q + i + 1) c6)
           have E3 := N3.sen (N3.lo iB L6.out (by omega)) (show w.heap.size + 1 ≠ w2.heap.size by omega) 2 (.slice o6 (q + i + 1) c6)
           have E4 := N3.sen (N3.lo iA L6.out (by omega)) (show w.heap.size ≠ w2.heap.size by omega) 2 (.slice o6 (q + i + 1) c6)
           have B9 : Below w.heap.size w (w6.setCell ⟨w2.heap.size, 2, none⟩ (.slice o6 (q + i + 1) c6)) := f6.out.setCell (by show w.heap.size ≤ w2.heap.size; omega) _
           have S9 : (w2.heap.size + 1) ≤ (w6.setCell ⟨w2.heap.size, 2, none⟩ (.slice o6 (q + i + 1) c6)).heap.size := by rw [World.size_setCell]; exact G6.out
           have HAF : Hid (zAp D (q + i + 1) = true) := Lib.hid (zGA HAL.out (by rw [HDS.out]; exact HY.out))
           generalize (w6.setCell ⟨w2.heap.size, 2, none⟩ (.slice o6 (q + i + 1) c6)) = w9 at *
           clear M6 f6 G6 L6 A1 A2 A3 A4 iT6
           go_wp2_with fail
           go_roundw
           case rel => exact ⟨i + 1, _, by omega, by go_num, HAF.out, C9, E1, E2, E3, E4, B9, S9⟩
           case measure => simp [intOf]; omega
          | false =>
           rw [hy] at HF
           have HE : Hid (zAp D (r * t) = false) := Lib.hid (zF1 (i := q + i) (by have h1 := zEA hlt2 hlt; rwa [← HQ.out] at h1) (by rw [HDS.out]; exact hy))
           clear hy
           go_wp2_with fail
           refine (HF _).out.mono ?_; rintro o w5 ⟨rfl, b5⟩
           haveI iO5 : N3 w5 (w.heap.size + 1 + 1) (.int .i64 0) (.int .i64 0) (.slice none 0 0) := inferInstance
           have L5 : Below w.heap.size w w5 := zbh
           clear HF
           go_wp2_with fail
           refine bodyPost_ret (v := .tuple #[.agg #[.int .i64 0, .int .i64 0, .slice none 0 0], .int .i64 233]) (by simp only [results, Tryz.results38]; go_simp) rfl ?_
           refine ⟨_, rfl, ?_, ⟨((L5.setCell (p := ⟨w.heap.size + 1 + 1, 0, none⟩) (by show w.heap.size ≤ w.heap.size + 1 + 1; omega) _).setCell (p := ⟨w.heap.size + 1 + 1, 1, none⟩) (by show w.heap.size ≤ w.heap.size + 1 + 1; omega) _).setCell (p := ⟨w.heap.size + 1 + 1, 2, none⟩) (by show w.heap.size ≤ w.heap.size + 1 + 1; omega) _⟩⟩
           rw [HE.out]; exact MuR.zero _ _ _ _ _
     · have hir : i = r := by omega
       subst hir
       have hM : FO wi (w2.heap.size + 1) v ((j + 1) * i) D := by rw [Nat.add_mul, Nat.one_mul, ← HQ.out]; exact iM
       have hA' : Hid (zAp D ((j + 1) * i) = true) := Lib.hid (by rw [Nat.add_mul, Nat.one_mul, ← HQ.out]; exact HAL.out)
       clear iM
       go_wp2_with fail
       go_roundw
       case rel => exact ⟨j + 1, v, by omega, by go_num, hA'.out, hM, iT, iO, iB, iA, hbr, hsz⟩
       case measure => simp [intOf]; omega
  · have hjt : j = t := by omega
    subst hjt
    have HAF : Hid (zAp D (r * j) = true) := Lib.hid (by rw [Nat.mul_comm]; exact hal)
    obtain ⟨K, hK⟩ : ∃ K, K = j * r := ⟨_, rfl⟩
    have HK := Lib.hid hK
    rw [← hK] at iM
    clear hal hK
    obtain ⟨ea, ec, hv⟩ := zBs iM.out
    subst hv
    have hl : w.heap.size + 1 + 1 < (w2.heap.size + 1) := by omega
    have M6 := ((iM.sen hl 0 (.int .i64 r)).sen hl 1 (.int .i64 j)).sen hl 2 (.slice ea K ec)
    have L6 : From w (((wr.setCell ⟨w.heap.size + 1 + 1, 0, none⟩ (.int .i64 r)).setCell ⟨w.heap.size + 1 + 1, 1, none⟩ (.int .i64 j)).setCell ⟨w.heap.size + 1 + 1, 2, none⟩ (.slice ea K ec)) := ⟨((hbr.setCell (by show w.heap.size ≤ w.heap.size + 1 + 1; omega) _).setCell (by show w.heap.size ≤ w.heap.size + 1 + 1; omega) _).setCell (by show w.heap.size ≤ w.heap.size + 1 + 1; omega) _⟩
    go_wp2_with fail
    refine bodyPost_ret (v := .tuple #[.agg #[.int .i64 r, .int .i64 j, .slice ea K ec], .int .i64 0]) (by simp only [results, Tryz.results38]; go_simp) rfl ?_
    refine ⟨_, rfl, ?_, L6⟩
    rw [HAF.out, show r * j = K by rw [HK.out, Nat.mul_comm]]
    exact ⟨ea, ec, rfl, M6.fw (by omega) (fun x _ => HDB.out x)⟩
end Go.Proofs.YtablcbgeeeboeaaGreatDoor
