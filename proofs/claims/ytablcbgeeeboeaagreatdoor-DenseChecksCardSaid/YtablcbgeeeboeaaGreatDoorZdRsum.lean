/-
  Walks: package sparseref23: Root, Quo, IsZero, Product, At.
-/
import Derived.Test.YtablcbgeeeboeaaGreatDoorZdPj
import Derived.Test.YtablcbgeeeboeaaGreatDoorZdKw
import Derived.Test.YtablcbgeeeboeaaGreatDoorZdRe
import Derived.Test.YtablcbgeeeboeaaGreatDoorZdRm
import Derived.Test.YtablcbgeeeboeaaGreatDoorZdSumLaw
set_option maxRecDepth 100000
set_option maxHeartbeats 20000000
namespace Go.Proofs.YtablcbgeeeboeaaGreatDoor
open Go.RowKit Sp
theorem fzero_two {f : Nat} (h : f < 18446744073709551616) : (((f : Nat) : Int) == 0 || ((f : Nat) : Int) == 9223372036854775808) = fzero f := by
 unfold fzero fM
 rw [Bool.eq_iff_iff]; simp; omega
attribute [local irreducible] Calls
theorem r23root_any (w : World) [Tb w] (v s : Bool) (a : Option Addr) (n c : Nat) (e : Int) (d : Option (Int × Int)) [hx : DS w v s a n c e d] :
 Calls Tryz.prog 48 #[.agg #[.bool v, .bool s, .slice a n c, .int .i64 e]] w fun o w' => o = .returned (.int .u64 (froot d 0 : Nat)) ∧ Below w.heap.size w w' := by
 have HR := fun W [i : DS W v s a n c e d] [Tb W] => Lib.hid (frm (r3root_any W v s a n c e d 0 i.out tb))
 generalize ((froot d 0 : Nat) : Int) = z at *
 go_enter Tryz.func48, Tryz.ntmps48
 go_wp2_with fail
 refine (HR _).out.mono ?_; rintro o w1 ⟨rfl, b1⟩; go_wp2_with fail
 go_ret
 exact ⟨rfl, zbh⟩
theorem r23quo_any (w : World) [Tb w] (v s : Bool) (a : Option Addr) (n c : Nat) (e : Int) (d : Option (Int × Int)) [hx : DS w v s a n c e d] (v' s' : Bool) (a' : Option Addr) (n' c' : Nat) (e' : Int) (d' : Option (Int × Int)) [hy : DS w v' s' a' n' c' e' d'] :
 Calls Tryz.prog 50 #[.agg #[.bool v, .bool s, .slice a n c, .int .i64 e], .agg #[.bool v', .bool s', .slice a' n' c', .int .i64 e']] w fun o w' => o = .returned (.int .u64 (fquo d d' 0 : Nat)) ∧ Below w.heap.size w w' := by
 have HR := fun W [i : DS W v s a n c e d] [j : DS W v' s' a' n' c' e' d'] [Tb W] => Lib.hid (frm (r3quo_any W v s a n c e d v' s' a' n' c' e' d' 0 i.out j.out tb))
 generalize ((fquo d d' 0 : Nat) : Int) = z at *
 go_enter Tryz.func50, Tryz.ntmps50
 go_wp2_with fail
 refine (HR _).out.mono ?_; rintro o w1 ⟨rfl, b1⟩; go_wp2_with fail
 go_ret
 exact ⟨rfl, zbh⟩
theorem r23zero_any (w : World) (f : Nat) (hf : f < 18446744073709551616) :
 Calls Tryz.prog 49 #[.int .u64 f] w fun o w' => o = .returned (.bool (fzero f)) ∧ w = w' := by
 rw [← fzero_two hf]
 generalize ((f : Nat) : Int) = z at *
 cases h1 : (z == 0) <;> cases h2 : (z == 9223372036854775808) <;>
 · go_enter Tryz.func49, Tryz.ntmps49
   go_wp2_with fail
   go_ret
   exact ⟨rfl, rfl⟩
theorem r23prod_any (w : World) [Tb w] (x y : Nat) (hx : x < 18446744073709551616) (hy : y < 18446744073709551616) :
 Calls Tryz.prog 80 #[.int .u64 x, .int .u64 y] w (RetDy w (dmul (fof x) (fof y))) := by
 have HX := fun W [Tb W] => Lib.hid (frs (isN_fof x) (r3of_any W x hx tb))
 have HY := fun W [Tb W] => Lib.hid (frs (isN_fof y) (r3of_any W y hy tb))
 have HM := fun W a c a' c' [i : DS W (dbad (fof x)) (decide (dman (fof x) < 0)) a (nl (dman (fof x)).natAbs) c (dexp (fof x)) (fof x)] [j : DS W (dbad (fof y)) (decide (dman (fof y) < 0)) a' (nl (dman (fof y)).natAbs) c' (dexp (fof y)) (fof y)] [Tb W] => Lib.hid (frF (rdmul_any W _ _ _ _ a a' _ _ c c' _ _ (fof x) (fof y) i.out j.out tb))
 generalize fof x = dx at *
 generalize fof y = dy at *
 generalize dmul dx dy = dz at *
 go_enter Tryz.func80, Tryz.ntmps80
 go_wp2_with fail
 refine (HX _).out.mono ?_; rintro o w1 ⟨a1, c1, rfl, i1, b1⟩; go_wp2_with fail
 refine (HY _).out.mono ?_; rintro o w2 ⟨a2, c2, rfl, i2, b2⟩; go_wp2_with fail
 refine (HM _ _ _ _ _).out.mono ?_; rintro o w3 ⟨a3, c3, rfl, i3, b3, f3⟩
 have e1 := b1.out.size
 have e2 := b2.out.size
 simp at e1
 go_wp2_with fail
 refine bodyPost_ret (v := .agg #[.bool (dbad dz), .bool (decide (dman dz < 0)), .slice a3 (nl (dman dz).natAbs) c3, .int .i64 (dexp dz)]) (by simp only [results, Tryz.results80]; go_simp) rfl ?_
 exact ⟨a3, c3, rfl, Mag.st4 i3.out (fun h => by have := f3 h; omega) _ _ _ _, zbh, fun h => by have := f3 h; omega⟩
theorem r23at_any (w : World) (n : Nat) (c : Int) (ae : Option Addr) (M ce : Nat) (B : Nat → Option (Int × Int)) [hB : DZ w ae M ce B] (i j : Nat) (hn : n ≤ 64) (hi : i < n) (hj : j < n) (hM : M = n * n) :
 Calls Tryz.prog 75 #[.agg #[.int .i64 n, .int .i64 c, .slice ae M ce], .int .i64 i, .int .i64 j] w fun o w' => ∃ a q, o = .returned (.agg #[.bool (dbad (B (j * n + i))), .bool (decide (dman (B (j * n + i)) < 0)), .slice a (nl (dman (B (j * n + i))).natAbs) q, .int .i64 (dexp (B (j * n + i)))]) ∧ Mag w a (nl (dman (B (j * n + i))).natAbs) q (dman (B (j * n + i))).natAbs ∧ Below w.heap.size w w' := by
 have l1 := hB.out.fits
 have P1 : j * n + i < M := by rw [hM]; exact idx_lt hi hj
 have P2 : j * n ≤ 4096 := Nat.mul_le_mul (show j ≤ 64 by omega) hn
 obtain ⟨p, hp⟩ : ∃ p, p = j * n := ⟨_, rfl⟩
 have hN : (j : Int) * (n : Int) = (p : Int) := by rw [hp]; exact (Int.natCast_mul j n).symm
 obtain ⟨A0, C0, z0, z1, z2, z3, z4⟩ := hB.out.el P1
 have y0 := hB.out.idx (j * n + i) P1
 rw [← hp] at z0 z1 z2 z3 z4 y0 P1 P2 ⊢
 rw [show (((p + i : Nat)) : Int) = (p : Int) + (i : Int) by omega] at y0
 generalize B (p + i) = b0 at *
 have Z4 := Lib.hid z4
 clear hp hM
 go_enter Tryz.func75, Tryz.ntmps75
 go_wp2_with fail
 refine bodyPost_ret (v := .agg #[.bool (dbad b0), .bool (decide (dman b0 < 0)), .slice A0 (nl (dman b0).natAbs) C0, .int .i64 (dexp b0)]) (by simp only [results, Tryz.results75]; go_simp) rfl ?_
 exact ⟨A0, C0, rfl, Z4.out.out, zbh⟩
end Go.Proofs.YtablcbgeeeboeaaGreatDoor
set_option maxRecDepth 100000
set_option maxHeartbeats 20000000
namespace Go.Proofs.YtablcbgeeeboeaaGreatDoor
open Go.RowKit Sp
theorem okd_bounds2 {d0 d1 : Option (Int × Int)} (h : IsN d1) (hd : d0 = d1) : (blen (dman d0).natAbs : Int) + dexp d0 ≤ 65536 := by
 subst hd
 cases d0 with
 | none => decide
 | some p => obtain ⟨m, e⟩ := p; have := okd_bounds (h m e rfl); show (blen m.natAbs : Int) + e ≤ _; omega
theorem blen_up_ge {m e E : Int} (h : E ≤ e) {k : Nat} (hk : blen (up m e E).natAbs ≤ k) : (blen m.natAbs : Int) + (if m = 0 then 0 else e - E) ≤ k := by
 by_cases hm : m = 0
 · subst hm; simp [blen]
 · rw [if_neg hm]; have := blen_up h hm; omega
theorem rshift_z (w : World) (z : Int) (a : Option Addr) (cap k : Nat) (v : Int) (hv : v = z * 2 ^ k) (hx : Mag w a (nl z.natAbs) cap z.natAbs) (hlim : nl z.natAbs ≤ 549755813888) (hk : k ≤ 1048576) :
 Calls Tryz.prog 63 #[.agg #[.bool (decide (z < 0)), .slice a (nl z.natAbs) cap], .int .i64 k] w (RetBig w v) := by
 have h := rshift_up w (decide (z < 0)) a _ cap _ k hx hlim hk
 rwa [sgn_self, ← hv] at h
theorem radd_z (w : World) (a a' : Option Addr) (cap cap' : Nat) (x y v : Int) (hv : v = x + y) (hx : Mag w a (nl x.natAbs) cap x.natAbs) (hy : Mag w a' (nl y.natAbs) cap' y.natAbs) (hl : nl x.natAbs ≤ 549755813888) (hl' : nl y.natAbs ≤ 549755813888) :
 Calls Tryz.prog 62 #[.agg #[.bool (decide (x < 0)), .slice a (nl x.natAbs) cap], .agg #[.bool (decide (y < 0)), .slice a' (nl y.natAbs) cap']] w (RetBig w v) := by
 have h := radd_any w (decide (x < 0)) (decide (y < 0)) a a' _ _ cap cap' _ _ hx hy hl hl'
 rwa [sgn_self, sgn_self, ← hv] at h
theorem rsign_z (w : World) (a : Option Addr) (cap : Nat) (z : Int) (hx : Mag w a (nl z.natAbs) cap z.natAbs) (hl : nl z.natAbs ≤ 549755813888) :
 Calls Tryz.prog 61 #[.agg #[.bool (decide (z < 0)), .slice a (nl z.natAbs) cap]] w fun e w' => e = .returned (.int .i64 (sg z)) ∧ Below w.heap.size w w' := by
 have h := rsign_any w (decide (z < 0)) a _ cap _ hx (by omega)
 rwa [sgn_self] at h
theorem sg_ne {z : Int} (h : z ≠ 0) : (sg z == 0) = false := by
 rw [beq_eq_false_iff_ne]; unfold sg cmpI; split <;> (try split) <;> omega
theorem rsum_any (w : World) (hT : Tab w) (a : Option Addr) (n cap : Nat) (L : Nat → El) (hL : Dys w a n cap L) (hn : n ≤ 1048576) (hs : ∀ i, i < n → (L i).n ≤ 549755813888 ∧ blen (L i).x ≤ 1048576) :
 Calls Tryz.prog 22 #[.slice a n cap] w (RetDy w (dsum (fun i => (L i).d) n)) := by
 have l1 := hL.lim
 have l2 := hL.fits
 obtain ⟨d, hd⟩ : ∃ d, d = fun i => (L i).d := ⟨_, rfl⟩
 have hdi : ∀ i, d i = (L i).d := fun i => by rw [hd]
 rw [← hd]
 have hNd : ∀ i, IsN (d i) := fun i => by rw [hdi]; exact isN_nrmB _ _ _
 have HN := fun (k : Nat) (hk : k < n) W (h : Mag W (L k).a (L k).n (L k).p (L k).x) ht => Lib.hid (@rdnorm_in W (L k).bd (L k).s (L k).a (L k).n (L k).p (L k).e (d k) ⟨⟨_, h, by have := (hs k hk).1; omega, (hs k hk).2, (hL.b k hk).1, (hL.b k hk).2, (hdi k).symm⟩, (hs k hk).1⟩ ht)
 have HB := fun W => Lib.hid (rbad_any W)
 have hmn1 := mnE_ge d hNd n
 have hmn0 := mnE_le0 d n
 have hEk : ∀ i, i < n → mnE d n ≤ dexp (d i) := fun i hi => mnE_le d hi
 have hSb : ∀ j, j ≤ n → blen (smE d (mnE d n) j).natAbs ≤ 131100 := fun j hj => smE_blen d hNd hmn1 (by omega) (fun i hi => hEk i (by omega))
 have hds : anyBad d n = false → dsum d n = nrm (smE d (mnE d n) n) (mnE d n) := fun h => by unfold dsum; rw [h]; rfl
 obtain ⟨E, hE⟩ : ∃ E, E = mnE d n := ⟨_, rfl⟩
 rw [← hE] at hmn1 hmn0 hEk hSb hds
 have HLL := Lib.hid hL
 have HND := Lib.hid hNd
 have HEK := Lib.hid hEk
 have HSB := Lib.hid hSb
 have HDS := Lib.hid hds
 have e1 : ¬ w.heap.size + 1 = w.heap.size := by omega
 have e2 : ¬ w.heap.size = w.heap.size + 1 := by omega
 clear hL hs hd hdi hNd hEk hSb hds hE
 go_enter Tryz.func22, Tryz.ntmps22
 go_wp2_with fail
 have Ir := (DyV.made w 46 false false (.slice none 0 0) 0).alloc (.cells #[.bool false, .slice none 0 0] 44)
 have It := BgV.made' (w.alloc (.cells #[.bool false, .bool false, .slice none 0 0, .int .i64 0] 46)) 44 false (.slice none 0 0) (n := w.heap.size + 1) (by rw [World.size_alloc])
 have B0 : Below w.heap.size w ((w.alloc (.cells #[.bool false, .bool false, .slice none 0 0, .int .i64 0] 46)).alloc (.cells #[.bool false, .slice none 0 0] 44)) := zbh
 generalize ((w.alloc (.cells #[.bool false, .bool false, .slice none 0 0, .int .i64 0] 46)).alloc (.cells #[.bool false, .slice none 0 0] 44)) = w0 at Ir It B0 ⊢
 go_loopw [4, 5] (fun e i wr => ∃ (k : Nat) (T f : Int) (aT : Option Addr) (cT : Nat), k ≤ n ∧ i = .int .i64 k ∧ e = .int .i64 f ∧ E ≤ f ∧ f ≤ 65536 ∧ up T f E = smE d E k ∧ anyBad d k = false ∧ BgV wr (w.heap.size + 1) (decide (T < 0)) (.slice aT (nl T.natAbs) cT) ∧ Mag wr aT (nl T.natAbs) cT T.natAbs ∧ DyV wr w.heap.size false false (.slice none 0 0) 0 ∧ Below w.heap.size w wr) (fun _ i _ => n - (intOf i).toNat)
 case atStart => exact ⟨0, 0, 0, none, 0, by omega, rfl, rfl, by omega, by omega, up_zero _ _, rfl, It, Mag.nil _, Ir, B0⟩
 case round =>
  clear Ir It B0
  obtain ⟨k, T, f, aT, cT, hk, rfl, rfl, hEf, hf6, hup, hbad, It, MT0, Ir, B0⟩ := hrel
  have HUP := Lib.hid hup
  have HBAD := Lib.hid hbad
  have hTb : blen T.natAbs ≤ 131100 := by
   have h1 := HSB.out k hk
   rw [← HUP.out] at h1
   have h2 := blen_up_ge hEf h1
   split at h2 <;> omega
  clear hup hbad
  have Vr0 := Lib.hid Ir
  have Vt0 := Lib.hid It
  by_cases hlt : k < n
  · have hL' := HLL.out.below B0
    have k0 := hL'.c0 k hlt
    have k1 := hL'.c1 k hlt
    have k2 := hL'.c2 k hlt
    have k3 := hL'.c3 k hlt
    have i1 := hL'.idx k hlt
    have mk := hL'.m k hlt
    have HNk := HN k hlt
    have hej := HEK.out k hlt
    have hbj := isN_bounds (HND.out k)
    have hSk1 := HSB.out (k + 1) hlt
    generalize hQ : L k = Q at k0 k1 k2 k3 mk HNk
    obtain ⟨dk, hdk⟩ : ∃ dk, dk = d k := ⟨_, rfl⟩
    rw [← hdk] at HNk hej hbj
    have hsm : smE d E (k + 1) = smE d E k + up (dman dk) (dexp dk) E := by rw [hdk]; rfl
    have HSM := Lib.hid hsm
    have HDK := Lib.hid hdk
    clear hL' hQ hdk hsm
    obtain ⟨rc0, rc1, rc2, rc3, rc4, rc5⟩ := Ir
    obtain ⟨tc0, tc1, tc2, tc3⟩ := It
    go_wp2_with fail
    refine (HNk _ mk (hT.below B0)).out.mono ?_
    rintro e w1 ⟨ad, cd, rfl, Md1, hb1, hf1⟩
    have Vr1 : DyV w1 w.heap.size false false (.slice none 0 0) 0 := (Vr0.out.on.below hb1)
    (try clear rc0 rc1 rc2 rc3 rc4)
    obtain ⟨rc0, rc1, rc2, rc3, rc4, rc5⟩ := Vr1
    have Vr1 := Lib.hid (DyV.mk rc0 rc1 rc2 rc3 rc4 rc5)
    have Vt1 : BgV w1 (w.heap.size + 1) (decide (T < 0)) (.slice aT (nl T.natAbs) cT) := (Vt0.out.on.below hb1)
    (try clear tc0 tc1 tc2)
    obtain ⟨tc0, tc1, tc2, tc3⟩ := Vt1
    have Vt1 := Lib.hid (BgV.mk tc0 tc1 tc2 tc3)
    have MT1 : Mag w1 aT (nl T.natAbs) cT T.natAbs := Mag.below MT0.on hb1
    have B1 := below_box (w := w) (have := Beh.mk B0; zbh) hb1
    have frd : 0 < nl (dman dk).natAbs → w.heap.size + 1 < ab ad := (fun h => by have := hf1 h; have := Vt0.out.lt; omega)
    clear hb1 hf1
    clear k0 k1 k2 k3 i1 mk
    cases hbd : dbad dk with
    | true =>
     have hany : anyBad d n = true := (anyBad_iff d n).2 ⟨k, hlt, by rw [← HDK.out]; exact hbd⟩
     have e0 : dsum d n = none := by unfold dsum; rw [hany]; rfl
     go_wp2_with fail
     refine (HB _).out.mono ?_
     rintro e w9 ⟨rfl, hb⟩
     have B9 := below_box (w := w) (B1.alloc B1.size (.cells #[.bool true, .bool (decide (dman dk < 0)), .slice ad (nl (dman dk).natAbs) cd, .int .i64 (dexp dk)] 46)) hb
     have V9 := (Vr1.out.alloc (.cells #[.bool true, .bool (decide (dman dk < 0)), .slice ad (nl (dman dk).natAbs) cd, .int .i64 (dexp dk)] 46)).below hb
     obtain ⟨p0, p1, p2, p3, p4, p5⟩ := V9
     go_wp2_with fail
     refine bodyPost_ret (v := .agg #[.bool true, .bool false, .slice none 0 0, .int .i64 0]) (by simp only [results, Tryz.results22]; go_simp) rfl ?_
     rw [e0]
     exact ⟨none, 0, rfl, Mag.nil _, (have := Beh.mk B9; zbh), nl0⟩
    | false =>
     have hbk : anyBad d (k + 1) = false := by
      show (anyBad d k || dbad (d k)) = false
      rw [HBAD.out, ← HDK.out, hbd]; rfl
     have HBK := Lib.hid hbk
     clear hbk
     have HS1 := fun W b c h => Lib.hid (rsign_z W b c (dman dk) h (Nat.le_trans (nl_le_blen _) (by omega)))
     have HS2 := fun W b c h => Lib.hid (rsign_z W b c T h (Nat.le_trans (nl_le_blen _) (by omega)))
     go_wp2_with fail
     have Vd2 := DyV.made w1 46 false (decide (dman dk < 0)) (.slice ad (nl (dman dk).natAbs) cd) (dexp dk)
     have Vr2 := DyV.alloc Vr1.out (.cells #[.bool false, .bool (decide (dman dk < 0)), (.slice ad (nl (dman dk).natAbs) cd), .int .i64 (dexp dk)] 46)
     have Vt2 := BgV.alloc Vt1.out (.cells #[.bool false, .bool (decide (dman dk < 0)), (.slice ad (nl (dman dk).natAbs) cd), .int .i64 (dexp dk)] 46)
     have MT2 := MT1.alloc (.cells #[.bool false, .bool (decide (dman dk < 0)), (.slice ad (nl (dman dk).natAbs) cd), .int .i64 (dexp dk)] 46)
     have Md2 := Md1.alloc (.cells #[.bool false, .bool (decide (dman dk < 0)), (.slice ad (nl (dman dk).natAbs) cd), .int .i64 (dexp dk)] 46)
     have B2 : Below w.heap.size w (w1.alloc (.cells #[.bool false, .bool (decide (dman dk < 0)), (.slice ad (nl (dman dk).natAbs) cd), .int .i64 (dexp dk)] 46)) := B1.alloc B1.size _
     generalize (w1.alloc (.cells #[.bool false, .bool (decide (dman dk < 0)), (.slice ad (nl (dman dk).natAbs) cd), .int .i64 (dexp dk)] 46)) = w2 at Vd2 Vr2 Vt2 MT2 Md2 B2 ⊢
     have lzd : w.heap.size + 1 < w1.heap.size := Vt1.out.lt
     generalize w1.heap.size = zd at Vd2 lzd ⊢
     have nd1 : ¬ zd = w.heap.size + 1 := by omega
     have nd2 : ¬ w.heap.size + 1 = zd := by omega
     (try clear rc0 rc1 rc2 rc3 rc4)
     obtain ⟨rc0, rc1, rc2, rc3, rc4, rc5⟩ := Vr2
     have Vr2 := Lib.hid (DyV.mk rc0 rc1 rc2 rc3 rc4 rc5)
     (try clear tc0 tc1 tc2)
     obtain ⟨tc0, tc1, tc2, tc3⟩ := Vt2
     have Vt2 := Lib.hid (BgV.mk tc0 tc1 tc2 tc3)
     (try clear dc0 dc1 dc2 dc3 dc4)
     obtain ⟨dc0, dc1, dc2, dc3, dc4, dc5⟩ := Vd2
     have Vd2 := Lib.hid (DyV.mk dc0 dc1 dc2 dc3 dc4 dc5)
     refine (HS1 _ ad cd Md2.on).out.mono ?_
     rintro e w3 ⟨rfl, hb3⟩
     have Vr3 : DyV w3 w.heap.size false false (.slice none 0 0) 0 := (Vr2.out.on.below hb3)
     (try clear rc0 rc1 rc2 rc3 rc4)
     obtain ⟨rc0, rc1, rc2, rc3, rc4, rc5⟩ := Vr3
     have Vr3 := Lib.hid (DyV.mk rc0 rc1 rc2 rc3 rc4 rc5)
     have Vt3 : BgV w3 (w.heap.size + 1) (decide (T < 0)) (.slice aT (nl T.natAbs) cT) := (Vt2.out.on.below hb3)
     (try clear tc0 tc1 tc2)
     obtain ⟨tc0, tc1, tc2, tc3⟩ := Vt3
     have Vt3 := Lib.hid (BgV.mk tc0 tc1 tc2 tc3)
     have Vd3 : DyV w3 zd false (decide (dman dk < 0)) (.slice ad (nl (dman dk).natAbs) cd) (dexp dk) := (Vd2.out.on.below hb3)
     (try clear dc0 dc1 dc2 dc3 dc4)
     obtain ⟨dc0, dc1, dc2, dc3, dc4, dc5⟩ := Vd3
     have Vd3 := Lib.hid (DyV.mk dc0 dc1 dc2 dc3 dc4 dc5)
     have MT3 : Mag w3 aT (nl T.natAbs) cT T.natAbs := Mag.below MT2.on hb3
     have Md3 : Mag w3 ad (nl (dman dk).natAbs) cd (dman dk).natAbs := Mag.below Md2.on hb3
     have B3 := below_box (w := w) (have := Beh.mk B2; zbh) hb3
     clear hb3
     by_cases hm0 : dman dk = 0
     · have hg1 : (sg (dman dk) == 0) = true := by rw [hm0]; rfl
       have hu0 : smE d E (k + 1) = smE d E k := by rw [HSM.out, hm0, up_zero, Int.add_zero]
       have HU0 := Lib.hid hu0
       clear hu0 hm0
       go_wp2_with fail
       go_roundw
       case rel => exact ⟨k + 1, T, f, aT, cT, by omega, by go_num, rfl, hEf, hf6, by rw [HU0.out]; exact HUP.out, HBK.out, Vt3.out, MT3, Vr3.out, B3⟩
       case measure => simp [intOf]; omega
     · have hg1 : (sg (dman dk) == 0) = false := sg_ne hm0
       clear hm0
       go_wp2_with fail
       refine (HS2 _ aT cT MT3.on).out.mono ?_
       rintro e w4 ⟨rfl, hb4⟩
       have Vr4 : DyV w4 w.heap.size false false (.slice none 0 0) 0 := (Vr3.out.on.below hb4)
       (try clear rc0 rc1 rc2 rc3 rc4)
       obtain ⟨rc0, rc1, rc2, rc3, rc4, rc5⟩ := Vr4
       have Vr4 := Lib.hid (DyV.mk rc0 rc1 rc2 rc3 rc4 rc5)
       have Vt4 : BgV w4 (w.heap.size + 1) (decide (T < 0)) (.slice aT (nl T.natAbs) cT) := (Vt3.out.on.below hb4)
       (try clear tc0 tc1 tc2)
       obtain ⟨tc0, tc1, tc2, tc3⟩ := Vt4
       have Vt4 := Lib.hid (BgV.mk tc0 tc1 tc2 tc3)
       have Vd4 : DyV w4 zd false (decide (dman dk < 0)) (.slice ad (nl (dman dk).natAbs) cd) (dexp dk) := (Vd3.out.on.below hb4)
       (try clear dc0 dc1 dc2 dc3 dc4)
       obtain ⟨dc0, dc1, dc2, dc3, dc4, dc5⟩ := Vd4
       have Vd4 := Lib.hid (DyV.mk dc0 dc1 dc2 dc3 dc4 dc5)
       have MT4 : Mag w4 aT (nl T.natAbs) cT T.natAbs := Mag.below MT3.on hb4
       have Md4 : Mag w4 ad (nl (dman dk).natAbs) cd (dman dk).natAbs := Mag.below Md3.on hb4
       have B4 := below_box (w := w) (have := Beh.mk B3; zbh) hb4
       clear hb4
       have frT : 0 < nl (dman dk).natAbs → ab ad ≠ w.heap.size + 1 := fun h => by have := frd h; omega
       have nr : (w.heap.size : Nat) ≠ w.heap.size + 1 := by omega
       by_cases hT0 : T = 0
       · have hg2 : (sg T == 0) = true := by rw [hT0]; rfl
         have hu1 : up (dman dk) (dexp dk) E = smE d E (k + 1) := by
          have h1 := HUP.out
          rw [hT0, up_zero] at h1
          rw [HSM.out, ← h1, Int.zero_add]
         have HU1 := Lib.hid hu1
         clear hu1
         go_wp2_with fail
         first | go_big_region | fail "region"
         all_goals go_wp2_with fail
         all_goals (
          go_roundw
          case rel => exact ⟨k + 1, dman dk, dexp dk, ad, cd, by omega, by go_num, rfl, hej, by omega, HU1.out, HBK.out, ⟨by go_simp, by go_simp, fun i => by go_simp, by simpa using tc3⟩, (by repeat (with_reducible first | refine Mag.set ?_ frT _ _ | refine Mag.drew ?_ | refine Mag.drewN ?_ _ | exact Md4)), (by repeat (with_reducible first | refine DyV.set ?_ nr _ _ | refine DyV.drew ?_ | refine DyV.drewN ?_ _ | exact Vr4.out)), (have := Beh.mk B4; zbh)⟩
          case measure => simp [intOf]; omega)
       · have hg2 : (sg T == 0) = false := sg_ne hT0
         clear hT0
         by_cases hfe : f ≤ dexp dk
         · obtain ⟨q, hq⟩ : ∃ q : Nat, dexp dk - f = (q : Int) := ⟨(dexp dk - f).toNat, by omega⟩
           have hq1 : q ≤ 1048576 := by omega
           have hge : decide (f ≤ dexp dk) = true := by simpa using hfe
           have hwq : IntKind.i64.wrap (dexp dk - f) = (q : Int) := by rw [hq, IntKind.wrap_i64]; omega
           obtain ⟨u, hu⟩ : ∃ u, u = dman dk * 2 ^ q := ⟨_, rfl⟩
           obtain ⟨S, hS⟩ : ∃ S, S = T + u := ⟨_, rfl⟩
           have huu : u = up (dman dk) (dexp dk) f := by rw [hu]; unfold up; congr 2; omega
           have hup2 : up S f E = smE d E (k + 1) := by rw [hS, up_add, HUP.out, huu, up_up _ hEf hfe, HSM.out]
           have hub : blen u.natAbs ≤ 131072 := by rw [huu]; exact blen_up_le hfe (by have := okd_bounds2 (HND.out k) HDK.out; omega)
           have HSH := fun W b c h => Lib.hid (rshift_z W (dman dk) b c q u hu h (Nat.le_trans (nl_le_blen _) (by omega)) hq1)
           have HAD := fun W b b' c c' h h' => Lib.hid (radd_z W b b' c c' T u S hS h h' (Nat.le_trans (nl_le_blen _) (by omega)) (Nat.le_trans (nl_le_blen _) (by omega)))
           have HU2 := Lib.hid hup2
           clear hup2 huu hu hS hq
           go_wp2_with fail
           first
           | go_region_with
            (first
             | (go_at_call 62; have xx := B5; refine (HAD _ aT au cT cu MT5.on Mu5.on).out.mono ?_; rintro e w6 ⟨as1, cs1, rfl, Ms16, hb6, hf6⟩; have Vr6 : DyV w6 w.heap.size false false (.slice none 0 0) 0 := (Vr5.out.on.below hb6); (try clear rc0 rc1 rc2 rc3 rc4); obtain ⟨rc0, rc1, rc2, rc3, rc4, rc5⟩ := Vr6; have Vr6 := Lib.hid (DyV.mk rc0 rc1 rc2 rc3 rc4 rc5); have Vt6 : BgV w6 (w.heap.size + 1) (decide (T < 0)) (.slice aT (nl T.natAbs) cT) := (Vt5.out.on.below hb6); (try clear tc0 tc1 tc2); obtain ⟨tc0, tc1, tc2, tc3⟩ := Vt6; have Vt6 := Lib.hid (BgV.mk tc0 tc1 tc2 tc3); have Vd6 : DyV w6 zd false (decide (dman dk < 0)) (.slice ad (nl (dman dk).natAbs) cd) (dexp dk) := (Vd5.out.on.below hb6); (try clear dc0 dc1 dc2 dc3 dc4); obtain ⟨dc0, dc1, dc2, dc3, dc4, dc5⟩ := Vd6; have Vd6 := Lib.hid (DyV.mk dc0 dc1 dc2 dc3 dc4 dc5); have MT6 : Mag w6 aT (nl T.natAbs) cT T.natAbs := Mag.below MT5.on hb6; have Md6 : Mag w6 ad (nl (dman dk).natAbs) cd (dman dk).natAbs := Mag.below Md5.on hb6; have Mu6 : Mag w6 au (nl u.natAbs) cu u.natAbs := Mag.below Mu5.on hb6; have B6 := below_box (w := w) (have := Beh.mk B5; zbh) hb6; have frs : 0 < nl S.natAbs → ab as1 ≠ w.heap.size + 1 := (fun h => by have := hf6 h; (try simp at this); have := Vt5.out.lt; omega); clear hb6 hf6)
             | (go_at_call 63; have xx := B4; refine (HSH _ ad cd Md4.on).out.mono ?_; rintro e w5 ⟨au, cu, rfl, Mu5, hb5, hf5⟩; have Vr5 : DyV w5 w.heap.size false false (.slice none 0 0) 0 := (Vr4.out.on.below hb5); (try clear rc0 rc1 rc2 rc3 rc4); obtain ⟨rc0, rc1, rc2, rc3, rc4, rc5⟩ := Vr5; have Vr5 := Lib.hid (DyV.mk rc0 rc1 rc2 rc3 rc4 rc5); have Vt5 : BgV w5 (w.heap.size + 1) (decide (T < 0)) (.slice aT (nl T.natAbs) cT) := (Vt4.out.on.below hb5); (try clear tc0 tc1 tc2); obtain ⟨tc0, tc1, tc2, tc3⟩ := Vt5; have Vt5 := Lib.hid (BgV.mk tc0 tc1 tc2 tc3); have Vd5 : DyV w5 zd false (decide (dman dk < 0)) (.slice ad (nl (dman dk).natAbs) cd) (dexp dk) := (Vd4.out.on.below hb5); (try clear dc0 dc1 dc2 dc3 dc4); obtain ⟨dc0, dc1, dc2, dc3, dc4, dc5⟩ := Vd5; have Vd5 := Lib.hid (DyV.mk dc0 dc1 dc2 dc3 dc4 dc5); have MT5 : Mag w5 aT (nl T.natAbs) cT T.natAbs := Mag.below MT4.on hb5; have Md5 : Mag w5 ad (nl (dman dk).natAbs) cd (dman dk).natAbs := Mag.below Md4.on hb5; have B5 := below_box (w := w) (have := Beh.mk B4; zbh) hb5; clear hb5 hf5)
             | fail)
           | fail "region"
           all_goals as_aux_lemma => (
            go_wp2_with fail
            go_roundw
            case rel => exact ⟨k + 1, S, f, as1, cs1, by omega, by go_num, rfl, by omega, by omega, HU2.out, HBK.out, ⟨by go_simp, by go_simp, fun i => by go_simp, by simpa using tc3⟩, (by repeat (with_reducible first | refine Mag.set ?_ frs _ _ | refine Mag.drew ?_ | refine Mag.drewN ?_ _ | exact Ms16)), (by repeat (with_reducible first | refine DyV.set ?_ nr _ _ | refine DyV.drew ?_ | refine DyV.drewN ?_ _ | exact Vr6.out)), (have := Beh.mk B6; zbh)⟩
            case measure => simp [intOf]; omega)
         · obtain ⟨q, hq⟩ : ∃ q : Nat, f - dexp dk = (q : Int) := ⟨(f - dexp dk).toNat, by omega⟩
           have hq1 : q ≤ 1048576 := by omega
           have hge : decide (f ≤ dexp dk) = false := by simp; omega
           have hwq : IntKind.i64.wrap (f - dexp dk) = (q : Int) := by rw [hq, IntKind.wrap_i64]; omega
           obtain ⟨u, hu⟩ : ∃ u, u = T * 2 ^ q := ⟨_, rfl⟩
           obtain ⟨S, hS⟩ : ∃ S, S = u + dman dk := ⟨_, rfl⟩
           have huu : u = up T f (dexp dk) := by rw [hu]; unfold up; congr 2; omega
           have hup2 : up S (dexp dk) E = smE d E (k + 1) := by rw [hS, up_add, huu, up_up _ hej (by omega), HUP.out, HSM.out]
           have hub : blen u.natAbs ≤ 300000 := by
            rw [huu]; exact blen_up_le (by omega) (by omega)
           have HSH := fun W b c h => Lib.hid (rshift_z W T b c q u hu h (Nat.le_trans (nl_le_blen _) (by omega)) hq1)
           have HAD := fun W b b' c c' h h' => Lib.hid (radd_z W b b' c c' u (dman dk) S hS h h' (Nat.le_trans (nl_le_blen _) (by omega)) (Nat.le_trans (nl_le_blen _) (by omega)))
           have HU2 := Lib.hid hup2
           clear hup2 huu hu hS hq
           go_wp2_with fail
           first
           | go_region_with
            (first
             | (go_at_call 62; have xx := B5; refine (HAD _ au ad cu cd Mu5.on Md5.on).out.mono ?_; rintro e w6 ⟨as1, cs1, rfl, Ms16, hb6, hf6⟩; have Vr6 : DyV w6 w.heap.size false false (.slice none 0 0) 0 := (Vr5.out.on.below hb6); (try clear rc0 rc1 rc2 rc3 rc4); obtain ⟨rc0, rc1, rc2, rc3, rc4, rc5⟩ := Vr6; have Vr6 := Lib.hid (DyV.mk rc0 rc1 rc2 rc3 rc4 rc5); have Vt6 : BgV w6 (w.heap.size + 1) (decide (T < 0)) (.slice aT (nl T.natAbs) cT) := (Vt5.out.on.below hb6); (try clear tc0 tc1 tc2); obtain ⟨tc0, tc1, tc2, tc3⟩ := Vt6; have Vt6 := Lib.hid (BgV.mk tc0 tc1 tc2 tc3); have Vd6 : DyV w6 zd false (decide (dman dk < 0)) (.slice ad (nl (dman dk).natAbs) cd) (dexp dk) := (Vd5.out.on.below hb6); (try clear dc0 dc1 dc2 dc3 dc4); obtain ⟨dc0, dc1, dc2, dc3, dc4, dc5⟩ := Vd6; have Vd6 := Lib.hid (DyV.mk dc0 dc1 dc2 dc3 dc4 dc5); have MT6 : Mag w6 aT (nl T.natAbs) cT T.natAbs := Mag.below MT5.on hb6; have Md6 : Mag w6 ad (nl (dman dk).natAbs) cd (dman dk).natAbs := Mag.below Md5.on hb6; have Mu6 : Mag w6 au (nl u.natAbs) cu u.natAbs := Mag.below Mu5.on hb6; have B6 := below_box (w := w) (have := Beh.mk B5; zbh) hb6; have frs : 0 < nl S.natAbs → ab as1 ≠ w.heap.size + 1 := (fun h => by have := hf6 h; (try simp at this); have := Vt5.out.lt; omega); clear hb6 hf6)
             | (go_at_call 63; have xx := B4; refine (HSH _ aT cT MT4.on).out.mono ?_; rintro e w5 ⟨au, cu, rfl, Mu5, hb5, hf5⟩; have Vr5 : DyV w5 w.heap.size false false (.slice none 0 0) 0 := (Vr4.out.on.below hb5); (try clear rc0 rc1 rc2 rc3 rc4); obtain ⟨rc0, rc1, rc2, rc3, rc4, rc5⟩ := Vr5; have Vr5 := Lib.hid (DyV.mk rc0 rc1 rc2 rc3 rc4 rc5); have Vt5 : BgV w5 (w.heap.size + 1) (decide (T < 0)) (.slice aT (nl T.natAbs) cT) := (Vt4.out.on.below hb5); (try clear tc0 tc1 tc2); obtain ⟨tc0, tc1, tc2, tc3⟩ := Vt5; have Vt5 := Lib.hid (BgV.mk tc0 tc1 tc2 tc3); have Vd5 : DyV w5 zd false (decide (dman dk < 0)) (.slice ad (nl (dman dk).natAbs) cd) (dexp dk) := (Vd4.out.on.below hb5); (try clear dc0 dc1 dc2 dc3 dc4); obtain ⟨dc0, dc1, dc2, dc3, dc4, dc5⟩ := Vd5; have Vd5 := Lib.hid (DyV.mk dc0 dc1 dc2 dc3 dc4 dc5); have MT5 : Mag w5 aT (nl T.natAbs) cT T.natAbs := Mag.below MT4.on hb5; have Md5 : Mag w5 ad (nl (dman dk).natAbs) cd (dman dk).natAbs := Mag.below Md4.on hb5; have B5 := below_box (w := w) (have := Beh.mk B4; zbh) hb5; clear hb5 hf5)
             | fail)
           | fail "region"
           all_goals as_aux_lemma => (
            go_wp2_with fail
            go_roundw
            case rel => exact ⟨k + 1, S, dexp dk, as1, cs1, by omega, by go_num, rfl, by omega, by omega, HU2.out, HBK.out, ⟨by go_simp, by go_simp, fun i => by go_simp, by simpa using tc3⟩, (by repeat (with_reducible first | refine Mag.set ?_ frs _ _ | refine Mag.drew ?_ | refine Mag.drewN ?_ _ | exact Ms16)), (by repeat (with_reducible first | refine DyV.set ?_ nr _ _ | refine DyV.drew ?_ | refine DyV.drewN ?_ _ | exact Vr6.out)), (have := Beh.mk B6; zbh)⟩
            case measure => simp [intOf]; omega)
  · obtain rfl : k = n := by omega
    have hdsn := HDS.out HBAD.out
    have hdd : dsum d k = nrm T f := by rw [hdsn, ← HUP.out, nrm_up _ _ _ hEf]
    have HMk := fun W b c h ht => Lib.hid (rmake_any W (decide (T < 0)) b (nl T.natAbs) c T.natAbs f h (Nat.le_trans (nl_le_blen _) (by omega)) ht (by omega) (by omega))
    rw [sgn_self, ← hdd] at HMk
    obtain ⟨ds, hds⟩ : ∃ ds, ds = dsum d k := ⟨_, rfl⟩
    rw [← hds] at HMk
    have HD3 := Lib.hid hds
    clear hds hdd hdsn
    obtain ⟨rc0, rc1, rc2, rc3, rc4, rc5⟩ := Ir
    obtain ⟨tc0, tc1, tc2, tc3⟩ := It
    go_wp2_with fail
    refine (HMk _ aT cT MT0 (hT.below B0)).out.mono ?_
    rintro e w5 ⟨a5, c5, rfl, m5, hb5, hf5⟩
    have B5 := below_box (w := w) B0 hb5
    have V5 := Vr0.out.below hb5
    have hf6 : 0 < nl (dman ds).natAbs → w.heap.size < ab a5 := fun h => by have := hf5 h; have := Vr0.out.lt; omega
    clear rc0 rc1 rc2 rc3 rc4 rc5 hb5 hf5
    obtain ⟨rc0, rc1, rc2, rc3, rc4, rc5⟩ := V5
    go_wp2_with fail
    refine bodyPost_ret (v := .agg #[.bool (dbad ds), .bool (decide (dman ds < 0)), .slice a5 (nl (dman ds).natAbs) c5, .int .i64 (dexp ds)]) (by simp only [results, Tryz.results22]; go_simp) rfl ?_
    rw [← HD3.out]
    exact ⟨a5, c5, rfl, (by repeat (with_reducible first | refine Mag.set ?_ (fun h => by have := hf6 h; omega) _ _ | exact m5)), (have := Beh.mk B5; zbh), fun h => by have := hf6 h; omega⟩
end Go.Proofs.YtablcbgeeeboeaaGreatDoor
