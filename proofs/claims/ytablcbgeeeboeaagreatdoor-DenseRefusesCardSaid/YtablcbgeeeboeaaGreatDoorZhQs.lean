/-
  Walks: the law DenseRefuses.
-/
import Derived.Test.YtablcbgeeeboeaaGreatDoorZhPn
set_option maxRecDepth 100000
set_option maxHeartbeats 40000000
namespace Go.Proofs.YtablcbgeeeboeaaGreatDoor
open Go.RowKit Sp
attribute [local irreducible] Calls
theorem zNH (r c : Nat) (k : Int) (ae : Option Addr) (ce : Nat) (B : Nat → Option (Int × Int)) (hBN : ∀ t, IsN (B t)) (hbad : zA5 B (r * c) = false) (hr : r ≤ 64) (hc : c ≤ 64) (hk : k ≤ 9223372036854775807) :
 ∃ (r1 r2 N q1 Q : Nat) (V : Nat → Nat) (D : Nat → Option (Int × Int)) (K E : Int), (∀ i, IsN (D i)) ∧
  (∀ (W : World) [Tb W] [DZ W ae (r * c) ce B], Calls Tryz.prog 13 #[.agg #[.int .i64 r, .int .i64 c, .slice ae (r * c) ce], .int .i64 k, .int .i64 k] W fun o w' => ∃ v, o = .returned v ∧ ElX r1 r2 N q1 Q V D K E v W.heap.size w'.heap.size w' ∧ From W w') ∧
  (∀ (W : World) [Tb W] [DZ W ae (r * c) ce B], Calls Tryz.prog 14 #[.agg #[.int .i64 r, .int .i64 c, .slice ae (r * c) ce], .int .i64 k, .int .i64 k] W fun o w' => ∃ v, o = .returned v ∧ ElX r1 r2 N q1 Q V D K E v W.heap.size w'.heap.size w' ∧ From W w') := by
 have hE : zD3 r c (r * c) (zA5 B (r * c)) = 0 := zBb hr hc hbad
 by_cases h0 : r = c
 · subst h0
   by_cases h1 : k < 0
   · refine ⟨0, 0, 0, 0, 0, fun _ => 0, fun _ => some (0, 0), 0, 5, fun i => zHL, fun W i1 i2 => ?_, fun W i1 i2 => ?_⟩
     · exact (zKO W r r k k ae (r * r) ce B hE rfl h1).mono fun o w' ⟨e, hb⟩ => ⟨_, e, ElX.zero _ _ _ _ _ _, ⟨hb⟩⟩
     · exact (zJC W r r k k ae (r * r) ce B hE rfl h1).mono fun o w' ⟨e, hb⟩ => ⟨_, e, ElX.zero _ _ _ _ _ _, ⟨hb⟩⟩
   · obtain ⟨q, rfl⟩ : ∃ q : Nat, k = (q : Int) := ⟨k.toNat, by omega⟩
     by_cases h2 : q ≤ r + 1
     · exact zNI r q (q : Int) ae ce B hBN hbad hr h2 hk
     · refine ⟨0, 0, 0, 0, 0, fun _ => 0, fun _ => some (0, 0), 0, 5, fun i => zHL, fun W i1 i2 => ?_, fun W i1 i2 => ?_⟩
       · exact (zGv W r r q q ae (r * r) ce B hE rfl (by omega) (by omega)).mono fun o w' ⟨e, hb⟩ => ⟨_, e, ElX.zero _ _ _ _ _ _, ⟨hb⟩⟩
       · exact (zG8 W r q q ae (r * r) ce B hE (by omega) (by omega)).mono fun o w' ⟨e, hb⟩ => ⟨_, e, ElX.zero _ _ _ _ _ _, ⟨hb⟩⟩
 · refine ⟨0, 0, 0, 0, 0, fun _ => 0, fun _ => some (0, 0), 0, 5, fun i => zHL, fun W i1 i2 => ?_, fun W i1 i2 => ?_⟩
   · exact (zMl W r c k k ae (r * c) ce B hE (by omega)).mono fun o w' ⟨e, hb⟩ => ⟨_, e, ElX.zero _ _ _ _ _ _, ⟨hb⟩⟩
   · exact (zLy W r c k k ae (r * c) ce B hE (by omega)).mono fun o w' ⟨e, hb⟩ => ⟨_, e, ElX.zero _ _ _ _ _ _, ⟨hb⟩⟩
theorem zOW (r c s t m : Nat) (hr : r ≤ 64) (hc : c ≤ 64) (hs : s ≤ 64) (ht : t ≤ 64) (ob oc al : Option Addr) (cb cc cl : Nat) (B C : Nat → Option (Int × Int)) (A : Nat → Int) (hNB : ∀ i, IsN (B i)) (hNC : ∀ i, IsN (C i)) (hbB : zA5 B (r * c) = false) (hbC : zA5 C (s * t) = false) :
 ∃ (q Q : Nat) (D : Nat → Option (Int × Int)) (E : Int), (∀ (W : World) [Tb W] [DZ W ob (r * c) cb B] [DZ W oc (s * t) cc C] [IZ W al m cl A], Calls Tryz.prog 33 #[.agg #[.int .i64 r, .int .i64 c, .slice ob (r * c) cb], .slice al m cl, .agg #[.int .i64 s, .int .i64 t, .slice oc (s * t) cc]] W fun o w' => ∃ oa ocp, o = .returned (.tuple #[.agg #[.int .i64 (q : Nat), .int .i64 (q : Nat), .slice oa Q ocp], .int .i64 E]) ∧ DZ w' oa Q ocp D ∧ From W w') ∧ (∀ (W : World) [Tb W] [DZ W ob (r * c) cb B] [DZ W oc (s * t) cc C] [IZ W al m cl A], Calls Tryz.prog 34 #[.agg #[.int .i64 r, .int .i64 c, .slice ob (r * c) cb], .slice al m cl, .agg #[.int .i64 s, .int .i64 t, .slice oc (s * t) cc]] W fun o w' => ∃ oa ocp, o = .returned (.tuple #[.agg #[.int .i64 (q : Nat), .int .i64 (q : Nat), .slice oa Q ocp], .int .i64 E]) ∧ DZ w' oa Q ocp D ∧ From W w') := by
 by_cases h0 : r = c
 · by_cases h1 : s = t
   · by_cases h2 : m = s
     · subst h0 h1 h2
       cases hrw : zBA A r m with
       | false =>
        refine ⟨0, 0, fun _ => some (0, 0), 232, fun W i1 i2 i3 i4 => ?_, fun W i1 i2 i3 i4 => ?_⟩
        · exact (zKR W r m hr hs ob oc al cb cc cl B C A hbB hbC hrw).mono fun o w' ⟨e, hb⟩ => ⟨none, 0, e, ⟨zCS _ _⟩, hb⟩
        · exact (zJK W r m hr hs ob oc al cb cc cl B C A hbB hbC hrw).mono fun o w' ⟨e, hb⟩ => ⟨none, 0, e, ⟨zCS _ _⟩, hb⟩
       | true =>
        exact ⟨_, _, _, _, fun W i1 i2 i3 i4 => zKS W r m hr hs ob oc al cb cc cl B C A hNB hNC hbB hbC hrw _ rfl, fun W i1 i2 i3 i4 => zJL W r m hr hs ob oc al cb cc cl B C A hNB hNC hbB hbC hrw _ rfl⟩
     · refine ⟨0, 0, fun _ => some (0, 0), 5, fun W i1 i2 i3 i4 => ?_, fun W i1 i2 i3 i4 => ?_⟩
       · exact (zNO W r c s t m hr hc hs ht ob oc al cb cc cl B C A hbB hbC h0 h1 h2).mono fun o w' ⟨e, hb⟩ => ⟨none, 0, e, ⟨zCS _ _⟩, hb⟩
       · exact (zNf W r c s t m hr hc hs ht ob oc al cb cc cl B C A hbB hbC h0 h1 h2).mono fun o w' ⟨e, hb⟩ => ⟨none, 0, e, ⟨zCS _ _⟩, hb⟩
   · refine ⟨0, 0, fun _ => some (0, 0), 5, fun W i1 i2 i3 i4 => ?_, fun W i1 i2 i3 i4 => ?_⟩
     · exact (zNP W r c s t m hr hc hs ht ob oc al cb cc cl B C A hbB hbC h0 h1).mono fun o w' ⟨e, hb⟩ => ⟨none, 0, e, ⟨zCS _ _⟩, hb⟩
     · exact (zNg W r c s t m hr hc hs ht ob oc al cb cc cl B C A hbB hbC h0 h1).mono fun o w' ⟨e, hb⟩ => ⟨none, 0, e, ⟨zCS _ _⟩, hb⟩
 · refine ⟨0, 0, fun _ => some (0, 0), 5, fun W i1 i2 i3 i4 => ?_, fun W i1 i2 i3 i4 => ?_⟩
   · exact (zNQ W r c s t m hr hc hs ht ob oc al cb cc cl B C A hbB hbC h0).mono fun o w' ⟨e, hb⟩ => ⟨none, 0, e, ⟨zCS _ _⟩, hb⟩
   · exact (zNh W r c s t m hr hc hs ht ob oc al cb cc cl B C A hbB hbC h0).mono fun o w' ⟨e, hb⟩ => ⟨none, 0, e, ⟨zCS _ _⟩, hb⟩
theorem zOA (r c s t : Nat) (a b : Option Addr) (cap cab : Nat) (X Y : Nat → Nat) (hr : r ≤ 15) (hc : c ≤ 15) (hs : s ≤ 15) (ht : t ≤ 15) (hX : ∀ x, x < r * c → zB0 (X x) = true) (hY : ∀ x, x < s * t → zB0 (Y x) = true) :
 ∃ (R T N : Nat) (U : Nat → Nat) (E : Int), (∀ (W : World) [Tb W] [FZ W a (r * c) cap X] [FZ W b (s * t) cab Y], Calls Tryz.prog 37 #[.agg #[.int .i64 r, .int .i64 c, .slice a (r * c) cap], .agg #[.int .i64 s, .int .i64 t, .slice b (s * t) cab]] W fun o w' => ∃ v, o = .returned v ∧ MuR R T N U E v W.heap.size w'.heap.size w' ∧ From W w') ∧ (∀ (W : World) [Tb W] [FZ W a (r * c) cap X] [FZ W b (s * t) cab Y], Calls Tryz.prog 38 #[.agg #[.int .i64 r, .int .i64 c, .slice a (r * c) cap], .agg #[.int .i64 s, .int .i64 t, .slice b (s * t) cab]] W fun o w' => ∃ v, o = .returned v ∧ MuR R T N U E v W.heap.size w'.heap.size w' ∧ From W w') := by
 by_cases h0 : c = s
 · subst h0
   exact ⟨_, _, _, _, _, fun W i1 i2 i3 => zMh W r c t a b cap cab X Y hr hc ht hX hY, fun W i1 i2 i3 => zLx W r c t a b cap cab X Y hr hc ht hX hY⟩
 · exact ⟨_, _, _, _, _, fun W i1 i2 i3 => zH4 W r c s t a b cap cab X Y hr hc hs ht hX hY h0, fun W i1 i2 i3 => zGL W r c s t a b cap cab X Y hr hc hs ht hX hY h0⟩
theorem zNK (w : World) [Tb w] (a : Option Addr) (n cap : Nat) (L : Nat → Nat) [_hL : FZ w a n cap L] (r0 c0 s0 t0 k : Int) (al : Option Addr) (m cl : Nat) (A : Nat → Int) [hA : IZ w al m cl A] (hm : 8 < m) :
 Calls Tryz.prog 9 #[.slice a n cap, .int .i64 r0, .int .i64 c0, .int .i64 s0, .int .i64 t0, .int .i64 k, .slice al m cl] w fun o w' => o = .returned (.bool true) ∧ Below w.heap.size w w' := by
 have HAW := fun W [Tb W] => Lib.hid (frm (zEv W))
 have l3 := hA.out.lim
 have l4 := hA.out.fits
 go_enter Tryz.func9, Tryz.ntmps9
 go_wp2_with fail
 refine (HAW _).out.mono ?_; rintro o w7 ⟨rfl, b7⟩
 go_wp2_with fail
 go_ret
 exact ⟨rfl, zbh⟩
theorem zMa (w : World) [Tb w] (a : Option Addr) (n cap : Nat) (L : Nat → Nat) [hL : FZ w a n cap L] (r0 c0 s0 t0 k : Int) (hk : k ≤ 9223372036854775807) (al : Option Addr) (m cl : Nat) (A : Nat → Int) [hA : IZ w al m cl A] (hm : m ≤ 8) :
 Calls Tryz.prog 9 #[.slice a n cap, .int .i64 r0, .int .i64 c0, .int .i64 s0, .int .i64 t0, .int .i64 k, .slice al m cl] w fun o w' => o = .returned (.bool true) ∧ Below w.heap.size w w' := by
 have HAW := fun W [Tb W] => Lib.hid (frm (zEv W))
 have l3 := hA.out.lim
 have l4 := hA.out.fits
 obtain ⟨r, hr, hr5⟩ := zEK r0 5 (by omega)
 obtain ⟨c, hc, hc5⟩ := zEK c0 5 (by omega)
 obtain ⟨s, hs, hs5⟩ := zEK s0 5 (by omega)
 obtain ⟨t, ht, ht5⟩ := zEK t0 5 (by omega)
 have HMR := fun W => Lib.hid (zCG W r0 5 (by omega) (by omega))
 have HMC := fun W => Lib.hid (zCG W c0 5 (by omega) (by omega))
 have HMS := fun W => Lib.hid (zCG W s0 5 (by omega) (by omega))
 have HMT := fun W => Lib.hid (zCG W t0 5 (by omega) (by omega))
 rw [show ((5 : Nat) : Int) = 5 from rfl] at hr hc hs ht
 rw [hr] at HMR
 rw [hc] at HMC
 rw [hs] at HMS
 rw [ht] at HMT
 have HBA := fun W [Tb W] [FZ W a n cap L] => Lib.hid ((zER W a n cap L r c (by omega) (by omega) 3).mono fun o w' ⟨oa, oc, X, h1, h2, h3, h4⟩ => (⟨oa, oc, X, h1, ⟨h2.dz fun i => zBI _⟩, h3, ⟨h4⟩⟩ : ∃ (oa : Option Addr) (oc : Nat) (X : Nat → Nat), o = Ending.returned (.agg #[.int .i64 r, .int .i64 c, .slice oa (r * c) oc]) ∧ DZ w' oa (r * c) oc (fun i => fof (X i)) ∧ Fin' X ∧ From W w'))
 have HBB := fun W [Tb W] [FZ W a n cap L] => Lib.hid ((zER W a n cap L s t (by omega) (by omega) 3).mono fun o w' ⟨oa, oc, X, h1, h2, h3, h4⟩ => (⟨oa, oc, X, h1, ⟨h2.dz fun i => zBI _⟩, h3, ⟨h4⟩⟩ : ∃ (oa : Option Addr) (oc : Nat) (X : Nat → Nat), o = Ending.returned (.agg #[.int .i64 s, .int .i64 t, .slice oa (s * t) oc]) ∧ DZ w' oa (s * t) oc (fun i => fof (X i)) ∧ Fin' X ∧ From W w'))
 have HPA := fun W [Tb W] [FZ W a n cap L] => Lib.hid ((zEQ W a n cap L r c (by omega) (by omega) 3).mono fun o w' ⟨oa, oc, X, h1, h2, h3, h4⟩ => (⟨oa, oc, X, h1, ⟨h2.2⟩, h3, h4⟩ : ∃ (oa : Option Addr) (oc : Nat) (X : Nat → Nat), o = Ending.returned (.agg #[.int .i64 r, .int .i64 c, .slice oa (r * c) oc]) ∧ FZ w' oa (r * c) oc X ∧ SX 3 X ∧ From W w'))
 have HPB := fun W [Tb W] [FZ W a n cap L] => Lib.hid ((zEQ W a n cap L s t (by omega) (by omega) 3).mono fun o w' ⟨oa, oc, X, h1, h2, h3, h4⟩ => (⟨oa, oc, X, h1, ⟨h2.2⟩, h3, h4⟩ : ∃ (oa : Option Addr) (oc : Nat) (X : Nat → Nat), o = Ending.returned (.agg #[.int .i64 s, .int .i64 t, .slice oa (s * t) oc]) ∧ FZ w' oa (s * t) oc X ∧ SX 3 X ∧ From W w'))
 have hkk := Lib.hid hk
 clear hr hc hs ht hk
 go_enter Tryz.func9, Tryz.ntmps9
 go_wp2_with fail
 refine (HMR _).out.mono ?_; rintro o z1 ⟨rfl, rfl⟩; go_wp2_with fail
 refine (HMC _).out.mono ?_; rintro o z1 ⟨rfl, rfl⟩; go_wp2_with fail
 refine (HBA _).out.mono ?_; rintro o w1 ⟨oa, oc, X, rfl, iA, hX, b1⟩; go_wp2_with fail
 refine (HMS _).out.mono ?_; rintro o z1 ⟨rfl, rfl⟩; go_wp2_with fail
 refine (HMT _).out.mono ?_; rintro o z1 ⟨rfl, rfl⟩; go_wp2_with fail
 refine (HBB _).out.mono ?_; rintro o w2 ⟨ob, od, Y, rfl, iB, hY, b2⟩; go_wp2_with fail
 refine (HMR _).out.mono ?_; rintro o z1 ⟨rfl, rfl⟩; go_wp2_with fail
 refine (HMC _).out.mono ?_; rintro o z1 ⟨rfl, rfl⟩; go_wp2_with fail
 refine (HPA _).out.mono ?_; rintro o w3 ⟨pa, pc, P, rfl, iP, hP, b3⟩; go_wp2_with fail
 refine (HMS _).out.mono ?_; rintro o z1 ⟨rfl, rfl⟩; go_wp2_with fail
 refine (HMT _).out.mono ?_; rintro o z1 ⟨rfl, rfl⟩; go_wp2_with fail
 refine (HPB _).out.mono ?_; rintro o w4 ⟨qa, qc, Q', rfl, iQ, hQ, b4⟩
 clear HMR HMC HMS HMT HBA HBB HPA HPB
 have gA := zL7 (fun x => (hX x).2) (r * c)
 have gB := zL7 (fun x => (hY x).2) (s * t)
 obtain ⟨B, hBB⟩ : ∃ B, B = fun i => fof (X i) := ⟨_, rfl⟩
 obtain ⟨C, hCC⟩ : ∃ C, C = fun i => fof (Y i) := ⟨_, rfl⟩
 have NB' : ∀ i, IsN (B i) := fun i => by rw [hBB]; exact zBI _
 have NC' : ∀ i, IsN (C i) := fun i => by rw [hCC]; exact zBI _
 rw [← hBB] at gA
 rw [← hCC] at gB
 haveI iA' : DZ w4 oa (r * c) oc B := by rw [hBB]; exact inferInstance
 haveI iB' : DZ w4 ob (s * t) od C := by rw [hCC]; exact inferInstance
 obtain ⟨r1, r2, N, q1, Q, V, D, K, E, hDN, e1, e2⟩ := zNH r c k oa oc B NB' gA (by omega) (by omega) hkk.out
 obtain ⟨q2, Q2, D2, E2, a1, a2⟩ := zOW r c s t m (by omega) (by omega) (by omega) (by omega) oa ob al oc od cl B C A NB' NC' gA gB
 obtain ⟨R, T, N3', U, E3, m1, m2⟩ := zOA r c s t pa qa pc qc P Q' (by omega) (by omega) (by omega) (by omega) (fun x _ => (hP x).2.1) (fun x _ => (hQ x).2.1)
 have HE1 := fun W [Tb W] [DZ W oa (r * c) oc B] => Lib.hid (e1 W)
 have HE2 := fun W [Tb W] [DZ W oa (r * c) oc B] => Lib.hid (e2 W)
 have HA1 := fun W [Tb W] [DZ W oa (r * c) oc B] [DZ W ob (s * t) od C] [IZ W al m cl A] => Lib.hid (a1 W)
 have HA2 := fun W [Tb W] [DZ W oa (r * c) oc B] [DZ W ob (s * t) od C] [IZ W al m cl A] => Lib.hid (a2 W)
 have HM1 := fun W [Tb W] [FZ W pa (r * c) pc P] [FZ W qa (s * t) qc Q'] => Lib.hid (m1 W)
 have HM2 := fun W [Tb W] [FZ W pa (r * c) pc P] [FZ W qa (s * t) qc Q'] => Lib.hid (m2 W)
 have HSP := fun W (r s : Int) (n : Nat) (V : Nat → Nat) x c x' c' [FZ W x n c V] [FZ W x' n c' V] => Lib.hid (frm (zIH W r s x x' n c c' V))
 have HSB := fun W (r s : Int) (n : Nat) (d : Nat → Option (Int × Int)) x c x' c' [Tb W] [DZ W x n c d] [DZ W x' n c' d] => Lib.hid (frm (zII W r s x x' n c c' d))
 have HDN := Lib.hid hDN
 clear e1 e2 a1 a2 m1 m2 gA gB NB' NC' hX hY hP hQ hBB hCC iA iB hDN
 generalize r * c = N1 at *
 generalize s * t = N2 at *
 go_wp2_with fail
 refine (HE1 _).out.mono ?_; rintro o w5 ⟨vr, rfl, ⟨xa, xc, ya, yc, rfl, hF1, hD1⟩, b5⟩
 haveI f1 : FZ w5 xa N xc V := ⟨hF1.2⟩
 haveI g1 : DZ w5 ya Q yc D := ⟨hD1.dz HDN.out⟩
 go_wp2_with fail
 refine (HE2 _).out.mono ?_; rintro o w6 ⟨vr, rfl, ⟨ua, uc, va, vc, rfl, hF2, hD2⟩, b6⟩
 haveI f2 : FZ w6 ua N uc V := ⟨hF2.2⟩
 haveI g2 : DZ w6 va Q vc D := ⟨hD2.dz HDN.out⟩
 go_wp2_with fail
 refine (HA1 _).out.mono ?_; rintro o w7 ⟨ga, gc, rfl, ig, b7⟩
 go_wp2_with fail
 refine (HA2 _).out.mono ?_; rintro o w8 ⟨ia, ic, rfl, ii, b8⟩
 go_wp2_with fail
 refine (HM1 _).out.mono ?_; rintro o w9 ⟨vr, rfl, ⟨wa, wc', rfl, hF3⟩, b9⟩
 haveI f3 : FZ w9 wa N3' wc' U := ⟨hF3.2⟩
 go_wp2_with fail
 refine (HM2 _).out.mono ?_; rintro o w10 ⟨vr, rfl, ⟨za, zc, rfl, hF4⟩, b10⟩
 haveI f4 : FZ w10 za N3' zc U := ⟨hF4.2⟩
 clear HE1 HE2 HA1 HA2 HM1 HM2
 go_wp2_with fail
 refine (HSP _ _ _ _ V _ _ _ _).out.mono ?_; rintro o w11 ⟨rfl, b11⟩
 go_wp2_with fail
 refine (HSB _ _ _ _ D _ _ _ _).out.mono ?_; rintro o w12 ⟨rfl, b12⟩
 go_wp2_with fail
 refine (HSB _ _ _ _ D2 _ _ _ _).out.mono ?_; rintro o w13 ⟨rfl, b13⟩
 go_wp2_with fail
 refine (HSP _ _ _ _ U _ _ _ _).out.mono ?_; rintro o w14 ⟨rfl, b14⟩
 go_wp2_with fail
 refine (HAW _).out.mono ?_; rintro o w15 ⟨rfl, b15⟩
 go_wp2_with fail
 go_ret
 exact ⟨rfl, zbh⟩
theorem zMb (w : World) (hT : Tab w) (a : Option Addr) (n cap : Nat) (L : Nat → Nat) (hL : Fls w a n cap L) (r0 c0 s0 t0 k : Int) (hk : k ≤ 9223372036854775807) (al : Option Addr) (m cl : Nat) (A : Nat → Int) (hA : Ils w al m cl A) :
 Calls Tryz.prog 9 #[.slice a n cap, .int .i64 r0, .int .i64 c0, .int .i64 s0, .int .i64 t0, .int .i64 k, .slice al m cl] w fun o w' => o = .returned (.bool true) ∧ Below w.heap.size w w' := by
 haveI : Tb w := ⟨hT⟩
 haveI : FZ w a n cap L := ⟨hL⟩
 haveI : IZ w al m cl A := ⟨hA⟩
 by_cases hm : m ≤ 8
 · exact zMa w a n cap L r0 c0 s0 t0 k hk al m cl A hm
 · exact zNK w a n cap L r0 c0 s0 t0 k al m cl A (by omega)
end Go.Proofs.YtablcbgeeeboeaaGreatDoor
