/-
  Walks: the reference of accum: Dot, Residual.
  Walks: package accum: NormInf.
  Walks: the reference of accum: NormInf, NormOne, NormTwo.
-/
import Derived.Test.YtakbappmkdaioaaGreatDoorZkS3
import Derived.Test.YtakbappmkdaioaaGreatDoorZkS3g
import Derived.Test.YtakbappmkdaioaaGreatDoorZkCs
import Derived.Test.YtakbappmkdaioaaGreatDoorZkRV
import Derived.Test.YtakbappmkdaioaaGreatDoorZkAr
import Derived.Test.YtakbappmkdaioaaGreatDoorZkCm
import Derived.Test.YtakbappmkdaioaaGreatDoorZkKA
namespace Go.Proofs.YtakbappmkdaioaaGreatDoor
open Go.RowKit Sp

attribute [local irreducible] Calls
set_option maxRecDepth 100000 in
set_option maxHeartbeats 20000000 in
theorem rdot6_len (w : World) (_hT : Tab w) (a a' : Option Addr) (n m cap cap' : Nat) (X Y : Nat → Nat) (hX : Fls w a n cap X) (hY : Fls w a' m cap' Y) (hnm : n ≠ m) :
    Calls Tryz.prog 35 #[.slice a n cap, .slice a' m cap'] w (RetDyE w (some (0, 0)) 2) := by
  have l1 := hX.lim
  have l2 := hX.fits
  have l3 := hY.lim
  have l4 := hY.fits
  have HF := fun W h => Lib.hid (rfinite_any W a n cap X h)
  have HG := fun W h => Lib.hid (rfinite_any W a' m cap' Y h)
  have HX := Lib.hid hX
  have HY := Lib.hid hY
  clear HF HG
  clear hX hY
  go_enter Tryz.func35, Tryz.ntmps35
  go_wp2_with fail
  refine bodyPost_ret (v := .tuple #[.agg #[.bool false, .bool false, .slice none 0 0, .int .i64 0], .int .i64 2]) (by simp only [results, Tryz.results35]; go_simp) rfl ?_
  exact ⟨none, 0, rfl, Mag.nil _, zbh, nl0⟩

set_option maxRecDepth 100000 in
set_option maxHeartbeats 20000000 in
theorem rdot6_fx (w : World) (_hT : Tab w) (a a' : Option Addr) (n m cap cap' : Nat) (X Y : Nat → Nat) (hX : Fls w a n cap X) (hY : Fls w a' m cap' Y) (hnm : n = m) (fa : allfin X n = false) :
    Calls Tryz.prog 35 #[.slice a n cap, .slice a' m cap'] w (RetDyE w (some (0, 0)) 4) := by
  have l1 := hX.lim
  have l2 := hX.fits
  have l3 := hY.lim
  have l4 := hY.fits
  have HF := fun W h => Lib.hid (rfinite_any W a n cap X h)
  have HG := fun W h => Lib.hid (rfinite_any W a' m cap' Y h)
  have HX := Lib.hid hX
  have HY := Lib.hid hY
  rw [fa] at HF
  clear HG fa
  subst hnm
  clear hX hY
  go_enter Tryz.func35, Tryz.ntmps35
  go_wp2_with fail
  refine (HF _ (HX.out.below zbh)).out.mono ?_
  rintro e w9 ⟨rfl, rfl⟩
  go_wp2_with fail
  refine bodyPost_ret (v := .tuple #[.agg #[.bool false, .bool false, .slice none 0 0, .int .i64 0], .int .i64 4]) (by simp only [results, Tryz.results35]; go_simp) rfl ?_
  exact ⟨none, 0, rfl, Mag.nil _, zbh, nl0⟩

set_option maxRecDepth 100000 in
set_option maxHeartbeats 20000000 in
theorem rdot6_fy (w : World) (_hT : Tab w) (a a' : Option Addr) (n m cap cap' : Nat) (X Y : Nat → Nat) (hX : Fls w a n cap X) (hY : Fls w a' m cap' Y) (hnm : n = m) (fa : allfin X n = true) (fb : allfin Y m = false) :
    Calls Tryz.prog 35 #[.slice a n cap, .slice a' m cap'] w (RetDyE w (some (0, 0)) 4) := by
  have l1 := hX.lim
  have l2 := hX.fits
  have l3 := hY.lim
  have l4 := hY.fits
  have HF := fun W h => Lib.hid (rfinite_any W a n cap X h)
  have HG := fun W h => Lib.hid (rfinite_any W a' m cap' Y h)
  have HX := Lib.hid hX
  have HY := Lib.hid hY
  rw [fa] at HF
  rw [fb] at HG
  clear fa fb
  subst hnm
  clear hX hY
  go_enter Tryz.func35, Tryz.ntmps35
  go_wp2_with fail
  refine (HF _ (HX.out.below zbh)).out.mono ?_
  rintro e w9 ⟨rfl, rfl⟩
  go_wp2_with fail
  refine (HG _ (HY.out.below zbh)).out.mono ?_
  rintro e w9 ⟨rfl, rfl⟩
  go_wp2_with fail
  refine bodyPost_ret (v := .tuple #[.agg #[.bool false, .bool false, .slice none 0 0, .int .i64 0], .int .i64 4]) (by simp only [results, Tryz.results35]; go_simp) rfl ?_
  exact ⟨none, 0, rfl, Mag.nil _, zbh, nl0⟩

set_option maxRecDepth 100000 in
set_option maxHeartbeats 20000000 in
theorem rdot6_ok (w : World) (hT : Tab w) (a a' : Option Addr) (n m cap cap' : Nat) (X Y : Nat → Nat) (hX : Fls w a n cap X) (hY : Fls w a' m cap' Y) (hnm : n = m) (fa : allfin X n = true) (fb : allfin Y m = true) :
    Calls Tryz.prog 35 #[.slice a n cap, .slice a' m cap'] w (RetDyE w (rsumD (fun i => dmul (fof (X i)) (fof (Y i))) n) 0) := by
  have l1 := hX.lim
  have l2 := hX.fits
  have l3 := hY.lim
  have l4 := hY.fits
  have HF := fun W h => Lib.hid (rfinite_any W a n cap X h)
  have HG := fun W h => Lib.hid (rfinite_any W a' m cap' Y h)
  have HX := Lib.hid hX
  have HY := Lib.hid hY
  rw [fa] at HF
  rw [fb] at HG
  subst hnm
  have HO := fun (k : Nat) (hk : k < n) W [Tb W] => Lib.hid (frs (isN_fof (X k)) (r3of_any W (X k) (hX.b k hk) tb))
  have HP := fun (k : Nat) (hk : k < n) W [Tb W] => Lib.hid (frs (isN_fof (Y k)) (r3of_any W (Y k) (hY.b k hk) tb))
  have HM := fun (k : Nat) W a1 c1 a2 c2 [i1 : DS W (dbad (fof (X k))) (decide (dman (fof (X k)) < 0)) a1 (nl (dman (fof (X k))).natAbs) c1 (dexp (fof (X k))) (fof (X k))] [i2 : DS W (dbad (fof (Y k))) (decide (dman (fof (Y k)) < 0)) a2 (nl (dman (fof (Y k))).natAbs) c2 (dexp (fof (Y k))) (fof (Y k))] [Tb W] => Lib.hid (frs (isN_mul _ _) (rdmul_any W _ _ _ _ _ _ _ _ _ _ _ _ (fof (X k)) (fof (Y k)) i1.out i2.out tb))
  obtain ⟨d, hd⟩ : ∃ d : Nat → Option (Int × Int), d = fun i => dmul (fof (X i)) (fof (Y i)) := ⟨_, rfl⟩
  have hdi : ∀ i, dmul (fof (X i)) (fof (Y i)) = d i := fun i => by rw [hd]
  rw [← hd]
  simp only [hdi] at HM
  have HA := fun (k : Nat) W a1 c1 a2 c2 [i1 : DS W (dbad (rsumD d k)) (decide (dman (rsumD d k) < 0)) a1 (nl (dman (rsumD d k)).natAbs) c1 (dexp (rsumD d k)) (rsumD d k)] [i2 : DS W (dbad (d k)) (decide (dman (d k) < 0)) a2 (nl (dman (d k)).natAbs) c2 (dexp (d k)) (d k)] [Tb W] => Lib.hid (frsF (isN_rsum d (k + 1)) (rdadd_any W _ _ _ _ _ _ _ _ _ _ _ _ (rsumD d k) (d k) i1.out i2.out tb))
  clear hX hY hd hdi fa fb
  go_enter Tryz.func35, Tryz.ntmps35
  go_wp2_with fail
  refine (HF _ (HX.out.below zbh)).out.mono ?_
  rintro e w9 ⟨rfl, rfl⟩
  go_wp2_with fail
  refine (HG _ (HY.out.below zbh)).out.mono ?_
  rintro e w9 ⟨rfl, rfl⟩
  go_wp2_with fail
  go_loopw [7] (fun i wr => ∃ (k : Nat) (a3 : Option Addr) (c3 : Nat), k ≤ n ∧ i = .int .i64 k ∧ DB wr w.heap.size false false (.slice none 0 0) 0 ∧ DB wr (w.heap.size + 1) (dbad (rsumD d k)) (decide (dman (rsumD d k) < 0)) (.slice a3 (nl (dman (rsumD d k)).natAbs) c3) (dexp (rsumD d k)) ∧ Mag wr a3 (nl (dman (rsumD d k)).natAbs) c3 (dman (rsumD d k)).natAbs ∧ (0 < nl (dman (rsumD d k)).natAbs → w.heap.size + 2 ≤ ab a3) ∧ Beh w wr) (fun i _ => n - (intOf i).toNat)
  case atStart => exact ⟨0, none, 0, by omega, rfl, inferInstance, (inferInstance : DB _ _ false false (.slice none 0 0) 0), Mag.nil _, fun h => absurd h (by show ¬ 0 < nl 0; rw [show nl 0 = 0 from rfl]; omega), inferInstance⟩
  case round =>
    obtain ⟨kk, a3, c3, hk, rfl, V0, Vt, M3, hf3, hb⟩ := hrel
    have hB := hb.out
    have lt0 := V0.out.lt
    have ltt := Vt.out.lt
    by_cases hlt : kk < n
    · haveI kX : CE wr (ab a) (ao a + kk) (.int .u64 (X kk : Nat)) := ⟨(HX.out.below hB).cell kk hlt, Nat.lt_of_lt_of_le (HX.out.old (by omega)) hB.size⟩
      haveI kY : CE wr (ab a') (ao a' + kk) (.int .u64 (Y kk : Nat)) := ⟨(HY.out.below hB).cell kk hlt, Nat.lt_of_lt_of_le (HY.out.old (by omega)) hB.size⟩
      have iX := (HX.out.below hB).idx kk hlt
      have iY := (HY.out.below hB).idx kk hlt
      haveI T5 : Tb wr := ⟨hT.below hB⟩
      haveI D3 : DS wr (dbad (rsumD d kk)) (decide (dman (rsumD d kk) < 0)) a3 (nl (dman (rsumD d kk)).natAbs) c3 (dexp (rsumD d kk)) (rsumD d kk) := ⟨dys_of (isN_rsum d kk) M3⟩
      have HOq := HO kk hlt
      have HPq := HP kk hlt
      have HMq := HM kk
      have HAq := HA kk
      obtain ⟨y, hy⟩ : ∃ y, y = rsumD d (kk + 1) := ⟨_, rfl⟩
      rw [← hy] at HAq
      have HYY := Lib.hid hy
      clear hy HO HP HM HA HF HG M3
      generalize rsumD d kk = sm at *
      generalize d kk = dk at *
      generalize fof (X kk) = dx at *
      generalize fof (Y kk) = dy at *
      generalize ((X kk : Nat) : Int) = px at *
      generalize ((Y kk : Nat) : Int) = py at *
      go_wp2_with fail
      first
      | go_region_with
        (first
          | (go_at_call 61; refine (HOq _).out.mono ?_; rintro e w6 ⟨a6, c6, rfl, i6, b6⟩)
          | (go_at_call 61; refine (HPq _).out.mono ?_; rintro e w7 ⟨a7, c7, rfl, i7, b7⟩)
          | (go_at_call 151; refine (HMq _ _ _ _ _).out.mono ?_; rintro e w8 ⟨a8, c8, rfl, i8, b8⟩)
          | (go_at_call 149; refine (HAq _ _ _ _ _).out.mono ?_; rintro e w10 ⟨a10, c10, rfl, i10, b10, m10, f10⟩)
          | fail)
      | fail "region"
      all_goals (
        have hf0 := fresh_of (wr := wr) b10 f10
        have hf : 0 < nl (dman y).natAbs → w.heap.size + 2 ≤ ab a10 := fun h => by
          have q1 := hf0 h
          omega
        go_wp2_with fail
        go_roundw
        case rel =>
          refine ⟨kk + 1, a10, c10, by omega, by go_num, ?_⟩
          rw [← HYY.out]
          exact ⟨inferInstance, inferInstance, Mag.st4 m10.out (fun h => by have := hf h; omega) _ _ _ _, hf, inferInstance⟩
        case measure => simp [intOf]; omega)
    · obtain rfl : kk = n := by omega
      clear HO HP HM HA HF HG
      generalize rsumD d kk = sm at *
      go_wp2_with fail
      refine bodyPost_ret (v := .tuple #[.agg #[.bool (dbad sm), .bool (decide (dman sm < 0)), .slice a3 (nl (dman sm).natAbs) c3, .int .i64 (dexp sm)], .int .i64 0]) (by simp only [results, Tryz.results35]; go_simp) rfl ?_
      exact ⟨a3, c3, rfl, Mag.st4 M3 (fun h => by have := hf3 h; omega) _ _ _ _, zbh, fun h => by have := hf3 h; omega⟩

theorem rdot6_any (w : World) (hT : Tab w) (a a' : Option Addr) (n m cap cap' : Nat) (X Y : Nat → Nat) (hX : Fls w a n cap X) (hY : Fls w a' m cap' Y) (hn : n ≤ 15) :
    Calls Tryz.prog 35 #[.slice a n cap, .slice a' m cap'] w (RetDyE w (dotD X Y n m) (dotE X Y n m)) := by
  by_cases hnm : n = m
  · cases hfx : allfin X n with
    | false =>
      have e : dotE X Y n m = 4 := by unfold dotE; rw [if_neg (fun h => h hnm), hfx]; rfl
      have e2 : dotD X Y n m = some (0, 0) := by unfold dotD; rw [e]; rfl
      rw [e, e2]; exact rdot6_fx w hT a a' n m cap cap' X Y hX hY hnm hfx
    | true =>
      cases hfy : allfin Y m with
      | false =>
        have e : dotE X Y n m = 4 := by unfold dotE; rw [if_neg (fun h => h hnm), hfx, hfy]; rfl
        have e2 : dotD X Y n m = some (0, 0) := by unfold dotD; rw [e]; rfl
        rw [e, e2]; exact rdot6_fy w hT a a' n m cap cap' X Y hX hY hnm hfx hfy
      | true =>
        have e : dotE X Y n m = 0 := by unfold dotE; rw [if_neg (fun h => h hnm), hfx, hfy]; rfl
        have e2 : dotD X Y n m = ddot X Y n := by unfold dotD; rw [e]; rfl
        rw [e, e2, ← rdot_law X Y hn hfx (by rw [hnm]; exact hfy)]; exact rdot6_ok w hT a a' n m cap cap' X Y hX hY hnm hfx hfy
  · have e : dotE X Y n m = 2 := by unfold dotE; rw [if_pos hnm]
    have e2 : dotD X Y n m = some (0, 0) := by unfold dotD; rw [e]; rfl
    rw [e, e2]; exact rdot6_len w hT a a' n m cap cap' X Y hX hY hnm

end Go.Proofs.YtakbappmkdaioaaGreatDoor

namespace Go.Proofs.YtakbappmkdaioaaGreatDoor
open Go.RowKit Sp

theorem Dys.set {w : World} {a : Option Addr} {n cap : Nat} {L : Nat → El} (h : Dys w a n cap L) {g : Nat} (hne : 0 < n → ab a ≠ g) (hm : ∀ i, i < n → 0 < (L i).n → ab (L i).a ≠ g) (j : Nat) (u : Value) :
    Dys (w.setCell ⟨g, j, none⟩ u) a n cap L :=
  ⟨h.fits, h.lim, h.addr, fun i hi => (cell_set_ne (hne (by omega)) _ _ _).trans (h.c0 i hi), fun i hi => (cell_set_ne (hne (by omega)) _ _ _).trans (h.c1 i hi), fun i hi => (cell_set_ne (hne (by omega)) _ _ _).trans (h.c2 i hi),
    fun i hi => (cell_set_ne (hne (by omega)) _ _ _).trans (h.c3 i hi), fun i hi => (h.m i hi).set (hm i hi) j u, h.b, fun hn => by rw [World.size_setCell]; exact h.old hn⟩

theorem isN_dinf {d : Nat → Option (Int × Int)} (h : ∀ i, IsN (d i)) (k : Nat) : IsN (dinf d k) := by
  induction k with
  | zero => exact isN_zz
  | succ n ih =>
    show IsN (if 0 < dcmp (d n) (dinf d n) then d n else dinf d n)
    split
    · exact h n
    · exact ih

set_option maxRecDepth 100000 in
set_option maxHeartbeats 8000000 in
theorem asizes_fresh (w : World) (hT : Tab w) (a : Option Addr) (n cap : Nat) (L : Nat → Nat) (hL : Fls w a n cap L) (hn : n ≤ 1000) :
    Calls Tryz.prog 185 #[.slice a n cap] w fun e w' => ∃ v A C, e = .returned v ∧ Dms w' w.heap.size v n (fun i => dabs (fof (L i))) A C ∧ (∀ i, i < n → 0 < nl (dman (dabs (fof (L i)))).natAbs → w.heap.size ≤ ab (A i)) ∧ Below w.heap.size w w' := by
  have l1 := hL.lim
  have l2 := hL.fits
  obtain ⟨d, hd⟩ : ∃ d : Nat → Option (Int × Int), d = fun i => dabs (fof (L i)) := ⟨_, rfl⟩
  have hdi : ∀ i, d i = dabs (fof (L i)) := fun i => by rw [hd]
  rw [← hd]
  simp only [← hdi]
  have HO := fun (k : Nat) (hk : k < n) W ht => Lib.hid (fof_any W (L k) (hL.b k hk) ht)
  have HA := fun (k : Nat) W b c (h : Mag W b (nl (dman (fof (L k))).natAbs) c (dman (fof (L k))).natAbs) ht => Lib.hid (show Calls Tryz.prog 250 #[.agg #[.bool (dbad (fof (L k))), .bool (decide (dman (fof (L k)) < 0)), .slice b (nl (dman (fof (L k))).natAbs) c, .int .i64 (dexp (fof (L k)))]] W (RetDy W (d k)) from by rw [hdi]; exact dabs_any W _ _ _ _ _ _ _ (dyin_of (isN_fof (L k)) h) ht)
  have HLL := Lib.hid hL
  clear hL hd hdi
  go_enter Tryz.func185, Tryz.ntmps185
  go_wp2_with fail
  have hown0 := World.ownsRow_nil w w.heap.size 26 4
  go_loopw [3, 8] (fun v i wr => ∃ (k : Nat) (A : Nat → Option Addr) (C : Nat → Nat), k ≤ n ∧ i = .int .i64 k ∧ Dms wr w.heap.size v k d A C ∧ (∀ i, i < k → 0 < nl (dman (d i)).natAbs → w.heap.size ≤ ab (A i)) ∧ Below w.heap.size w wr) (fun _ i _ => n - (intOf i).toNat)
  case atStart => exact ⟨0, fun _ => none, fun _ => 0, by omega, rfl, ⟨hown0, fun i hi => by omega, fun i hi => by omega⟩, fun i hi => by omega, Below.refl _ _⟩
  case round =>
    clear hown0
    obtain ⟨k, A, C, hk, rfl, hN, hG, hb⟩ := hrel
    have HGG := Lib.hid hG
    clear hG
    have HNM := Lib.hid hN
    clear hN
    by_cases hlt : k < n
    · have hL' := HLL.out.below hb
      have k0 := hL'.cell k hlt
      have i1 := hL'.idx k hlt
      have HOk := HO k hlt
      have HAk := HA k
      have hsz := hb.size
      generalize (((L k : Nat)) : Int) = x at k0 HOk
      generalize fof (L k) = dx at HOk HAk
      obtain ⟨dk, hdk⟩ : ∃ dk, dk = d k := ⟨_, rfl⟩
      rw [← hdk] at HAk
      have HDK := Lib.hid hdk
      clear hL' hdk
      go_wp2_with fail
      refine (HOk _ (hT.below hb)).out.mono ?_
      rintro e w1 ⟨a1, c1, rfl, m1, hb1, _⟩
      have hb2 := below_box (w := w) hb hb1
      have hs1 := hb1.size
      have N1 : Dms w1 w.heap.size u3 k d A C := HNM.out.below hb1
      clear hb1
      go_wp2_with fail
      refine (HAk _ a1 c1 m1 (hT.below hb2)).out.mono ?_
      rintro e w2 ⟨a2, c2, rfl, m2, hb3, hf2⟩
      have hb4 := below_box (w := w) hb2 hb3
      have hs2 := hb3.size
      have N2 : Dms w2 w.heap.size u3 k d A C := N1.below hb3
      have hne : 0 < nl (dman dk).natAbs → some (ab a2) ≠ u3.ownBlock := fun h0 h1 => by
        have h2 := (N1.own.lt (ab a2) h1.symm).2
        have h3 := hf2 h0
        omega
      go_wp2_with (at_builtin; refine app_dyad rfl _ _ rfl w.heap.size _ k _ rfl _ (dbad dk) (decide (dman dk < 0)) (.slice a2 (nl (dman dk).natAbs) c2) (dexp dk) rfl rfl (N2.own.alloc (.cells #[.bool (dbad dk), .bool (decide (dman dk < 0)), .slice a2 (nl (dman dk).natAbs) c2, .int .i64 (dexp dk)] 26)) (by go_simp) (by go_simp) (by go_simp) (by go_simp) (by omega) (by rw [World.size_alloc]; omega) ?_; intro v3 w3 hown3 hg3 hob3)
      have N3 : Dms (w2.alloc (.cells #[.bool (dbad dk), .bool (decide (dman dk < 0)), .slice a2 (nl (dman dk).natAbs) c2, .int .i64 (dexp dk)] 26)) (w.heap.size) _ k d A C := N2.below ((Below.refl _ _).alloc (Nat.le_refl _) _)
      have hf9 : 0 < nl (dman dk).natAbs → w.heap.size ≤ ab a2 := fun h0 => by have := hf2 h0; omega
      have hdk := HDK.out
      clear HDK
      subst hdk
      have N4 := N3.app hown3 hg3 hob3 (m2.alloc _) hne
      have hB4 : Below w.heap.size w w3 := Below.trans (hb4.alloc hb4.size _) (below_grown N3.own hg3 (by rw [World.size_alloc]; omega))
      have hG4 : ∀ i, i < k + 1 → 0 < nl (dman (d i)).natAbs → w.heap.size ≤ ab (if i = k then a2 else A i) := fun i hi h0 => by
        by_cases hik : i = k
        · subst hik; simp only [if_pos]; exact hf9 h0
        · simp only [if_neg hik]; exact HGG.out i (by omega) h0
      go_roundw
      case rel => exact ⟨k + 1, _, _, by omega, by go_num, N4, hG4, hB4⟩
      case measure => simp [intOf]; omega
    · obtain rfl : k = n := by omega
      obtain ⟨oa, ocap, hv⟩ := own_slice' HNM.out.own
      subst hv
      go_wp2_with fail
      refine bodyPost_ret (v := .slice oa k ocap) (by simp only [results, Tryz.results185]; go_simp) rfl ?_
      exact ⟨_, A, C, rfl, HNM.out, HGG.out, hb⟩

set_option maxRecDepth 100000 in
set_option maxHeartbeats 20000000 in
theorem ainf_any (w : World) (hT : Tab w) (a : Option Addr) (n cap : Nat) (X : Nat → Nat) (hX : Fls w a n cap X) (hn : n ≤ 1000) (hf : allfin X n = true) (d : Nat → Option (Int × Int)) (hd : d = fun i => dabs (fof (X i))) :
    Calls Tryz.prog 82 #[.slice a n cap] w (RetDy w (dinf d n)) := by
  have hdi : ∀ i, d i = dabs (fof (X i)) := fun i => by rw [hd]
  have HP := fun W ht h => Lib.hid (asizes_fresh W ht a n cap X h hn)
  simp only [← hdi] at HP
  rw [show (fun i => d i) = d from rfl] at HP
  have HF := fun W h => Lib.hid (afinite_any W a n cap X h)
  rw [hf] at HF
  have HND : ∀ i, IsN (d i) := fun i => by rw [hdi]; exact isN_abs (isN_fof _)
  have HNI : ∀ k, IsN (dinf d k) := fun k => isN_dinf HND k
  have HC := fun (k : Nat) W b1 q1 b2 q2 (h1 : Mag W b1 (nl (dman (d k)).natAbs) q1 (dman (d k)).natAbs) (h2 : Mag W b2 (nl (dman (dinf d k)).natAbs) q2 (dman (dinf d k)).natAbs) ht => Lib.hid (dcmp_any W _ _ _ _ _ _ _ _ _ _ _ _ _ _ (dyin_of (HND k) h1) (dyin_of (HNI k) h2) ht)
  have HX := Lib.hid hX
  clear hX hd hdi hf
  go_enter Tryz.func82, Tryz.ntmps82
  go_wp2_with fail
  have Ir := (DyV.made' w 26 false false (.slice none 0 0) 0 (n := w.heap.size) (by rfl))
  have B0 : Below w.heap.size w (w.alloc (.cells #[.bool false, .bool false, (.slice none 0 0), .int .i64 0] 26)) := zbh
  generalize (w.alloc (.cells #[.bool false, .bool false, (.slice none 0 0), .int .i64 0] 26)) = w0 at Ir B0 ⊢
  generalize hb0 : w.heap.size = b0 at Ir ⊢
  obtain ⟨rc0, rc1, rc2, rc3, rc4, rc5⟩ := Ir
  have Vr0 := Lib.hid (DyV.mk rc0 rc1 rc2 rc3 rc4 rc5)
  refine (HF _ (HX.out.below (have := Beh.mk B0; zbh))).out.mono ?_; rintro e w9 ⟨rfl, rfl⟩; go_wp2_with fail
  have Vt1 := (DyV.made' w0 26 false false (.slice none 0 0) 0 (n := w0.heap.size) (by rfl))
  have Vr1 := (DyV.alloc Vr0.out (.cells #[.bool false, .bool false, (.slice none 0 0), .int .i64 0] 26))
  have B1 : Below w.heap.size w (w0.alloc (.cells #[.bool false, .bool false, (.slice none 0 0), .int .i64 0] 26)) := (have := Beh.mk B0; zbh)
  have nrt : ¬ b0 = w0.heap.size := by have := Vr0.out.lt; omega
  have ntr : ¬ w0.heap.size = b0 := by have := Vr0.out.lt; omega
  have gt : w.heap.size ≤ w0.heap.size := by have := B0.size; omega
  generalize (w0.alloc (.cells #[.bool false, .bool false, (.slice none 0 0), .int .i64 0] 26)) = w1 at Vt1 Vr1 B1 ⊢
  generalize w0.heap.size = zt at Vt1 nrt ntr gt ⊢
  (try clear rc0 rc1 rc2 rc3 rc4)
  obtain ⟨rc0, rc1, rc2, rc3, rc4, rc5⟩ := Vr1
  have Vr1 := Lib.hid (DyV.mk rc0 rc1 rc2 rc3 rc4 rc5)
  (try clear tc0 tc1 tc2 tc3 tc4)
  obtain ⟨tc0, tc1, tc2, tc3, tc4, tc5⟩ := Vt1
  have Vt1 := Lib.hid (DyV.mk tc0 tc1 tc2 tc3 tc4 tc5)
  refine (HP _ (hT.below (have := Beh.mk B1; zbh)) (HX.out.below (have := Beh.mk B1; zbh))).out.mono ?_
  rintro e w2 ⟨v, A, C, rfl, hD2, hG2, hb2⟩
  have Vr2 : DyV w2 b0 false false (.slice none 0 0) 0 := (Vr1.out.on.below hb2)
  (try clear rc0 rc1 rc2 rc3 rc4)
  obtain ⟨rc0, rc1, rc2, rc3, rc4, rc5⟩ := Vr2
  have Vr2 := Lib.hid (DyV.mk rc0 rc1 rc2 rc3 rc4 rc5)
  have Vt2 : DyV w2 zt false false (.slice none 0 0) 0 := (Vt1.out.on.below hb2)
  (try clear tc0 tc1 tc2 tc3 tc4)
  obtain ⟨tc0, tc1, tc2, tc3, tc4, tc5⟩ := Vt2
  have Vt2 := Lib.hid (DyV.mk tc0 tc1 tc2 tc3 tc4 tc5)
  have B2 := below_box (w := w) (have := Beh.mk B1; zbh) hb2
  clear hb2
  obtain ⟨oa, ocap, hva, HY⟩ := hD2.dys HND
  have hla : 0 < n → zt < ab oa ∧ b0 < ab oa := fun h0 => by
    have e1 := HY.addr h0
    have e2 := (hD2.own.lt (ab oa) (by rw [hva, e1]; rfl)).1
    have := Vt1.out.lt
    have := Vr1.out.lt
    omega
  have hlA : ∀ i, i < n → 0 < nl (dman (d i)).natAbs → zt < ab (A i) ∧ b0 < ab (A i) ∧ w.heap.size ≤ ab (A i) := fun i hi h0 => by
    have e2 := hG2 i hi h0
    have := Vt1.out.lt
    have := Vr1.out.lt
    have := B1.size
    omega
  subst hva
  have HYY := Lib.hid HY
  have HLA := Lib.hid hlA
  have HNN := Lib.hid (And.intro HND HNI)
  clear hD2 hG2 HY hlA HND HNI
  go_wp2_with fail
  go_loopw [15] (fun i wr => ∃ (k : Nat) (a3 : Option Addr) (c3 : Nat), k ≤ n ∧ i = .int .i64 k ∧ Dys wr oa n ocap (fun i => ⟨dbad (d i), decide (dman (d i) < 0), A i, nl (dman (d i)).natAbs, C i, dexp (d i), (dman (d i)).natAbs⟩) ∧ DyV wr b0 false false (.slice none 0 0) 0 ∧ DyV wr zt (dbad (dinf d k)) (decide (dman (dinf d k) < 0)) (.slice a3 (nl (dman (dinf d k)).natAbs) c3) (dexp (dinf d k)) ∧ Mag wr a3 (nl (dman (dinf d k)).natAbs) c3 (dman (dinf d k)).natAbs ∧ (0 < nl (dman (dinf d k)).natAbs → zt < ab a3 ∧ b0 < ab a3 ∧ w.heap.size ≤ ab a3) ∧ Below w.heap.size w wr) (fun i _ => n - (intOf i).toNat)
  case atStart => exact ⟨0, none, 0, by omega, rfl, HYY.out, Vr2.out, Vt2.out, Mag.nil _, fun h => absurd h (by show ¬ 0 < nl 0; rw [show nl 0 = 0 from rfl]; omega), B2⟩
  case round =>
    obtain ⟨k, a3, c3, hk, rfl, hY, V0, Vt, M3, hf3, hb⟩ := hrel
    by_cases hlt : k < n
    · have k0 := hY.c0 k hlt
      have k1 := hY.c1 k hlt
      have k2 := hY.c2 k hlt
      have k3 := hY.c3 k hlt
      have i1 := hY.idx k hlt
      have mA := hY.m k hlt
      have HCk := HC k
      have lAk := HLA.out k hlt
      have hsd : dinf d (k + 1) = if 0 < dcmp (d k) (dinf d k) then d k else dinf d k := rfl
      have HSD := Lib.hid hsd
      have HY := Lib.hid hY
      have V0h := Lib.hid V0
      have Vth := Lib.hid Vt
      have hltt := Vt.lt
      clear hsd hY V0
      simp only at k0 k1 k2 k3 mA
      generalize d k = dk at k0 k1 k2 k3 mA HCk lAk HSD
      generalize dinf d k = mk at HCk HSD Vth Vt M3 hf3
      obtain ⟨q0, q1, q2, q3, q4, q5⟩ := Vt
      go_wp2_with fail
      refine (HCk _ (A k) (C k) a3 c3 (mA.alloc _) (M3.alloc _) (hT.below (hb.alloc hb.size _))).out.mono ?_
      rintro e w1 ⟨rfl, hb1⟩
      have hw1 : Below wr.heap.size wr w1 := Below.trans ((Below.refl _ _).alloc (Nat.le_refl _) _) (hb1.mono (by rw [World.size_alloc]; omega))
      have hB1 : Below w.heap.size w w1 := hb.trans (hw1.mono hb.size)
      have Y1 := HY.out.below hw1
      have V01 := V0h.out.below hw1
      have Vt1 := Vth.out.below hw1
      have M31 := M3.below hw1
      have mA1 := mA.below hw1
      have V5 : DyV w1 wr.heap.size (dbad dk) (decide (dman dk < 0)) (.slice (A k) (nl (dman dk).natAbs) (C k)) (dexp dk) := (DyV.made wr 26 _ _ _ _).below hb1
      have n5t : ¬ wr.heap.size = zt := by omega
      have hsb := hb.size
      have Y1h := Lib.hid Y1
      have V01h := Lib.hid V01
      have Vt1h := Lib.hid Vt1
      clear q0 q1 q2 q3 q4 q5 k0 k1 k2 k3 i1 hb1 HY V0h Vth Y1 V01
      by_cases hc : 0 < dcmp dk mk
      · have e9 : decide (0 < dcmp dk mk) = true := decide_eq_true hc
        have h1 : dinf d (k + 1) = dk := by rw [HSD.out, if_pos hc]
        have H1 := Lib.hid h1
        clear h1 hc HSD HCk
        generalize dcmp dk mk = vv at *
        generalize hz5 : wr.heap.size = z5 at *
        obtain ⟨q0, q1, q2, q3, q4, q5⟩ := Vt1
        obtain ⟨r0, r1, r2, r3, r4, r5⟩ := V5
        go_wp2_with fail
        go_roundw
        case rel =>
          refine ⟨k + 1, A k, C k, by omega, by go_num, ?_⟩
          rw [H1.out]
          have hy1 : ∀ i, i < n → 0 < nl (dman (d i)).natAbs → ab (A i) ≠ zt := fun i hi h0 => by have := HLA.out i hi h0; omega
          have hy2 : 0 < n → ab oa ≠ zt := fun h0 => by have := hla h0; omega
          have hy3 : 0 < nl (dman dk).natAbs → ab (A k) ≠ zt := fun h0 => by have := lAk h0; omega
          exact ⟨(((Y1h.out.set hy2 hy1 _ _).set hy2 hy1 _ _).set hy2 hy1 _ _).set hy2 hy1 _ _, (((V01h.out.set nrt _ _).set nrt _ _).set nrt _ _).set nrt _ _, Vt1h.out.put _ _ _ _, (((mA1.set hy3 _ _).set hy3 _ _).set hy3 _ _).set hy3 _ _, lAk, (((hB1.setCell gt _).setCell gt _).setCell gt _).setCell gt _⟩
        case measure => simp [intOf]; omega
      · have e9 : decide (0 < dcmp dk mk) = false := decide_eq_false hc
        have h1 : dinf d (k + 1) = mk := by rw [HSD.out, if_neg hc]
        have H1 := Lib.hid h1
        clear h1 hc HSD HCk
        generalize dcmp dk mk = vv at *
        go_wp2_with fail
        go_roundw
        case rel =>
          refine ⟨k + 1, a3, c3, by omega, by go_num, ?_⟩
          rw [H1.out]
          exact ⟨Y1h.out, V01h.out, Vt1h.out, M31, hf3, hB1⟩
        case measure => simp [intOf]; omega
    · obtain rfl : k = n := by omega
      have hsb := hb.size
      have V0h := Lib.hid V0
      generalize dinf d k = mk at *
      obtain ⟨q0, q1, q2, q3, q4, q5⟩ := Vt
      obtain ⟨r0, r1, r2, r3, r4, r5⟩ := V0
      clear hY
      go_wp2_with fail
      refine bodyPost_ret (v := .agg #[.bool (dbad mk), .bool (decide (dman mk < 0)), .slice a3 (nl (dman mk).natAbs) c3, .int .i64 (dexp mk)]) (by simp only [results, Tryz.results82]; go_simp) rfl ?_
      have gr : w.heap.size ≤ b0 := by omega
      have hy3 : 0 < nl (dman mk).natAbs → ab a3 ≠ b0 := fun h0 => by have := hf3 h0; omega
      exact ⟨a3, c3, rfl, (((M3.set hy3 _ _).set hy3 _ _).set hy3 _ _).set hy3 _ _, (((hb.setCell gr _).setCell gr _).setCell gr _).setCell gr _, fun h => (hf3 h).2.2⟩

end Go.Proofs.YtakbappmkdaioaaGreatDoor

namespace Go.Proofs.YtakbappmkdaioaaGreatDoor
open Go.RowKit Sp

attribute [local irreducible] Calls
theorem notfin {X : Nat → Nat} {n : Nat} (ha : allfin X n = false) : ∃ i, i < n ∧ ffin (X i) = false := by
  refine Classical.byContradiction fun hc => ?_
  have : allfin X n = true := (allfin_iff X n).2 fun i hi => by
    cases hf : ffin (X i) with
    | true => rfl
    | false => exact absurd ⟨i, hi, hf⟩ hc
  rw [this] at ha; cases ha
theorem rone_law (X : Nat → Nat) {n : Nat} (hn : n ≤ 15) : rsumD (fun i => dabs (fof (X i))) n = dsum (fun i => dabs (fof (X i))) n := by
  cases ha : allfin X n with
  | true =>
    have h := (allfin_iff X n).1 ha
    exact rsumD_fin (M := absL X) (E := -1074) (fun i hi => by
      show dabs (fof (X i)) = _ ∧ _
      rw [fof_fin (h i hi)]; exact dabs_nrm _ _ (fof_some (h i hi))) (fun k hk => aone_val (by omega) (fun i hi => h i (by omega))) n (Nat.le_refl _)
  | false =>
    obtain ⟨i, hi, hf⟩ := notfin ha
    have e : (fun i => dabs (fof (X i))) i = none := by show dabs (fof (X i)) = none; rw [fof_not hf]; rfl
    rw [rsumD_bad _ hi e, dsum_bad _ hi e]
theorem two_not {X : Nat → Nat} {n : Nat} (ha : allfin X n = false) : ddot X X n = none := by
  obtain ⟨i, hi, hf⟩ := notfin ha
  exact dsum_bad _ hi (by show dmul (fof (X i)) (fof (X i)) = none; rw [fof_not hf]; rfl)
set_option maxRecDepth 100000 in
set_option maxHeartbeats 20000000 in
theorem rnormtwo_any (w : World) (hT : Tab w) (a : Option Addr) (n cap : Nat) (X : Nat → Nat) (hX : Fls w a n cap X) (hn : n ≤ 15) (mode : Int) :
    Calls Tryz.prog 87 #[.slice a n cap, .int .i64 mode] w fun o w' => o = .returned (.int .u64 (froot (ddot X X n) mode : Nat)) ∧ Below w.heap.size w w' := by
  have HT : Tb w := ⟨hT⟩
  have HD := Lib.hid (rdot6_any w hT a a n n cap cap X X hX hX hn)
  obtain ⟨d, hd⟩ : ∃ d, d = dotD X X n n := ⟨_, rfl⟩
  obtain ⟨er, her⟩ : ∃ er, er = dotE X X n n := ⟨_, rfl⟩
  have nd : IsN d := by rw [hd]; exact isN_dotD X X n n
  obtain ⟨u, hu⟩ : ∃ u : Int, u = ((froot (ddot X X n) mode : Nat) : Int) := ⟨_, rfl⟩
  have hc : er ≠ 0 ∧ u = 9221120237041090560 ∨ er = 0 ∧ u = ((froot d mode : Nat) : Int) := by
    cases ha : allfin X n with
    | false => left; refine ⟨by rw [her]; unfold dotE; rw [if_neg (fun h => h rfl), ha]; decide, by rw [hu, two_not ha]; rfl⟩
    | true =>
      have e : dotE X X n n = 0 := by unfold dotE; rw [if_neg (fun h => h rfl), ha]; rfl
      right; refine ⟨by rw [her, e], by rw [hu, hd]; unfold dotD; rw [e]; rfl⟩
  have HR := fun W b1 q1 [i1 : DS W (dbad d) (decide (dman d < 0)) b1 (nl (dman d).natAbs) q1 (dexp d) d] [Tb W] => Lib.hid (frm (r3root_any W _ _ _ _ _ _ d mode i1.out tb))
  rw [← hu]
  rw [← hd, ← her] at HD
  clear hd her hu hX
  rcases hc with ⟨h1, rfl⟩ | ⟨rfl, h1⟩
  · have h2 : (er != 0) = true := by rw [bne_iff_ne]; exact h1
    clear HR
    go_enter Tryz.func87, Tryz.ntmps87
    go_wp2_with fail
    refine HD.out.mono ?_
    rintro o w1 ⟨a1, c1, rfl, m1, b1, f1⟩
    haveI b1 : From w w1 := ⟨b1⟩
    haveI d1 : DS w1 (dbad d) (decide (dman d < 0)) a1 (nl (dman d).natAbs) c1 (dexp d) d := ⟨dys_of nd m1⟩
    haveI T1 : Tb w1 := ⟨hT.below zbh⟩
    go_wp2_with fail
    go_ret
    exact ⟨rfl, zbh⟩
  · rw [← h1] at HR
    clear h1
    go_enter Tryz.func87, Tryz.ntmps87
    go_wp2_with fail
    refine HD.out.mono ?_
    rintro o w1 ⟨a1, c1, rfl, m1, b1, f1⟩
    haveI b1 : From w w1 := ⟨b1⟩
    haveI d1 : DS w1 (dbad d) (decide (dman d < 0)) a1 (nl (dman d).natAbs) c1 (dexp d) d := ⟨dys_of nd m1⟩
    haveI T1 : Tb w1 := ⟨hT.below zbh⟩
    go_wp2_with fail
    refine (HR _ _ _).out.mono ?_
    rintro o w2 ⟨rfl, b2⟩
    go_wp2_with fail
    go_ret
    exact ⟨rfl, zbh⟩
set_option maxRecDepth 100000 in
set_option maxHeartbeats 20000000 in
theorem rnormone_any (w : World) (hT : Tab w) (a : Option Addr) (n cap : Nat) (X : Nat → Nat) (hX : Fls w a n cap X) (d : Nat → Option (Int × Int)) (hd : d = fun i => dabs (fof (X i))) :
    Calls Tryz.prog 85 #[.slice a n cap] w (RetDy w (rsumD d n)) := by
  have l1 := hX.lim
  have l2 := hX.fits
  have HT : Tb w := ⟨hT⟩
  have HX := Lib.hid hX
  have HO := fun (k : Nat) (hk : k < n) W [Tb W] => Lib.hid (frs (isN_fof (X k)) (r3of_any W (X k) (hX.b k hk) tb))
  have HB := fun (k : Nat) W a1 c1 [i1 : DS W (dbad (fof (X k))) (decide (dman (fof (X k)) < 0)) a1 (nl (dman (fof (X k))).natAbs) c1 (dexp (fof (X k))) (fof (X k))] [Tb W] => Lib.hid (frsF (isN_abs (isN_fof (X k))) (rdabs_any W _ _ _ _ _ _ (fof (X k)) i1.out tb))
  have hdi : ∀ i, dabs (fof (X i)) = d i := fun i => by rw [hd]
  have hN : ∀ i, IsN (d i) := fun i => by rw [hd]; exact isN_abs (isN_fof _)
  simp only [hdi] at HB
  have HA := fun (k : Nat) W a1 c1 a2 c2 [i1 : DS W (dbad (rsumD d k)) (decide (dman (rsumD d k) < 0)) a1 (nl (dman (rsumD d k)).natAbs) c1 (dexp (rsumD d k)) (rsumD d k)] [i2 : DS W (dbad (d k)) (decide (dman (d k) < 0)) a2 (nl (dman (d k)).natAbs) c2 (dexp (d k)) (d k)] [Tb W] => Lib.hid (frsF (isN_rsum d (k + 1)) (rdadd_any W _ _ _ _ _ _ _ _ _ _ _ _ (rsumD d k) (d k) i1.out i2.out tb))
  clear hX hd hdi
  go_enter Tryz.func85, Tryz.ntmps85
  go_wp2_with fail
  go_loopw [4] (fun i wr => ∃ (k : Nat) (a3 : Option Addr) (c3 : Nat), k ≤ n ∧ i = .int .i64 k ∧ DB wr w.heap.size false false (.slice none 0 0) 0 ∧ DB wr (w.heap.size + 1) (dbad (rsumD d k)) (decide (dman (rsumD d k) < 0)) (.slice a3 (nl (dman (rsumD d k)).natAbs) c3) (dexp (rsumD d k)) ∧ BI wr a3 (nl (dman (rsumD d k)).natAbs) c3 (dman (rsumD d k)).natAbs ∧ (0 < nl (dman (rsumD d k)).natAbs → w.heap.size + 2 ≤ ab a3) ∧ Beh w wr) (fun i _ => n - (intOf i).toNat)
  case atStart => exact ⟨0, none, 0, by omega, rfl, inferInstance, (inferInstance : DB _ _ false false (.slice none 0 0) 0), ⟨Mag.nil _⟩, fun h => absurd h (by show ¬ 0 < nl 0; rw [show nl 0 = 0 from rfl]; omega), inferInstance⟩
  case round =>
    obtain ⟨kk, a3, c3, hk, rfl, V0, Vt, M3, hf3, hb⟩ := hrel
    have hB := hb.out
    have lt0 := V0.out.lt
    have ltt := Vt.out.lt
    by_cases hlt : kk < n
    · haveI kX : CE wr (ab a) (ao a + kk) (.int .u64 (X kk : Nat)) := ⟨(HX.out.below hB).cell kk hlt, Nat.lt_of_lt_of_le (HX.out.old (by omega)) hB.size⟩
      have iX := (HX.out.below hB).idx kk hlt
      haveI T5 : Tb wr := ⟨hT.below hB⟩
      haveI D3 : DS wr (dbad (rsumD d kk)) (decide (dman (rsumD d kk) < 0)) a3 (nl (dman (rsumD d kk)).natAbs) c3 (dexp (rsumD d kk)) (rsumD d kk) := ⟨dys_of (isN_rsum d kk) M3.out⟩
      have HOq := HO kk hlt
      have HBq := HB kk
      have HAq := HA kk
      obtain ⟨y, hy⟩ : ∃ y, y = rsumD d (kk + 1) := ⟨_, rfl⟩
      rw [← hy] at HAq
      have HYY := Lib.hid hy
      clear hy HO HB HA hN
      generalize rsumD d kk = sm at *
      generalize d kk = dk at *
      generalize fof (X kk) = dx at *
      generalize ((X kk : Nat) : Int) = px at *
      go_wp2_with fail
      first
      | go_region_with
        (first
          | (go_at_call 61; refine (HOq _).out.mono ?_; rintro e w6 ⟨a6, c6, rfl, i6, b6⟩)
          | (go_at_call 186; refine (HBq _ _ _).out.mono ?_; rintro e w7 ⟨a7, c7, rfl, i7, b7, j7, f7⟩)
          | (go_at_call 149; refine (HAq _ _ _ _ _).out.mono ?_; rintro e w10 ⟨a10, c10, rfl, i10, b10, m10, f10⟩)
          | fail)
      | fail "region"
      all_goals (
        have hf0 := fresh_of (wr := wr) b10 f10
        have hf : 0 < nl (dman y).natAbs → w.heap.size + 2 ≤ ab a10 := fun h => by
          have q1 := hf0 h
          omega
        go_wp2_with fail
        go_roundw
        case rel =>
          refine ⟨kk + 1, a10, c10, by omega, by go_num, ?_⟩
          rw [← HYY.out]
          exact ⟨inferInstance, inferInstance, ⟨Mag.st4 m10.out (fun h => by have := hf h; omega) _ _ _ _⟩, hf, inferInstance⟩
        case measure => simp [intOf]; omega)
    · obtain rfl : kk = n := by omega
      clear HO HB HA hN
      generalize rsumD d kk = sm at *
      go_wp2_with fail
      refine bodyPost_ret (v := .agg #[.bool (dbad sm), .bool (decide (dman sm < 0)), .slice a3 (nl (dman sm).natAbs) c3, .int .i64 (dexp sm)]) (by simp only [results, Tryz.results85]; go_simp) rfl ?_
      exact ⟨a3, c3, rfl, Mag.st4 M3.out (fun h => by have := hf3 h; omega) _ _ _ _, zbh, fun h => by have := hf3 h; omega⟩
set_option maxRecDepth 100000 in
set_option maxHeartbeats 20000000 in
theorem rnorminf_ok (w : World) (hT : Tab w) (a : Option Addr) (n cap : Nat) (X : Nat → Nat) (hX : Fls w a n cap X) (fa : allfin X n = true) (d : Nat → Option (Int × Int)) (hd : d = fun i => dabs (fof (X i))) :
    Calls Tryz.prog 83 #[.slice a n cap] w (RetDy w (dinf d n)) := by
  have l1 := hX.lim
  have l2 := hX.fits
  have HT : Tb w := ⟨hT⟩
  have HX := Lib.hid hX
  have HO := fun (k : Nat) (hk : k < n) W [Tb W] => Lib.hid (frs (isN_fof (X k)) (r3of_any W (X k) (hX.b k hk) tb))
  have HB := fun (k : Nat) W a1 c1 [i1 : DS W (dbad (fof (X k))) (decide (dman (fof (X k)) < 0)) a1 (nl (dman (fof (X k))).natAbs) c1 (dexp (fof (X k))) (fof (X k))] [Tb W] => Lib.hid (frsF (isN_abs (isN_fof (X k))) (rdabs_any W _ _ _ _ _ _ (fof (X k)) i1.out tb))
  have hdi : ∀ i, dabs (fof (X i)) = d i := fun i => by rw [hd]
  have hN : ∀ i, IsN (d i) := fun i => by rw [hd]; exact isN_abs (isN_fof _)
  simp only [hdi] at HB
  have HF := fun W h => Lib.hid (rfinite_any W a n cap X h)
  rw [fa] at HF
  have HC := fun (k : Nat) W a1 c1 a2 c2 [i1 : DS W (dbad (d k)) (decide (dman (d k) < 0)) a1 (nl (dman (d k)).natAbs) c1 (dexp (d k)) (d k)] [i2 : DS W (dbad (dinf d k)) (decide (dman (dinf d k) < 0)) a2 (nl (dman (dinf d k)).natAbs) c2 (dexp (dinf d k)) (dinf d k)] [Tb W] => Lib.hid (frm (rdcmp_any W _ _ _ _ _ _ _ _ _ _ _ _ (d k) (dinf d k) i1.out i2.out tb))
  have hI : ∀ k, IsN (dinf d k) := fun k => isN_dinf hN k
  clear hX hd hdi fa
  go_enter Tryz.func83, Tryz.ntmps83
  go_wp2_with fail
  refine (HF _ (HX.out.below zbh)).out.mono ?_
  rintro e w9 ⟨rfl, rfl⟩
  go_wp2_with fail
  go_loopw [4] (fun i wr => ∃ (k : Nat) (a3 : Option Addr) (c3 : Nat), k ≤ n ∧ i = .int .i64 k ∧ DB wr w.heap.size false false (.slice none 0 0) 0 ∧ DB wr (w.heap.size + 1) (dbad (dinf d k)) (decide (dman (dinf d k) < 0)) (.slice a3 (nl (dman (dinf d k)).natAbs) c3) (dexp (dinf d k)) ∧ BI wr a3 (nl (dman (dinf d k)).natAbs) c3 (dman (dinf d k)).natAbs ∧ (0 < nl (dman (dinf d k)).natAbs → w.heap.size + 2 ≤ ab a3) ∧ Beh w wr) (fun i _ => n - (intOf i).toNat)
  case atStart => exact ⟨0, none, 0, by omega, rfl, inferInstance, (inferInstance : DB _ _ false false (.slice none 0 0) 0), ⟨Mag.nil _⟩, fun h => absurd h (by show ¬ 0 < nl 0; rw [show nl 0 = 0 from rfl]; omega), inferInstance⟩
  case round =>
    obtain ⟨kk, a3, c3, hk, rfl, V0, Vt, M3, hf3, hb⟩ := hrel
    have hB := hb.out
    have lt0 := V0.out.lt
    have ltt := Vt.out.lt
    by_cases hlt : kk < n
    · haveI kX : CE wr (ab a) (ao a + kk) (.int .u64 (X kk : Nat)) := ⟨(HX.out.below hB).cell kk hlt, Nat.lt_of_lt_of_le (HX.out.old (by omega)) hB.size⟩
      have iX := (HX.out.below hB).idx kk hlt
      haveI T5 : Tb wr := ⟨hT.below hB⟩
      haveI D3 : DS wr (dbad (dinf d kk)) (decide (dman (dinf d kk) < 0)) a3 (nl (dman (dinf d kk)).natAbs) c3 (dexp (dinf d kk)) (dinf d kk) := ⟨dys_of (hI kk) M3.out⟩
      have HOq := HO kk hlt
      have HBq := HB kk
      have HCq := HC kk
      have hy : dinf d (kk + 1) = if 0 < dcmp (d kk) (dinf d kk) then d kk else dinf d kk := rfl
      obtain ⟨y, hyy⟩ : ∃ y, y = dinf d (kk + 1) := ⟨_, rfl⟩
      rw [← hyy] at hy
      have HYY := Lib.hid hyy
      obtain ⟨g, hg⟩ : ∃ g, g = dcmp (d kk) (dinf d kk) := ⟨_, rfl⟩
      rw [← hg] at hy HCq
      clear hyy hg HO HB HC hN hI HF
      generalize dinf d kk = sm at *
      generalize d kk = dk at *
      generalize fof (X kk) = dx at *
      generalize ((X kk : Nat) : Int) = px at *
      by_cases hgt : 0 < g
      · rw [if_pos hgt] at hy
        subst hy
        go_wp2_with fail
        refine (HOq _).out.mono ?_
        rintro e w6 ⟨a6, c6, rfl, i6, b6⟩
        go_wp2_with fail
        refine (HBq _ _ _).out.mono ?_
        rintro e w7 ⟨a7, c7, rfl, i7, b7, j7, f7⟩
        have hf0 := fresh_of (wr := wr) b7 f7
        have hf : 0 < nl (dman y).natAbs → w.heap.size + 2 ≤ ab a7 := fun h => by
          have q1 := hf0 h
          omega
        go_wp2_with fail
        refine (HCq _ _ _ _ _).out.mono ?_
        rintro e w8 ⟨rfl, b8⟩
        go_wp2_with fail
        go_roundw
        case rel =>
          refine ⟨kk + 1, a7, c7, by omega, by go_num, ?_⟩
          rw [← HYY.out]
          exact ⟨inferInstance, inferInstance, ⟨Mag.st4 (BI.out) (fun h => by have := hf h; omega) _ _ _ _⟩, hf, inferInstance⟩
        case measure => simp [intOf]; omega
      · rw [if_neg hgt] at hy
        subst hy
        go_wp2_with fail
        refine (HOq _).out.mono ?_
        rintro e w6 ⟨a6, c6, rfl, i6, b6⟩
        go_wp2_with fail
        refine (HBq _ _ _).out.mono ?_
        rintro e w7 ⟨a7, c7, rfl, i7, b7, j7, f7⟩
        have hf0 := fresh_of (wr := wr) b7 f7
        have hf : 0 < nl (dman dk).natAbs → w.heap.size + 2 ≤ ab a7 := fun h => by
          have q1 := hf0 h
          omega
        go_wp2_with fail
        refine (HCq _ _ _ _ _).out.mono ?_
        rintro e w8 ⟨rfl, b8⟩
        go_wp2_with fail
        go_roundw
        case rel =>
          refine ⟨kk + 1, a3, c3, by omega, by go_num, ?_⟩
          rw [← HYY.out]
          exact ⟨inferInstance, inferInstance, inferInstance, hf3, inferInstance⟩
        case measure => simp [intOf]; omega
    · obtain rfl : kk = n := by omega
      clear HO HB HC hN hI HF
      generalize dinf d kk = sm at *
      go_wp2_with fail
      refine bodyPost_ret (v := .agg #[.bool (dbad sm), .bool (decide (dman sm < 0)), .slice a3 (nl (dman sm).natAbs) c3, .int .i64 (dexp sm)]) (by simp only [results, Tryz.results83]; go_simp) rfl ?_
      exact ⟨a3, c3, rfl, Mag.st4 M3.out (fun h => by have := hf3 h; omega) _ _ _ _, zbh, fun h => by have := hf3 h; omega⟩
set_option maxRecDepth 100000 in
set_option maxHeartbeats 20000000 in
theorem rnorminf_no (w : World) (_hT : Tab w) (a : Option Addr) (n cap : Nat) (X : Nat → Nat) (hX : Fls w a n cap X) (fa : allfin X n = false) :
    Calls Tryz.prog 83 #[.slice a n cap] w (RetDy w none) := by
  have HX := Lib.hid hX
  have HF := fun W h => Lib.hid (rfinite_any W a n cap X h)
  have HB := fun W => Lib.hid (frm (rbad_any W))
  rw [fa] at HF
  clear hX fa
  go_enter Tryz.func83, Tryz.ntmps83
  go_wp2_with fail
  refine (HF _ (HX.out.below zbh)).out.mono ?_
  rintro e w9 ⟨rfl, rfl⟩
  go_wp2_with fail
  refine (HB _).out.mono ?_
  rintro e w8 ⟨rfl, b8⟩
  go_wp2_with fail
  refine bodyPost_ret (v := .agg #[.bool true, .bool false, .slice none 0 0, .int .i64 0]) (by simp only [results, Tryz.results83]; go_simp) rfl ?_
  exact ⟨none, 0, rfl, Mag.nil _, zbh, nl0⟩
set_option maxRecDepth 100000 in
set_option maxHeartbeats 20000000 in
theorem ainf_no (w : World) (_hT : Tab w) (a : Option Addr) (n cap : Nat) (X : Nat → Nat) (hX : Fls w a n cap X) (fa : allfin X n = false) :
    Calls Tryz.prog 82 #[.slice a n cap] w (RetDy w none) := by
  have HX := Lib.hid hX
  have HF := fun W h => Lib.hid (afinite_any W a n cap X h)
  rw [fa] at HF
  clear hX fa
  go_enter Tryz.func82, Tryz.ntmps82
  go_wp2_with fail
  refine (HF _ (HX.out.below zbh)).out.mono ?_
  rintro e w9 ⟨rfl, rfl⟩
  go_wp2_with fail
  refine bodyPost_ret (v := .agg #[.bool true, .bool false, .slice none 0 0, .int .i64 0]) (by simp only [results, Tryz.results82]; go_simp) rfl ?_
  exact ⟨none, 0, rfl, Mag.nil _, zbh, nl0⟩

end Go.Proofs.YtakbappmkdaioaaGreatDoor

