/-
  Walks: the reference of accum: Dot, Residual.
-/
import Derived.Test.YtakbappmkdaioaaGreatDoorZjS6b
import Derived.Test.YtakbappmkdaioaaGreatDoorZjCs
import Derived.Test.YtakbappmkdaioaaGreatDoorZjCm
namespace Go.Proofs.YtakbappmkdaioaaGreatDoor
open Go.RowKit Sp

attribute [local irreducible] Calls
set_option maxRecDepth 100000 in
set_option maxHeartbeats 20000000 in
theorem rdot6_len (w : World) (_hT : Tab w) (a a' : Option Addr) (n m cap cap' : Nat) (X Y : Nat → Nat) (hX : Fls w a n cap X) (hY : Fls w a' m cap' Y) (hnm : n ≠ m) :
    Calls Tryz.prog 35 #[.slice a n cap, .slice a' m cap'] w (RetDyE w (some (0, 0)) 2) := by
  have l1 := hX.lim
  have l2 := hX.fits
  have l3 := hY.lim
  have l4 := hY.fits
  have HF := fun W h => Lib.hid (rfinite_any W a n cap X h)
  have HG := fun W h => Lib.hid (rfinite_any W a' m cap' Y h)
  have HX := Lib.hid hX
  have HY := Lib.hid hY
  clear HF HG
  clear hX hY
  go_enter Tryz.func35, Tryz.ntmps35
  go_wp2_with fail
  refine bodyPost_ret (v := .tuple #[.agg #[.bool false, .bool false, .slice none 0 0, .int .i64 0], .int .i64 2]) (by simp only [results, Tryz.results35]; go_simp) rfl ?_
  exact ⟨none, 0, rfl, Mag.nil _, zbh, nl0⟩

set_option maxRecDepth 100000 in
set_option maxHeartbeats 20000000 in
theorem rdot6_fx (w : World) (_hT : Tab w) (a a' : Option Addr) (n m cap cap' : Nat) (X Y : Nat → Nat) (hX : Fls w a n cap X) (hY : Fls w a' m cap' Y) (hnm : n = m) (fa : allfin X n = false) :
    Calls Tryz.prog 35 #[.slice a n cap, .slice a' m cap'] w (RetDyE w (some (0, 0)) 4) := by
  have l1 := hX.lim
  have l2 := hX.fits
  have l3 := hY.lim
  have l4 := hY.fits
  have HF := fun W h => Lib.hid (rfinite_any W a n cap X h)
  have HG := fun W h => Lib.hid (rfinite_any W a' m cap' Y h)
  have HX := Lib.hid hX
  have HY := Lib.hid hY
  rw [fa] at HF
  clear HG fa
  subst hnm
  clear hX hY
  go_enter Tryz.func35, Tryz.ntmps35
  go_wp2_with fail
  refine (HF _ (HX.out.below zbh)).out.mono ?_
  rintro e w9 ⟨rfl, rfl⟩
  go_wp2_with fail
  refine bodyPost_ret (v := .tuple #[.agg #[.bool false, .bool false, .slice none 0 0, .int .i64 0], .int .i64 4]) (by simp only [results, Tryz.results35]; go_simp) rfl ?_
  exact ⟨none, 0, rfl, Mag.nil _, zbh, nl0⟩

set_option maxRecDepth 100000 in
set_option maxHeartbeats 20000000 in
theorem rdot6_fy (w : World) (_hT : Tab w) (a a' : Option Addr) (n m cap cap' : Nat) (X Y : Nat → Nat) (hX : Fls w a n cap X) (hY : Fls w a' m cap' Y) (hnm : n = m) (fa : allfin X n = true) (fb : allfin Y m = false) :
    Calls Tryz.prog 35 #[.slice a n cap, .slice a' m cap'] w (RetDyE w (some (0, 0)) 4) := by
  have l1 := hX.lim
  have l2 := hX.fits
  have l3 := hY.lim
  have l4 := hY.fits
  have HF := fun W h => Lib.hid (rfinite_any W a n cap X h)
  have HG := fun W h => Lib.hid (rfinite_any W a' m cap' Y h)
  have HX := Lib.hid hX
  have HY := Lib.hid hY
  rw [fa] at HF
  rw [fb] at HG
  clear fa fb
  subst hnm
  clear hX hY
  go_enter Tryz.func35, Tryz.ntmps35
  go_wp2_with fail
  refine (HF _ (HX.out.below zbh)).out.mono ?_
  rintro e w9 ⟨rfl, rfl⟩
  go_wp2_with fail
  refine (HG _ (HY.out.below zbh)).out.mono ?_
  rintro e w9 ⟨rfl, rfl⟩
  go_wp2_with fail
  refine bodyPost_ret (v := .tuple #[.agg #[.bool false, .bool false, .slice none 0 0, .int .i64 0], .int .i64 4]) (by simp only [results, Tryz.results35]; go_simp) rfl ?_
  exact ⟨none, 0, rfl, Mag.nil _, zbh, nl0⟩

set_option maxRecDepth 100000 in
set_option maxHeartbeats 20000000 in
theorem rdot6_ok (w : World) (hT : Tab w) (a a' : Option Addr) (n m cap cap' : Nat) (X Y : Nat → Nat) (hX : Fls w a n cap X) (hY : Fls w a' m cap' Y) (hnm : n = m) (fa : allfin X n = true) (fb : allfin Y m = true) :
    Calls Tryz.prog 35 #[.slice a n cap, .slice a' m cap'] w (RetDyE w (rsumD (fun i => dmul (fof (X i)) (fof (Y i))) n) 0) := by
  have l1 := hX.lim
  have l2 := hX.fits
  have l3 := hY.lim
  have l4 := hY.fits
  have HF := fun W h => Lib.hid (rfinite_any W a n cap X h)
  have HG := fun W h => Lib.hid (rfinite_any W a' m cap' Y h)
  have HX := Lib.hid hX
  have HY := Lib.hid hY
  rw [fa] at HF
  rw [fb] at HG
  subst hnm
  have HO := fun (k : Nat) (hk : k < n) W [Tb W] => Lib.hid (frs (isN_fof (X k)) (r3of_any W (X k) (hX.b k hk) tb))
  have HP := fun (k : Nat) (hk : k < n) W [Tb W] => Lib.hid (frs (isN_fof (Y k)) (r3of_any W (Y k) (hY.b k hk) tb))
  have HM := fun (k : Nat) W a1 c1 a2 c2 [i1 : DS W (dbad (fof (X k))) (decide (dman (fof (X k)) < 0)) a1 (nl (dman (fof (X k))).natAbs) c1 (dexp (fof (X k))) (fof (X k))] [i2 : DS W (dbad (fof (Y k))) (decide (dman (fof (Y k)) < 0)) a2 (nl (dman (fof (Y k))).natAbs) c2 (dexp (fof (Y k))) (fof (Y k))] [Tb W] => Lib.hid (frs (isN_mul _ _) (rdmul_any W _ _ _ _ _ _ _ _ _ _ _ _ (fof (X k)) (fof (Y k)) i1.out i2.out tb))
  obtain ⟨d, hd⟩ : ∃ d : Nat → Option (Int × Int), d = fun i => dmul (fof (X i)) (fof (Y i)) := ⟨_, rfl⟩
  have hdi : ∀ i, dmul (fof (X i)) (fof (Y i)) = d i := fun i => by rw [hd]
  rw [← hd]
  simp only [hdi] at HM
  have HA := fun (k : Nat) W a1 c1 a2 c2 [i1 : DS W (dbad (rsumD d k)) (decide (dman (rsumD d k) < 0)) a1 (nl (dman (rsumD d k)).natAbs) c1 (dexp (rsumD d k)) (rsumD d k)] [i2 : DS W (dbad (d k)) (decide (dman (d k) < 0)) a2 (nl (dman (d k)).natAbs) c2 (dexp (d k)) (d k)] [Tb W] => Lib.hid (frsF (isN_rsum d (k + 1)) (rdadd_any W _ _ _ _ _ _ _ _ _ _ _ _ (rsumD d k) (d k) i1.out i2.out tb))
  clear hX hY hd hdi fa fb
  go_enter Tryz.func35, Tryz.ntmps35
  go_wp2_with fail
  refine (HF _ (HX.out.below zbh)).out.mono ?_
  rintro e w9 ⟨rfl, rfl⟩
  go_wp2_with fail
  refine (HG _ (HY.out.below zbh)).out.mono ?_
  rintro e w9 ⟨rfl, rfl⟩
  go_wp2_with fail
  go_loopw [7] (fun i wr => ∃ (k : Nat) (a3 : Option Addr) (c3 : Nat), k ≤ n ∧ i = .int .i64 k ∧ DB wr w.heap.size false false (.slice none 0 0) 0 ∧ DB wr (w.heap.size + 1) (dbad (rsumD d k)) (decide (dman (rsumD d k) < 0)) (.slice a3 (nl (dman (rsumD d k)).natAbs) c3) (dexp (rsumD d k)) ∧ Mag wr a3 (nl (dman (rsumD d k)).natAbs) c3 (dman (rsumD d k)).natAbs ∧ (0 < nl (dman (rsumD d k)).natAbs → w.heap.size + 2 ≤ ab a3) ∧ Beh w wr) (fun i _ => n - (intOf i).toNat)
  case atStart => exact ⟨0, none, 0, by omega, rfl, inferInstance, (inferInstance : DB _ _ false false (.slice none 0 0) 0), Mag.nil _, fun h => absurd h (by show ¬ 0 < nl 0; rw [show nl 0 = 0 from rfl]; omega), inferInstance⟩
  case round =>
    obtain ⟨kk, a3, c3, hk, rfl, V0, Vt, M3, hf3, hb⟩ := hrel
    have hB := hb.out
    have lt0 := V0.out.lt
    have ltt := Vt.out.lt
    by_cases hlt : kk < n
    · haveI kX : CE wr (ab a) (ao a + kk) (.int .u64 (X kk : Nat)) := ⟨(HX.out.below hB).cell kk hlt, Nat.lt_of_lt_of_le (HX.out.old (by omega)) hB.size⟩
      haveI kY : CE wr (ab a') (ao a' + kk) (.int .u64 (Y kk : Nat)) := ⟨(HY.out.below hB).cell kk hlt, Nat.lt_of_lt_of_le (HY.out.old (by omega)) hB.size⟩
      have iX := (HX.out.below hB).idx kk hlt
      have iY := (HY.out.below hB).idx kk hlt
      haveI T5 : Tb wr := ⟨hT.below hB⟩
      haveI D3 : DS wr (dbad (rsumD d kk)) (decide (dman (rsumD d kk) < 0)) a3 (nl (dman (rsumD d kk)).natAbs) c3 (dexp (rsumD d kk)) (rsumD d kk) := ⟨dys_of (isN_rsum d kk) M3⟩
      have HOq := HO kk hlt
      have HPq := HP kk hlt
      have HMq := HM kk
      have HAq := HA kk
      obtain ⟨y, hy⟩ : ∃ y, y = rsumD d (kk + 1) := ⟨_, rfl⟩
      rw [← hy] at HAq
      have HYY := Lib.hid hy
      clear hy HO HP HM HA HF HG M3
      generalize rsumD d kk = sm at *
      generalize d kk = dk at *
      generalize fof (X kk) = dx at *
      generalize fof (Y kk) = dy at *
      generalize ((X kk : Nat) : Int) = px at *
      generalize ((Y kk : Nat) : Int) = py at *
      go_wp2_with fail
      first
      | go_region_with
        (first
          | (go_at_call 61; refine (HOq _).out.mono ?_; rintro e w6 ⟨a6, c6, rfl, i6, b6⟩)
          | (go_at_call 61; refine (HPq _).out.mono ?_; rintro e w7 ⟨a7, c7, rfl, i7, b7⟩)
          | (go_at_call 151; refine (HMq _ _ _ _ _).out.mono ?_; rintro e w8 ⟨a8, c8, rfl, i8, b8⟩)
          | (go_at_call 149; refine (HAq _ _ _ _ _).out.mono ?_; rintro e w10 ⟨a10, c10, rfl, i10, b10, m10, f10⟩)
          | fail)
      | fail "region"
      all_goals (
        have hf0 := fresh_of (wr := wr) b10 f10
        have hf : 0 < nl (dman y).natAbs → w.heap.size + 2 ≤ ab a10 := fun h => by
          have q1 := hf0 h
          omega
        go_wp2_with fail
        go_roundw
        case rel =>
          refine ⟨kk + 1, a10, c10, by omega, by go_num, ?_⟩
          rw [← HYY.out]
          exact ⟨inferInstance, inferInstance, Mag.st4 m10.out (fun h => by have := hf h; omega) _ _ _ _, hf, inferInstance⟩
        case measure => simp [intOf]; omega)
    · obtain rfl : kk = n := by omega
      clear HO HP HM HA HF HG
      generalize rsumD d kk = sm at *
      go_wp2_with fail
      refine bodyPost_ret (v := .tuple #[.agg #[.bool (dbad sm), .bool (decide (dman sm < 0)), .slice a3 (nl (dman sm).natAbs) c3, .int .i64 (dexp sm)], .int .i64 0]) (by simp only [results, Tryz.results35]; go_simp) rfl ?_
      exact ⟨a3, c3, rfl, Mag.st4 M3 (fun h => by have := hf3 h; omega) _ _ _ _, zbh, fun h => by have := hf3 h; omega⟩

theorem rdot6_any (w : World) (hT : Tab w) (a a' : Option Addr) (n m cap cap' : Nat) (X Y : Nat → Nat) (hX : Fls w a n cap X) (hY : Fls w a' m cap' Y) (hn : n ≤ 15) :
    Calls Tryz.prog 35 #[.slice a n cap, .slice a' m cap'] w (RetDyE w (dotD X Y n m) (dotE X Y n m)) := by
  by_cases hnm : n = m
  · cases hfx : allfin X n with
    | false =>
      have e : dotE X Y n m = 4 := by unfold dotE; rw [if_neg (fun h => h hnm), hfx]; rfl
      have e2 : dotD X Y n m = some (0, 0) := by unfold dotD; rw [e]; rfl
      rw [e, e2]; exact rdot6_fx w hT a a' n m cap cap' X Y hX hY hnm hfx
    | true =>
      cases hfy : allfin Y m with
      | false =>
        have e : dotE X Y n m = 4 := by unfold dotE; rw [if_neg (fun h => h hnm), hfx, hfy]; rfl
        have e2 : dotD X Y n m = some (0, 0) := by unfold dotD; rw [e]; rfl
        rw [e, e2]; exact rdot6_fy w hT a a' n m cap cap' X Y hX hY hnm hfx hfy
      | true =>
        have e : dotE X Y n m = 0 := by unfold dotE; rw [if_neg (fun h => h hnm), hfx, hfy]; rfl
        have e2 : dotD X Y n m = ddot X Y n := by unfold dotD; rw [e]; rfl
        rw [e, e2, ← rdot_law X Y hn hfx (by rw [hnm]; exact hfy)]; exact rdot6_ok w hT a a' n m cap cap' X Y hX hY hnm hfx hfy
  · have e : dotE X Y n m = 2 := by unfold dotE; rw [if_pos hnm]
    have e2 : dotD X Y n m = some (0, 0) := by unfold dotD; rw [e]; rfl
    rw [e, e2]; exact rdot6_len w hT a a' n m cap cap' X Y hX hY hnm

set_option maxRecDepth 100000 in
set_option maxHeartbeats 20000000 in
theorem rres6_err (w : World) (b : Nat) (hT : Tab w) (a a' : Option Addr) (n m cap cap' : Nat) (X Y : Nat → Nat) (hX : Fls w a n cap X) (hY : Fls w a' m cap' Y) (hn : n ≤ 15) (hE : dotE X Y n m ≠ 0) :
    Calls Tryz.prog 37 #[.int .u64 b, .slice a n cap, .slice a' m cap'] w (RetDyE w (some (0, 0)) (dotE X Y n m)) := by
  obtain ⟨dd, hdd⟩ : ∃ dd, dd = dotD X Y n m := ⟨_, rfl⟩
  obtain ⟨er, her⟩ : ∃ er, er = dotE X Y n m := ⟨_, rfl⟩
  have HDt := fun W ht h h' => Lib.hid (rdot6_any W ht a a' n m cap cap' X Y h h' hn)
  rw [← hdd, ← her] at HDt
  rw [← her] at hE ⊢
  have hq : (er != 0) = true := by rw [bne_iff_ne]; exact hE
  clear hdd her hE
  go_enter Tryz.func37, Tryz.ntmps37
  go_wp2_with fail
  have Ir := (DyV.made' w 26 false false (.slice none 0 0) 0 (n := w.heap.size) (by rfl))
  have B0 : Below w.heap.size w (w.alloc (.cells #[.bool false, .bool false, (.slice none 0 0), .int .i64 0] 26)) := zbh
  generalize (w.alloc (.cells #[.bool false, .bool false, (.slice none 0 0), .int .i64 0] 26)) = w0 at Ir B0 ⊢
  generalize hb0 : w.heap.size = b0 at Ir ⊢
  obtain ⟨rc0, rc1, rc2, rc3, rc4, rc5⟩ := Ir
  have Vr0 := Lib.hid (DyV.mk rc0 rc1 rc2 rc3 rc4 rc5)
  refine (HDt _ (hT.below (by have hszw := (B0).size; repeat (with_reducible first | refine Below.setCell ?_ (by first | omega | (simp <;> omega)) _ | refine Below.alloc ?_ (by first | omega | (simp <;> omega)) _ | refine Below.drew ?_ | refine below_drewN ?_ _ | exact B0))) (hX.below (by have hszw := (B0).size; repeat (with_reducible first | refine Below.setCell ?_ (by first | omega | (simp <;> omega)) _ | refine Below.alloc ?_ (by first | omega | (simp <;> omega)) _ | refine Below.drew ?_ | refine below_drewN ?_ _ | exact B0))) (hY.below (by have hszw := (B0).size; repeat (with_reducible first | refine Below.setCell ?_ (by first | omega | (simp <;> omega)) _ | refine Below.alloc ?_ (by first | omega | (simp <;> omega)) _ | refine Below.drew ?_ | refine below_drewN ?_ _ | exact B0)))).out.mono ?_
  rintro e w1 ⟨a1, c1, rfl, M11, hb1, hf1⟩
  have Vr1 : DyV w1 b0 false false (.slice none 0 0) 0 := (Vr0.out.on.below hb1)
  (try clear rc0 rc1 rc2 rc3 rc4)
  obtain ⟨rc0, rc1, rc2, rc3, rc4, rc5⟩ := Vr1
  have Vr1 := Lib.hid (DyV.mk rc0 rc1 rc2 rc3 rc4 rc5)
  have B1 := below_box (w := w) (by have hszw := (B0).size; repeat (with_reducible first | refine Below.setCell ?_ (by first | omega | (simp <;> omega)) _ | refine Below.alloc ?_ (by first | omega | (simp <;> omega)) _ | refine Below.drew ?_ | refine below_drewN ?_ _ | exact B0)) hb1
  have hF1 : 0 < (nl (dman dd).natAbs) → w0.heap.size ≤ ab a1 := (fun h => by have hq := hf1 h; (try simp at hq); omega)
  have fr1r : 0 < (nl (dman dd).natAbs) → ab a1 ≠ b0 := (fun h => by have := hF1 h; have := Vr0.out.lt; omega)
  have fo1 : 0 < (nl (dman dd).natAbs) → w.heap.size ≤ ab a1 := (fun h => by have := hF1 h; have := B0.size; omega)
  clear hF1
  clear hb1 hf1
  go_wp2_with fail
  refine bodyPost_ret (v := .tuple #[.agg #[.bool false, .bool false, .slice none 0 0, .int .i64 0], .int .i64 er]) (by simp only [results, Tryz.results37]; go_simp) rfl ?_
  exact ⟨none, 0, rfl, Mag.nil _, (by have hszw := (B1).size; repeat (with_reducible first | refine Below.setCell ?_ (by first | omega | (simp <;> omega)) _ | refine Below.alloc ?_ (by first | omega | (simp <;> omega)) _ | refine Below.drew ?_ | refine below_drewN ?_ _ | exact B1)), nl0⟩

set_option maxRecDepth 100000 in
set_option maxHeartbeats 20000000 in
theorem rres6_inf (w : World) (b : Nat) (hT : Tab w) (a a' : Option Addr) (n m cap cap' : Nat) (X Y : Nat → Nat) (hX : Fls w a n cap X) (hY : Fls w a' m cap' Y) (hn : n ≤ 15) (hE : dotE X Y n m = 0) (hf : ffin b = false) :
    Calls Tryz.prog 37 #[.int .u64 b, .slice a n cap, .slice a' m cap'] w (RetDyE w (some (0, 0)) 4) := by
  obtain ⟨dd, hdd⟩ : ∃ dd, dd = dotD X Y n m := ⟨_, rfl⟩
  obtain ⟨er, her⟩ : ∃ er, er = dotE X Y n m := ⟨_, rfl⟩
  have HDt := fun W ht h h' => Lib.hid (rdot6_any W ht a a' n m cap cap' X Y h h' hn)
  rw [← hdd, ← her] at HDt
  have HF := fun W => Lib.hid (rfin_any W b)
  rw [hf] at HF
  rw [hE] at her
  subst her
  clear hdd hE
  go_enter Tryz.func37, Tryz.ntmps37
  go_wp2_with fail
  have Ir := (DyV.made' w 26 false false (.slice none 0 0) 0 (n := w.heap.size) (by rfl))
  have B0 : Below w.heap.size w (w.alloc (.cells #[.bool false, .bool false, (.slice none 0 0), .int .i64 0] 26)) := zbh
  generalize (w.alloc (.cells #[.bool false, .bool false, (.slice none 0 0), .int .i64 0] 26)) = w0 at Ir B0 ⊢
  generalize hb0 : w.heap.size = b0 at Ir ⊢
  obtain ⟨rc0, rc1, rc2, rc3, rc4, rc5⟩ := Ir
  have Vr0 := Lib.hid (DyV.mk rc0 rc1 rc2 rc3 rc4 rc5)
  refine (HDt _ (hT.below (by have hszw := (B0).size; repeat (with_reducible first | refine Below.setCell ?_ (by first | omega | (simp <;> omega)) _ | refine Below.alloc ?_ (by first | omega | (simp <;> omega)) _ | refine Below.drew ?_ | refine below_drewN ?_ _ | exact B0))) (hX.below (by have hszw := (B0).size; repeat (with_reducible first | refine Below.setCell ?_ (by first | omega | (simp <;> omega)) _ | refine Below.alloc ?_ (by first | omega | (simp <;> omega)) _ | refine Below.drew ?_ | refine below_drewN ?_ _ | exact B0))) (hY.below (by have hszw := (B0).size; repeat (with_reducible first | refine Below.setCell ?_ (by first | omega | (simp <;> omega)) _ | refine Below.alloc ?_ (by first | omega | (simp <;> omega)) _ | refine Below.drew ?_ | refine below_drewN ?_ _ | exact B0)))).out.mono ?_
  rintro e w1 ⟨a1, c1, rfl, M11, hb1, hf1⟩
  have Vr1 : DyV w1 b0 false false (.slice none 0 0) 0 := (Vr0.out.on.below hb1)
  (try clear rc0 rc1 rc2 rc3 rc4)
  obtain ⟨rc0, rc1, rc2, rc3, rc4, rc5⟩ := Vr1
  have Vr1 := Lib.hid (DyV.mk rc0 rc1 rc2 rc3 rc4 rc5)
  have B1 := below_box (w := w) (by have hszw := (B0).size; repeat (with_reducible first | refine Below.setCell ?_ (by first | omega | (simp <;> omega)) _ | refine Below.alloc ?_ (by first | omega | (simp <;> omega)) _ | refine Below.drew ?_ | refine below_drewN ?_ _ | exact B0)) hb1
  have hF1 : 0 < (nl (dman dd).natAbs) → w0.heap.size ≤ ab a1 := (fun h => by have hq := hf1 h; (try simp at hq); omega)
  have fr1r : 0 < (nl (dman dd).natAbs) → ab a1 ≠ b0 := (fun h => by have := hF1 h; have := Vr0.out.lt; omega)
  have fo1 : 0 < (nl (dman dd).natAbs) → w.heap.size ≤ ab a1 := (fun h => by have := hF1 h; have := B0.size; omega)
  clear hF1
  clear hb1 hf1
  go_wp2_with fail
  have Vd2 := (DyV.made' w1 26 (dbad dd) (decide (dman dd < 0)) (.slice a1 (nl (dman dd).natAbs) c1) (dexp dd) (n := w1.heap.size) (by rfl))
  have Vr2 := (DyV.alloc Vr1.out (.cells #[.bool (dbad dd), .bool (decide (dman dd < 0)), (.slice a1 (nl (dman dd).natAbs) c1), .int .i64 (dexp dd)] 26))
  have M12 := (Mag.alloc M11 (.cells #[.bool (dbad dd), .bool (decide (dman dd < 0)), (.slice a1 (nl (dman dd).natAbs) c1), .int .i64 (dexp dd)] 26))
  have B2 : Below w.heap.size w (w1.alloc (.cells #[.bool (dbad dd), .bool (decide (dman dd < 0)), (.slice a1 (nl (dman dd).natAbs) c1), .int .i64 (dexp dd)] 26)) := (by have hszw := (B1).size; repeat (with_reducible first | refine Below.setCell ?_ (by first | omega | (simp <;> omega)) _ | refine Below.alloc ?_ (by first | omega | (simp <;> omega)) _ | refine Below.drew ?_ | refine below_drewN ?_ _ | exact B1))
  have nrd : ¬ b0 = w1.heap.size := by have := Vr1.out.lt; omega
  have ndr : ¬ w1.heap.size = b0 := by have := Vr1.out.lt; omega
  have fr1d : 0 < (nl (dman dd).natAbs) → ab a1 ≠ w1.heap.size := fun h => by have := M11.old h; omega
  have gd : w.heap.size ≤ w1.heap.size := by have := B1.size; omega
  generalize (w1.alloc (.cells #[.bool (dbad dd), .bool (decide (dman dd < 0)), (.slice a1 (nl (dman dd).natAbs) c1), .int .i64 (dexp dd)] 26)) = w2 at Vd2 Vr2 M12 B2 ⊢
  generalize w1.heap.size = zd at Vd2 nrd ndr fr1d gd ⊢
  (try clear rc0 rc1 rc2 rc3 rc4)
  obtain ⟨rc0, rc1, rc2, rc3, rc4, rc5⟩ := Vr2
  have Vr2 := Lib.hid (DyV.mk rc0 rc1 rc2 rc3 rc4 rc5)
  (try clear dc0 dc1 dc2 dc3 dc4)
  obtain ⟨dc0, dc1, dc2, dc3, dc4, dc5⟩ := Vd2
  have Vd2 := Lib.hid (DyV.mk dc0 dc1 dc2 dc3 dc4 dc5)
  refine (HF _).out.mono ?_; rintro e w9 ⟨rfl, rfl⟩; go_wp2_with fail
  refine bodyPost_ret (v := .tuple #[.agg #[.bool false, .bool false, .slice none 0 0, .int .i64 0], .int .i64 4]) (by simp only [results, Tryz.results37]; go_simp) rfl ?_
  exact ⟨none, 0, rfl, Mag.nil _, (by have hszw := (B2).size; repeat (with_reducible first | refine Below.setCell ?_ (by first | omega | (simp <;> omega)) _ | refine Below.alloc ?_ (by first | omega | (simp <;> omega)) _ | refine Below.drew ?_ | refine below_drewN ?_ _ | exact B2)), nl0⟩

set_option maxRecDepth 100000 in
set_option maxHeartbeats 20000000 in
theorem rres6_ok (w : World) (b : Nat) (hb : b < 18446744073709551616) (hT : Tab w) (a a' : Option Addr) (n m cap cap' : Nat) (X Y : Nat → Nat) (hX : Fls w a n cap X) (hY : Fls w a' m cap' Y) (hn : n ≤ 15) (hE : dotE X Y n m = 0) (hf : ffin b = true) (y : Option (Int × Int)) (hy : y = dadd (fof b) (dneg (dotD X Y n m))) :
    Calls Tryz.prog 37 #[.int .u64 b, .slice a n cap, .slice a' m cap'] w (RetDyE w y 0) := by
  obtain ⟨dd, hdd⟩ : ∃ dd, dd = dotD X Y n m := ⟨_, rfl⟩
  obtain ⟨er, her⟩ : ∃ er, er = dotE X Y n m := ⟨_, rfl⟩
  have HDt := fun W ht h h' => Lib.hid (rdot6_any W ht a a' n m cap cap' X Y h h' hn)
  rw [← hdd, ← her] at HDt
  have HF := fun W => Lib.hid (rfin_any W b)
  rw [hf] at HF
  rw [hE] at her
  subst her
  have HO := fun W ht => Lib.hid (r3of_any W b hb ht)
  have N1 := Lib.hid (isN_fof b)
  have N2 := Lib.hid (isN_dotD X Y n m)
  rw [← hdd] at N2 hy
  have HS := fun W b1 q1 b2 q2 (h1 : Mag W b1 (nl (dman (fof b)).natAbs) q1 (dman (fof b)).natAbs) (h2 : Mag W b2 (nl (dman dd).natAbs) q2 (dman dd).natAbs) ht => Lib.hid (show Calls Tryz.prog 148 #[.agg #[.bool (dbad (fof b)), .bool (decide (dman (fof b) < 0)), .slice b1 (nl (dman (fof b)).natAbs) q1, .int .i64 (dexp (fof b))], .agg #[.bool (dbad dd), .bool (decide (dman dd < 0)), .slice b2 (nl (dman dd).natAbs) q2, .int .i64 (dexp dd)]] W (RetDy W y) from by rw [hy]; exact rdsub_any W _ _ _ _ _ _ _ _ _ _ _ _ _ _ (dyis_n N1.out h1) (dyis_n N2.out h2) ht)
  generalize fof b = db at *
  clear hdd hE hy N1 N2
  go_enter Tryz.func37, Tryz.ntmps37
  go_wp2_with fail
  have Ir := (DyV.made' w 26 false false (.slice none 0 0) 0 (n := w.heap.size) (by rfl))
  have B0 : Below w.heap.size w (w.alloc (.cells #[.bool false, .bool false, (.slice none 0 0), .int .i64 0] 26)) := zbh
  generalize (w.alloc (.cells #[.bool false, .bool false, (.slice none 0 0), .int .i64 0] 26)) = w0 at Ir B0 ⊢
  generalize hb0 : w.heap.size = b0 at Ir ⊢
  obtain ⟨rc0, rc1, rc2, rc3, rc4, rc5⟩ := Ir
  have Vr0 := Lib.hid (DyV.mk rc0 rc1 rc2 rc3 rc4 rc5)
  refine (HDt _ (hT.below (by have hszw := (B0).size; repeat (with_reducible first | refine Below.setCell ?_ (by first | omega | (simp <;> omega)) _ | refine Below.alloc ?_ (by first | omega | (simp <;> omega)) _ | refine Below.drew ?_ | refine below_drewN ?_ _ | exact B0))) (hX.below (by have hszw := (B0).size; repeat (with_reducible first | refine Below.setCell ?_ (by first | omega | (simp <;> omega)) _ | refine Below.alloc ?_ (by first | omega | (simp <;> omega)) _ | refine Below.drew ?_ | refine below_drewN ?_ _ | exact B0))) (hY.below (by have hszw := (B0).size; repeat (with_reducible first | refine Below.setCell ?_ (by first | omega | (simp <;> omega)) _ | refine Below.alloc ?_ (by first | omega | (simp <;> omega)) _ | refine Below.drew ?_ | refine below_drewN ?_ _ | exact B0)))).out.mono ?_
  rintro e w1 ⟨a1, c1, rfl, M11, hb1, hf1⟩
  have Vr1 : DyV w1 b0 false false (.slice none 0 0) 0 := (Vr0.out.on.below hb1)
  (try clear rc0 rc1 rc2 rc3 rc4)
  obtain ⟨rc0, rc1, rc2, rc3, rc4, rc5⟩ := Vr1
  have Vr1 := Lib.hid (DyV.mk rc0 rc1 rc2 rc3 rc4 rc5)
  have B1 := below_box (w := w) (by have hszw := (B0).size; repeat (with_reducible first | refine Below.setCell ?_ (by first | omega | (simp <;> omega)) _ | refine Below.alloc ?_ (by first | omega | (simp <;> omega)) _ | refine Below.drew ?_ | refine below_drewN ?_ _ | exact B0)) hb1
  have hF1 : 0 < (nl (dman dd).natAbs) → w0.heap.size ≤ ab a1 := (fun h => by have hq := hf1 h; (try simp at hq); omega)
  have fr1r : 0 < (nl (dman dd).natAbs) → ab a1 ≠ b0 := (fun h => by have := hF1 h; have := Vr0.out.lt; omega)
  have fo1 : 0 < (nl (dman dd).natAbs) → w.heap.size ≤ ab a1 := (fun h => by have := hF1 h; have := B0.size; omega)
  clear hF1
  clear hb1 hf1
  go_wp2_with fail
  have Vd2 := (DyV.made' w1 26 (dbad dd) (decide (dman dd < 0)) (.slice a1 (nl (dman dd).natAbs) c1) (dexp dd) (n := w1.heap.size) (by rfl))
  have Vr2 := (DyV.alloc Vr1.out (.cells #[.bool (dbad dd), .bool (decide (dman dd < 0)), (.slice a1 (nl (dman dd).natAbs) c1), .int .i64 (dexp dd)] 26))
  have M12 := (Mag.alloc M11 (.cells #[.bool (dbad dd), .bool (decide (dman dd < 0)), (.slice a1 (nl (dman dd).natAbs) c1), .int .i64 (dexp dd)] 26))
  have B2 : Below w.heap.size w (w1.alloc (.cells #[.bool (dbad dd), .bool (decide (dman dd < 0)), (.slice a1 (nl (dman dd).natAbs) c1), .int .i64 (dexp dd)] 26)) := (by have hszw := (B1).size; repeat (with_reducible first | refine Below.setCell ?_ (by first | omega | (simp <;> omega)) _ | refine Below.alloc ?_ (by first | omega | (simp <;> omega)) _ | refine Below.drew ?_ | refine below_drewN ?_ _ | exact B1))
  have nrd : ¬ b0 = w1.heap.size := by have := Vr1.out.lt; omega
  have ndr : ¬ w1.heap.size = b0 := by have := Vr1.out.lt; omega
  have fr1d : 0 < (nl (dman dd).natAbs) → ab a1 ≠ w1.heap.size := fun h => by have := M11.old h; omega
  have gd : w.heap.size ≤ w1.heap.size := by have := B1.size; omega
  generalize (w1.alloc (.cells #[.bool (dbad dd), .bool (decide (dman dd < 0)), (.slice a1 (nl (dman dd).natAbs) c1), .int .i64 (dexp dd)] 26)) = w2 at Vd2 Vr2 M12 B2 ⊢
  generalize w1.heap.size = zd at Vd2 nrd ndr fr1d gd ⊢
  (try clear rc0 rc1 rc2 rc3 rc4)
  obtain ⟨rc0, rc1, rc2, rc3, rc4, rc5⟩ := Vr2
  have Vr2 := Lib.hid (DyV.mk rc0 rc1 rc2 rc3 rc4 rc5)
  (try clear dc0 dc1 dc2 dc3 dc4)
  obtain ⟨dc0, dc1, dc2, dc3, dc4, dc5⟩ := Vd2
  have Vd2 := Lib.hid (DyV.mk dc0 dc1 dc2 dc3 dc4 dc5)
  refine (HF _).out.mono ?_; rintro e w9 ⟨rfl, rfl⟩; go_wp2_with fail
  first
  | go_region_with
      (first
        | (go_at_call 148; have xx := B3; refine (HS _ a2 c2 a1 c1 M23.on M13.on (hT.below (by have hszw := (B3).size; repeat (with_reducible first | refine Below.setCell ?_ (by first | omega | (simp <;> omega)) _ | refine Below.alloc ?_ (by first | omega | (simp <;> omega)) _ | refine Below.drew ?_ | refine below_drewN ?_ _ | exact B3)))).out.mono ?_; rintro e w4 ⟨ay, cy, rfl, My4, hb4, hf4⟩; have Vr4 : DyV w4 b0 false false (.slice none 0 0) 0 := (Vr3.out.on.below hb4); (try clear rc0 rc1 rc2 rc3 rc4); obtain ⟨rc0, rc1, rc2, rc3, rc4, rc5⟩ := Vr4; have Vr4 := Lib.hid (DyV.mk rc0 rc1 rc2 rc3 rc4 rc5); have Vd4 : DyV w4 zd (dbad dd) (decide (dman dd < 0)) (.slice a1 (nl (dman dd).natAbs) c1) (dexp dd) := (Vd3.out.on.below hb4); (try clear dc0 dc1 dc2 dc3 dc4); obtain ⟨dc0, dc1, dc2, dc3, dc4, dc5⟩ := Vd4; have Vd4 := Lib.hid (DyV.mk dc0 dc1 dc2 dc3 dc4 dc5); have M14 : Mag w4 a1 (nl (dman dd).natAbs) c1 (dman dd).natAbs := Mag.below M13.on hb4; have M24 : Mag w4 a2 (nl (dman db).natAbs) c2 (dman db).natAbs := Mag.below M23.on hb4; have B4 := below_box (w := w) (by have hszw := (B3).size; repeat (with_reducible first | refine Below.setCell ?_ (by first | omega | (simp <;> omega)) _ | refine Below.alloc ?_ (by first | omega | (simp <;> omega)) _ | refine Below.drew ?_ | refine below_drewN ?_ _ | exact B3)) hb4; have hF4 : 0 < (nl (dman y).natAbs) → w3.heap.size ≤ ab ay := (fun h => by have hq := hf4 h; (try simp at hq); omega); have fryr : 0 < (nl (dman y).natAbs) → ab ay ≠ b0 := (fun h => by have := hF4 h; have := Vr3.out.lt; omega); have fryd : 0 < (nl (dman y).natAbs) → ab ay ≠ zd := (fun h => by have := hF4 h; have := Vd3.out.lt; omega); have foy : 0 < (nl (dman y).natAbs) → w.heap.size ≤ ab ay := (fun h => by have := hF4 h; have := B3.size; omega); clear hF4; clear hb4 hf4)
        | (go_at_call 61; have xx := B2; refine (HO _ (hT.below (by have hszw := (B2).size; repeat (with_reducible first | refine Below.setCell ?_ (by first | omega | (simp <;> omega)) _ | refine Below.alloc ?_ (by first | omega | (simp <;> omega)) _ | refine Below.drew ?_ | refine below_drewN ?_ _ | exact B2)))).out.mono ?_; rintro e w3 ⟨a2, c2, rfl, M23, hb3, hf3⟩; have Vr3 : DyV w3 b0 false false (.slice none 0 0) 0 := (Vr2.out.on.below hb3); (try clear rc0 rc1 rc2 rc3 rc4); obtain ⟨rc0, rc1, rc2, rc3, rc4, rc5⟩ := Vr3; have Vr3 := Lib.hid (DyV.mk rc0 rc1 rc2 rc3 rc4 rc5); have Vd3 : DyV w3 zd (dbad dd) (decide (dman dd < 0)) (.slice a1 (nl (dman dd).natAbs) c1) (dexp dd) := (Vd2.out.on.below hb3); (try clear dc0 dc1 dc2 dc3 dc4); obtain ⟨dc0, dc1, dc2, dc3, dc4, dc5⟩ := Vd3; have Vd3 := Lib.hid (DyV.mk dc0 dc1 dc2 dc3 dc4 dc5); have M13 : Mag w3 a1 (nl (dman dd).natAbs) c1 (dman dd).natAbs := Mag.below M12.on hb3; have B3 := below_box (w := w) (by have hszw := (B2).size; repeat (with_reducible first | refine Below.setCell ?_ (by first | omega | (simp <;> omega)) _ | refine Below.alloc ?_ (by first | omega | (simp <;> omega)) _ | refine Below.drew ?_ | refine below_drewN ?_ _ | exact B2)) hb3; have hF3 : 0 < (nl (dman db).natAbs) → w2.heap.size ≤ ab a2 := (fun h => by have hq := hf3 h; (try simp at hq); omega); have fr2r : 0 < (nl (dman db).natAbs) → ab a2 ≠ b0 := (fun h => by have := hF3 h; have := Vr2.out.lt; omega); have fr2d : 0 < (nl (dman db).natAbs) → ab a2 ≠ zd := (fun h => by have := hF3 h; have := Vd2.out.lt; omega); have fo2 : 0 < (nl (dman db).natAbs) → w.heap.size ≤ ab a2 := (fun h => by have := hF3 h; have := B2.size; omega); clear hF3; clear hb3 hf3)
        | fail)
  | fail "region"
  all_goals (
    go_wp2_with fail
    refine bodyPost_ret (v := .tuple #[.agg #[.bool (dbad y), .bool (decide (dman y < 0)), .slice ay (nl (dman y).natAbs) cy, .int .i64 (dexp y)], .int .i64 0]) (by simp only [results, Tryz.results37]; go_simp) rfl ?_
    exact ⟨ay, cy, rfl, (by repeat (with_reducible first | refine Mag.set ?_ fryr _ _ | refine Mag.set ?_ fryd _ _ | refine Mag.drew ?_ | refine Mag.drewN ?_ _ | refine Mag.alloc ?_ _ | exact My4)), (by have hszw := (B4).size; repeat (with_reducible first | refine Below.setCell ?_ (by first | omega | (simp <;> omega)) _ | refine Below.alloc ?_ (by first | omega | (simp <;> omega)) _ | refine Below.drew ?_ | refine below_drewN ?_ _ | exact B4)), foy⟩)

theorem rres6_any (w : World) (b : Nat) (hb : b < 18446744073709551616) (hT : Tab w) (a a' : Option Addr) (n m cap cap' : Nat) (X Y : Nat → Nat) (hX : Fls w a n cap X) (hY : Fls w a' m cap' Y) (hn : n ≤ 15) :
    Calls Tryz.prog 37 #[.int .u64 b, .slice a n cap, .slice a' m cap'] w (RetDyE w (resD b X Y n m) (resE b X Y n m)) := by
  by_cases hE : dotE X Y n m = 0
  · cases hf : ffin b with
    | false =>
      have e : resE b X Y n m = 4 := by unfold resE; rw [if_neg (fun h => h hE), hf]; rfl
      have e2 : resD b X Y n m = some (0, 0) := by unfold resD; rw [e]; rfl
      rw [e, e2]; exact rres6_inf w b hT a a' n m cap cap' X Y hX hY hn hE hf
    | true =>
      have e : resE b X Y n m = 0 := by unfold resE; rw [if_neg (fun h => h hE), hf]; rfl
      have e2 : resD b X Y n m = dadd (fof b) (dneg (dotD X Y n m)) := by unfold resD; rw [e]; rfl
      rw [e, e2]; exact rres6_ok w b hb hT a a' n m cap cap' X Y hX hY hn hE hf _ rfl
  · have e : resE b X Y n m = dotE X Y n m := by unfold resE; rw [if_pos hE]
    have e2 : resD b X Y n m = some (0, 0) := by unfold resD; rw [e, if_neg hE]
    rw [e, e2]; exact rres6_err w b hT a a' n m cap cap' X Y hX hY hn hE

end Go.Proofs.YtakbappmkdaioaaGreatDoor

