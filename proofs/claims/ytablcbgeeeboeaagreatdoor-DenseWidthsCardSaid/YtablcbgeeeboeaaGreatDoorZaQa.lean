/-
  Walks: the law DenseWidths.
-/
import Derived.Test.YtablcbgeeeboeaaGreatDoorZaNs
import Derived.Test.YtablcbgeeeboeaaGreatDoorZaPn
set_option maxRecDepth 100000
set_option maxHeartbeats 20000000
namespace Go.Proofs.YtablcbgeeeboeaaGreatDoor
open Go.RowKit Sp
attribute [local irreducible] Calls
theorem dwidths_any (w : World) [Tb w] (a : Option Addr) (m cap : Nat) (L : Nat → Nat) [hL : FZ w a m cap L] (n s k v u : Int) :
 Calls Tryz.prog 4 #[.slice a m cap, .int .i64 n, .int .i64 s, .int .i64 k, .int .i64 v, .int .i64 u] w fun o w' => o = .returned (.bool true) ∧ Below w.heap.size w w' := by
 have HSQ := fun W [Tb W] [FZ W a m cap L] => Lib.hid (square_any W a m cap L n s true)
 have HAW := fun W [Tb W] => Lib.hid (frm (awake23_any W))
 obtain ⟨v9, hv9, hv9l⟩ := pl_nat v 9 (by omega)
 obtain ⟨u9, hu9, hu9l⟩ := pl_nat u 9 (by omega)
 have HMV := fun W => Lib.hid (gmod_any W v 9 (by omega) (by omega))
 have HMU := fun W => Lib.hid (gmod_any W u 9 (by omega) (by omega))
 rw [show ((9 : Nat) : Int) = 9 from rfl] at hv9 hu9
 rw [hv9] at HMV
 rw [hu9] at HMU
 have wv9 : IntKind.i64.wrap (1 + (v9 : Int)) = 1 + (v9 : Int) := by rw [IntKind.wrap_i64]; omega
 have wu9 : IntKind.i64.wrap (1 + (u9 : Int)) = 1 + (u9 : Int) := by rw [IntKind.wrap_i64]; omega
 clear hv9 hu9
 go_enter Tryz.func4, Tryz.ntmps4
 go_wp2_with fail
 refine (HSQ _).out.mono ?_; rintro o w1 ⟨q, oa, oc, X, rfl, hS, _, b1⟩
 haveI b1' : From w w1 := ⟨b1⟩
 have hq6 := hS.k6
 have hbad := bad_fin (fun t => (hS.f t).2) (q * q)
 obtain ⟨B, hB⟩ : ∃ B, B = fun t => fof (X t) := ⟨_, rfl⟩
 have hBN : ∀ t, IsN (B t) := by rw [hB]; exact fun t => isN_fof _
 rw [← hB] at hbad
 haveI iZ : DZ w1 oa (q * q) oc B := by rw [hB]; exact ⟨hS.z⟩
 clear hB
 obtain ⟨kq, hkq, hkl⟩ := pl_nat k (q + 1) (by omega)
 have HMK := fun W => Lib.hid (gmod_any W k ((q + 1 : Nat) : Int) (by omega) (by omega))
 rw [hkq] at HMK
 rw [show ((q + 1 : Nat) : Int) = (q : Int) + 1 by omega] at HMK
 have HE := fun W (width : Int) (h1 : 1 ≤ width) (h2 : width ≤ 100) [Tb W] [DZ W oa (q * q) oc B] => Lib.hid (delim_all W q kq width oa oc B hBN hbad (by omega) (by omega) h1 (by omega))
 have HSP := fun W x c x' c' [FZ W x (epn B q kq (q * kq)) c (pan B q kq)] [FZ W x' (epn B q kq (q * kq)) c' (pan B q kq)] => Lib.hid (frm (gsamep_any W (epn B q kq q) (epn B q kq kq) x x' (epn B q kq (q * kq)) c c' (pan B q kq)))
 have HSB := fun W x c x' c' [Tb W] [DZ W x (epn B q kq ((q - kq) * (q - kq))) c (rest B q kq)] [DZ W x' (epn B q kq ((q - kq) * (q - kq))) c' (rest B q kq)] => Lib.hid (frm (gsameb_any W (epn B q kq (q - kq)) (epn B q kq (q - kq)) x x' (epn B q kq ((q - kq) * (q - kq))) c c' (rest B q kq)))
 have HN := Lib.hid fun i => isN_rest' B q kq i
 clear hkq hbad HSQ hS b1 hBN
 go_wp2_with fail
 have B1 : N3 (w1.alloc (.cells #[.int .i64 q, .int .i64 q, .slice oa (q * q) oc] 25)) w1.heap.size (.int .i64 q) (.int .i64 q) (.slice oa (q * q) oc) := inferInstance
 have T1 : Tb (w1.alloc (.cells #[.int .i64 q, .int .i64 q, .slice oa (q * q) oc] 25)) := inferInstance
 have Z1 : DZ (w1.alloc (.cells #[.int .i64 q, .int .i64 q, .slice oa (q * q) oc] 25)) oa (q * q) oc B := inferInstance
 have L1 : Below w.heap.size w (w1.alloc (.cells #[.int .i64 q, .int .i64 q, .slice oa (q * q) oc] 25)) := zbh
 generalize (w1.alloc (.cells #[.int .i64 q, .int .i64 q, .slice oa (q * q) oc] 25)) = wb at *
 haveI L1' : Beh w wb := ⟨L1⟩
 clear b1'
 have m1 : ¬ w1.heap.size = wb.heap.size := by have := B1.lt; omega
 have m2 : ¬ w1.heap.size = wb.heap.size + 1 := by have := B1.lt; omega
 have m3 : w1.heap.size < wb.heap.size := B1.lt
 refine (HMK _).out.mono ?_; rintro o w2 ⟨rfl, rfl⟩
 go_wp2_with fail
 go_cut [14, 15, 16, 17] (fun v1 v2 v3 v4 wx => ∃ (bp1 bc1 : Nat) (pa : Option Addr) (pc : Nat) (ra : Option Addr) (rc : Nat), v1 = .pointer (some ⟨bp1, 0, none⟩) ∧ v2 = .pointer (some ⟨bc1, 0, none⟩) ∧ v3 = .int .i64 (elimK B q kq) ∧ v4 = .int .i64 (elimE B q kq) ∧ N3 wx bp1 (.int .i64 (epn B q kq q)) (.int .i64 (epn B q kq kq)) (.slice pa (epn B q kq (q * kq)) pc) ∧ N3 wx bc1 (.int .i64 (epn B q kq (q - kq))) (.int .i64 (epn B q kq (q - kq))) (.slice ra (epn B q kq ((q - kq) * (q - kq))) rc) ∧ FZ wx pa (epn B q kq (q * kq)) pc (pan B q kq) ∧ DZ wx ra (epn B q kq ((q - kq) * (q - kq))) rc (rest B q kq) ∧ From wb wx)
 case first =>
  refine wp_region_from (by kernel_rfl) (fun w0 b0 => ?_)
  refine tkz 0 32 ?_ (hy := ?_) (hS := Below.refl _ _) (h := ?_)
  rotate_left
  · intro w hSw; haveI : From w0 w := ⟨hSw⟩; go_simp; (try with_reducible rfl)
  refine tkz 1 33 ?_ (hy := ?_) (hS := Below.refl _ _) (h := ?_)
  rotate_left
  · intro w hSw; haveI : From w0 w := ⟨hSw⟩; go_simp; (try with_reducible rfl)
  refine tkz 2 34 ?_ (hy := ?_) (hS := Below.refl _ _) (h := ?_)
  rotate_left
  · intro w hSw; haveI : From w0 w := ⟨hSw⟩; go_simp; (try with_reducible rfl)
  have hΦ : ∀ (j : Nat) (v : Value) (a b : Nat), Stab ((PhL [PhC (.int .i64 (v9 : Int)), ElR B q kq]) j v a b) a b := fun j v a b => PhL.stab _ (by simp only [List.mem_cons, List.not_mem_nil, or_false, forall_eq_or_imp, forall_eq]; exact ⟨fun v a b => PhC.stab _ v a b, fun v a b => stab_elr _ _ _ v a b⟩) j v a b
  refine wpAnyH_bx w0 (fun _ => 3) (fun _ => 1) (fun e => match e with | 0 => 0 | 1 => 1 | 2 => 1 | 3 => 1 | 4 => 1 | 5 => 1 | 6 => 1 | 7 => 1 | _ => 0) (PhL [PhC (.int .i64 (v9 : Int)), ElR B q kq]) (fun i v => words (tget v i)) (fun al ca st ex => #[true, true, true, ca 0, ex 0, ca 1, ex 1, ex 2, ex 3, ex 4, ex 5, al 0, al 1, st 0, st 1, ex 6, ex 7]) (fun al ca ex B V => [(35, VQ (ca 0) (V 0) undef), (36, VQ (ex 0) (.int .i64 (1 + (v9 : Int))) undef), (37, VQ (ca 1) (V 1) undef), (31, VQ (ex 1) (V 1) undef), (38, VQ (ex 2) (tget (V 1) 0) undef), (39, VQ (ex 3) (tget (V 1) 1) undef), (40, VQ (ex 4) (tget (V 1) 2) undef), (41, VQ (ex 5) (tget (V 1) 3) undef), (14, VQ (al 0) (.pointer (some ⟨B 0, 0, none⟩)) undef), (15, VQ (al 1) (.pointer (some ⟨B 1, 0, none⟩)) undef), (16, VQ (ex 6) (tget (V 1) 2) undef), (17, VQ (ex 7) (tget (V 1) 3) undef)]) rfl (BX.start w0 _ _ _ _ _ (fun _ => 0) (fun _ => 0) (fun _ => 0) (fun _ => undef)) (ex := fun _ => false) rfl (by simp only [fillA, List.setIfInBounds_toArray, List.set_cons_zero, List.set_cons_succ] <;> rfl) (by decide) (by kernel_rfl) (fun _ _ _ _ => rfl) ?_ ?_
  · intro al ca st ex BB lo hi V vw hN hw0
    repeat' (first | exact AllI.nil | refine AllI.cons ?_ ?_)
    · intro h; cases h
    · intro h; cases h
    · intro h; cases h
    · intro (hl : ca 0 = false) _ K hK
      simp only [fillA, List.setIfInBounds_toArray, List.set_cons_zero, List.set_cons_succ]
      go_simp
      go_at_call 12; refine (HMV _).out.mono ?_; rintro o z1 ⟨rfl, rfl⟩
      go_simp
      exact hK.out al (up1 ca 0 true) st ex BB (up1 lo 0 vw.heap.size) (up1 hi 0 _) (up1 V 0 (.int .i64 (v9 : Int))) _ _ rfl (by have x0 : ex 0 = false := off_of (hN.xc 0) hl; simp only [fillA, x0, VQ_false, List.setIfInBounds_toArray, List.set_cons_zero, List.set_cons_succ] <;> rfl) (hN.call hΦ 0 hl (Below.refl _ _) (.int .i64 (v9 : Int)) rfl)
    · intro _ haf K hK
      have d3 : ca 0 = true := haf ⟨3, .data⟩ (by simp) rfl
      have c0 : ca 0 = true := d3
      have hv0 : V 0 = .int .i64 (v9 : Int) := (hN.ph 0 c0).2.2
      clear haf
      simp only [fillA, d3, VQ_true, hv0, List.setIfInBounds_toArray, List.set_cons_zero, List.set_cons_succ]
      go_simp
      exact hK.out al ca st (up1 ex 0 true) BB lo hi V _ _ rfl (by simp only [fillA, d3, VQ_true, hv0, List.setIfInBounds_toArray, List.set_cons_zero, List.set_cons_succ] <;> rfl) (hN.pure 0 (d3))
    · intro (hl : ca 1 = false) haf K hK
      have d3 : ca 0 = true := haf ⟨3, .chain⟩ (by simp) rfl
      have d4 : ex 0 = true := haf ⟨4, .data⟩ (by simp) rfl
      clear haf
      simp only [fillA, d3, d4, VQ_true, List.setIfInBounds_toArray, List.set_cons_zero, List.set_cons_succ]
      go_simp
      go_at_call 13; refine (HE _ ((1 : Int) + (v9 : Int)) (by omega) (by omega)).out.mono ?_; rintro o z2 ⟨vr, rfl, hp, b2⟩
      go_simp
      exact hK.out al (up1 ca 1 true) st ex BB (up1 lo 1 vw.heap.size) (up1 hi 1 _) (up1 V 1 (vr)) _ _ rfl (by have u3 : up1 ca 1 true 0 = true := d3; have x1 : ex 1 = false := off_of (hN.xc 1) hl; have x2 : ex 2 = false := off_of (hN.xc 2) hl; have x3 : ex 3 = false := off_of (hN.xc 3) hl; have x4 : ex 4 = false := off_of (hN.xc 4) hl; have x5 : ex 5 = false := off_of (hN.xc 5) hl; have x6 : ex 6 = false := off_of (hN.xc 6) hl; have x7 : ex 7 = false := off_of (hN.xc 7) hl; simp only [fillA, u3, d4, x1, x2, x3, x4, x5, x6, x7, VQ_false, VQ_true, List.setIfInBounds_toArray, List.set_cons_zero, List.set_cons_succ] <;> rfl) (hN.call hΦ 1 hl b2.out (vr) hp)
    · intro _ haf K hK
      have d5 : ca 1 = true := haf ⟨5, .data⟩ (by simp) rfl
      have c1 : ca 1 = true := d5
      have hq : ElR B q kq (V 1) (lo 1) (hi 1) vw := (hN.ph 1 c1).2.2
      have hv1 := hq.sp.1
      generalize hq.pa = pa at hv1
      generalize hq.pc = pc at hv1
      generalize hq.oa = oa2 at hv1
      generalize hq.oc = oc2 at hv1
      clear hq
      clear haf
      simp [fillA, d5, VQ_true, hv1, go_sem]
      exact hK.out al ca st (up1 ex 1 true) BB lo hi V _ _ rfl (by simp only [fillA, d5, VQ_true, hv1, List.setIfInBounds_toArray, List.set_cons_zero, List.set_cons_succ] <;> rfl) (hN.pure 1 (d5))
    · intro _ haf K hK
      have d6 : ex 1 = true := haf ⟨6, .data⟩ (by simp) rfl
      have c1 : ca 1 = true := hN.xc 1 d6
      have hq : ElR B q kq (V 1) (lo 1) (hi 1) vw := (hN.ph 1 c1).2.2
      have hv1 := hq.sp.1
      generalize hq.pa = pa at hv1
      generalize hq.pc = pc at hv1
      generalize hq.oa = oa2 at hv1
      generalize hq.oc = oc2 at hv1
      clear hq
      clear haf
      simp [fillA, d6, VQ_true, hv1, tget_tuple, go_sem]
      exact hK.out al ca st (up1 ex 2 true) BB lo hi V _ _ rfl (by have u6 : up1 ex 2 true 1 = true := d6; simp only [fillA, u6, VQ_true, hv1, tget_tuple, List.getD_cons_zero, List.setIfInBounds_toArray, List.set_cons_zero, List.set_cons_succ] <;> rfl) (hN.pure 2 (hN.xc 1 d6))
    · intro _ haf K hK
      have d6 : ex 1 = true := haf ⟨6, .data⟩ (by simp) rfl
      have c1 : ca 1 = true := hN.xc 1 d6
      have hq : ElR B q kq (V 1) (lo 1) (hi 1) vw := (hN.ph 1 c1).2.2
      have hv1 := hq.sp.1
      generalize hq.pa = pa at hv1
      generalize hq.pc = pc at hv1
      generalize hq.oa = oa2 at hv1
      generalize hq.oc = oc2 at hv1
      clear hq
      clear haf
      simp [fillA, d6, VQ_true, hv1, tget_tuple, go_sem]
      exact hK.out al ca st (up1 ex 3 true) BB lo hi V _ _ rfl (by have u6 : up1 ex 3 true 1 = true := d6; simp only [fillA, u6, VQ_true, hv1, tget_tuple, List.getD_cons_zero, List.getD_cons_succ, List.setIfInBounds_toArray, List.set_cons_zero, List.set_cons_succ] <;> rfl) (hN.pure 3 (hN.xc 1 d6))
    · intro _ haf K hK
      have d6 : ex 1 = true := haf ⟨6, .data⟩ (by simp) rfl
      have c1 : ca 1 = true := hN.xc 1 d6
      have hq : ElR B q kq (V 1) (lo 1) (hi 1) vw := (hN.ph 1 c1).2.2
      have hv1 := hq.sp.1
      generalize hq.pa = pa at hv1
      generalize hq.pc = pc at hv1
      generalize hq.oa = oa2 at hv1
      generalize hq.oc = oc2 at hv1
      clear hq
      clear haf
      simp [fillA, d6, VQ_true, hv1, tget_tuple, go_sem]
      exact hK.out al ca st (up1 ex 4 true) BB lo hi V _ _ rfl (by have u6 : up1 ex 4 true 1 = true := d6; simp only [fillA, u6, VQ_true, hv1, tget_tuple, List.getD_cons_zero, List.getD_cons_succ, List.setIfInBounds_toArray, List.set_cons_zero, List.set_cons_succ] <;> rfl) (hN.pure 4 (hN.xc 1 d6))
    · intro _ haf K hK
      have d6 : ex 1 = true := haf ⟨6, .data⟩ (by simp) rfl
      have c1 : ca 1 = true := hN.xc 1 d6
      have hq : ElR B q kq (V 1) (lo 1) (hi 1) vw := (hN.ph 1 c1).2.2
      have hv1 := hq.sp.1
      generalize hq.pa = pa at hv1
      generalize hq.pc = pc at hv1
      generalize hq.oa = oa2 at hv1
      generalize hq.oc = oc2 at hv1
      clear hq
      clear haf
      simp [fillA, d6, VQ_true, hv1, tget_tuple, go_sem]
      exact hK.out al ca st (up1 ex 5 true) BB lo hi V _ _ rfl (by have u6 : up1 ex 5 true 1 = true := d6; simp only [fillA, u6, VQ_true, hv1, tget_tuple, List.getD_cons_zero, List.getD_cons_succ, List.setIfInBounds_toArray, List.set_cons_zero, List.set_cons_succ] <;> rfl) (hN.pure 5 (hN.xc 1 d6))
    · intro (hl : al 0 = false) _ K hK
      simp [go_sem]
      exact hK.out (up1 al 0 true) ca st ex (up1 BB 0 vw.heap.size) lo hi V _ _ rfl (by simp only [fillA, List.setIfInBounds_toArray, List.set_cons_zero, List.set_cons_succ] <;> rfl) (hN.alloc hΦ 0 hl _ _ rfl)
    · intro (hl : al 1 = false) _ K hK
      simp [go_sem]
      exact hK.out (up1 al 1 true) ca st ex (up1 BB 1 vw.heap.size) lo hi V _ _ rfl (by simp only [fillA, List.setIfInBounds_toArray, List.set_cons_zero, List.set_cons_succ] <;> rfl) (hN.alloc hΦ 1 hl _ _ rfl)
    · intro _ haf K hK
      have d3 : ca 0 = true := haf ⟨3, .phase⟩ (by simp) rfl
      have d4 : ex 0 = true := haf ⟨4, .phase⟩ (by simp) rfl
      have d5 : ca 1 = true := haf ⟨5, .chain⟩ (by simp) rfl
      have d6 : ex 1 = true := haf ⟨6, .phase⟩ (by simp) rfl
      have d7 : ex 2 = true := haf ⟨7, .data⟩ (by simp) rfl
      have d11 : al 0 = true := haf ⟨11, .data⟩ (by simp) rfl
      have d12 : al 1 = true := haf ⟨12, .phase⟩ (by simp) rfl
      have c1 : ca 1 = true := d5
      have hq : ElR B q kq (V 1) (lo 1) (hi 1) vw := (hN.ph 1 c1).2.2
      have hv1 := hq.sp.1
      generalize hq.pa = pa at hv1
      generalize hq.pc = pc at hv1
      generalize hq.oa = oa2 at hv1
      generalize hq.oc = oc2 at hv1
      clear hq
      clear haf
      have hz := BoxA.n3 (hN.bx 0 d11).2
      generalize (vw.cell? ⟨BB 0, 0, none⟩).getD undef = y0 at hz
      generalize (vw.cell? ⟨BB 0, 1, none⟩).getD undef = y1 at hz
      generalize (vw.cell? ⟨BB 0, 2, none⟩).getD undef = y2 at hz
      simp [fillA, d3, d4, d5, d6, d7, d11, d12, VQ_true, hv1, tget_tuple, go_sem]
      have hS := hN.store hΦ 0 d11 c1 (by simp only [hv1]; rfl)
      simp only [hv1] at hS
      exact hK.out al ca (up1 st 0 true) ex BB lo hi V _ _ rfl (by simp only [fillA, d3, d4, d5, d6, d7, d11, d12, VQ_true, hv1, tget_tuple, List.getD_cons_zero, List.getD_cons_succ, List.setIfInBounds_toArray, List.set_cons_zero, List.set_cons_succ] <;> rfl) hS
    · intro _ haf K hK
      have d3 : ca 0 = true := haf ⟨3, .phase⟩ (by simp) rfl
      have d4 : ex 0 = true := haf ⟨4, .phase⟩ (by simp) rfl
      have d5 : ca 1 = true := haf ⟨5, .phase⟩ (by simp) rfl
      have d6 : ex 1 = true := haf ⟨6, .phase⟩ (by simp) rfl
      have d7 : ex 2 = true := haf ⟨7, .phase⟩ (by simp) rfl
      have d8 : ex 3 = true := haf ⟨8, .data⟩ (by simp) rfl
      have d11 : al 0 = true := haf ⟨11, .phase⟩ (by simp) rfl
      have d12 : al 1 = true := haf ⟨12, .data⟩ (by simp) rfl
      have d13 : st 0 = true := haf ⟨13, .chain⟩ (by simp) rfl
      have c1 : ca 1 = true := d5
      have hq : ElR B q kq (V 1) (lo 1) (hi 1) vw := (hN.ph 1 c1).2.2
      have hv1 := hq.sp.1
      generalize hq.pa = pa at hv1
      generalize hq.pc = pc at hv1
      generalize hq.oa = oa2 at hv1
      generalize hq.oc = oc2 at hv1
      clear hq
      clear haf
      have hz := BoxA.n3 (hN.bx 1 d12).2
      generalize (vw.cell? ⟨BB 1, 0, none⟩).getD undef = y0 at hz
      generalize (vw.cell? ⟨BB 1, 1, none⟩).getD undef = y1 at hz
      generalize (vw.cell? ⟨BB 1, 2, none⟩).getD undef = y2 at hz
      simp [fillA, d3, d4, d5, d6, d7, d8, d11, d12, VQ_true, hv1, tget_tuple, go_sem]
      have hS := hN.store hΦ 1 d12 c1 (by simp only [hv1]; rfl)
      simp only [hv1] at hS
      exact hK.out al ca (up1 st 1 true) ex BB lo hi V _ _ rfl (by simp only [fillA, d3, d4, d5, d6, d7, d8, d11, d12, VQ_true, hv1, tget_tuple, List.getD_cons_zero, List.getD_cons_succ, List.setIfInBounds_toArray, List.set_cons_zero, List.set_cons_succ] <;> rfl) hS
    · intro _ haf K hK
      have d3 : ca 0 = true := haf ⟨3, .phase⟩ (by simp) rfl
      have d4 : ex 0 = true := haf ⟨4, .phase⟩ (by simp) rfl
      have d5 : ca 1 = true := haf ⟨5, .phase⟩ (by simp) rfl
      have d6 : ex 1 = true := haf ⟨6, .phase⟩ (by simp) rfl
      have d7 : ex 2 = true := haf ⟨7, .phase⟩ (by simp) rfl
      have d8 : ex 3 = true := haf ⟨8, .phase⟩ (by simp) rfl
      have d9 : ex 4 = true := haf ⟨9, .data⟩ (by simp) rfl
      have d11 : al 0 = true := haf ⟨11, .phase⟩ (by simp) rfl
      have d12 : al 1 = true := haf ⟨12, .phase⟩ (by simp) rfl
      have d13 : st 0 = true := haf ⟨13, .phase⟩ (by simp) rfl
      have d14 : st 1 = true := haf ⟨14, .chain⟩ (by simp) rfl
      have c1 : ca 1 = true := d5
      have hq : ElR B q kq (V 1) (lo 1) (hi 1) vw := (hN.ph 1 c1).2.2
      have hv1 := hq.sp.1
      generalize hq.pa = pa at hv1
      generalize hq.pc = pc at hv1
      generalize hq.oa = oa2 at hv1
      generalize hq.oc = oc2 at hv1
      clear hq
      clear haf
      simp [fillA, d3, d4, d5, d6, d7, d8, d9, d11, d12, VQ_true, hv1, tget_tuple, go_sem]
      exact hK.out al ca st (up1 ex 6 true) BB lo hi V _ _ rfl (by have u4 : up1 ex 6 true 0 = true := d4; have u6 : up1 ex 6 true 1 = true := d6; have u7 : up1 ex 6 true 2 = true := d7; have u8 : up1 ex 6 true 3 = true := d8; have u9 : up1 ex 6 true 4 = true := d9; simp only [fillA, d3, u4, d5, u6, u7, u8, u9, d11, d12, VQ_true, hv1, tget_tuple, List.getD_cons_zero, List.getD_cons_succ, List.setIfInBounds_toArray, List.set_cons_zero, List.set_cons_succ] <;> rfl) (hN.pure 6 (d5))
    · intro _ haf K hK
      have d3 : ca 0 = true := haf ⟨3, .phase⟩ (by simp) rfl
      have d4 : ex 0 = true := haf ⟨4, .phase⟩ (by simp) rfl
      have d5 : ca 1 = true := haf ⟨5, .phase⟩ (by simp) rfl
      have d6 : ex 1 = true := haf ⟨6, .phase⟩ (by simp) rfl
      have d7 : ex 2 = true := haf ⟨7, .phase⟩ (by simp) rfl
      have d8 : ex 3 = true := haf ⟨8, .phase⟩ (by simp) rfl
      have d9 : ex 4 = true := haf ⟨9, .phase⟩ (by simp) rfl
      have d10 : ex 5 = true := haf ⟨10, .data⟩ (by simp) rfl
      have d11 : al 0 = true := haf ⟨11, .phase⟩ (by simp) rfl
      have d12 : al 1 = true := haf ⟨12, .phase⟩ (by simp) rfl
      have d13 : st 0 = true := haf ⟨13, .phase⟩ (by simp) rfl
      have d14 : st 1 = true := haf ⟨14, .phase⟩ (by simp) rfl
      have d15 : ex 6 = true := haf ⟨15, .chain⟩ (by simp) rfl
      have c1 : ca 1 = true := d5
      have hq : ElR B q kq (V 1) (lo 1) (hi 1) vw := (hN.ph 1 c1).2.2
      have hv1 := hq.sp.1
      generalize hq.pa = pa at hv1
      generalize hq.pc = pc at hv1
      generalize hq.oa = oa2 at hv1
      generalize hq.oc = oc2 at hv1
      clear hq
      clear haf
      simp [fillA, d3, d4, d5, d6, d7, d8, d9, d10, d11, d12, d15, VQ_true, hv1, tget_tuple, go_sem]
      exact hK.out al ca st (up1 ex 7 true) BB lo hi V _ _ rfl (by have u4 : up1 ex 7 true 0 = true := d4; have u6 : up1 ex 7 true 1 = true := d6; have u7 : up1 ex 7 true 2 = true := d7; have u8 : up1 ex 7 true 3 = true := d8; have u9 : up1 ex 7 true 4 = true := d9; have u10 : up1 ex 7 true 5 = true := d10; have u15 : up1 ex 7 true 6 = true := d15; simp only [fillA, d3, u4, d5, u6, u7, u8, u9, u10, d11, d12, u15, VQ_true, hv1, tget_tuple, List.getD_cons_zero, List.getD_cons_succ, List.setIfInBounds_toArray, List.set_cons_zero, List.set_cons_succ] <;> rfl) (hN.pure 7 (d5))
  · intro al ca st ex BB lo hi V vw hN hw0 hall
    have q3 : ca 0 = true := hall 3 (by decide)
    have q4 : ex 0 = true := hall 4 (by decide)
    have q5 : ca 1 = true := hall 5 (by decide)
    have q6 : ex 1 = true := hall 6 (by decide)
    have q7 : ex 2 = true := hall 7 (by decide)
    have q8 : ex 3 = true := hall 8 (by decide)
    have q9 : ex 4 = true := hall 9 (by decide)
    have q10 : ex 5 = true := hall 10 (by decide)
    have q11 : al 0 = true := hall 11 (by decide)
    have q12 : al 1 = true := hall 12 (by decide)
    have q13 : st 0 = true := hall 13 (by decide)
    have q14 : st 1 = true := hall 14 (by decide)
    have q15 : ex 6 = true := hall 15 (by decide)
    have q16 : ex 7 = true := hall 16 (by decide)
    clear hall
    obtain ⟨pa, pc, ra, rc, hv1, hFW, hDW⟩ := (hN.ph 1 q5).2.2
    have s0 := (hN.se 0 q13).2.2
    have s1 := (hN.se 1 q14).2.2
    simp only [hv1] at s0 s1
    have n0 : N3 vw (BB 0) (.int .i64 (epn B q kq q)) (.int .i64 (epn B q kq kq)) (.slice pa (epn B q kq (q * kq)) pc) := BoxV.n3 s0
    have n1 : N3 vw (BB 1) (.int .i64 (epn B q kq (q - kq))) (.int .i64 (epn B q kq (q - kq))) (.slice ra (epn B q kq ((q - kq) * (q - kq))) rc) := BoxV.n3 s1
    simp only [fillA, q3, q4, q5, q6, q7, q8, q9, q10, q11, q12, q15, q16, VQ_true, hv1, tget_tuple, List.getD_cons_zero, List.getD_cons_succ, List.setIfInBounds_toArray, List.set_cons_zero, List.set_cons_succ]
    go_wp2_with fail
    go_meet
    exact ⟨BB 0, BB 1, pa, pc, ra, rc, rfl, rfl, rfl, rfl, n0, n1, ⟨hFW.2⟩, ⟨hDW.dz HN.out⟩, ⟨zbh⟩⟩
 case rest =>
  obtain ⟨bp1, bc1, pa1, pc1, ra1, rc1, rfl, rfl, rfl, rfl, P1, C1, F1, D1, f1⟩ := hcut
  generalize wc = w3 at *
  have e3 := f1.out.size
  have m4 : ¬ w1.heap.size = w3.heap.size := by omega
  have m5 : ¬ w1.heap.size = w3.heap.size + 1 := by omega
  go_wp2_with fail
  go_cut [18, 19, 20, 21] (fun v1 v2 v3 v4 wx => ∃ (bp2 bc2 : Nat) (pa : Option Addr) (pc : Nat) (ra : Option Addr) (rc : Nat), v1 = .pointer (some ⟨bp2, 0, none⟩) ∧ v2 = .pointer (some ⟨bc2, 0, none⟩) ∧ v3 = .int .i64 (elimK B q kq) ∧ v4 = .int .i64 (elimE B q kq) ∧ N3 wx bp2 (.int .i64 (epn B q kq q)) (.int .i64 (epn B q kq kq)) (.slice pa (epn B q kq (q * kq)) pc) ∧ N3 wx bc2 (.int .i64 (epn B q kq (q - kq))) (.int .i64 (epn B q kq (q - kq))) (.slice ra (epn B q kq ((q - kq) * (q - kq))) rc) ∧ FZ wx pa (epn B q kq (q * kq)) pc (pan B q kq) ∧ DZ wx ra (epn B q kq ((q - kq) * (q - kq))) rc (rest B q kq) ∧ From w3 wx)
  case first =>
   refine wp_region_from (by kernel_rfl) (fun w0 b0 => ?_)
   refine tkz 0 43 ?_ (hy := ?_) (hS := Below.refl _ _) (h := ?_)
   rotate_left
   · intro w hSw; haveI : From w0 w := ⟨hSw⟩; go_simp; (try with_reducible rfl)
   refine tkz 1 44 ?_ (hy := ?_) (hS := Below.refl _ _) (h := ?_)
   rotate_left
   · intro w hSw; haveI : From w0 w := ⟨hSw⟩; go_simp; (try with_reducible rfl)
   refine tkz 2 45 ?_ (hy := ?_) (hS := Below.refl _ _) (h := ?_)
   rotate_left
   · intro w hSw; haveI : From w0 w := ⟨hSw⟩; go_simp; (try with_reducible rfl)
   have hΦ : ∀ (j : Nat) (v : Value) (a b : Nat), Stab ((PhL [PhC (.int .i64 (u9 : Int)), ElR B q kq]) j v a b) a b := fun j v a b => PhL.stab _ (by simp only [List.mem_cons, List.not_mem_nil, or_false, forall_eq_or_imp, forall_eq]; exact ⟨fun v a b => PhC.stab _ v a b, fun v a b => stab_elr _ _ _ v a b⟩) j v a b
   refine wpAnyH_bx w0 (fun _ => 3) (fun _ => 1) (fun e => match e with | 0 => 0 | 1 => 1 | 2 => 1 | 3 => 1 | 4 => 1 | 5 => 1 | 6 => 1 | 7 => 1 | _ => 0) (PhL [PhC (.int .i64 (u9 : Int)), ElR B q kq]) (fun i v => words (tget v i)) (fun al ca st ex => #[true, true, true, ca 0, ex 0, ca 1, ex 1, ex 2, ex 3, ex 4, ex 5, al 0, al 1, st 0, st 1, ex 6, ex 7]) (fun al ca ex B V => [(46, VQ (ca 0) (V 0) u46), (47, VQ (ex 0) (.int .i64 (1 + (u9 : Int))) u47), (48, VQ (ca 1) (V 1) u48), (42, VQ (ex 1) (V 1) u42), (49, VQ (ex 2) (tget (V 1) 0) u49), (50, VQ (ex 3) (tget (V 1) 1) u50), (51, VQ (ex 4) (tget (V 1) 2) u51), (52, VQ (ex 5) (tget (V 1) 3) u52), (18, VQ (al 0) (.pointer (some ⟨B 0, 0, none⟩)) undef), (19, VQ (al 1) (.pointer (some ⟨B 1, 0, none⟩)) undef), (20, VQ (ex 6) (tget (V 1) 2) undef), (21, VQ (ex 7) (tget (V 1) 3) undef)]) rfl (BX.start w0 _ _ _ _ _ (fun _ => 0) (fun _ => 0) (fun _ => 0) (fun _ => undef)) (ex := fun _ => false) rfl (by simp only [fillA, List.setIfInBounds_toArray, List.set_cons_zero, List.set_cons_succ] <;> rfl) (by decide) (by kernel_rfl) (fun _ _ _ _ => rfl) ?_ ?_
   · intro al ca st ex BB lo hi V vw hN hw0
     repeat' (first | exact AllI.nil | refine AllI.cons ?_ ?_)
     · intro h; cases h
     · intro h; cases h
     · intro h; cases h
     · intro (hl : ca 0 = false) _ K hK
       simp only [fillA, List.setIfInBounds_toArray, List.set_cons_zero, List.set_cons_succ]
       go_simp
       go_at_call 12; refine (HMU _).out.mono ?_; rintro o z1 ⟨rfl, rfl⟩
       go_simp
       exact hK.out al (up1 ca 0 true) st ex BB (up1 lo 0 vw.heap.size) (up1 hi 0 _) (up1 V 0 (.int .i64 (u9 : Int))) _ _ rfl (by have x0 : ex 0 = false := off_of (hN.xc 0) hl; simp only [fillA, x0, VQ_false, List.setIfInBounds_toArray, List.set_cons_zero, List.set_cons_succ] <;> rfl) (hN.call hΦ 0 hl (Below.refl _ _) (.int .i64 (u9 : Int)) rfl)
     · intro _ haf K hK
       have d3 : ca 0 = true := haf ⟨3, .data⟩ (by simp) rfl
       have c0 : ca 0 = true := d3
       have hv0 : V 0 = .int .i64 (u9 : Int) := (hN.ph 0 c0).2.2
       clear haf
       simp only [fillA, d3, VQ_true, hv0, List.setIfInBounds_toArray, List.set_cons_zero, List.set_cons_succ]
       go_simp
       exact hK.out al ca st (up1 ex 0 true) BB lo hi V _ _ rfl (by simp only [fillA, d3, VQ_true, hv0, List.setIfInBounds_toArray, List.set_cons_zero, List.set_cons_succ] <;> rfl) (hN.pure 0 (d3))
     · intro (hl : ca 1 = false) haf K hK
       have d3 : ca 0 = true := haf ⟨3, .chain⟩ (by simp) rfl
       have d4 : ex 0 = true := haf ⟨4, .data⟩ (by simp) rfl
       clear haf
       simp only [fillA, d3, d4, VQ_true, List.setIfInBounds_toArray, List.set_cons_zero, List.set_cons_succ]
       go_simp
       go_at_call 13; refine (HE _ ((1 : Int) + (u9 : Int)) (by omega) (by omega)).out.mono ?_; rintro o z2 ⟨vr, rfl, hp, b2⟩
       go_simp
       exact hK.out al (up1 ca 1 true) st ex BB (up1 lo 1 vw.heap.size) (up1 hi 1 _) (up1 V 1 (vr)) _ _ rfl (by have u3 : up1 ca 1 true 0 = true := d3; have x1 : ex 1 = false := off_of (hN.xc 1) hl; have x2 : ex 2 = false := off_of (hN.xc 2) hl; have x3 : ex 3 = false := off_of (hN.xc 3) hl; have x4 : ex 4 = false := off_of (hN.xc 4) hl; have x5 : ex 5 = false := off_of (hN.xc 5) hl; have x6 : ex 6 = false := off_of (hN.xc 6) hl; have x7 : ex 7 = false := off_of (hN.xc 7) hl; simp only [fillA, u3, d4, x1, x2, x3, x4, x5, x6, x7, VQ_false, VQ_true, List.setIfInBounds_toArray, List.set_cons_zero, List.set_cons_succ] <;> rfl) (hN.call hΦ 1 hl b2.out (vr) hp)
     · intro _ haf K hK
       have d5 : ca 1 = true := haf ⟨5, .data⟩ (by simp) rfl
       have c1 : ca 1 = true := d5
       have hq : ElR B q kq (V 1) (lo 1) (hi 1) vw := (hN.ph 1 c1).2.2
       have hv1 := hq.sp.1
       generalize hq.pa = pa at hv1
       generalize hq.pc = pc at hv1
       generalize hq.oa = oa2 at hv1
       generalize hq.oc = oc2 at hv1
       clear hq
       clear haf
       simp [fillA, d5, VQ_true, hv1, go_sem]
       exact hK.out al ca st (up1 ex 1 true) BB lo hi V _ _ rfl (by simp only [fillA, d5, VQ_true, hv1, List.setIfInBounds_toArray, List.set_cons_zero, List.set_cons_succ] <;> rfl) (hN.pure 1 (d5))
     · intro _ haf K hK
       have d6 : ex 1 = true := haf ⟨6, .data⟩ (by simp) rfl
       have c1 : ca 1 = true := hN.xc 1 d6
       have hq : ElR B q kq (V 1) (lo 1) (hi 1) vw := (hN.ph 1 c1).2.2
       have hv1 := hq.sp.1
       generalize hq.pa = pa at hv1
       generalize hq.pc = pc at hv1
       generalize hq.oa = oa2 at hv1
       generalize hq.oc = oc2 at hv1
       clear hq
       clear haf
       simp [fillA, d6, VQ_true, hv1, tget_tuple, go_sem]
       exact hK.out al ca st (up1 ex 2 true) BB lo hi V _ _ rfl (by have u6 : up1 ex 2 true 1 = true := d6; simp only [fillA, u6, VQ_true, hv1, tget_tuple, List.getD_cons_zero, List.setIfInBounds_toArray, List.set_cons_zero, List.set_cons_succ] <;> rfl) (hN.pure 2 (hN.xc 1 d6))
     · intro _ haf K hK
       have d6 : ex 1 = true := haf ⟨6, .data⟩ (by simp) rfl
       have c1 : ca 1 = true := hN.xc 1 d6
       have hq : ElR B q kq (V 1) (lo 1) (hi 1) vw := (hN.ph 1 c1).2.2
       have hv1 := hq.sp.1
       generalize hq.pa = pa at hv1
       generalize hq.pc = pc at hv1
       generalize hq.oa = oa2 at hv1
       generalize hq.oc = oc2 at hv1
       clear hq
       clear haf
       simp [fillA, d6, VQ_true, hv1, tget_tuple, go_sem]
       exact hK.out al ca st (up1 ex 3 true) BB lo hi V _ _ rfl (by have u6 : up1 ex 3 true 1 = true := d6; simp only [fillA, u6, VQ_true, hv1, tget_tuple, List.getD_cons_zero, List.getD_cons_succ, List.setIfInBounds_toArray, List.set_cons_zero, List.set_cons_succ] <;> rfl) (hN.pure 3 (hN.xc 1 d6))
     · intro _ haf K hK
       have d6 : ex 1 = true := haf ⟨6, .data⟩ (by simp) rfl
       have c1 : ca 1 = true := hN.xc 1 d6
       have hq : ElR B q kq (V 1) (lo 1) (hi 1) vw := (hN.ph 1 c1).2.2
       have hv1 := hq.sp.1
       generalize hq.pa = pa at hv1
       generalize hq.pc = pc at hv1
       generalize hq.oa = oa2 at hv1
       generalize hq.oc = oc2 at hv1
       clear hq
       clear haf
       simp [fillA, d6, VQ_true, hv1, tget_tuple, go_sem]
       exact hK.out al ca st (up1 ex 4 true) BB lo hi V _ _ rfl (by have u6 : up1 ex 4 true 1 = true := d6; simp only [fillA, u6, VQ_true, hv1, tget_tuple, List.getD_cons_zero, List.getD_cons_succ, List.setIfInBounds_toArray, List.set_cons_zero, List.set_cons_succ] <;> rfl) (hN.pure 4 (hN.xc 1 d6))
     · intro _ haf K hK
       have d6 : ex 1 = true := haf ⟨6, .data⟩ (by simp) rfl
       have c1 : ca 1 = true := hN.xc 1 d6
       have hq : ElR B q kq (V 1) (lo 1) (hi 1) vw := (hN.ph 1 c1).2.2
       have hv1 := hq.sp.1
       generalize hq.pa = pa at hv1
       generalize hq.pc = pc at hv1
       generalize hq.oa = oa2 at hv1
       generalize hq.oc = oc2 at hv1
       clear hq
       clear haf
       simp [fillA, d6, VQ_true, hv1, tget_tuple, go_sem]
       exact hK.out al ca st (up1 ex 5 true) BB lo hi V _ _ rfl (by have u6 : up1 ex 5 true 1 = true := d6; simp only [fillA, u6, VQ_true, hv1, tget_tuple, List.getD_cons_zero, List.getD_cons_succ, List.setIfInBounds_toArray, List.set_cons_zero, List.set_cons_succ] <;> rfl) (hN.pure 5 (hN.xc 1 d6))
     · intro (hl : al 0 = false) _ K hK
       simp [go_sem]
       exact hK.out (up1 al 0 true) ca st ex (up1 BB 0 vw.heap.size) lo hi V _ _ rfl (by simp only [fillA, List.setIfInBounds_toArray, List.set_cons_zero, List.set_cons_succ] <;> rfl) (hN.alloc hΦ 0 hl _ _ rfl)
     · intro (hl : al 1 = false) _ K hK
       simp [go_sem]
       exact hK.out (up1 al 1 true) ca st ex (up1 BB 1 vw.heap.size) lo hi V _ _ rfl (by simp only [fillA, List.setIfInBounds_toArray, List.set_cons_zero, List.set_cons_succ] <;> rfl) (hN.alloc hΦ 1 hl _ _ rfl)
     · intro _ haf K hK
       have d3 : ca 0 = true := haf ⟨3, .phase⟩ (by simp) rfl
       have d4 : ex 0 = true := haf ⟨4, .phase⟩ (by simp) rfl
       have d5 : ca 1 = true := haf ⟨5, .chain⟩ (by simp) rfl
       have d6 : ex 1 = true := haf ⟨6, .phase⟩ (by simp) rfl
       have d7 : ex 2 = true := haf ⟨7, .data⟩ (by simp) rfl
       have d11 : al 0 = true := haf ⟨11, .data⟩ (by simp) rfl
       have d12 : al 1 = true := haf ⟨12, .phase⟩ (by simp) rfl
       have c1 : ca 1 = true := d5
       have hq : ElR B q kq (V 1) (lo 1) (hi 1) vw := (hN.ph 1 c1).2.2
       have hv1 := hq.sp.1
       generalize hq.pa = pa at hv1
       generalize hq.pc = pc at hv1
       generalize hq.oa = oa2 at hv1
       generalize hq.oc = oc2 at hv1
       clear hq
       clear haf
       have hz := BoxA.n3 (hN.bx 0 d11).2
       generalize (vw.cell? ⟨BB 0, 0, none⟩).getD undef = y0 at hz
       generalize (vw.cell? ⟨BB 0, 1, none⟩).getD undef = y1 at hz
       generalize (vw.cell? ⟨BB 0, 2, none⟩).getD undef = y2 at hz
       simp [fillA, d3, d4, d5, d6, d7, d11, d12, VQ_true, hv1, tget_tuple, go_sem]
       have hS := hN.store hΦ 0 d11 c1 (by simp only [hv1]; rfl)
       simp only [hv1] at hS
       exact hK.out al ca (up1 st 0 true) ex BB lo hi V _ _ rfl (by simp only [fillA, d3, d4, d5, d6, d7, d11, d12, VQ_true, hv1, tget_tuple, List.getD_cons_zero, List.getD_cons_succ, List.setIfInBounds_toArray, List.set_cons_zero, List.set_cons_succ] <;> rfl) hS
     · intro _ haf K hK
       have d3 : ca 0 = true := haf ⟨3, .phase⟩ (by simp) rfl
       have d4 : ex 0 = true := haf ⟨4, .phase⟩ (by simp) rfl
       have d5 : ca 1 = true := haf ⟨5, .phase⟩ (by simp) rfl
       have d6 : ex 1 = true := haf ⟨6, .phase⟩ (by simp) rfl
       have d7 : ex 2 = true := haf ⟨7, .phase⟩ (by simp) rfl
       have d8 : ex 3 = true := haf ⟨8, .data⟩ (by simp) rfl
       have d11 : al 0 = true := haf ⟨11, .phase⟩ (by simp) rfl
       have d12 : al 1 = true := haf ⟨12, .data⟩ (by simp) rfl
       have d13 : st 0 = true := haf ⟨13, .chain⟩ (by simp) rfl
       have c1 : ca 1 = true := d5
       have hq : ElR B q kq (V 1) (lo 1) (hi 1) vw := (hN.ph 1 c1).2.2
       have hv1 := hq.sp.1
       generalize hq.pa = pa at hv1
       generalize hq.pc = pc at hv1
       generalize hq.oa = oa2 at hv1
       generalize hq.oc = oc2 at hv1
       clear hq
       clear haf
       have hz := BoxA.n3 (hN.bx 1 d12).2
       generalize (vw.cell? ⟨BB 1, 0, none⟩).getD undef = y0 at hz
       generalize (vw.cell? ⟨BB 1, 1, none⟩).getD undef = y1 at hz
       generalize (vw.cell? ⟨BB 1, 2, none⟩).getD undef = y2 at hz
       simp [fillA, d3, d4, d5, d6, d7, d8, d11, d12, VQ_true, hv1, tget_tuple, go_sem]
       have hS := hN.store hΦ 1 d12 c1 (by simp only [hv1]; rfl)
       simp only [hv1] at hS
       exact hK.out al ca (up1 st 1 true) ex BB lo hi V _ _ rfl (by simp only [fillA, d3, d4, d5, d6, d7, d8, d11, d12, VQ_true, hv1, tget_tuple, List.getD_cons_zero, List.getD_cons_succ, List.setIfInBounds_toArray, List.set_cons_zero, List.set_cons_succ] <;> rfl) hS
     · intro _ haf K hK
       have d3 : ca 0 = true := haf ⟨3, .phase⟩ (by simp) rfl
       have d4 : ex 0 = true := haf ⟨4, .phase⟩ (by simp) rfl
       have d5 : ca 1 = true := haf ⟨5, .phase⟩ (by simp) rfl
       have d6 : ex 1 = true := haf ⟨6, .phase⟩ (by simp) rfl
       have d7 : ex 2 = true := haf ⟨7, .phase⟩ (by simp) rfl
       have d8 : ex 3 = true := haf ⟨8, .phase⟩ (by simp) rfl
       have d9 : ex 4 = true := haf ⟨9, .data⟩ (by simp) rfl
       have d11 : al 0 = true := haf ⟨11, .phase⟩ (by simp) rfl
       have d12 : al 1 = true := haf ⟨12, .phase⟩ (by simp) rfl
       have d13 : st 0 = true := haf ⟨13, .phase⟩ (by simp) rfl
       have d14 : st 1 = true := haf ⟨14, .chain⟩ (by simp) rfl
       have c1 : ca 1 = true := d5
       have hq : ElR B q kq (V 1) (lo 1) (hi 1) vw := (hN.ph 1 c1).2.2
       have hv1 := hq.sp.1
       generalize hq.pa = pa at hv1
       generalize hq.pc = pc at hv1
       generalize hq.oa = oa2 at hv1
       generalize hq.oc = oc2 at hv1
       clear hq
       clear haf
       simp [fillA, d3, d4, d5, d6, d7, d8, d9, d11, d12, VQ_true, hv1, tget_tuple, go_sem]
       exact hK.out al ca st (up1 ex 6 true) BB lo hi V _ _ rfl (by have u4 : up1 ex 6 true 0 = true := d4; have u6 : up1 ex 6 true 1 = true := d6; have u7 : up1 ex 6 true 2 = true := d7; have u8 : up1 ex 6 true 3 = true := d8; have u9 : up1 ex 6 true 4 = true := d9; simp only [fillA, d3, u4, d5, u6, u7, u8, u9, d11, d12, VQ_true, hv1, tget_tuple, List.getD_cons_zero, List.getD_cons_succ, List.setIfInBounds_toArray, List.set_cons_zero, List.set_cons_succ] <;> rfl) (hN.pure 6 (d5))
     · intro _ haf K hK
       have d3 : ca 0 = true := haf ⟨3, .phase⟩ (by simp) rfl
       have d4 : ex 0 = true := haf ⟨4, .phase⟩ (by simp) rfl
       have d5 : ca 1 = true := haf ⟨5, .phase⟩ (by simp) rfl
       have d6 : ex 1 = true := haf ⟨6, .phase⟩ (by simp) rfl
       have d7 : ex 2 = true := haf ⟨7, .phase⟩ (by simp) rfl
       have d8 : ex 3 = true := haf ⟨8, .phase⟩ (by simp) rfl
       have d9 : ex 4 = true := haf ⟨9, .phase⟩ (by simp) rfl
       have d10 : ex 5 = true := haf ⟨10, .data⟩ (by simp) rfl
       have d11 : al 0 = true := haf ⟨11, .phase⟩ (by simp) rfl
       have d12 : al 1 = true := haf ⟨12, .phase⟩ (by simp) rfl
       have d13 : st 0 = true := haf ⟨13, .phase⟩ (by simp) rfl
       have d14 : st 1 = true := haf ⟨14, .phase⟩ (by simp) rfl
       have d15 : ex 6 = true := haf ⟨15, .chain⟩ (by simp) rfl
       have c1 : ca 1 = true := d5
       have hq : ElR B q kq (V 1) (lo 1) (hi 1) vw := (hN.ph 1 c1).2.2
       have hv1 := hq.sp.1
       generalize hq.pa = pa at hv1
       generalize hq.pc = pc at hv1
       generalize hq.oa = oa2 at hv1
       generalize hq.oc = oc2 at hv1
       clear hq
       clear haf
       simp [fillA, d3, d4, d5, d6, d7, d8, d9, d10, d11, d12, d15, VQ_true, hv1, tget_tuple, go_sem]
       exact hK.out al ca st (up1 ex 7 true) BB lo hi V _ _ rfl (by have u4 : up1 ex 7 true 0 = true := d4; have u6 : up1 ex 7 true 1 = true := d6; have u7 : up1 ex 7 true 2 = true := d7; have u8 : up1 ex 7 true 3 = true := d8; have u9 : up1 ex 7 true 4 = true := d9; have u10 : up1 ex 7 true 5 = true := d10; have u15 : up1 ex 7 true 6 = true := d15; simp only [fillA, d3, u4, d5, u6, u7, u8, u9, u10, d11, d12, u15, VQ_true, hv1, tget_tuple, List.getD_cons_zero, List.getD_cons_succ, List.setIfInBounds_toArray, List.set_cons_zero, List.set_cons_succ] <;> rfl) (hN.pure 7 (d5))
   · intro al ca st ex BB lo hi V vw hN hw0 hall
     have q3 : ca 0 = true := hall 3 (by decide)
     have q4 : ex 0 = true := hall 4 (by decide)
     have q5 : ca 1 = true := hall 5 (by decide)
     have q6 : ex 1 = true := hall 6 (by decide)
     have q7 : ex 2 = true := hall 7 (by decide)
     have q8 : ex 3 = true := hall 8 (by decide)
     have q9 : ex 4 = true := hall 9 (by decide)
     have q10 : ex 5 = true := hall 10 (by decide)
     have q11 : al 0 = true := hall 11 (by decide)
     have q12 : al 1 = true := hall 12 (by decide)
     have q13 : st 0 = true := hall 13 (by decide)
     have q14 : st 1 = true := hall 14 (by decide)
     have q15 : ex 6 = true := hall 15 (by decide)
     have q16 : ex 7 = true := hall 16 (by decide)
     clear hall
     obtain ⟨pa, pc, ra, rc, hv1, hFW, hDW⟩ := (hN.ph 1 q5).2.2
     have s0 := (hN.se 0 q13).2.2
     have s1 := (hN.se 1 q14).2.2
     simp only [hv1] at s0 s1
     have n0 : N3 vw (BB 0) (.int .i64 (epn B q kq q)) (.int .i64 (epn B q kq kq)) (.slice pa (epn B q kq (q * kq)) pc) := BoxV.n3 s0
     have n1 : N3 vw (BB 1) (.int .i64 (epn B q kq (q - kq))) (.int .i64 (epn B q kq (q - kq))) (.slice ra (epn B q kq ((q - kq) * (q - kq))) rc) := BoxV.n3 s1
     simp only [fillA, q3, q4, q5, q6, q7, q8, q9, q10, q11, q12, q15, q16, VQ_true, hv1, tget_tuple, List.getD_cons_zero, List.getD_cons_succ, List.setIfInBounds_toArray, List.set_cons_zero, List.set_cons_succ]
     go_wp2_with fail
     go_meet
     exact ⟨BB 0, BB 1, pa, pc, ra, rc, rfl, rfl, rfl, rfl, n0, n1, ⟨hFW.2⟩, ⟨hDW.dz HN.out⟩, ⟨zbh⟩⟩
  case rest =>
   obtain ⟨bp2, bc2, pa2, pc2, ra2, rc2, rfl, rfl, rfl, rfl, P2, C2, F2, D2, f2⟩ := hcut
   generalize wc = w4 at *
   go_wp2_with fail
   refine (HSP _ _ _ _ _).out.mono ?_; rintro o w5 ⟨rfl, b5⟩
   go_wp2_with fail
   refine (HSB _ _ _ _ _).out.mono ?_; rintro o w6 ⟨rfl, b6⟩
   go_wp2_with fail
   refine (HAW _).out.mono ?_; rintro o w7 ⟨rfl, b7⟩
   go_wp2_with fail
   go_ret
   exact ⟨rfl, zbh⟩
theorem dwidths_all (w : World) (hT : Tab w) (a : Option Addr) (m cap : Nat) (L : Nat → Nat) (hL : Fls w a m cap L) (n s k v u : Int) :
 Calls Tryz.prog 4 #[.slice a m cap, .int .i64 n, .int .i64 s, .int .i64 k, .int .i64 v, .int .i64 u] w fun o w' => o = .returned (.bool true) ∧ Below w.heap.size w w' := by
 haveI : Tb w := ⟨hT⟩
 haveI : FZ w a m cap L := ⟨hL⟩
 exact dwidths_any w a m cap L n s k v u
end Go.Proofs.YtablcbgeeeboeaaGreatDoor
