/-
  Walks: the law DenseMultiplies.
-/
import Derived.Test.YtablcbgeeeboeaaGreatDoorZfQk
import Derived.Test.YtablcbgeeeboeaaGreatDoorZfPt
set_option maxRecDepth 100000
set_option maxHeartbeats 40000000
namespace Go.Proofs.YtablcbgeeeboeaaGreatDoor
open Go.RowKit Sp
theorem dmul_flip (a b : Option (Int × Int)) : dmul a b = dmul b a := by
 cases a with
 | none => cases b <;> rfl
 | some p => cases b with
  | none => rfl
  | some q =>
   obtain ⟨m, e⟩ := p
   obtain ⟨n, f⟩ := q
   show nrm (m * n) (e + f) = nrm (n * m) (f + e)
   rw [Int.mul_comm, Int.add_comm]
theorem divmod_at {x r t : Nat} (hx : x < r * t) : x / t < r ∧ x % t < t ∧ x = x / t * t + x % t := by
 have ht : 0 < t := Nat.pos_of_ne_zero fun e => by subst e; omega
 exact ⟨Nat.div_lt_of_lt_mul (by rw [Nat.mul_comm]; exact hx), Nat.mod_lt _ ht, (Nat.div_add_mod' x t).symm⟩
theorem allfin_trX {D : Nat → Nat} {r t : Nat} : allfin (trX D r t) (r * t) = allfin D (r * t) := by
 rw [Bool.eq_iff_iff, allfin_iff, allfin_iff]
 constructor
 · intro h y hy
   obtain ⟨h1, h2, h3⟩ := divmod_at (r := t) (t := r) (by rw [Nat.mul_comm]; exact hy)
   have h4 := h ((y % r) * t + y / r) (by have := pq_lt (i := y / r) (j := y % r) (r := t) (c := r) h1 h2; rwa [Nat.mul_comm t r] at this)
   rw [trX_at h1, ← h3] at h4
   exact h4
 · intro h x hx
   obtain ⟨h1, h2, _⟩ := divmod_at hx
   exact h _ (pq_lt h1 h2)
theorem allfin_to {D D' : Nat → Nat} {n : Nat} (h : ∀ x, x < n → D x = D' x) : allfin D n = allfin D' n := by
 rw [Bool.eq_iff_iff, allfin_iff, allfin_iff]
 exact ⟨fun k x hx => by rw [← h x hx]; exact k x hx, fun k x hx => by rw [h x hx]; exact k x hx⟩
theorem mul_trans (X Y : Nat → Nat) (r c t : Nat) {x : Nat} (hx : x < r * t) : mulV (trX Y c t) (trX X r c) t c x = trX (mulV X Y r c) r t x := by
 obtain ⟨h1, h2, h3⟩ := divmod_at hx
 generalize x / t = i at *
 generalize x % t = j at *
 subst h3
 rw [trX_at h2, mulV_at h1, mulV_at h2]
 congr 1
 refine dsum_congr fun k hk => ?_
 unfold mterm
 rw [trX_at h2, trX_at hk, dmul_flip]
def PaR (r c : Nat) (s : Int) (v : Value) (lo hi : Nat) (w : World) : Prop := ∃ (oa : Option Addr) (oc : Nat) (X : Nat → Nat), v = .agg #[.int .i64 r, .int .i64 c, .slice oa (r * c) oc] ∧ FW oa (r * c) oc X lo hi w ∧ SX s X
noncomputable def PaR.oa {r c : Nat} {s : Int} {v : Value} {lo hi : Nat} {w : World} (h : PaR r c s v lo hi w) : Option Addr := Exists.choose h
noncomputable def PaR.oc {r c : Nat} {s : Int} {v : Value} {lo hi : Nat} {w : World} (h : PaR r c s v lo hi w) : Nat := Exists.choose (Exists.choose_spec h)
theorem PaR.sp {r c : Nat} {s : Int} {v : Value} {lo hi : Nat} {w : World} (h : PaR r c s v lo hi w) : v = .agg #[.int .i64 r, .int .i64 c, .slice h.oa (r * c) h.oc] := (Exists.choose_spec (Exists.choose_spec (Exists.choose_spec h))).1
theorem stab_par (r c : Nat) (s : Int) (v : Value) (lo hi : Nat) : Stab (PaR r c s v lo hi) lo hi :=
 Stab.ex fun _ => Stab.ex fun _ => Stab.ex fun _ => Stab.and (Stab.const _ _ _) (Stab.and (stab_fw _ _ _ _ _ _) (Stab.const _ _ _))
theorem elemU8 : Tryz.prog.elem 22 = 39 := by kernel_rfl
theorem undU8' : Tryz.prog.underlying 22 = some (.slice 39) := by kernel_rfl
theorem sizU8' (w : World) : (Go.sizeOf 39).run Tryz.prog w = .ok 1 w := by kernel_rfl
theorem Fls.takes' {w : World} {a : Option Addr} {n cap : Nat} {L : Nat → Nat} (h : Fls w a n cap L) (k : Nat) (hk : k ≤ n) : Fls w (if cap = 0 then a else a.map (·.add (0 * 1))) k cap L := by
 have hl := h.lim
 have hf := h.fits
 by_cases h0 : k = 0
 · subst h0
   exact ⟨by omega, by omega, by omega, fun i hi => by omega, fun i hi => by omega, by omega⟩
 · have ha := h.addr (by omega)
   have e : (if cap = 0 then a else a.map (·.add (0 * 1))) = a := by
    rw [if_neg (by omega), ha]; simp [Addr.add]
   rw [e]
   exact ⟨by omega, by omega, fun _ => ha, fun i hi => h.cell i (by omega), fun i hi => h.b i (by omega), fun _ => h.old (by omega)⟩
attribute [local irreducible] Calls
theorem dmuls_any (w : World) [Tb w] (a : Option Addr) (n cap : Nat) (L : Nat → Nat) [hL : FZ w a n cap L] (r0 c0 t0 sty : Int) :
 Calls Tryz.prog 10 #[.slice a n cap, .int .i64 r0, .int .i64 c0, .int .i64 t0, .int .i64 sty] w fun o w' => o = .returned (.bool true) ∧ Below w.heap.size w w' := by
 have HAW := fun W [Tb W] => Lib.hid (frm (awake23_any W))
 obtain ⟨r, hr, hr5⟩ := pl_nat r0 5 (by omega)
 obtain ⟨c, hc, hc5⟩ := pl_nat c0 5 (by omega)
 obtain ⟨t, ht, ht5⟩ := pl_nat t0 5 (by omega)
 have HMR := fun W => Lib.hid (gmod_any W r0 5 (by omega) (by omega))
 have HMC := fun W => Lib.hid (gmod_any W c0 5 (by omega) (by omega))
 have HMT := fun W => Lib.hid (gmod_any W t0 5 (by omega) (by omega))
 rw [show ((5 : Nat) : Int) = 5 from rfl] at hr hc ht
 rw [hr] at HMR
 rw [hc] at HMC
 rw [ht] at HMT
 clear hr hc ht
 have l1 := hL.out.lim
 have l2 := hL.out.fits
 obtain ⟨K, hK⟩ : ∃ K, K = n / 2 := ⟨_, rfl⟩
 have hKn : K ≤ n := by omega
 have hKd : Int.tdiv (n : Int) 2 = (K : Int) := by rw [Int.tdiv_eq_ediv_of_nonneg (by omega)]; omega
 have hKe : (n : Int) / 2 = (K : Int) := by omega
 clear hK
 have hKw : IntKind.i64.wrap (K : Int) = (K : Int) := by rw [IntKind.wrap_i64]; omega
 obtain ⟨a3, ha3⟩ : ∃ z, (if cap = 0 then a else a.map (·.add (0 * 1))) = z := ⟨_, rfl⟩
 have HS3 : ∀ W, (Instr.slice 22 (.slice a n cap) none (some (.int .i64 K)) none).run Tryz.prog W = .ok (.slice a3 K cap) W := fun W => by
  rw [run_slice_h W 22 a n cap (by rw [elemU8]; exact undU8') .i64 (K : Int) (by omega) (by omega), elemU8, sizU8']
  simp only [Result.andThen, sliced, Int.toNat_natCast, Nat.sub_zero, ha3]
 have HT3 : ∀ W, (Instr.sliceAt 22 (.slice a n cap) none (some (.int .i64 K)) none).run Tryz.prog W = .ok (.slice a3 K cap) W := fun W => by
  rw [run_sliceAt_slice W 22 _ _ _ _ (by rw [elemU8]; exact undU8')]; exact HS3 W
 haveI hL3 : FZ w a3 K cap L := ⟨by rw [← ha3]; exact hL.out.takes' K hKn⟩
 have HPA := fun W [Tb W] [FZ W a n cap L] => Lib.hid ((gpanel_any W a n cap L r c (by omega) (by omega) sty).mono fun o w' ⟨oa, oc, X, h1, h2, h3, h4⟩ => (⟨_, h1, ⟨oa, oc, X, rfl, h2, h3⟩, h4⟩ : ∃ v, o = Ending.returned v ∧ PaR r c sty v W.heap.size w'.heap.size w' ∧ From W w'))
 have HPB := fun W [Tb W] [FZ W a3 K cap L] => Lib.hid ((gpanel_any W a3 K cap L c t (by omega) (by omega) sty).mono fun o w' ⟨oa, oc, X, h1, h2, h3, h4⟩ => (⟨_, h1, ⟨oa, oc, X, rfl, h2, h3⟩, h4⟩ : ∃ v, o = Ending.returned v ∧ PaR c t sty v W.heap.size w'.heap.size w' ∧ From W w'))
 clear ha3
 go_enter Tryz.func10, Tryz.ntmps10
 go_wp2_with fail
 go_cut [11, 12] (fun v1 v2 wx => ∃ (bp bq : Nat) (oa : Option Addr) (oc : Nat) (X : Nat → Nat) (ob : Option Addr) (od : Nat) (Y : Nat → Nat), v1 = .pointer (some ⟨bp, 0, none⟩) ∧ v2 = .pointer (some ⟨bq, 0, none⟩) ∧ N3 wx bp (.int .i64 r) (.int .i64 c) (.slice oa (r * c) oc) ∧ N3 wx bq (.int .i64 c) (.int .i64 t) (.slice ob (c * t) od) ∧ FZ wx oa (r * c) oc X ∧ FZ wx ob (c * t) od Y ∧ SX sty X ∧ SX sty Y ∧ From w wx)
 case first =>
  refine wp_region_from (by kernel_rfl) (fun w0 b0 => ?_)
  refine tkz 0 31 ?_ (hy := ?_) (hS := Below.refl _ _) (h := ?_)
  rotate_left
  · intro w hSw; haveI : From w0 w := ⟨hSw⟩; go_simp; (try with_reducible rfl)
  refine tkz 1 32 ?_ (hy := ?_) (hS := Below.refl _ _) (h := ?_)
  rotate_left
  · intro w hSw; haveI : From w0 w := ⟨hSw⟩; go_simp; (try with_reducible rfl)
  refine tkz 3 34 ?_ (hy := ?_) (hS := Below.refl _ _) (h := ?_)
  rotate_left
  · intro w hSw; haveI : From w0 w := ⟨hSw⟩; go_simp; (try with_reducible rfl)
  refine tkz 5 36 ?_ (hy := ?_) (hS := Below.refl _ _) (h := ?_)
  rotate_left
  · intro w hSw; haveI : From w0 w := ⟨hSw⟩; go_simp; (try with_reducible rfl)
  refine tkz 7 38 ?_ (hy := ?_) (hS := Below.refl _ _) (h := ?_)
  rotate_left
  · intro w hSw; haveI : From w0 w := ⟨hSw⟩; go_simp; (try with_reducible rfl)
  refine tkz 8 39 ?_ (hy := ?_) (hS := Below.refl _ _) (h := ?_)
  rotate_left
  · intro w hSw; haveI : From w0 w := ⟨hSw⟩; go_simp; (try with_reducible rfl)
  refine tkz 9 40 ?_ (hy := ?_) (hS := Below.refl _ _) (h := ?_)
  rotate_left
  · intro w hSw; haveI : From w0 w := ⟨hSw⟩; go_simp; (try with_reducible rfl)
  refine tkz 10 41 ?_ (hy := ?_) (hS := Below.refl _ _) (h := ?_)
  rotate_left
  · intro w hSw; haveI : From w0 w := ⟨hSw⟩; go_simp; (try with_reducible rfl)
  refine tkz 11 42 ?_ (hy := ?_) (hS := Below.refl _ _) (h := ?_)
  rotate_left
  · intro w hSw; haveI : From w0 w := ⟨hSw⟩; go_simp; (try with_reducible rfl)
  refine tkz 12 43 ?_ (hy := ?_) (hS := Below.refl _ _) (h := ?_)
  rotate_left
  · intro w hSw; haveI : From w0 w := ⟨hSw⟩; go_simp; (try with_reducible rfl)
  refine tkz 14 45 ?_ (hy := ?_) (hS := Below.refl _ _) (h := ?_)
  rotate_left
  · intro w hSw; haveI : From w0 w := ⟨hSw⟩; go_simp; (try with_reducible rfl)
  refine tkz 16 47 ?_ (hy := ?_) (hS := Below.refl _ _) (h := ?_)
  rotate_left
  · intro w hSw; haveI : From w0 w := ⟨hSw⟩; go_simp; (try with_reducible rfl)
  have hΦ : ∀ (j : Nat) (v : Value) (a b : Nat), Stab ((PhL [PhC (.int .i64 (r : Int)), PhC (.int .i64 (c : Int)), PaR r c sty, PhC (.int .i64 (c : Int)), PhC (.int .i64 (t : Int)), PaR c t sty]) j v a b) a b := fun j v a b => PhL.stab _ (by simp only [List.mem_cons, List.not_mem_nil, or_false, forall_eq_or_imp, forall_eq]; exact ⟨fun v a b => PhC.stab _ v a b, fun v a b => PhC.stab _ v a b, fun v a b => stab_par _ _ _ v a b, fun v a b => PhC.stab _ v a b, fun v a b => PhC.stab _ v a b, fun v a b => stab_par _ _ _ v a b⟩) j v a b
  refine wpAnyH_bx w0 (fun _ => 3) (fun i => match i with | 0 => 2 | _ => 5) (fun _ => 0) (PhL [PhC (.int .i64 (r : Int)), PhC (.int .i64 (c : Int)), PaR r c sty, PhC (.int .i64 (c : Int)), PhC (.int .i64 (t : Int)), PaR c t sty]) (fun _ v => words v) (fun al ca st ex => #[true, true, ca 0, true, ca 1, true, ca 2, true, true, true, true, true, true, ca 3, true, ca 4, true, ca 5, al 0, al 1, st 0, st 1]) (fun al ca ex B V => [(33, VQ (ca 0) (V 0) undef), (35, VQ (ca 1) (V 1) undef), (37, VQ (ca 2) (V 2) undef), (44, VQ (ca 3) (V 3) undef), (46, VQ (ca 4) (V 4) undef), (48, VQ (ca 5) (V 5) undef), (11, VQ (al 0) (.pointer (some ⟨B 0, 0, none⟩)) undef), (12, VQ (al 1) (.pointer (some ⟨B 1, 0, none⟩)) undef)]) rfl (BX.start w0 _ _ _ _ _ (fun _ => 0) (fun _ => 0) (fun _ => 0) (fun _ => undef)) (ex := fun _ => false) rfl (by simp only [fillA, List.setIfInBounds_toArray, List.set_cons_zero, List.set_cons_succ] <;> rfl) (by decide) (by kernel_rfl) (fun _ _ _ _ => rfl) ?_ ?_
  · intro al ca st ex BB lo hi V vw hN hw0
    repeat' (first | exact AllI.nil | refine AllI.cons ?_ ?_)
    · intro h; cases h
    · intro h; cases h
    · intro (hl : ca 0 = false) _ K hK
      simp only [fillA, List.setIfInBounds_toArray, List.set_cons_zero, List.set_cons_succ]
      go_simp
      go_at_call 12; refine (HMR _).out.mono ?_; rintro o z1 ⟨rfl, rfl⟩
      go_simp
      exact hK.out al (up1 ca 0 true) st ex BB (up1 lo 0 vw.heap.size) (up1 hi 0 _) (up1 V 0 (.int .i64 (r : Int))) _ _ rfl (by simp only [fillA, List.setIfInBounds_toArray, List.set_cons_zero, List.set_cons_succ] <;> rfl) (hN.call hΦ 0 hl (Below.refl _ _) (.int .i64 (r : Int)) rfl)
    · intro h; cases h
    · intro (hl : ca 1 = false) haf K hK
      have d2 : ca 0 = true := haf ⟨2, .chain⟩ (by simp) rfl
      clear haf
      simp only [fillA, d2, VQ_true, List.setIfInBounds_toArray, List.set_cons_zero, List.set_cons_succ]
      go_simp
      go_at_call 12; refine (HMC _).out.mono ?_; rintro o z1 ⟨rfl, rfl⟩
      go_simp
      exact hK.out al (up1 ca 1 true) st ex BB (up1 lo 1 vw.heap.size) (up1 hi 1 _) (up1 V 1 (.int .i64 (c : Int))) _ _ rfl (by have u2 : up1 ca 1 true 0 = true := d2; simp only [fillA, u2, VQ_true, List.setIfInBounds_toArray, List.set_cons_zero, List.set_cons_succ] <;> rfl) (hN.call hΦ 1 hl (Below.refl _ _) (.int .i64 (c : Int)) rfl)
    · intro h; cases h
    · intro (hl : ca 2 = false) haf K hK
      have d2 : ca 0 = true := haf ⟨2, .data⟩ (by simp) rfl
      have d4 : ca 1 = true := haf ⟨4, .data⟩ (by simp) rfl
      clear haf
      simp only [fillA, d2, d4, VQ_true, List.setIfInBounds_toArray, List.set_cons_zero, List.set_cons_succ]
      go_simp
      have HP' := HPA
      rw [show (.int .i64 (r : Int) : Value) = V 0 from ((hN.ph 0 d2).2.2 : V 0 = .int .i64 (r : Int)).symm, show (.int .i64 (c : Int) : Value) = V 1 from ((hN.ph 1 d4).2.2 : V 1 = .int .i64 (c : Int)).symm] at HP'
      go_at_call 36; refine (HP' _).out.mono ?_; rintro o z2 ⟨vr, rfl, hp, b2⟩
      go_simp
      exact hK.out al (up1 ca 2 true) st ex BB (up1 lo 2 vw.heap.size) (up1 hi 2 _) (up1 V 2 (vr)) _ _ rfl (by have u2 : up1 ca 2 true 0 = true := d2; have u4 : up1 ca 2 true 1 = true := d4; simp only [fillA, u2, u4, VQ_true, List.setIfInBounds_toArray, List.set_cons_zero, List.set_cons_succ] <;> rfl) (hN.call hΦ 2 hl b2.out (vr) hp)
    · intro h; cases h
    · intro h; cases h
    · intro h; cases h
    · intro h; cases h
    · intro h; cases h
    · intro h; cases h
    · intro (hl : ca 3 = false) haf K hK
      have d6 : ca 2 = true := haf ⟨6, .chain⟩ (by simp) rfl
      clear haf
      simp only [fillA, d6, VQ_true, List.setIfInBounds_toArray, List.set_cons_zero, List.set_cons_succ]
      go_simp
      go_at_call 12; refine (HMC _).out.mono ?_; rintro o z1 ⟨rfl, rfl⟩
      go_simp
      exact hK.out al (up1 ca 3 true) st ex BB (up1 lo 3 vw.heap.size) (up1 hi 3 _) (up1 V 3 (.int .i64 (c : Int))) _ _ rfl (by have u6 : up1 ca 3 true 2 = true := d6; simp only [fillA, u6, VQ_true, List.setIfInBounds_toArray, List.set_cons_zero, List.set_cons_succ] <;> rfl) (hN.call hΦ 3 hl (Below.refl _ _) (.int .i64 (c : Int)) rfl)
    · intro h; cases h
    · intro (hl : ca 4 = false) haf K hK
      have d13 : ca 3 = true := haf ⟨13, .chain⟩ (by simp) rfl
      clear haf
      simp only [fillA, d13, VQ_true, List.setIfInBounds_toArray, List.set_cons_zero, List.set_cons_succ]
      go_simp
      go_at_call 12; refine (HMT _).out.mono ?_; rintro o z1 ⟨rfl, rfl⟩
      go_simp
      exact hK.out al (up1 ca 4 true) st ex BB (up1 lo 4 vw.heap.size) (up1 hi 4 _) (up1 V 4 (.int .i64 (t : Int))) _ _ rfl (by have u13 : up1 ca 4 true 3 = true := d13; simp only [fillA, u13, VQ_true, List.setIfInBounds_toArray, List.set_cons_zero, List.set_cons_succ] <;> rfl) (hN.call hΦ 4 hl (Below.refl _ _) (.int .i64 (t : Int)) rfl)
    · intro h; cases h
    · intro (hl : ca 5 = false) haf K hK
      have d13 : ca 3 = true := haf ⟨13, .data⟩ (by simp) rfl
      have d15 : ca 4 = true := haf ⟨15, .data⟩ (by simp) rfl
      clear haf
      simp only [fillA, d13, d15, VQ_true, List.setIfInBounds_toArray, List.set_cons_zero, List.set_cons_succ]
      go_simp
      have HP' := HPB
      rw [show (.int .i64 (c : Int) : Value) = V 3 from ((hN.ph 3 d13).2.2 : V 3 = .int .i64 (c : Int)).symm, show (.int .i64 (t : Int) : Value) = V 4 from ((hN.ph 4 d15).2.2 : V 4 = .int .i64 (t : Int)).symm] at HP'
      go_at_call 36; refine (HP' _).out.mono ?_; rintro o z2 ⟨vr, rfl, hp, b2⟩
      go_simp
      exact hK.out al (up1 ca 5 true) st ex BB (up1 lo 5 vw.heap.size) (up1 hi 5 _) (up1 V 5 (vr)) _ _ rfl (by have u13 : up1 ca 5 true 3 = true := d13; have u15 : up1 ca 5 true 4 = true := d15; simp only [fillA, u13, u15, VQ_true, List.setIfInBounds_toArray, List.set_cons_zero, List.set_cons_succ] <;> rfl) (hN.call hΦ 5 hl b2.out (vr) hp)
    · intro (hl : al 0 = false) _ K hK
      simp [go_sem]
      exact hK.out (up1 al 0 true) ca st ex (up1 BB 0 vw.heap.size) lo hi V _ _ rfl (by simp only [fillA, List.setIfInBounds_toArray, List.set_cons_zero, List.set_cons_succ] <;> rfl) (hN.alloc hΦ 0 hl _ _ rfl)
    · intro (hl : al 1 = false) _ K hK
      simp [go_sem]
      exact hK.out (up1 al 1 true) ca st ex (up1 BB 1 vw.heap.size) lo hi V _ _ rfl (by simp only [fillA, List.setIfInBounds_toArray, List.set_cons_zero, List.set_cons_succ] <;> rfl) (hN.alloc hΦ 1 hl _ _ rfl)
    · intro _ haf K hK
      have d2 : ca 0 = true := haf ⟨2, .phase⟩ (by simp) rfl
      have d4 : ca 1 = true := haf ⟨4, .phase⟩ (by simp) rfl
      have d6 : ca 2 = true := haf ⟨6, .data⟩ (by simp) rfl
      have d17 : ca 5 = true := haf ⟨17, .chain⟩ (by simp) rfl
      have d18 : al 0 = true := haf ⟨18, .data⟩ (by simp) rfl
      have d19 : al 1 = true := haf ⟨19, .phase⟩ (by simp) rfl
      have c2 : ca 2 = true := d6
      have hq2 : PaR r c sty (V 2) (lo 2) (hi 2) vw := (hN.ph 2 c2).2.2
      have hv2 := hq2.sp
      generalize hq2.oa = oa2 at hv2
      generalize hq2.oc = oc2 at hv2
      clear hq2
      clear haf
      have hz := BoxA.n3 (hN.bx 0 d18).2
      generalize (vw.cell? ⟨BB 0, 0, none⟩).getD undef = y0 at hz
      generalize (vw.cell? ⟨BB 0, 1, none⟩).getD undef = y1 at hz
      generalize (vw.cell? ⟨BB 0, 2, none⟩).getD undef = y2 at hz
      simp [fillA, d2, d4, d6, d17, d18, d19, VQ_true, hv2, go_sem]
      have hS := hN.store hΦ 0 d18 c2 (by (try dsimp only); simp only [hv2]; rfl)
      try dsimp only at hS
      simp only [hv2] at hS
      exact hK.out al ca (up1 st 0 true) ex BB lo hi V _ _ rfl (by simp only [fillA, d2, d4, d6, d17, d18, d19, VQ_true, hv2, List.setIfInBounds_toArray, List.set_cons_zero, List.set_cons_succ] <;> rfl) hS
    · intro _ haf K hK
      have d2 : ca 0 = true := haf ⟨2, .phase⟩ (by simp) rfl
      have d4 : ca 1 = true := haf ⟨4, .phase⟩ (by simp) rfl
      have d6 : ca 2 = true := haf ⟨6, .phase⟩ (by simp) rfl
      have d13 : ca 3 = true := haf ⟨13, .phase⟩ (by simp) rfl
      have d15 : ca 4 = true := haf ⟨15, .phase⟩ (by simp) rfl
      have d17 : ca 5 = true := haf ⟨17, .data⟩ (by simp) rfl
      have d18 : al 0 = true := haf ⟨18, .phase⟩ (by simp) rfl
      have d19 : al 1 = true := haf ⟨19, .data⟩ (by simp) rfl
      have d20 : st 0 = true := haf ⟨20, .chain⟩ (by simp) rfl
      have c5 : ca 5 = true := d17
      have hq5 : PaR c t sty (V 5) (lo 5) (hi 5) vw := (hN.ph 5 c5).2.2
      have hv5 := hq5.sp
      generalize hq5.oa = oa5 at hv5
      generalize hq5.oc = oc5 at hv5
      clear hq5
      clear haf
      have hz := BoxA.n3 (hN.bx 1 d19).2
      generalize (vw.cell? ⟨BB 1, 0, none⟩).getD undef = y0 at hz
      generalize (vw.cell? ⟨BB 1, 1, none⟩).getD undef = y1 at hz
      generalize (vw.cell? ⟨BB 1, 2, none⟩).getD undef = y2 at hz
      simp [fillA, d2, d4, d6, d13, d15, d17, d18, d19, VQ_true, hv5, go_sem]
      have hS := hN.store hΦ 1 d19 c5 (by (try dsimp only); simp only [hv5]; rfl)
      try dsimp only at hS
      simp only [hv5] at hS
      exact hK.out al ca (up1 st 1 true) ex BB lo hi V _ _ rfl (by simp only [fillA, d2, d4, d6, d13, d15, d17, d18, d19, VQ_true, hv5, List.setIfInBounds_toArray, List.set_cons_zero, List.set_cons_succ] <;> rfl) hS
  · intro al ca st ex BB lo hi V vw hN hw0 hall
    have q2 : ca 0 = true := hall 2 (by decide)
    have q4 : ca 1 = true := hall 4 (by decide)
    have q6 : ca 2 = true := hall 6 (by decide)
    have q13 : ca 3 = true := hall 13 (by decide)
    have q15 : ca 4 = true := hall 15 (by decide)
    have q17 : ca 5 = true := hall 17 (by decide)
    have q18 : al 0 = true := hall 18 (by decide)
    have q19 : al 1 = true := hall 19 (by decide)
    have q20 : st 0 = true := hall 20 (by decide)
    have q21 : st 1 = true := hall 21 (by decide)
    clear hall
    obtain ⟨oa, oc, X, hv2, hF1, hX1⟩ := (hN.ph 2 q6).2.2
    obtain ⟨ob, od, Y, hv5, hF2, hX2⟩ := (hN.ph 5 q17).2.2
    have s0 := (hN.se 0 q20).2.2
    have s1 := (hN.se 1 q21).2.2
    try dsimp only at s0 s1
    simp only [hv2] at s0
    simp only [hv5] at s1
    have n0 : N3 vw (BB 0) (.int .i64 r) (.int .i64 c) (.slice oa (r * c) oc) := BoxV.n3 s0
    have n1 : N3 vw (BB 1) (.int .i64 c) (.int .i64 t) (.slice ob (c * t) od) := BoxV.n3 s1
    simp only [fillA, q2, q4, q6, q13, q15, q17, q18, q19, VQ_true, List.setIfInBounds_toArray, List.set_cons_zero, List.set_cons_succ]
    go_wp2_with fail
    go_meet
    exact ⟨BB 0, BB 1, oa, oc, X, ob, od, Y, rfl, rfl, n0, n1, ⟨hF1.2⟩, ⟨hF2.2⟩, hX1, hX2, ⟨zbh⟩⟩
 case rest =>
  obtain ⟨bp, bq, oa, oc, X, ob, od, Y, rfl, rfl, nA, nB, fA, fB, hX, hY, b1⟩ := hcut
  have hXf : ∀ x, x < r * c → ffin (X x) = true := fun x _ => (hX x).2.1
  have hYf : ∀ x, x < c * t → ffin (Y x) = true := fun x _ => (hY x).2.1
  have hZf : ∀ x, x < t * c → ffin (trX Y c t x) = true := fun x _ => (hY _).2.1
  have hVf : ∀ x, x < c * r → ffin (trX X r c x) = true := fun x _ => (hX _).2.1
  have HE1 := fun W [Tb W] [FZ W oa (r * c) oc X] [FZ W ob (c * t) od Y] => Lib.hid (dmult_ok W r c t oa ob oc od X Y (by omega) (by omega) (by omega) hXf hYf)
  have HE2 := fun W [Tb W] [FZ W oa (r * c) oc X] [FZ W ob (c * t) od Y] => Lib.hid (rmult_ok W r c t oa ob oc od X Y (by omega) (by omega) (by omega) hXf hYf)
  have HT1 := fun W [FZ W oa (r * c) oc X] => Lib.hid (dtrans_any W r c (by omega) (by omega) oa oc X hXf)
  have HT2 := fun W [FZ W ob (c * t) od Y] => Lib.hid (dtrans_any W c t (by omega) (by omega) ob od Y hYf)
  have HT3 := fun W [FZ W oa (r * c) oc X] => Lib.hid (rtrans_any W r c (by omega) (by omega) oa oc X hXf)
  have HN1 := fun W [Tb W] [FZ W oa (r * c) oc X] => Lib.hid (dnormp_any W r c (by omega) (by omega) oa oc X hXf)
  have HN2 := fun W [Tb W] [FZ W oa (r * c) oc X] => Lib.hid (rnormp_any W r c (by omega) (by omega) oa oc X hXf)
  have HND := Lib.hid (isN_dinf (isN_rowS X r c) r)
  generalize dinf (rowS X r c) r = dn at *
  have HSP := fun W (r s : Int) (n : Nat) (V : Nat → Nat) x c x' c' [FZ W x n c V] [FZ W x' n c' V] => Lib.hid (frm (gsamep_any W r s x x' n c c' V))
  have HSD := fun W p q p' q' [i : BI W p (nl (dman dn).natAbs) q (dman dn).natAbs] [j : BI W p' (nl (dman dn).natAbs) q' (dman dn).natAbs] [Tb W] => Lib.hid (by
   haveI x1 : DS W (dbad dn) (decide (dman dn < 0)) p (nl (dman dn).natAbs) q (dexp dn) dn := ⟨dys_of HND.out i.out⟩
   haveI x2 : DS W (dbad dn) (decide (dman dn < 0)) p' (nl (dman dn).natAbs) q' (dexp dn) dn := ⟨dys_of HND.out j.out⟩
   exact frm (gsame_any W (dbad dn) (decide (dman dn < 0)) (dbad dn) (decide (dman dn < 0)) p p' (nl (dman dn).natAbs) (nl (dman dn).natAbs) q q' (dexp dn) (dexp dn) dn dn true (by simp)))
  have HE3 := fun W (a b : Option Addr) (ca cb : Nat) [Tb W] [i : FZ W a (c * t) ca (trX Y c t)] [j : FZ W b (r * c) cb (trX X r c)] => Lib.hid (by
   haveI i' : FZ W a (t * c) ca (trX Y c t) := by rw [Nat.mul_comm]; exact i
   haveI j' : FZ W b (c * r) cb (trX X r c) := by rw [Nat.mul_comm]; exact j
   exact dmult_ok W t c r a b ca cb (trX Y c t) (trX X r c) (by omega) (by omega) (by omega) hZf hVf)
  have hfin : allfin (mulV (trX Y c t) (trX X r c) t c) (t * r) = allfin (mulV X Y r c) (r * t) := by
   rw [Nat.mul_comm t r, allfin_to fun x hx => mul_trans X Y r c t hx]; exact allfin_trX
  have hmt : ∀ x, x < r * t → mulV (trX Y c t) (trX X r c) t c x = trX (mulV X Y r c) r t x := fun x hx => mul_trans X Y r c t hx
  rw [hfin, Nat.mul_comm t c, Nat.mul_comm c r, Nat.mul_comm t r] at HE3
  clear hX hY hXf hYf hZf hVf hfin HPA HPB HMR HMC HMT
  cases hf : allfin (mulV X Y r c) (r * t) with
  | true =>
   have HFV : Hid (∀ x, x < r * t → ffin (mulV X Y r c x) = true) := Lib.hid ((allfin_iff _ _).1 hf)
   have HMT := Lib.hid hmt
   simp only [hf, mpn, mpe, if_true] at HE1 HE2 HE3
   clear hf hmt
   have HT4 := fun W (a : Option Addr) (ca : Nat) [FZ W a (r * t) ca (mulV X Y r c)] => Lib.hid (dtrans_any W r t (by omega) (by omega) a ca (mulV X Y r c) HFV.out)
   obtain ⟨Z, hZ⟩ : ∃ Z, Z = trX (mulV X Y r c) r t := ⟨_, rfl⟩
   have HZ : Hid (∀ x, x < r * t → mulV (trX Y c t) (trX X r c) t c x = Z x) := Lib.hid (by rw [hZ]; exact HMT.out)
   rw [← hZ] at HT4
   clear hZ HFV HMT
   generalize mulV (trX Y c t) (trX X r c) t c = MV at *
   generalize mulV X Y r c = MU at *
   generalize trX Y c t = TY at *
   generalize trX X r c = TX at *
   generalize r * c = N1 at *
   generalize c * t = N2 at *
   generalize r * t = N3' at *
   go_wp2_with fail
   refine (HE1 _).out.mono ?_; rintro o w2 ⟨v, rfl, ⟨pa, pc, rfl, hp⟩, b2⟩
   haveI fp : FZ w2 pa N3' pc MU := ⟨hp.2⟩
   go_wp2_with fail
   refine (HE2 _).out.mono ?_; rintro o w3 ⟨v, rfl, ⟨qa, qc, rfl, hq⟩, b3⟩
   haveI fq : FZ w3 qa N3' qc MU := ⟨hq.2⟩
   go_wp2_with fail
   refine (HT1 _).out.mono ?_; rintro o w4 ⟨xa, xc, rfl, hx, b4⟩
   haveI fx : FZ w4 xa N1 xc TX := ⟨hx.2⟩
   go_wp2_with fail
   refine (HT2 _).out.mono ?_; rintro o w5 ⟨ya, yc, rfl, hy, b5⟩
   haveI fy : FZ w5 ya N2 yc TY := ⟨hy.2⟩
   go_wp2_with fail
   refine (HT3 _).out.mono ?_; rintro o w6 ⟨ua, uc, rfl, hu, b6⟩
   haveI fu : FZ w6 ua N1 uc TX := ⟨hu.2⟩
   go_wp2_with fail
   refine (HN1 _).out.mono ?_; rintro o w7 ⟨ma, mc, rfl, im, b7⟩
   go_wp2_with fail
   refine (HN2 _).out.mono ?_; rintro o w8 ⟨na, nc, rfl, inn, b8⟩
   clear HE1 HE2 HT1 HT2 HT3 HN1 HN2
   go_wp2_with fail
   refine (HSP _ _ _ _ MU _ _ _ _).out.mono ?_; rintro o w9 ⟨rfl, b9⟩
   go_wp2_with fail
   refine (HSP _ _ _ _ TX _ _ _ _).out.mono ?_; rintro o w10 ⟨rfl, b10⟩
   go_wp2_with fail
   refine (HSD _ _ _ _ _).out.mono ?_; rintro o w11 ⟨rfl, b11⟩
   clear HSD
   go_wp2_with fail
   refine (HE3 _ _ _ _ _).out.mono ?_; rintro o w12 ⟨v, rfl, ⟨za, zc, rfl, hz⟩, b12⟩
   haveI fz : FZ w12 za N3' zc Z := ⟨fls_to hz.2 HZ.out⟩
   go_wp2_with fail
   refine (HT4 _ _ _).out.mono ?_; rintro o w13 ⟨ea, ec, rfl, he, b13⟩
   haveI fe : FZ w13 ea N3' ec Z := ⟨he.2⟩
   clear HT4 HE3
   go_wp2_with fail
   refine (HSP _ _ _ _ Z _ _ _ _).out.mono ?_; rintro o w14 ⟨rfl, b14⟩
   go_wp2_with fail
   refine (HAW _).out.mono ?_; rintro o w15 ⟨rfl, b15⟩
   go_wp2_with fail
   go_ret
   exact ⟨rfl, zbh⟩
  | false =>
   simp only [hf, mpn, mpe] at HE1 HE2 HE3
   clear hf hmt
   have HT4 := fun W (a : Option Addr) (ca : Nat) (V : Nat → Nat) [FZ W a 0 ca V] => Lib.hid (dtrans_any W 0 0 (by omega) (by omega) a ca V (fun x hx => absurd hx (by omega)))
   generalize mulV (trX Y c t) (trX X r c) t c = MV at *
   generalize mulV X Y r c = MU at *
   generalize trX Y c t = TY at *
   generalize trX X r c = TX at *
   generalize r * c = N1 at *
   generalize c * t = N2 at *
   generalize r * t = N3' at *
   go_wp2_with fail
   refine (HE1 _).out.mono ?_; rintro o w2 ⟨v, rfl, ⟨pa, pc, rfl, hp⟩, b2⟩
   haveI fp : FZ w2 pa 0 pc MU := ⟨hp.2⟩
   go_wp2_with fail
   refine (HE2 _).out.mono ?_; rintro o w3 ⟨v, rfl, ⟨qa, qc, rfl, hq⟩, b3⟩
   haveI fq : FZ w3 qa 0 qc MU := ⟨hq.2⟩
   go_wp2_with fail
   refine (HT1 _).out.mono ?_; rintro o w4 ⟨xa, xc, rfl, hx, b4⟩
   haveI fx : FZ w4 xa N1 xc TX := ⟨hx.2⟩
   go_wp2_with fail
   refine (HT2 _).out.mono ?_; rintro o w5 ⟨ya, yc, rfl, hy, b5⟩
   haveI fy : FZ w5 ya N2 yc TY := ⟨hy.2⟩
   go_wp2_with fail
   refine (HT3 _).out.mono ?_; rintro o w6 ⟨ua, uc, rfl, hu, b6⟩
   haveI fu : FZ w6 ua N1 uc TX := ⟨hu.2⟩
   go_wp2_with fail
   refine (HN1 _).out.mono ?_; rintro o w7 ⟨ma, mc, rfl, im, b7⟩
   go_wp2_with fail
   refine (HN2 _).out.mono ?_; rintro o w8 ⟨na, nc, rfl, inn, b8⟩
   clear HE1 HE2 HT1 HT2 HT3 HN1 HN2
   go_wp2_with fail
   refine (HSP _ _ _ _ MU _ _ _ _).out.mono ?_; rintro o w9 ⟨rfl, b9⟩
   go_wp2_with fail
   refine (HSP _ _ _ _ TX _ _ _ _).out.mono ?_; rintro o w10 ⟨rfl, b10⟩
   go_wp2_with fail
   refine (HSD _ _ _ _ _).out.mono ?_; rintro o w11 ⟨rfl, b11⟩
   clear HSD
   go_wp2_with fail
   refine (HE3 _ _ _ _ _).out.mono ?_; rintro o w12 ⟨v, rfl, ⟨za, zc, rfl, hz⟩, b12⟩
   go_wp2_with fail
   refine (HT4 _ _ _ MU).out.mono ?_; rintro o w13 ⟨ea, ec, rfl, he, b13⟩
   clear HT4 HE3
   go_wp2_with fail
   refine (HAW _).out.mono ?_; rintro o w15 ⟨rfl, b15⟩
   go_wp2_with fail
   go_ret
   exact ⟨rfl, zbh⟩
theorem dmuls_all (w : World) (hT : Tab w) (a : Option Addr) (n cap : Nat) (L : Nat → Nat) (hL : Fls w a n cap L) (r0 c0 t0 sty : Int) :
 Calls Tryz.prog 10 #[.slice a n cap, .int .i64 r0, .int .i64 c0, .int .i64 t0, .int .i64 sty] w fun o w' => o = .returned (.bool true) ∧ Below w.heap.size w w' := by
 haveI : Tb w := ⟨hT⟩
 haveI : FZ w a n cap L := ⟨hL⟩
 exact dmuls_any w a n cap L r0 c0 t0 sty
end Go.Proofs.YtablcbgeeeboeaaGreatDoor
