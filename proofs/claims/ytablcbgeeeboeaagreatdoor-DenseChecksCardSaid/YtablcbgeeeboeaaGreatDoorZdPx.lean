/-
  Walks: package sparseref09: Check, Stored, At, of a matrix that is drawn.
-/
import Derived.Test.YtablcbgeeeboeaaGreatDoorZdPf
import Derived.BigQuiet
import Derived.Test.YtablcbgeeeboeaaGreatDoorZdGq
set_option maxRecDepth 100000
set_option maxHeartbeats 20000000
namespace Go.Proofs.YtablcbgeeeboeaaGreatDoor
open Go.RowKit Sp
section
variable {w w' : World} {r c q cS cI cV : Nat} {aS aI aV : Option Addr} {S I F : Nat → Nat}
theorem MX.ceS (h : MX w r c aS cS aI q cI aV cV S I F) {t : Nat} (ht : t ≤ c) : CE w (ab aS) (ao aS + t) (.int .i64 ((S t : Nat) : Int)) := ⟨h.s.cell t (by omega), h.s.old (by omega)⟩
theorem MX.ceI (h : MX w r c aS cS aI q cI aV cV S I F) {t : Nat} (ht : t < q) : CE w (ab aI) (ao aI + t) (.int .i64 ((I t : Nat) : Int)) := ⟨h.i.cell t ht, h.i.old (by omega)⟩
theorem MX.ceV (h : MX w r c aS cS aI q cI aV cV S I F) {t : Nat} (ht : t < q) : CE w (ab aV) (ao aV + t) (.int .u64 ((F t : Nat) : Int)) := ⟨h.v.cell t ht, h.v.old (by omega)⟩
theorem MX.ix0 (h : MX w r c aS cS aI q cI aV cV S I F) (W : World) : (Instr.indexAt 62 (.slice aS (c + 1) cS) (.int .i64 0)).run Tryz.prog W = .ok (.pointer (some ⟨ab aS, ao aS, none⟩)) W := h.s.idx 0 (by omega) W
theorem MX.ce0 (h : MX w r c aS cS aI q cI aV cV S I F) : CE w (ab aS) (ao aS) (.int .i64 ((S 0 : Nat) : Int)) := h.ceS (t := 0) (by omega)
theorem MX.ix1 (h : MX w r c aS cS aI q cI aV cV S I F) (t : Nat) (ht : t < c) (W : World) : (Instr.indexAt 62 (.slice aS (c + 1) cS) (.int .i64 ((t : Int) + 1))).run Tryz.prog W = .ok (.pointer (some ⟨ab aS, ao aS + (t + 1), none⟩)) W := h.s.idx (t + 1) (by omega) W
theorem MX.ixp (h : MX w r c aS cS aI q cI aV cV S I F) (t : Nat) (ht : t < q) (h0 : 0 < t) (W : World) : (Instr.indexAt 62 (.slice aI q cI) (.int .i64 ((t : Int) - 1))).run Tryz.prog W = .ok (.pointer (some ⟨ab aI, ao aI + (t - 1), none⟩)) W := by
 have := h.i.idx (t - 1) (by omega) W
 rwa [show ((t - 1 : Nat) : Int) = (t : Int) - 1 by omega] at this
end
attribute [local irreducible] Calls
theorem rmcheck_any (w : World) [Tb w] (r c q : Nat) (hr : r ≤ 64) (hc : c ≤ 64) (hq : q ≤ 4096) (aS aI aV : Option Addr) (cS cI cV : Nat) (S I F : Nat → Nat) [hM : MX w r c aS cS aI q cI aV cV S I F] :
 Calls Tryz.prog 135 #[.agg #[.int .i64 r, .int .i64 c, .slice aS (c + 1) cS, .slice aI q cI, .slice aV q cV]] w fun o w' => o = .returned (.int .i64 0) ∧ Below w.heap.size w w' := by
 have l1 := hM.s.lim
 have l2 := hM.s.fits
 have l3 := hM.i.lim
 have l4 := hM.i.fits
 have l5 := hM.v.lim
 have l6 := hM.v.fits
 have hf : allfin F q = true := (allfin_iff F q).2 fun i _ => (hM.ok.f i).2
 have HF := fun W [i : MX W r c aS cS aI q cI aV cV S I F] => Lib.hid (frw (rfinite_any W aV q cV F i.v))
 rw [hf] at HF
 have y0 := hM.ix0
 have y1 := hM.s.idx c (by omega)
 haveI z0 := hM.ce0
 haveI z1 := hM.ceS (t := c) (by omega)
 rw [hM.ok.z] at z0
 rw [hM.ok.e] at z1
 have ZZ0 := Lib.hid z0
 have ZZ1 := Lib.hid z1
 have HOK := Lib.hid hM.ok
 clear hf
 go_enter Tryz.func135, Tryz.ntmps135
 go_wp2_with fail
 obtain ⟨w0, hw0⟩ : ∃ w0, w0 = w.alloc (.cells #[.int .i64 r, .int .i64 c, .slice aS (c + 1) cS, .slice aI q cI, .slice aV q cV] 77) := ⟨_, rfl⟩
 haveI x0 : MX w0 r c aS cS aI q cI aV cV S I F := by rw [hw0]; infer_instance
 haveI x1 : Tb w0 := by rw [hw0]; infer_instance
 haveI x2 : N5 w0 w.heap.size (.int .i64 r) (.int .i64 c) (.slice aS (c + 1) cS) (.slice aI q cI) (.slice aV q cV) := by rw [hw0]; infer_instance
 haveI x3 : Beh w w0 := by rw [hw0]; infer_instance
 have x4 : Below w.heap.size w w0 := x3.out
 rw [← hw0]
 clear hw0
 go_loopw [4] (fun i wr => ∃ k : Nat, k ≤ c ∧ i = .int .i64 k ∧ Below w0.heap.size w0 wr) (fun i _ => c - (intOf i).toNat)
 case atStart => exact ⟨0, by omega, rfl, zbh⟩
 case round =>
  clear y0 y1 z0 z1 ZZ0 ZZ1
  obtain ⟨k, hk, rfl, hbr⟩ := hrel
  haveI bw : From w0 wr := ⟨hbr⟩
  have hs := hbr.size
  clear hbr
  by_cases hlt : k < c
  · have hX : MX wr r c aS cS aI q cI aV cV S I F := inferInstance
    haveI z0 := hX.ceS (t := k) (by omega)
    haveI z1 := hX.ceS (t := k + 1) (by omega)
    have y0 := hX.s.idx k (by omega)
    have y1 := hX.ix1 k hlt
    have hle := HOK.out.m k hlt
    obtain ⟨s1, hs1⟩ : ∃ s1, s1 = S (k + 1) := ⟨_, rfl⟩
    obtain ⟨s0, hs0⟩ : ∃ s0, s0 = S k := ⟨_, rfl⟩
    rw [← hs1] at z1 hle
    rw [← hs0] at z0 hle
    clear hs0 hs1 hX
    go_wp2_with fail
    go_quiet (fail)
    all_goals (
     go_wp2_with fail
     go_roundw
     case rel => exact ⟨k + 1, by omega, by go_num, zbh⟩
     case measure => simp [intOf]; omega)
  · go_wp2_with fail
    go_loopw [5] (fun i wr => ∃ j : Nat, j ≤ c ∧ i = .int .i64 j ∧ Below w0.heap.size w0 wr) (fun i _ => c - (intOf i).toNat)
    case atStart => exact ⟨0, by omega, rfl, zbh⟩
    case round =>
     obtain ⟨j, hj, rfl, hbr⟩ := hrel
     haveI bw : From w0 wr := ⟨hbr⟩
     have hs := hbr.size
     clear hbr
     by_cases hlt : j < c
     · have hX : MX wr r c aS cS aI q cI aV cV S I F := inferInstance
       haveI z0 := hX.ceS (t := j) (by omega)
       haveI z1 := hX.ceS (t := j + 1) (by omega)
       have y0 := hX.s.idx j (by omega)
       have y1 := hX.ix1 j hlt
       have hle := HOK.out.le (t := j + 1) (by omega)
       have hcol := HOK.out.a j
       obtain ⟨s1, hs1⟩ : ∃ s1, s1 = S (j + 1) := ⟨_, rfl⟩
       obtain ⟨s0, hs0⟩ : ∃ s0, s0 = S j := ⟨_, rfl⟩
       rw [← hs1] at z1 hle hcol
       rw [← hs0] at z0 hcol
       have ZZ0 := Lib.hid z0
       have ZZ1 := Lib.hid z1
       have HCOL := Lib.hid fun x => hcol x hlt
       have hs0q : s0 ≤ q := by rw [hs0]; exact HOK.out.le (by omega)
       clear hs0 hs1 hX hcol
       go_wp2_with fail
       go_loopw [6] (fun i wr2 => ∃ t : Nat, s0 ≤ t ∧ t ≤ q ∧ i = .int .i64 t ∧ Below wr.heap.size wr wr2) (fun i _ => q - (intOf i).toNat)
       case atStart => exact ⟨s0, Nat.le_refl _, hs0q, rfl, zbh⟩
       case round =>
        rename World => wq
        obtain ⟨t, ht0, htq, rfl, hbr2⟩ := hrel
        haveI bq : From wr wq := ⟨hbr2⟩
        have hs2 := hbr2.size
        haveI z0 := ZZ0.out
        haveI z1 := ZZ1.out
        clear hbr2
        by_cases hlt2 : t < s1
        · have hX : MX wq r c aS cS aI q cI aV cV S I F := inferInstance
          have y2 := hX.i.idx t (by omega)
          haveI z2 := hX.ceI (t := t) (by omega)
          have hI := HCOL.out t ht0 hlt2
          obtain ⟨x, hx⟩ : ∃ x, x = I t := ⟨_, rfl⟩
          rw [← hx] at z2 hI
          clear hx
          have d0 : decide ((x : Int) < 0) = false := decide_eq_false (by omega)
          have h1 : ¬ r ≤ x := by omega
          have d1 : decide ((r : Int) ≤ (x : Int)) = false := decide_eq_false (by omega)
          by_cases h2 : s0 < t
          · have d2 : decide ((s0 : Int) < (t : Int)) = true := decide_eq_true (by omega)
            have y3 := hX.ixp t (by omega) (by omega)
            haveI z3 := hX.ceI (t := t - 1) (by omega)
            have hJ := hI.2 h2
            obtain ⟨x1, hx1⟩ : ∃ x1, x1 = I (t - 1) := ⟨_, rfl⟩
            rw [← hx1] at z3 hJ
            clear hx1 hX hI
            obtain ⟨t1, ht1⟩ : ∃ t1, t1 = t - 1 := ⟨_, rfl⟩
            rw [← ht1] at z3 y3
            clear ht1
            have h3 : ¬ x ≤ x1 := by omega
            have d3 : decide ((x : Int) ≤ (x1 : Int)) = false := decide_eq_false (by omega)
            go_wp2_with fail
            go_quiet (fail)
            all_goals (
             go_wp2_with fail
             go_roundw
             case rel => exact ⟨t + 1, by omega, by omega, by go_num, zbh⟩
             case measure => simp [intOf]; omega)
          · have d2 : decide ((s0 : Int) < (t : Int)) = false := decide_eq_false (by omega)
            clear hX hI
            go_wp2_with fail
            go_quiet (fail)
            all_goals (
             go_wp2_with fail
             go_roundw
             case rel => exact ⟨t + 1, by omega, by omega, by go_num, zbh⟩
             case measure => simp [intOf]; omega)
        · go_wp2_with fail
          go_roundw
          case rel => exact ⟨j + 1, by omega, by go_num, zbh⟩
          case measure => simp [intOf]; omega
     · go_wp2_with fail
       refine (HF _).out.mono ?_; rintro o w3 ⟨rfl, b3⟩
       go_wp2_with fail
       go_ret
       exact ⟨rfl, zbh⟩
theorem rstored_any (w : World) [Tb w] (r c q : Nat) (_hr : r ≤ 64) (_hc : c ≤ 64) (hq : q ≤ 4096) (aS aI aV : Option Addr) (cS cI cV : Nat) (S I F : Nat → Nat) (i j : Nat) (hi : i < r) (hj : j < c) [hM : MX w r c aS cS aI q cI aV cV S I F] :
 Calls Tryz.prog 90 #[.agg #[.int .i64 r, .int .i64 c, .slice aS (c + 1) cS, .slice aI q cI, .slice aV q cV], .int .i64 i, .int .i64 j] w fun o w' => o = .returned (.bool (stv S I F i j)) ∧ Below w.heap.size w w' := by
 have l1 := hM.s.lim
 have l2 := hM.s.fits
 have l3 := hM.i.lim
 have l4 := hM.i.fits
 have l5 := hM.v.lim
 have l6 := hM.v.fits
 have y0 := hM.s.idx j (by omega)
 have y1 := hM.ix1 j hj
 haveI z0 := hM.ceS (t := j) (by omega)
 haveI z1 := hM.ceS (t := j + 1) (by omega)
 have hle := hM.ok.le (t := j + 1) (by omega)
 have hs0q := hM.ok.le (t := j) (by omega)
 have hst : stv S I F i j = (lk I F i (S j) (S (j + 1) - S j)).isSome := rfl
 obtain ⟨s1, hs1⟩ : ∃ s1, s1 = S (j + 1) := ⟨_, rfl⟩
 obtain ⟨s0, hs0⟩ : ∃ s0, s0 = S j := ⟨_, rfl⟩
 rw [← hs1] at z1 hle
 rw [← hs0] at z0 hs0q
 rw [← hs0, ← hs1] at hst
 have HST := Lib.hid hst
 clear hst
 clear hs0 hs1
 have ZZa := Lib.hid z0
 have ZZb := Lib.hid z1
 go_enter Tryz.func90, Tryz.ntmps90
 go_wp2_with fail
 obtain ⟨w0, hw0⟩ : ∃ w0, w0 = w.alloc (.cells #[.int .i64 r, .int .i64 c, .slice aS (c + 1) cS, .slice aI q cI, .slice aV q cV] 77) := ⟨_, rfl⟩
 haveI x0 : MX w0 r c aS cS aI q cI aV cV S I F := by rw [hw0]; infer_instance
 haveI x1 : Tb w0 := by rw [hw0]; infer_instance
 haveI x2 : N5 w0 w.heap.size (.int .i64 r) (.int .i64 c) (.slice aS (c + 1) cS) (.slice aI q cI) (.slice aV q cV) := by rw [hw0]; infer_instance
 haveI x3 : Beh w w0 := by rw [hw0]; infer_instance
 have x4 : Below w.heap.size w w0 := x3.out
 rw [← hw0]
 clear hw0
 have ZZ0 := Lib.hid (show CE w0 (ab aS) (ao aS + j) (.int .i64 ((s0 : Nat) : Int)) from ZZa.out.below x4)
 have ZZ1 := Lib.hid (show CE w0 (ab aS) (ao aS + (j + 1)) (.int .i64 ((s1 : Nat) : Int)) from ZZb.out.below x4)
 go_loopw [7] (fun x wr => ∃ t : Nat, s0 ≤ t ∧ t ≤ q ∧ x = .int .i64 t ∧ (∀ y, s0 ≤ y → y < t → I y ≠ i) ∧ Below w0.heap.size w0 wr) (fun x _ => q - (intOf x).toNat)
 case atStart => exact ⟨s0, Nat.le_refl _, hs0q, rfl, (fun y h1 h2 => absurd h2 (by omega)), zbh⟩
 case round =>
  obtain ⟨t, ht0, htq, rfl, hno, hbr⟩ := hrel
  have HNO := Lib.hid hno
  haveI bw : From w0 wr := ⟨hbr⟩
  haveI u0 := ZZ0.out
  haveI u1 := ZZ1.out
  clear hbr z0 z1 hno
  by_cases hlt : t < s1
  · have hX : MX wr r c aS cS aI q cI aV cV S I F := inferInstance
    have y2 := hX.i.idx t (by omega)
    haveI z2 := hX.ceI (t := t) (by omega)
    by_cases h1 : I t = i
    · have HL := Lib.hid (lk_hit (F := F) (n := s1 - s0) ht0 (by omega) HNO.out h1)
      have h2 : (I t : Int) = (i : Int) := by rw [h1]
      obtain ⟨x, hx⟩ : ∃ x : Int, x = (I t : Int) := ⟨_, rfl⟩
      have hq1 : (x == (i : Int)) = true := by rw [hx, h2]; simp
      rw [← hx] at z2
      clear hx hX h1 h2
      go_wp2_with fail
      go_ret
      exact ⟨by rw [HST.out, HL.out]; rfl, zbh⟩
    · have hno2 : ∀ y, s0 ≤ y → y < t + 1 → I y ≠ i := fun y h2 h3 => if e : y = t then by rw [e]; exact h1 else HNO.out y h2 (by omega)
      have HNO2 := Lib.hid hno2
      have h2 : (I t : Int) ≠ (i : Int) := fun e => h1 (by omega)
      obtain ⟨x, hx⟩ : ∃ x : Int, x = (I t : Int) := ⟨_, rfl⟩
      have hq1 : (x == (i : Int)) = false := by rw [beq_eq_false_iff_ne, hx]; exact h2
      rw [← hx] at z2 h2
      clear hx hX h1 hno2 h2
      go_wp2_with fail
      go_roundw
      case rel => exact ⟨t + 1, by omega, by omega, by go_num, HNO2.out, zbh⟩
      case measure => simp [intOf]; omega
  · have HL := Lib.hid (lk_none (F := F) (s1 - s0) fun y h1 h2 => HNO.out y h1 (by omega))
    go_wp2_with fail
    go_ret
    exact ⟨by rw [HST.out, HL.out]; rfl, zbh⟩
theorem rat9_any (w : World) [Tb w] (r c q : Nat) (hr : r ≤ 64) (hc : c ≤ 64) (hq : q ≤ 4096) (aS aI aV : Option Addr) (cS cI cV : Nat) (S I F : Nat → Nat) (i j : Nat) (_hi : i < r) (hj : j < c) [hM : MX w r c aS cS aI q cI aV cV S I F] :
 Calls Tryz.prog 87 #[.agg #[.int .i64 r, .int .i64 c, .slice aS (c + 1) cS, .slice aI q cI, .slice aV q cV], .int .i64 i, .int .i64 j] w fun o w' => o = .returned (.int .u64 ((atv S I F i j : Nat) : Int)) ∧ Below w.heap.size w w' := by
 have l1 := hM.s.lim
 have l2 := hM.s.fits
 have l3 := hM.i.lim
 have l4 := hM.i.fits
 have l5 := hM.v.lim
 have l6 := hM.v.fits
 have y0 := hM.s.idx j (by omega)
 have y1 := hM.ix1 j hj
 haveI z0 := hM.ceS (t := j) (by omega)
 haveI z1 := hM.ceS (t := j + 1) (by omega)
 have hle := hM.ok.le (t := j + 1) (by omega)
 have hs0q := hM.ok.le (t := j) (by omega)
 have hst : atv S I F i j = (lk I F i (S j) (S (j + 1) - S j)).getD 0 := rfl
 obtain ⟨s1, hs1⟩ : ∃ s1, s1 = S (j + 1) := ⟨_, rfl⟩
 obtain ⟨s0, hs0⟩ : ∃ s0, s0 = S j := ⟨_, rfl⟩
 rw [← hs1] at z1 hle
 rw [← hs0] at z0 hs0q
 rw [← hs0, ← hs1] at hst
 have HST := Lib.hid hst
 clear hst
 clear hs0 hs1
 have HC := fun W [Tb W] [k : MX W r c aS cS aI q cI aV cV S I F] => Lib.hid (frm (rmcheck_any W r c q hr hc hq aS aI aV cS cI cV S I F))
 have ZZa := Lib.hid z0
 have ZZb := Lib.hid z1
 go_enter Tryz.func87, Tryz.ntmps87
 go_wp2_with fail
 refine (HC _).out.mono ?_; rintro o w1 ⟨rfl, b1⟩
 go_wp2_with fail
 have x4 : Below w.heap.size w w1 := zbh
 haveI x0 : MX w1 r c aS cS aI q cI aV cV S I F := inferInstance
 haveI x1 : Tb w1 := inferInstance
 haveI x2 : N5 w1 w.heap.size (.int .i64 r) (.int .i64 c) (.slice aS (c + 1) cS) (.slice aI q cI) (.slice aV q cV) := inferInstance
 haveI x3 : Beh w w1 := inferInstance
 clear b1
 have ZZ0 := Lib.hid (show CE w1 (ab aS) (ao aS + j) (.int .i64 ((s0 : Nat) : Int)) from ZZa.out.below x4)
 have ZZ1 := Lib.hid (show CE w1 (ab aS) (ao aS + (j + 1)) (.int .i64 ((s1 : Nat) : Int)) from ZZb.out.below x4)
 go_loopw [7] (fun x wr => ∃ t : Nat, s0 ≤ t ∧ t ≤ q ∧ x = .int .i64 t ∧ (∀ y, s0 ≤ y → y < t → I y ≠ i) ∧ Below w1.heap.size w1 wr) (fun x _ => q - (intOf x).toNat)
 case atStart => exact ⟨s0, Nat.le_refl _, hs0q, rfl, (fun y h1 h2 => absurd h2 (by omega)), zbh⟩
 case round =>
  obtain ⟨t, ht0, htq, rfl, hno, hbr⟩ := hrel
  have HNO := Lib.hid hno
  haveI bw : From w1 wr := ⟨hbr⟩
  haveI u0 := ZZ0.out
  haveI u1 := ZZ1.out
  clear hbr z0 z1 hno
  by_cases hlt : t < s1
  · have hX : MX wr r c aS cS aI q cI aV cV S I F := inferInstance
    have y2 := hX.i.idx t (by omega)
    haveI z2 := hX.ceI (t := t) (by omega)
    have y3 := hX.v.idx t (by omega)
    haveI z3 := hX.ceV (t := t) (by omega)
    by_cases h1 : I t = i
    · have HL := Lib.hid (lk_hit (F := F) (n := s1 - s0) ht0 (by omega) HNO.out h1)
      have h2 : (I t : Int) = (i : Int) := by rw [h1]
      obtain ⟨x, hx⟩ : ∃ x : Int, x = (I t : Int) := ⟨_, rfl⟩
      have hq1 : (x == (i : Int)) = true := by rw [hx, h2]; simp
      rw [← hx] at z2
      clear hx hX h1 h2
      go_wp2_with fail
      go_ret
      exact ⟨by rw [HST.out, HL.out]; rfl, zbh⟩
    · have hno2 : ∀ y, s0 ≤ y → y < t + 1 → I y ≠ i := fun y h2 h3 => if e : y = t then by rw [e]; exact h1 else HNO.out y h2 (by omega)
      have HNO2 := Lib.hid hno2
      have h2 : (I t : Int) ≠ (i : Int) := fun e => h1 (by omega)
      obtain ⟨x, hx⟩ : ∃ x : Int, x = (I t : Int) := ⟨_, rfl⟩
      have hq1 : (x == (i : Int)) = false := by rw [beq_eq_false_iff_ne, hx]; exact h2
      rw [← hx] at z2 h2
      clear hx hX h1 hno2 h2
      go_wp2_with fail
      go_roundw
      case rel => exact ⟨t + 1, by omega, by omega, by go_num, HNO2.out, zbh⟩
      case measure => simp [intOf]; omega
  · have HL := Lib.hid (lk_none (F := F) (s1 - s0) fun y h1 h2 => HNO.out y h1 (by omega))
    go_wp2_with fail
    go_ret
    exact ⟨by rw [HST.out, HL.out]; rfl, zbh⟩
end Go.Proofs.YtablcbgeeeboeaaGreatDoor
namespace Go.Proofs.YtablcbgeeeboeaaGreatDoor
open Go.RowKit Sp
def dterm (B : Nat → Option (Int × Int)) (n : Nat) (V : Nat → Nat) (i j : Nat) : Nat → Option (Int × Int)
 | 0 => B (j * n + i)
 | c + 1 => dneg (dmul (fof (V (c * n + i))) (fof (V (c * n + j))))
def dleft (B : Nat → Option (Int × Int)) (n : Nat) (V : Nat → Nat) (i j m : Nat) : Option (Int × Int) := dsum (dterm B n V i j) (m + 1)
noncomputable def pval (B : Nat → Option (Int × Int)) (n : Nat) (V : Nat → Nat) (j i : Nat) : Nat :=
 if i = j then froot (dleft B n V j j j) 0 else fquo (dleft B n V i j j) (fof (froot (dleft B n V j j j) 0)) 0
noncomputable def pan (B : Nat → Option (Int × Int)) (n : Nat) : Nat → Nat → Nat
 | 0, _ => 0
 | j + 1, t => if t / n = j then (if t % n < j then 0 else pval B n (pan B n j) j (t % n)) else pan B n j t
noncomputable def panC (B : Nat → Option (Int × Int)) (n j i : Nat) (t : Nat) : Nat :=
 if t / n = j ∧ j ≤ t % n ∧ t % n < i then pval B n (pan B n j) j (t % n) else pan B n j t
noncomputable def ccode (B : Nat → Option (Int × Int)) (n j i : Nat) : Int :=
 if dbad (dleft B n (pan B n j) i j j) then 233
 else if i = j ∧ (dman (dleft B n (pan B n j) i j j) ≤ 0 ∨ fzero (pval B n (pan B n j) j i) = true) then 231
 else if ffin (pval B n (pan B n j) j i) then 0 else 233
def firstE (f : Nat → Int) (a : Nat) : Nat → Int
 | 0 => 0
 | q + 1 => if f a = 0 then firstE f (a + 1) q else f a
def firstAt (f : Nat → Int) (a : Nat) : Nat → Nat
 | 0 => a
 | q + 1 => if f a = 0 then firstAt f (a + 1) q else a
noncomputable def colE (B : Nat → Option (Int × Int)) (n j : Nat) : Int := firstE (ccode B n j) j (n - j)
noncomputable def eliE (B : Nat → Option (Int × Int)) (n k : Nat) : Int := firstE (colE B n) 0 k
noncomputable def eliAt (B : Nat → Option (Int × Int)) (n k : Nat) : Nat := firstAt (colE B n) 0 k
noncomputable def resE' (B : Nat → Option (Int × Int)) (n k j i : Nat) : Int := if dbad (dleft B n (pan B n k) i j k) then 233 else 0
noncomputable def conC (B : Nat → Option (Int × Int)) (n k j : Nat) : Int := firstE (resE' B n k j) j (n - j)
noncomputable def conE (B : Nat → Option (Int × Int)) (n k : Nat) : Int := firstE (conC B n k) k (n - k)
noncomputable def elimE (B : Nat → Option (Int × Int)) (n k : Nat) : Int := if eliE B n k = 0 then conE B n k else eliE B n k
noncomputable def elimK (B : Nat → Option (Int × Int)) (n k : Nat) : Nat := if elimE B n k = 0 then k else if eliE B n k = 231 then eliAt B n k else 0
noncomputable def rest (B : Nat → Option (Int × Int)) (n k t : Nat) : Option (Int × Int) :=
 dleft B n (pan B n k) (k + max (t / (n - k)) (t % (n - k))) (k + min (t / (n - k)) (t % (n - k))) k
theorem firstE_ok {f : Nat → Int} {a q : Nat} (h : f a = 0) (hq : 0 < q) : firstE f a q = firstE f (a + 1) (q - 1) := by
 obtain ⟨p, rfl⟩ : ∃ p, q = p + 1 := ⟨q - 1, by omega⟩
 simp only [firstE, h, if_true, Nat.add_sub_cancel]
theorem firstE_no {f : Nat → Int} {a q : Nat} (h : f a ≠ 0) (hq : 0 < q) : firstE f a q = f a := by
 obtain ⟨p, rfl⟩ : ∃ p, q = p + 1 := ⟨q - 1, by omega⟩
 simp only [firstE, if_neg h]
theorem firstAt_ok {f : Nat → Int} {a q : Nat} (h : f a = 0) (hq : 0 < q) : firstAt f a q = firstAt f (a + 1) (q - 1) := by
 obtain ⟨p, rfl⟩ : ∃ p, q = p + 1 := ⟨q - 1, by omega⟩
 simp only [firstAt, h, if_true, Nat.add_sub_cancel]
theorem firstAt_no {f : Nat → Int} {a q : Nat} (h : f a ≠ 0) (hq : 0 < q) : firstAt f a q = a := by
 obtain ⟨p, rfl⟩ : ∃ p, q = p + 1 := ⟨q - 1, by omega⟩
 simp only [firstAt, if_neg h]
theorem firstE_all {f : Nat → Int} : ∀ (q a : Nat), (∀ i, a ≤ i → i < a + q → f i = 0) → firstE f a q = 0 := by
 intro q
 induction q with
 | zero => intro a _; rfl
 | succ q ih =>
  intro a h
  simp only [firstE, h a (Nat.le_refl _) (by omega), if_true]
  exact ih (a + 1) fun i h1 h2 => h i (by omega) (by omega)
theorem idx_div {n j i : Nat} (hi : i < n) : (j * n + i) / n = j := by
 rw [Nat.mul_comm, Nat.mul_add_div (by omega), Nat.div_eq_of_lt hi, Nat.add_zero]
theorem idx_mod {n j i : Nat} (hi : i < n) : (j * n + i) % n = i := by
 rw [Nat.mul_comm, Nat.mul_add_mod, Nat.mod_eq_of_lt hi]
theorem idx_lt {n k j i : Nat} (hi : i < n) (hj : j < k) : j * n + i < n * k := by
 have h1 : (j + 1) * n ≤ k * n := Nat.mul_le_mul_right n hj
 rw [Nat.add_mul, Nat.one_mul] at h1
 rw [Nat.mul_comm n k]; omega
theorem idx_eq {n t : Nat} : t / n * n + t % n = t := by rw [Nat.mul_comm]; exact Nat.div_add_mod t n
theorem dterm_congr {B : Nat → Option (Int × Int)} {n : Nat} {V V' : Nat → Nat} {i j m : Nat} (h : ∀ c, c < m → V (c * n + i) = V' (c * n + i) ∧ V (c * n + j) = V' (c * n + j)) :
 ∀ q, q < m + 1 → dterm B n V i j q = dterm B n V' i j q := by
 intro q hq
 cases q with
 | zero => rfl
 | succ c => simp only [dterm, (h c (by omega)).1, (h c (by omega)).2]
theorem mnE_congr {d d' : Nat → Option (Int × Int)} {n : Nat} (h : ∀ i, i < n → d i = d' i) : mnE d n = mnE d' n := by
 induction n with
 | zero => rfl
 | succ n ih => simp only [mnE]; rw [ih fun i hi => h i (by omega), h n (by omega)]
theorem anyBad_congr {d d' : Nat → Option (Int × Int)} {n : Nat} (h : ∀ i, i < n → d i = d' i) : anyBad d n = anyBad d' n := by
 induction n with
 | zero => rfl
 | succ n ih => simp only [anyBad]; rw [ih fun i hi => h i (by omega), h n (by omega)]
theorem dsum_congr {d d' : Nat → Option (Int × Int)} {n : Nat} (h : ∀ i, i < n → d i = d' i) : dsum d n = dsum d' n := by
 unfold dsum; rw [anyBad_congr h, mnE_congr h, smE_congr h]
theorem dleft_congr {B : Nat → Option (Int × Int)} {n : Nat} {V V' : Nat → Nat} {i j m : Nat} (h : ∀ c, c < m → V (c * n + i) = V' (c * n + i) ∧ V (c * n + j) = V' (c * n + j)) :
 dleft B n V i j m = dleft B n V' i j m := dsum_congr (dterm_congr h)
theorem isN_dleft (B : Nat → Option (Int × Int)) (n : Nat) (V : Nat → Nat) (i j m : Nat) : IsN (dleft B n V i j m) := by
 unfold dleft dsum
 split
 · exact isN_none
 · exact isN_nrm _ _
theorem isN_dterm {B : Nat → Option (Int × Int)} (hB : ∀ t, IsN (B t)) (n : Nat) (V : Nat → Nat) (i j q : Nat) : IsN (dterm B n V i j q) := by
 cases q with
 | zero => exact hB _
 | succ c => exact isN_neg (isN_mul _ _)
theorem dleft_panC {B : Nat → Option (Int × Int)} {n j r i m : Nat} (hi : i < n) (hj : j < n) : dleft B n (panC B n m r) i j m = dleft B n (pan B n m) i j m :=
 dleft_congr fun c hc => by
  unfold panC
  rw [if_neg (by rw [idx_div hi]; omega), if_neg (by rw [idx_div hj]; omega)]
  exact ⟨rfl, rfl⟩
theorem pan_ge {B : Nat → Option (Int × Int)} {n : Nat} : ∀ (j t : Nat), j ≤ t / n → pan B n j t = 0 := by
 intro j
 induction j with
 | zero => intro t _; rfl
 | succ j ih => intro t h; simp only [pan]; rw [if_neg (by omega)]; exact ih t (by omega)
theorem panC_first {B : Nat → Option (Int × Int)} {n j i : Nat} (h : i ≤ j) : panC B n j i = pan B n j := by
 funext t; unfold panC; rw [if_neg (by omega)]
theorem panC_last {B : Nat → Option (Int × Int)} {n j : Nat} (hn : 0 < n) : panC B n j n = pan B n (j + 1) := by
 funext t
 unfold panC
 simp only [pan]
 have := Nat.mod_lt t hn
 by_cases h1 : t / n = j
 · by_cases h2 : j ≤ t % n
   · rw [if_pos ⟨h1, h2, this⟩, if_pos h1, if_neg (by omega)]
   · rw [if_neg (by omega), if_pos h1, if_pos (by omega)]; exact pan_ge j t (by omega)
 · rw [if_neg (by omega), if_neg h1]
theorem panC_step {B : Nat → Option (Int × Int)} {n j i : Nat} (hi : i < n) (hj : j ≤ i) :
 (fun t => if t = j * n + i then pval B n (pan B n j) j i else panC B n j i t) = panC B n j (i + 1) := by
 funext t
 have e := @idx_eq n t
 unfold panC
 by_cases h : t = j * n + i
 · subst h; rw [if_pos rfl, idx_div hi, idx_mod hi, if_pos (by omega)]
 · rw [if_neg h]
   by_cases h1 : t / n = j ∧ t % n = i
   · exact absurd (by rw [← e, h1.1, h1.2]) h
   · by_cases h2 : t / n = j ∧ j ≤ t % n ∧ t % n < i
     · rw [if_pos h2, if_pos ⟨h2.1, h2.2.1, by omega⟩]
     · rw [if_neg h2, if_neg (fun h3 => h2 ⟨h3.1, h3.2.1, by omega⟩)]
theorem panC_piv {B : Nat → Option (Int × Int)} {n j i : Nat} (hj : j < n) (hi : j < i) : panC B n j i (j * n + j) = froot (dleft B n (pan B n j) j j j) 0 := by
 unfold panC
 rw [idx_div hj, idx_mod hj, if_pos ⟨rfl, by omega, by omega⟩]
 unfold pval; rw [if_pos rfl]
theorem fquo_bad (d : Option (Int × Int)) (m : Int) : ffin (fquo none d m) = false := by
 have : fquo none d m = fNaN := by cases d <;> rfl
 rw [this]; decide
end Go.Proofs.YtablcbgeeeboeaaGreatDoor
