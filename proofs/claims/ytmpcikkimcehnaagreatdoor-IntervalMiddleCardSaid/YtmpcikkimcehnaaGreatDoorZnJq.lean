/-
  Walks: the law IntervalMiddle.
-/
import Derived.Test.YtmpcikkimcehnaaGreatDoorZnD
namespace Go.Proofs.YtmpcikkimcehnaaGreatDoor
open Go.RowKit Sp
set_option linter.unusedSimpArgs false
attribute [local irreducible] Calls
theorem irad_lt {x : Nat × Nat} : irad x < 18446744073709551616 := by
  unfold irad
  repeat' split
  · decide
  · decide
  · exact fmax2_lt (fround_lt' _ _) (fround_lt' _ _)
set_option maxRecDepth 100000 in
set_option maxHeartbeats 40000000 in
theorem middle_bad (w : World) (hT : Tab w) (a : Nat) (b : Nat) (f : Nat) (ha : a < 18446744073709551616) (hb : b < 18446744073709551616) (_hf : f < 18446744073709551616) (h : iok (a, b) = false) : Calls Tryz.prog 15 #[.agg #[.int .u64 (a : Nat), .int .u64 (b : Nat)], .int .u64 (f : Nat)] w fun o w' => o = .returned (.bool true) ∧ Below w.heap.size w w' := by
  have HT : Tb w := ⟨hT⟩
  have HV := fun W => Lib.hid (frm (r5valid_any W a b ha hb))
  have HM := fun W [Tb W] => Lib.hid (frm (imid_any W tb a b ha hb))
  have HR := fun W [Tb W] => Lib.hid (frm (irad_any W tb a b ha hb))
  have HW := fun W [Tb W] => Lib.hid (frm (awakeI_any W))
  rw [h] at HV
  have e1 : imid (a, b) = 9221120237041090560 := by unfold imid; rw [h]; rfl
  have e2 : irad (a, b) = 9221120237041090560 := by unfold irad; rw [h]; rfl
  have HM := fun W [Tb W] => Lib.hid (show Calls Tryz.prog 105 #[.agg #[.int .u64 (a : Nat), .int .u64 (b : Nat)]] W fun e w' => e = .returned (.int .u64 9221120237041090560) ∧ From W w' from by have := (HM W).out; rw [e1] at this; exact this)
  have HR := fun W [Tb W] => Lib.hid (show Calls Tryz.prog 106 #[.agg #[.int .u64 (a : Nat), .int .u64 (b : Nat)]] W fun e w' => e = .returned (.int .u64 9221120237041090560) ∧ From W w' from by have := (HR W).out; rw [e2] at this; exact this)
  clear e1 e2 h
  generalize ((a : Nat) : Int) = p at *
  generalize ((b : Nat) : Int) = q at *
  generalize ((f : Nat) : Int) = z at *
  go_enter Tryz.func15, Tryz.ntmps15
  go_wp2_with fail
  refine (HV _ ).out.mono ?_
  rintro o w1 ⟨rfl, b1⟩
  go_wp2_with fail
  refine (HM _ ).out.mono ?_
  rintro o w2 ⟨rfl, b2⟩
  go_wp2_with fail
  refine (HR _ ).out.mono ?_
  rintro o w3 ⟨rfl, b3⟩
  go_wp2_with fail
  refine (HW _ ).out.mono ?_
  rintro o w4 ⟨rfl, b4⟩
  go_wp2_with fail
  go_ret
  exact ⟨rfl, zbh⟩
set_option maxRecDepth 100000 in
set_option maxHeartbeats 40000000 in
theorem middle_ft (w : World) (hT : Tab w) (a : Nat) (b : Nat) (f : Nat) (ha : a < 18446744073709551616) (hb : b < 18446744073709551616) (hf : f < 18446744073709551616) (h : iok (a, b) = true) (hr : ffin (irad (a, b)) = true) (hw : iwithin f (a, b) = true) : Calls Tryz.prog 15 #[.agg #[.int .u64 (a : Nat), .int .u64 (b : Nat)], .int .u64 (f : Nat)] w fun o w' => o = .returned (.bool true) ∧ Below w.heap.size w w' := by
  have HT : Tb w := ⟨hT⟩
  obtain ⟨L1, L2, L3⟩ := middle_law (x := (a, b)) (show Lt64 (a, b) from ⟨ha, hb⟩) h f
  have HV := fun W => Lib.hid (frm (r5valid_any W a b ha hb))
  have HM := fun W [Tb W] => Lib.hid (frm (imid_any W tb a b ha hb))
  have HR := fun W [Tb W] => Lib.hid (frm (irad_any W tb a b ha hb))
  have HW := fun W [Tb W] => Lib.hid (frm (awakeI_any W))
  rw [h] at HV
  have HO := fun W [Tb W] => Lib.hid (frd (isN_fof (imid (a, b))) (fof_any W (imid (a, b)) imid_lt tb))
  have HC := fun W a1 c1 [i1 : DIv W (fof (imid (a, b))) a1 c1] [Tb W] => Lib.hid (frm (icont_any W tb a b ha hb _ _ a1 _ c1 _ (fof (imid (a, b))) i1.out))
  rw [show icont (a, b) (fof (imid (a, b))) = true from L1] at HC
  have HI := fun W => Lib.hid (ffin_any W (irad (a, b)))
  rw [hr] at HI
  have HB := fun W [Tb W] => Lib.hid (frm (within_any W f a b hf ha hb))
  rw [hw] at HB
  have HQ := fun W [Tb W] => Lib.hid (frd (isN_fof (irad (a, b))) (fof_any W (irad (a, b)) irad_lt tb))
  have HS := fun W a1 c1 a2 c2 [i1 : DIv W (fof (imid (a, b))) a1 c1] [i2 : DIv W (fof (irad (a, b))) a2 c2] [Tb W] => Lib.hid (frd (show IsN (dsub (fof (imid (a, b))) (fof (irad (a, b)))) from isN_add _ _) (dsub_any W _ _ _ _ _ _ _ _ _ _ _ _ (fof (imid (a, b))) (fof (irad (a, b))) i1.out i2.out tb))
  have HA := fun W a1 c1 a2 c2 [i1 : DIv W (fof (imid (a, b))) a1 c1] [i2 : DIv W (fof (irad (a, b))) a2 c2] [Tb W] => Lib.hid (frd (show IsN (dadd (fof (imid (a, b))) (fof (irad (a, b)))) from isN_add _ _) (dadd_any W _ _ _ _ _ _ _ _ _ _ _ _ (fof (imid (a, b))) (fof (irad (a, b))) i1.out i2.out tb))
  have HL := fun W [Tb W] => Lib.hid (frd (isN_fof a) (fof_any W a ha tb))
  have HU := fun W [Tb W] => Lib.hid (frd (isN_fof b) (fof_any W b hb tb))
  obtain ⟨⟨p1, p2, p3⟩, p4, p5, p6⟩ := L2 hr
  have HX := fun W a1 c1 a2 c2 [i1 : DIv W (dsub (fof (imid (a, b))) (fof (irad (a, b)))) a1 c1] [i2 : DIv W (fof a) a2 c2] [Tb W] => Lib.hid (show Calls Tryz.prog 57 #[_, _] W fun e w' => e = .returned (.tuple #[.int .i64 (dcmp (dsub (fof (imid (a, b))) (fof (irad (a, b)))) (fof a)), .bool true]) ∧ From W w' from by
    have := frm (dcmp_any W _ _ _ _ _ _ _ _ _ _ _ _ (dsub (fof (imid (a, b))) (fof (irad (a, b)))) (fof a) i1.out i2.out tb)
    rwa [show (!dbad (dsub (fof (imid (a, b))) (fof (irad (a, b)))) && !dbad (fof a)) = true from by rw [show dbad (dsub (fof (imid (a, b))) (fof (irad (a, b)))) = false from p1, p2]; rfl] at this)
  have HY := fun W a1 c1 a2 c2 [i1 : DIv W (fof b) a1 c1] [i2 : DIv W (dadd (fof (imid (a, b))) (fof (irad (a, b)))) a2 c2] [Tb W] => Lib.hid (show Calls Tryz.prog 57 #[_, _] W fun e w' => e = .returned (.tuple #[.int .i64 (dcmp (fof b) (dadd (fof (imid (a, b))) (fof (irad (a, b))))), .bool true]) ∧ From W w' from by
    have := frm (dcmp_any W _ _ _ _ _ _ _ _ _ _ _ _ (fof b) (dadd (fof (imid (a, b))) (fof (irad (a, b)))) i1.out i2.out tb)
    rwa [show (!dbad (fof b) && !dbad (dadd (fof (imid (a, b))) (fof (irad (a, b))))) = true from by rw [p4, p5]; rfl] at this)
  have q3 : ¬ 0 < dcmp (dsub (fof (imid (a, b))) (fof (irad (a, b)))) (fof a) := by have : dcmp (dsub (fof (imid (a, b))) (fof (irad (a, b)))) (fof a) ≤ 0 := p3; omega
  have q6 : ¬ 0 < dcmp (fof b) (dadd (fof (imid (a, b))) (fof (irad (a, b)))) := by have : dcmp (fof b) (dadd (fof (imid (a, b))) (fof (irad (a, b)))) ≤ 0 := p6; omega
  clear p1 p2 p3 p4 p5 p6
  generalize dcmp (dsub (fof (imid (a, b))) (fof (irad (a, b)))) (fof a) = y1 at *
  generalize dcmp (fof b) (dadd (fof (imid (a, b))) (fof (irad (a, b)))) = y2 at *
  have L3 := L3 hw
  have HF := fun W => Lib.hid (frm (fabs_any W f hf))
  have HG := fun W => Lib.hid (frm (imag_any W a b ha hb))
  have HE := fun W => Lib.hid (frm (imig_any W a b ha hb))
  have HJ := fun W => Lib.hid (frm (fcmp_any W (fabs f) (imag (a, b)) (fabs_lt64 f) imag_lt))
  have HK := fun W => Lib.hid (frm (fcmp_any W (imig (a, b)) (fabs f) imig_lt (fabs_lt64 f)))
  generalize fcmpv (fabs f) (imag (a, b)) = y3 at *
  generalize fcmpv (imig (a, b)) (fabs f) = y4 at *
  generalize fcmpok (fabs f) (imag (a, b)) = y5 at *
  generalize fcmpok (imig (a, b)) (fabs f) = y6 at *
  obtain ⟨q1, q2⟩ := L3
  clear L1 L2 h hr hw
  generalize hd1 : dsub (fof (imid (a, b))) (fof (irad (a, b))) = e1 at *
  generalize hd2 : dadd (fof (imid (a, b))) (fof (irad (a, b))) = e2 at *
  clear hd1 hd2
  generalize fof (irad (a, b)) = dr at *
  generalize fof a = d3 at *
  generalize fof b = d4 at *
  generalize fof (imid (a, b)) = dm at *
  generalize (((imid (a, b)) : Nat) : Int) = mm at *
  generalize (((irad (a, b)) : Nat) : Int) = rr at *
  generalize ((fabs f : Nat) : Int) = z1 at *
  generalize ((imag (a, b) : Nat) : Int) = z2 at *
  generalize ((imig (a, b) : Nat) : Int) = z3 at *
  generalize ((a : Nat) : Int) = p at *
  generalize ((b : Nat) : Int) = q at *
  generalize ((f : Nat) : Int) = z at *
  go_enter Tryz.func15, Tryz.ntmps15
  go_wp2_with fail
  refine (HV _ ).out.mono ?_
  rintro o w1 ⟨rfl, b1⟩
  go_wp2_with fail
  first
  | go_region_held3 (fun w' => w'.cell? ⟨w.heap.size, 0, none⟩ = some (.int .u64 p) ∧ w'.cell? ⟨w.heap.size, 1, none⟩ = some (.int .u64 q)) (first | (go_simp; done))
      (first
        | (go_at_call 105; refine (HM _ ).out.mono ?_; rintro o w2 ⟨rfl, b2⟩)
        | (go_at_call 106; refine (HR _ ).out.mono ?_; rintro o w3 ⟨rfl, b3⟩)
        | fail)
  | fail "region"
  all_goals (
    go_wp2_with fail
    first
    | go_region_held3 (fun w' => w'.cell? ⟨w.heap.size, 0, none⟩ = some (.int .u64 p) ∧ w'.cell? ⟨w.heap.size, 1, none⟩ = some (.int .u64 q)) (first | (go_simp; done))
    (first
    | (go_at_call 41; refine (HO _).out.mono ?_; rintro o w4 ⟨a4, c4, rfl, i4, b4⟩)
    | (go_at_call 107; refine (HC _ _ _ ).out.mono ?_; rintro o w5 ⟨rfl, b5⟩)
    | fail)
    | fail "region"
    all_goals (
    go_wp2_with fail
    refine (HI _).out.mono ?_
    rintro o w6 ⟨rfl, rfl⟩
    go_wp2_with fail
    refine (HO _ ).out.mono ?_
    rintro o w7 ⟨a7, c7, rfl, i7, b7⟩
    go_wp2_with fail
    refine (HQ _ ).out.mono ?_
    rintro o w8 ⟨a8, c8, rfl, i8, b8⟩
    go_wp2_with fail
    refine (HS _ _ _ _ _ ).out.mono ?_
    rintro o w9 ⟨a9, c9, rfl, i9, b9⟩
    go_wp2_with fail
    refine (HO _ ).out.mono ?_
    rintro o w10 ⟨a10, c10, rfl, i10, b10⟩
    go_wp2_with fail
    refine (HQ _ ).out.mono ?_
    rintro o w11 ⟨a11, c11, rfl, i11, b11⟩
    go_wp2_with fail
    refine (HA _ _ _ _ _ ).out.mono ?_
    rintro o w12 ⟨a12, c12, rfl, i12, b12⟩
    go_wp2_with fail
    first
    | go_region_held3 (fun w' => w'.cell? ⟨w.heap.size, 0, none⟩ = some (.int .u64 p) ∧ w'.cell? ⟨w.heap.size, 1, none⟩ = some (.int .u64 q) ∧ w'.cell? ⟨w12.heap.size, 0, none⟩ = some (.bool (dbad e1)) ∧ w'.cell? ⟨w12.heap.size, 1, none⟩ = some (.bool (decide (dman e1 < 0))) ∧ w'.cell? ⟨w12.heap.size, 2, none⟩ = some (.slice a9 (nl (dman e1).natAbs) c9) ∧ w'.cell? ⟨w12.heap.size, 3, none⟩ = some (.int .i64 (dexp e1)) ∧ w'.cell? ⟨w12.heap.size + 1, 0, none⟩ = some (.bool (dbad e2)) ∧ w'.cell? ⟨w12.heap.size + 1, 1, none⟩ = some (.bool (decide (dman e2 < 0))) ∧ w'.cell? ⟨w12.heap.size + 1, 2, none⟩ = some (.slice a12 (nl (dman e2).natAbs) c12) ∧ w'.cell? ⟨w12.heap.size + 1, 3, none⟩ = some (.int .i64 (dexp e2))) (first | (go_simp; done))
    (first
    | (go_at_call 41; refine (HL _).out.mono ?_; rintro o w13 ⟨a13, c13, rfl, i13, b13⟩)
    | (go_at_call 57; refine (HX _ _ _ _ _ ).out.mono ?_; rintro o w14 ⟨rfl, b14⟩)
    | fail)
    | fail "region"
    all_goals (
    go_wp2_with fail
    first
    | go_region_held3 (fun w' => w'.cell? ⟨w.heap.size, 0, none⟩ = some (.int .u64 p) ∧ w'.cell? ⟨w.heap.size, 1, none⟩ = some (.int .u64 q) ∧ w'.cell? ⟨w12.heap.size, 0, none⟩ = some (.bool (dbad e1)) ∧ w'.cell? ⟨w12.heap.size, 1, none⟩ = some (.bool (decide (dman e1 < 0))) ∧ w'.cell? ⟨w12.heap.size, 2, none⟩ = some (.slice a9 (nl (dman e1).natAbs) c9) ∧ w'.cell? ⟨w12.heap.size, 3, none⟩ = some (.int .i64 (dexp e1)) ∧ w'.cell? ⟨w12.heap.size + 1, 0, none⟩ = some (.bool (dbad e2)) ∧ w'.cell? ⟨w12.heap.size + 1, 1, none⟩ = some (.bool (decide (dman e2 < 0))) ∧ w'.cell? ⟨w12.heap.size + 1, 2, none⟩ = some (.slice a12 (nl (dman e2).natAbs) c12) ∧ w'.cell? ⟨w12.heap.size + 1, 3, none⟩ = some (.int .i64 (dexp e2))) (first | (go_simp; done))
    (first
    | (go_at_call 41; refine (HU _).out.mono ?_; rintro o w15 ⟨a15, c15, rfl, i15, b15⟩)
    | (go_at_call 57; refine (HY _ _ _ _ _ ).out.mono ?_; rintro o w16 ⟨rfl, b16⟩)
    | fail)
    | fail "region"
    all_goals (
    go_wp2_with fail
    refine (HB _).out.mono ?_
    rintro o w17 ⟨rfl, b17⟩
    go_wp2_with fail
    first
    | go_region_held3 (fun w' => w'.cell? ⟨w.heap.size, 0, none⟩ = some (.int .u64 p) ∧ w'.cell? ⟨w.heap.size, 1, none⟩ = some (.int .u64 q)) (first | (go_simp; done))
    (first
    | (go_at_call 84; refine (HF _ ).out.mono ?_; rintro o w18 ⟨rfl, b18⟩)
    | (go_at_call 109; refine (HG _ ).out.mono ?_; rintro o w19 ⟨rfl, b19⟩)
    | (go_at_call 77; refine (HJ _ ).out.mono ?_; rintro o w20 ⟨rfl, b20⟩)
    | fail)
    | fail "region"
    all_goals (
    go_wp2_with fail
    refine (HE _ ).out.mono ?_
    rintro o w21 ⟨rfl, b21⟩
    go_wp2_with fail
    refine (HF _ ).out.mono ?_
    rintro o w22 ⟨rfl, b22⟩
    go_wp2_with fail
    refine (HK _ ).out.mono ?_
    rintro o w23 ⟨rfl, b23⟩
    go_wp2_with fail
    refine (HW _ ).out.mono ?_
    rintro o w24 ⟨rfl, b24⟩
    go_wp2_with fail
    go_ret
    first | exact ⟨rfl, zbh⟩ | (refine ⟨?_, zbh⟩; simp [*]))))))
set_option maxRecDepth 100000 in
set_option maxHeartbeats 40000000 in
theorem middle_ff (w : World) (hT : Tab w) (a : Nat) (b : Nat) (f : Nat) (ha : a < 18446744073709551616) (hb : b < 18446744073709551616) (hf : f < 18446744073709551616) (h : iok (a, b) = true) (hr : ffin (irad (a, b)) = true) (hw : iwithin f (a, b) = false) : Calls Tryz.prog 15 #[.agg #[.int .u64 (a : Nat), .int .u64 (b : Nat)], .int .u64 (f : Nat)] w fun o w' => o = .returned (.bool true) ∧ Below w.heap.size w w' := by
  have HT : Tb w := ⟨hT⟩
  obtain ⟨L1, L2, L3⟩ := middle_law (x := (a, b)) (show Lt64 (a, b) from ⟨ha, hb⟩) h f
  have HV := fun W => Lib.hid (frm (r5valid_any W a b ha hb))
  have HM := fun W [Tb W] => Lib.hid (frm (imid_any W tb a b ha hb))
  have HR := fun W [Tb W] => Lib.hid (frm (irad_any W tb a b ha hb))
  have HW := fun W [Tb W] => Lib.hid (frm (awakeI_any W))
  rw [h] at HV
  have HO := fun W [Tb W] => Lib.hid (frd (isN_fof (imid (a, b))) (fof_any W (imid (a, b)) imid_lt tb))
  have HC := fun W a1 c1 [i1 : DIv W (fof (imid (a, b))) a1 c1] [Tb W] => Lib.hid (frm (icont_any W tb a b ha hb _ _ a1 _ c1 _ (fof (imid (a, b))) i1.out))
  rw [show icont (a, b) (fof (imid (a, b))) = true from L1] at HC
  have HI := fun W => Lib.hid (ffin_any W (irad (a, b)))
  rw [hr] at HI
  have HB := fun W [Tb W] => Lib.hid (frm (within_any W f a b hf ha hb))
  rw [hw] at HB
  have HQ := fun W [Tb W] => Lib.hid (frd (isN_fof (irad (a, b))) (fof_any W (irad (a, b)) irad_lt tb))
  have HS := fun W a1 c1 a2 c2 [i1 : DIv W (fof (imid (a, b))) a1 c1] [i2 : DIv W (fof (irad (a, b))) a2 c2] [Tb W] => Lib.hid (frd (show IsN (dsub (fof (imid (a, b))) (fof (irad (a, b)))) from isN_add _ _) (dsub_any W _ _ _ _ _ _ _ _ _ _ _ _ (fof (imid (a, b))) (fof (irad (a, b))) i1.out i2.out tb))
  have HA := fun W a1 c1 a2 c2 [i1 : DIv W (fof (imid (a, b))) a1 c1] [i2 : DIv W (fof (irad (a, b))) a2 c2] [Tb W] => Lib.hid (frd (show IsN (dadd (fof (imid (a, b))) (fof (irad (a, b)))) from isN_add _ _) (dadd_any W _ _ _ _ _ _ _ _ _ _ _ _ (fof (imid (a, b))) (fof (irad (a, b))) i1.out i2.out tb))
  have HL := fun W [Tb W] => Lib.hid (frd (isN_fof a) (fof_any W a ha tb))
  have HU := fun W [Tb W] => Lib.hid (frd (isN_fof b) (fof_any W b hb tb))
  obtain ⟨⟨p1, p2, p3⟩, p4, p5, p6⟩ := L2 hr
  have HX := fun W a1 c1 a2 c2 [i1 : DIv W (dsub (fof (imid (a, b))) (fof (irad (a, b)))) a1 c1] [i2 : DIv W (fof a) a2 c2] [Tb W] => Lib.hid (show Calls Tryz.prog 57 #[_, _] W fun e w' => e = .returned (.tuple #[.int .i64 (dcmp (dsub (fof (imid (a, b))) (fof (irad (a, b)))) (fof a)), .bool true]) ∧ From W w' from by
    have := frm (dcmp_any W _ _ _ _ _ _ _ _ _ _ _ _ (dsub (fof (imid (a, b))) (fof (irad (a, b)))) (fof a) i1.out i2.out tb)
    rwa [show (!dbad (dsub (fof (imid (a, b))) (fof (irad (a, b)))) && !dbad (fof a)) = true from by rw [show dbad (dsub (fof (imid (a, b))) (fof (irad (a, b)))) = false from p1, p2]; rfl] at this)
  have HY := fun W a1 c1 a2 c2 [i1 : DIv W (fof b) a1 c1] [i2 : DIv W (dadd (fof (imid (a, b))) (fof (irad (a, b)))) a2 c2] [Tb W] => Lib.hid (show Calls Tryz.prog 57 #[_, _] W fun e w' => e = .returned (.tuple #[.int .i64 (dcmp (fof b) (dadd (fof (imid (a, b))) (fof (irad (a, b))))), .bool true]) ∧ From W w' from by
    have := frm (dcmp_any W _ _ _ _ _ _ _ _ _ _ _ _ (fof b) (dadd (fof (imid (a, b))) (fof (irad (a, b)))) i1.out i2.out tb)
    rwa [show (!dbad (fof b) && !dbad (dadd (fof (imid (a, b))) (fof (irad (a, b))))) = true from by rw [p4, p5]; rfl] at this)
  have q3 : ¬ 0 < dcmp (dsub (fof (imid (a, b))) (fof (irad (a, b)))) (fof a) := by have : dcmp (dsub (fof (imid (a, b))) (fof (irad (a, b)))) (fof a) ≤ 0 := p3; omega
  have q6 : ¬ 0 < dcmp (fof b) (dadd (fof (imid (a, b))) (fof (irad (a, b)))) := by have : dcmp (fof b) (dadd (fof (imid (a, b))) (fof (irad (a, b)))) ≤ 0 := p6; omega
  clear p1 p2 p3 p4 p5 p6
  generalize dcmp (dsub (fof (imid (a, b))) (fof (irad (a, b)))) (fof a) = y1 at *
  generalize dcmp (fof b) (dadd (fof (imid (a, b))) (fof (irad (a, b)))) = y2 at *
  clear L1 L2 h hr hw L3
  generalize hd1 : dsub (fof (imid (a, b))) (fof (irad (a, b))) = e1 at *
  generalize hd2 : dadd (fof (imid (a, b))) (fof (irad (a, b))) = e2 at *
  clear hd1 hd2
  generalize fof (irad (a, b)) = dr at *
  generalize fof a = d3 at *
  generalize fof b = d4 at *
  generalize fof (imid (a, b)) = dm at *
  generalize (((imid (a, b)) : Nat) : Int) = mm at *
  generalize (((irad (a, b)) : Nat) : Int) = rr at *
  generalize ((a : Nat) : Int) = p at *
  generalize ((b : Nat) : Int) = q at *
  generalize ((f : Nat) : Int) = z at *
  go_enter Tryz.func15, Tryz.ntmps15
  go_wp2_with fail
  refine (HV _ ).out.mono ?_
  rintro o w1 ⟨rfl, b1⟩
  go_wp2_with fail
  first
  | go_region_held3 (fun w' => w'.cell? ⟨w.heap.size, 0, none⟩ = some (.int .u64 p) ∧ w'.cell? ⟨w.heap.size, 1, none⟩ = some (.int .u64 q)) (first | (go_simp; done))
      (first
        | (go_at_call 105; refine (HM _ ).out.mono ?_; rintro o w2 ⟨rfl, b2⟩)
        | (go_at_call 106; refine (HR _ ).out.mono ?_; rintro o w3 ⟨rfl, b3⟩)
        | fail)
  | fail "region"
  all_goals (
    go_wp2_with fail
    first
    | go_region_held3 (fun w' => w'.cell? ⟨w.heap.size, 0, none⟩ = some (.int .u64 p) ∧ w'.cell? ⟨w.heap.size, 1, none⟩ = some (.int .u64 q)) (first | (go_simp; done))
    (first
    | (go_at_call 41; refine (HO _).out.mono ?_; rintro o w4 ⟨a4, c4, rfl, i4, b4⟩)
    | (go_at_call 107; refine (HC _ _ _ ).out.mono ?_; rintro o w5 ⟨rfl, b5⟩)
    | fail)
    | fail "region"
    all_goals (
    go_wp2_with fail
    refine (HI _).out.mono ?_
    rintro o w6 ⟨rfl, rfl⟩
    go_wp2_with fail
    refine (HO _ ).out.mono ?_
    rintro o w7 ⟨a7, c7, rfl, i7, b7⟩
    go_wp2_with fail
    refine (HQ _ ).out.mono ?_
    rintro o w8 ⟨a8, c8, rfl, i8, b8⟩
    go_wp2_with fail
    refine (HS _ _ _ _ _ ).out.mono ?_
    rintro o w9 ⟨a9, c9, rfl, i9, b9⟩
    go_wp2_with fail
    refine (HO _ ).out.mono ?_
    rintro o w10 ⟨a10, c10, rfl, i10, b10⟩
    go_wp2_with fail
    refine (HQ _ ).out.mono ?_
    rintro o w11 ⟨a11, c11, rfl, i11, b11⟩
    go_wp2_with fail
    refine (HA _ _ _ _ _ ).out.mono ?_
    rintro o w12 ⟨a12, c12, rfl, i12, b12⟩
    go_wp2_with fail
    first
    | go_region_held3 (fun w' => w'.cell? ⟨w.heap.size, 0, none⟩ = some (.int .u64 p) ∧ w'.cell? ⟨w.heap.size, 1, none⟩ = some (.int .u64 q) ∧ w'.cell? ⟨w12.heap.size, 0, none⟩ = some (.bool (dbad e1)) ∧ w'.cell? ⟨w12.heap.size, 1, none⟩ = some (.bool (decide (dman e1 < 0))) ∧ w'.cell? ⟨w12.heap.size, 2, none⟩ = some (.slice a9 (nl (dman e1).natAbs) c9) ∧ w'.cell? ⟨w12.heap.size, 3, none⟩ = some (.int .i64 (dexp e1)) ∧ w'.cell? ⟨w12.heap.size + 1, 0, none⟩ = some (.bool (dbad e2)) ∧ w'.cell? ⟨w12.heap.size + 1, 1, none⟩ = some (.bool (decide (dman e2 < 0))) ∧ w'.cell? ⟨w12.heap.size + 1, 2, none⟩ = some (.slice a12 (nl (dman e2).natAbs) c12) ∧ w'.cell? ⟨w12.heap.size + 1, 3, none⟩ = some (.int .i64 (dexp e2))) (first | (go_simp; done))
    (first
    | (go_at_call 41; refine (HL _).out.mono ?_; rintro o w13 ⟨a13, c13, rfl, i13, b13⟩)
    | (go_at_call 57; refine (HX _ _ _ _ _ ).out.mono ?_; rintro o w14 ⟨rfl, b14⟩)
    | fail)
    | fail "region"
    all_goals (
    go_wp2_with fail
    first
    | go_region_held3 (fun w' => w'.cell? ⟨w.heap.size, 0, none⟩ = some (.int .u64 p) ∧ w'.cell? ⟨w.heap.size, 1, none⟩ = some (.int .u64 q) ∧ w'.cell? ⟨w12.heap.size, 0, none⟩ = some (.bool (dbad e1)) ∧ w'.cell? ⟨w12.heap.size, 1, none⟩ = some (.bool (decide (dman e1 < 0))) ∧ w'.cell? ⟨w12.heap.size, 2, none⟩ = some (.slice a9 (nl (dman e1).natAbs) c9) ∧ w'.cell? ⟨w12.heap.size, 3, none⟩ = some (.int .i64 (dexp e1)) ∧ w'.cell? ⟨w12.heap.size + 1, 0, none⟩ = some (.bool (dbad e2)) ∧ w'.cell? ⟨w12.heap.size + 1, 1, none⟩ = some (.bool (decide (dman e2 < 0))) ∧ w'.cell? ⟨w12.heap.size + 1, 2, none⟩ = some (.slice a12 (nl (dman e2).natAbs) c12) ∧ w'.cell? ⟨w12.heap.size + 1, 3, none⟩ = some (.int .i64 (dexp e2))) (first | (go_simp; done))
    (first
    | (go_at_call 41; refine (HU _).out.mono ?_; rintro o w15 ⟨a15, c15, rfl, i15, b15⟩)
    | (go_at_call 57; refine (HY _ _ _ _ _ ).out.mono ?_; rintro o w16 ⟨rfl, b16⟩)
    | fail)
    | fail "region"
    all_goals (
    go_wp2_with fail
    refine (HB _).out.mono ?_
    rintro o w17 ⟨rfl, b17⟩
    go_wp2_with fail
    refine (HW _).out.mono ?_
    rintro o w24 ⟨rfl, b24⟩
    go_wp2_with fail
    go_ret
    first | exact ⟨rfl, zbh⟩ | (refine ⟨?_, zbh⟩; simp [*])))))
set_option maxRecDepth 100000 in
set_option maxHeartbeats 40000000 in
theorem middle_it (w : World) (hT : Tab w) (a : Nat) (b : Nat) (f : Nat) (ha : a < 18446744073709551616) (hb : b < 18446744073709551616) (hf : f < 18446744073709551616) (h : iok (a, b) = true) (hr : ffin (irad (a, b)) = false) (hw : iwithin f (a, b) = true) : Calls Tryz.prog 15 #[.agg #[.int .u64 (a : Nat), .int .u64 (b : Nat)], .int .u64 (f : Nat)] w fun o w' => o = .returned (.bool true) ∧ Below w.heap.size w w' := by
  have HT : Tb w := ⟨hT⟩
  obtain ⟨L1, L2, L3⟩ := middle_law (x := (a, b)) (show Lt64 (a, b) from ⟨ha, hb⟩) h f
  have HV := fun W => Lib.hid (frm (r5valid_any W a b ha hb))
  have HM := fun W [Tb W] => Lib.hid (frm (imid_any W tb a b ha hb))
  have HR := fun W [Tb W] => Lib.hid (frm (irad_any W tb a b ha hb))
  have HW := fun W [Tb W] => Lib.hid (frm (awakeI_any W))
  rw [h] at HV
  have HO := fun W [Tb W] => Lib.hid (frd (isN_fof (imid (a, b))) (fof_any W (imid (a, b)) imid_lt tb))
  have HC := fun W a1 c1 [i1 : DIv W (fof (imid (a, b))) a1 c1] [Tb W] => Lib.hid (frm (icont_any W tb a b ha hb _ _ a1 _ c1 _ (fof (imid (a, b))) i1.out))
  rw [show icont (a, b) (fof (imid (a, b))) = true from L1] at HC
  have HI := fun W => Lib.hid (ffin_any W (irad (a, b)))
  rw [hr] at HI
  have HB := fun W [Tb W] => Lib.hid (frm (within_any W f a b hf ha hb))
  rw [hw] at HB
  have L3 := L3 hw
  have HF := fun W => Lib.hid (frm (fabs_any W f hf))
  have HG := fun W => Lib.hid (frm (imag_any W a b ha hb))
  have HE := fun W => Lib.hid (frm (imig_any W a b ha hb))
  have HJ := fun W => Lib.hid (frm (fcmp_any W (fabs f) (imag (a, b)) (fabs_lt64 f) imag_lt))
  have HK := fun W => Lib.hid (frm (fcmp_any W (imig (a, b)) (fabs f) imig_lt (fabs_lt64 f)))
  generalize fcmpv (fabs f) (imag (a, b)) = y3 at *
  generalize fcmpv (imig (a, b)) (fabs f) = y4 at *
  generalize fcmpok (fabs f) (imag (a, b)) = y5 at *
  generalize fcmpok (imig (a, b)) (fabs f) = y6 at *
  obtain ⟨q1, q2⟩ := L3
  clear L1 L2 h hr hw
  generalize fof (imid (a, b)) = dm at *
  generalize (((imid (a, b)) : Nat) : Int) = mm at *
  generalize (((irad (a, b)) : Nat) : Int) = rr at *
  generalize ((fabs f : Nat) : Int) = z1 at *
  generalize ((imag (a, b) : Nat) : Int) = z2 at *
  generalize ((imig (a, b) : Nat) : Int) = z3 at *
  generalize ((a : Nat) : Int) = p at *
  generalize ((b : Nat) : Int) = q at *
  generalize ((f : Nat) : Int) = z at *
  go_enter Tryz.func15, Tryz.ntmps15
  go_wp2_with fail
  refine (HV _ ).out.mono ?_
  rintro o w1 ⟨rfl, b1⟩
  go_wp2_with fail
  first
  | go_region_held3 (fun w' => w'.cell? ⟨w.heap.size, 0, none⟩ = some (.int .u64 p) ∧ w'.cell? ⟨w.heap.size, 1, none⟩ = some (.int .u64 q)) (first | (go_simp; done))
      (first
        | (go_at_call 105; refine (HM _ ).out.mono ?_; rintro o w2 ⟨rfl, b2⟩)
        | (go_at_call 106; refine (HR _ ).out.mono ?_; rintro o w3 ⟨rfl, b3⟩)
        | fail)
  | fail "region"
  all_goals (
    go_wp2_with fail
    first
    | go_region_held3 (fun w' => w'.cell? ⟨w.heap.size, 0, none⟩ = some (.int .u64 p) ∧ w'.cell? ⟨w.heap.size, 1, none⟩ = some (.int .u64 q)) (first | (go_simp; done))
    (first
    | (go_at_call 41; refine (HO _).out.mono ?_; rintro o w4 ⟨a4, c4, rfl, i4, b4⟩)
    | (go_at_call 107; refine (HC _ _ _ ).out.mono ?_; rintro o w5 ⟨rfl, b5⟩)
    | fail)
    | fail "region"
    all_goals (
    go_wp2_with fail
    refine (HI _).out.mono ?_
    rintro o w6 ⟨rfl, rfl⟩
    go_wp2_with fail
    refine (HB _).out.mono ?_
    rintro o w17 ⟨rfl, b17⟩
    go_wp2_with fail
    first
    | go_region_held3 (fun w' => w'.cell? ⟨w.heap.size, 0, none⟩ = some (.int .u64 p) ∧ w'.cell? ⟨w.heap.size, 1, none⟩ = some (.int .u64 q)) (first | (go_simp; done))
    (first
    | (go_at_call 84; refine (HF _ ).out.mono ?_; rintro o w18 ⟨rfl, b18⟩)
    | (go_at_call 109; refine (HG _ ).out.mono ?_; rintro o w19 ⟨rfl, b19⟩)
    | (go_at_call 77; refine (HJ _ ).out.mono ?_; rintro o w20 ⟨rfl, b20⟩)
    | fail)
    | fail "region"
    all_goals (
    go_wp2_with fail
    refine (HE _ ).out.mono ?_
    rintro o w21 ⟨rfl, b21⟩
    go_wp2_with fail
    refine (HF _ ).out.mono ?_
    rintro o w22 ⟨rfl, b22⟩
    go_wp2_with fail
    refine (HK _ ).out.mono ?_
    rintro o w23 ⟨rfl, b23⟩
    go_wp2_with fail
    refine (HW _ ).out.mono ?_
    rintro o w24 ⟨rfl, b24⟩
    go_wp2_with fail
    go_ret
    first | exact ⟨rfl, zbh⟩ | (refine ⟨?_, zbh⟩; simp [*]))))
set_option maxRecDepth 100000 in
set_option maxHeartbeats 40000000 in
theorem middle_if (w : World) (hT : Tab w) (a : Nat) (b : Nat) (f : Nat) (ha : a < 18446744073709551616) (hb : b < 18446744073709551616) (hf : f < 18446744073709551616) (h : iok (a, b) = true) (hr : ffin (irad (a, b)) = false) (hw : iwithin f (a, b) = false) : Calls Tryz.prog 15 #[.agg #[.int .u64 (a : Nat), .int .u64 (b : Nat)], .int .u64 (f : Nat)] w fun o w' => o = .returned (.bool true) ∧ Below w.heap.size w w' := by
  have HT : Tb w := ⟨hT⟩
  obtain ⟨L1, L2, L3⟩ := middle_law (x := (a, b)) (show Lt64 (a, b) from ⟨ha, hb⟩) h f
  have HV := fun W => Lib.hid (frm (r5valid_any W a b ha hb))
  have HM := fun W [Tb W] => Lib.hid (frm (imid_any W tb a b ha hb))
  have HR := fun W [Tb W] => Lib.hid (frm (irad_any W tb a b ha hb))
  have HW := fun W [Tb W] => Lib.hid (frm (awakeI_any W))
  rw [h] at HV
  have HO := fun W [Tb W] => Lib.hid (frd (isN_fof (imid (a, b))) (fof_any W (imid (a, b)) imid_lt tb))
  have HC := fun W a1 c1 [i1 : DIv W (fof (imid (a, b))) a1 c1] [Tb W] => Lib.hid (frm (icont_any W tb a b ha hb _ _ a1 _ c1 _ (fof (imid (a, b))) i1.out))
  rw [show icont (a, b) (fof (imid (a, b))) = true from L1] at HC
  have HI := fun W => Lib.hid (ffin_any W (irad (a, b)))
  rw [hr] at HI
  have HB := fun W [Tb W] => Lib.hid (frm (within_any W f a b hf ha hb))
  rw [hw] at HB
  clear L1 L2 h hr hw L3
  generalize fof (imid (a, b)) = dm at *
  generalize (((imid (a, b)) : Nat) : Int) = mm at *
  generalize (((irad (a, b)) : Nat) : Int) = rr at *
  generalize ((a : Nat) : Int) = p at *
  generalize ((b : Nat) : Int) = q at *
  generalize ((f : Nat) : Int) = z at *
  go_enter Tryz.func15, Tryz.ntmps15
  go_wp2_with fail
  refine (HV _ ).out.mono ?_
  rintro o w1 ⟨rfl, b1⟩
  go_wp2_with fail
  first
  | go_region_held3 (fun w' => w'.cell? ⟨w.heap.size, 0, none⟩ = some (.int .u64 p) ∧ w'.cell? ⟨w.heap.size, 1, none⟩ = some (.int .u64 q)) (first | (go_simp; done))
      (first
        | (go_at_call 105; refine (HM _ ).out.mono ?_; rintro o w2 ⟨rfl, b2⟩)
        | (go_at_call 106; refine (HR _ ).out.mono ?_; rintro o w3 ⟨rfl, b3⟩)
        | fail)
  | fail "region"
  all_goals (
    go_wp2_with fail
    first
    | go_region_held3 (fun w' => w'.cell? ⟨w.heap.size, 0, none⟩ = some (.int .u64 p) ∧ w'.cell? ⟨w.heap.size, 1, none⟩ = some (.int .u64 q)) (first | (go_simp; done))
    (first
    | (go_at_call 41; refine (HO _).out.mono ?_; rintro o w4 ⟨a4, c4, rfl, i4, b4⟩)
    | (go_at_call 107; refine (HC _ _ _ ).out.mono ?_; rintro o w5 ⟨rfl, b5⟩)
    | fail)
    | fail "region"
    all_goals (
    go_wp2_with fail
    refine (HI _).out.mono ?_
    rintro o w6 ⟨rfl, rfl⟩
    go_wp2_with fail
    refine (HB _).out.mono ?_
    rintro o w17 ⟨rfl, b17⟩
    go_wp2_with fail
    refine (HW _).out.mono ?_
    rintro o w24 ⟨rfl, b24⟩
    go_wp2_with fail
    go_ret
    first | exact ⟨rfl, zbh⟩ | (refine ⟨?_, zbh⟩; simp [*])))
theorem middle5_any (w : World) (hT : Tab w) (a : Nat) (b : Nat) (f : Nat) (ha : a < 18446744073709551616) (hb : b < 18446744073709551616) (hf : f < 18446744073709551616) : Calls Tryz.prog 15 #[.agg #[.int .u64 (a : Nat), .int .u64 (b : Nat)], .int .u64 (f : Nat)] w fun o w' => o = .returned (.bool true) ∧ Below w.heap.size w w' := by
  rcases two_ways (iok (a, b)) with h | h
  · rcases two_ways (ffin (irad (a, b))) with k | k <;> rcases two_ways (iwithin f (a, b)) with l | l
    · exact middle_ft w hT a b f ha hb hf h k l
    · exact middle_ff w hT a b f ha hb hf h k l
    · exact middle_it w hT a b f ha hb hf h k l
    · exact middle_if w hT a b f ha hb hf h k l
  · exact middle_bad w hT a b f ha hb hf h
end Go.Proofs.YtmpcikkimcehnaaGreatDoor
