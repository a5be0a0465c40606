/-
  Walks: package interval: Mid, Rad, Contains.
-/
import Derived.Test.YtakbappmkdaioaaGreatDoorZlJA
import Derived.Test.YtakbappmkdaioaaGreatDoorZlGq
import Derived.Test.YtakbappmkdaioaaGreatDoorZlBg
import Derived.Laws.EntriesVeiled
namespace Go.Proofs.YtakbappmkdaioaaGreatDoor
open Go.RowKit Sp
set_option linter.unusedSimpArgs false

attribute [local irreducible] Calls
theorem imid_lt {x : Nat × Nat} : imid x < 18446744073709551616 := by
  unfold imid
  repeat' split
  · decide
  · decide
  · exact fneg_lt _
  · decide
  · exact fclean_lt (fround_lt' _ _)
abbrev DIv (W : World) (d : Option (Int × Int)) (a : Option Addr) (c : Nat) : Prop := DI W (dbad d) (decide (dman d < 0)) a (nl (dman d).natAbs) c (dexp d) d
theorem isN_scale (a : Option (Int × Int)) (k : Int) : IsN (dscale a k) := by
  cases a with
  | none => exact isN_none
  | some p => exact isN_nrm _ _
set_option maxRecDepth 100000 in
set_option maxHeartbeats 8000000 in
theorem imid_fin_any (w : World) (hT : Tab w) (a : Nat) (b : Nat) (ha : a < 18446744073709551616) (hb : b < 18446744073709551616) (hk : iok (a, b) = true) (h1 : ¬ a = fNInf) (h2 : ¬ b = fInf) :
    Calls Tryz.prog 97 #[.agg #[.int .u64 (a : Nat), .int .u64 (b : Nat)]] w fun e w' => e = .returned (.int .u64 (fclean (fround (dscale (dadd (fof a) (fof b)) (-1)) 0) : Nat)) ∧ Below w.heap.size w w' := by
  have HT : Tb w := ⟨hT⟩
  have H1 := fun W => Lib.hid (frm (ivalid_any W a b ha hb))
  rw [hk] at H1
  have n1 : ¬ ((a : Nat) : Int) = 18442240474082181120 := fun h => h1 (by unfold fNInf; omega)
  have n2 : ¬ ((b : Nat) : Int) = 9218868437227405312 := fun h => h2 (by unfold fInf; omega)
  have HA := fun W [Tb W] => Lib.hid (frd (isN_fof a) (fof_any W a ha tb))
  have HB := fun W [Tb W] => Lib.hid (frd (isN_fof b) (fof_any W b hb tb))
  have HC := fun W a1 c1 a2 c2 [i1 : DIv W (fof a) a1 c1] [i2 : DIv W (fof b) a2 c2] [Tb W] => Lib.hid (frd (isN_add _ _) (dadd_any W _ _ _ _ _ _ _ _ _ _ _ _ (fof a) (fof b) i1.out i2.out tb))
  have HD := fun W a1 c1 [i1 : DIv W (dadd (fof a) (fof b)) a1 c1] [Tb W] => Lib.hid (frd (isN_scale _ _) (dscale_any W _ _ _ _ _ _ (-1) (dadd (fof a) (fof b)) i1.out tb (by decide) (by decide)))
  have HE := fun W a1 c1 [i1 : DIv W (dscale (dadd (fof a) (fof b)) (-1)) a1 c1] [Tb W] => Lib.hid (frm (fround_any W _ _ _ _ _ _ 0 (dscale (dadd (fof a) (fof b)) (-1)) i1.out tb))
  have HF := fun W => Lib.hid (iclean_any W (fround (dscale (dadd (fof a) (fof b)) (-1)) 0) (fround_lt' _ _))
  generalize ((fclean (fround (dscale (dadd (fof a) (fof b)) (-1)) 0) : Nat) : Int) = u at *
  generalize ((fround (dscale (dadd (fof a) (fof b)) (-1)) 0 : Nat) : Int) = u1 at *
  generalize dscale (dadd (fof a) (fof b)) (-1) = d4 at *
  generalize dadd (fof a) (fof b) = d3 at *
  generalize fof a = d1 at *
  generalize fof b = d2 at *
  generalize ((a : Nat) : Int) = p at *
  generalize ((b : Nat) : Int) = q at *
  clear h1 h2
  go_enter Tryz.func97, Tryz.ntmps97
  go_wp2_with fail
  refine (H1 _).out.mono ?_
  rintro e w1 ⟨rfl, b1⟩
  go_wp2_with fail
  first
  | go_region_held3 (fun w' => w'.cell? ⟨w.heap.size, 0, none⟩ = some (.int .u64 p) ∧ w'.cell? ⟨w.heap.size, 1, none⟩ = some (.int .u64 q)) (first | (go_simp; done))
      (first
        | (go_at_call 60; refine (HA _).out.mono ?_; rintro e w2 ⟨a2, c2, rfl, i2, b2⟩)
        | (go_at_call 60; refine (HB _).out.mono ?_; rintro e w3 ⟨a3, c3, rfl, i3, b3⟩)
        | (go_at_call 32; refine (HC _ _ _ _ _).out.mono ?_; rintro e w4 ⟨a4, c4, rfl, i4, b4⟩)
        | (go_at_call 198; refine (HD _ _ _).out.mono ?_; rintro e w5 ⟨a5, c5, rfl, i5, b5⟩)
        | (go_at_call 42; refine (HE _ _ _).out.mono ?_; rintro e w6 ⟨rfl, b6⟩)
        | (go_at_call 197; refine (HF _).out.mono ?_; rintro e w7 ⟨rfl, rfl⟩)
        | fail)
  | fail "region"
  all_goals (
    go_wp2_with fail
    go_ret
    exact ⟨rfl, zbh⟩)

set_option maxRecDepth 100000 in
set_option maxHeartbeats 8000000 in
theorem imid_any (w : World) (hT : Tab w) (a : Nat) (b : Nat) (ha : a < 18446744073709551616) (hb : b < 18446744073709551616) : Calls Tryz.prog 97 #[.agg #[.int .u64 (a : Nat), .int .u64 (b : Nat)]] w fun e w' => e = .returned (.int .u64 (imid (a, b) : Nat)) ∧ Below w.heap.size w w' := by
  have HT : Tb w := ⟨hT⟩
  have H1 := fun W => Lib.hid (frm (ivalid_any W a b ha hb))
  have HN := fun W => Lib.hid (show Calls Tryz.prog 56 #[.int .u64 9218868437227405311] W fun e w' => e = .returned (.int .u64 18442240474082181119) ∧ From W w' from by
    have := frm (fneg_any W fMax (by decide))
    rw [show fneg fMax = 18442240474082181119 by decide] at this; exact this)
  by_cases hk : iok (a, b) = true
  · by_cases h1 : a = fNInf
    · by_cases h2 : b = fInf
      · have hv : imid (a, b) = 0 := by unfold imid; rw [hk]; simp [h1, h2]
        rw [hk] at H1
        rw [hv]
        subst h1 h2
        show Calls Tryz.prog 97 #[.agg #[.int .u64 18442240474082181120, .int .u64 9218868437227405312]] w fun e w' => e = .returned (.int .u64 0) ∧ Below w.heap.size w w'
        have H1 := fun W => Lib.hid (show Calls Tryz.prog 105 #[.agg #[.int .u64 18442240474082181120, .int .u64 9218868437227405312]] W fun e w' => e = .returned (.bool true) ∧ From W w' from (H1 W).out)
        go_enter Tryz.func97, Tryz.ntmps97
        go_wp2_with fail
        refine (H1 _).out.mono ?_
        rintro e w1 ⟨rfl, b1⟩
        go_wp2_with fail
        go_ret
        exact ⟨rfl, zbh⟩
      · have hv : imid (a, b) = 18442240474082181119 := by
          unfold imid; rw [hk, show fneg fMax = 18442240474082181119 by decide]; simp [h1, h2]
        rw [hk] at H1
        rw [hv]
        subst h1
        have n2 : ¬ ((b : Nat) : Int) = 9218868437227405312 := fun h => h2 (by unfold fInf; omega)
        have H1 := fun W => Lib.hid (show Calls Tryz.prog 105 #[.agg #[.int .u64 18442240474082181120, .int .u64 (b : Nat)]] W fun e w' => e = .returned (.bool true) ∧ From W w' from (H1 W).out)
        show Calls Tryz.prog 97 #[.agg #[.int .u64 18442240474082181120, .int .u64 (b : Nat)]] w fun e w' => e = .returned (.int .u64 18442240474082181119) ∧ Below w.heap.size w w'
        clear hv h2
        generalize ((b : Nat) : Int) = q at *
        go_enter Tryz.func97, Tryz.ntmps97
        go_wp2_with fail
        refine (H1 _).out.mono ?_
        rintro e w1 ⟨rfl, b1⟩
        go_wp2_with fail
        refine (HN _).out.mono ?_
        rintro e w2 ⟨rfl, b2⟩
        go_wp2_with fail
        go_ret
        exact ⟨rfl, zbh⟩
    · by_cases h2 : b = fInf
      · have hv : imid (a, b) = fMax := by unfold imid; rw [hk]; simp [h1, h2]
        rw [hk] at H1
        rw [hv]
        subst h2
        have n1 : ¬ ((a : Nat) : Int) = 18442240474082181120 := fun h => h1 (by unfold fNInf; omega)
        have H1 := fun W => Lib.hid (show Calls Tryz.prog 105 #[.agg #[.int .u64 (a : Nat), .int .u64 9218868437227405312]] W fun e w' => e = .returned (.bool true) ∧ From W w' from (H1 W).out)
        show Calls Tryz.prog 97 #[.agg #[.int .u64 (a : Nat), .int .u64 9218868437227405312]] w fun e w' => e = .returned (.int .u64 9218868437227405311) ∧ Below w.heap.size w w'
        clear hv h1
        generalize ((a : Nat) : Int) = p at *
        go_enter Tryz.func97, Tryz.ntmps97
        go_wp2_with fail
        refine (H1 _).out.mono ?_
        rintro e w1 ⟨rfl, b1⟩
        go_wp2_with fail
        go_ret
        exact ⟨rfl, zbh⟩
      · have hv : imid (a, b) = fclean (fround (dscale (dadd (fof a) (fof b)) (-1)) 0) := by unfold imid; rw [hk]; simp [h1, h2]
        rw [hv]
        exact imid_fin_any w hT a b ha hb hk h1 h2
  · have hk : iok (a, b) = false := by simpa using hk
    have hv : imid (a, b) = fNaN := by unfold imid; rw [hk]; rfl
    rw [hk] at H1
    rw [hv]
    show Calls _ _ _ _ fun e w' => e = .returned (.int .u64 9221120237041090560) ∧ Below w.heap.size w w'
    clear hv
    generalize ((a : Nat) : Int) = p at *
    generalize ((b : Nat) : Int) = q at *
    go_enter Tryz.func97, Tryz.ntmps97
    go_wp2_with fail
    refine (H1 _).out.mono ?_
    rintro e w1 ⟨rfl, b1⟩
    go_wp2_with fail
    go_ret
    exact ⟨rfl, zbh⟩

set_option maxRecDepth 100000 in
set_option maxHeartbeats 8000000 in
theorem irad_fin_any (w : World) (hT : Tab w) (a : Nat) (b : Nat) (ha : a < 18446744073709551616) (hb : b < 18446744073709551616) (hk : iok (a, b) = true) (h1 : ¬ a = fNInf) (h2 : ¬ b = fInf) :
    Calls Tryz.prog 99 #[.agg #[.int .u64 (a : Nat), .int .u64 (b : Nat)]] w fun e w' => e = .returned (.int .u64 (fmax2 (fround (dsub (fof (imid (a, b))) (fof a)) 2) (fround (dsub (fof b) (fof (imid (a, b)))) 2) : Nat)) ∧ Below w.heap.size w w' := by
  have HT : Tb w := ⟨hT⟩
  have H1 := fun W => Lib.hid (frm (ivalid_any W a b ha hb))
  rw [hk] at H1
  have n1 : ¬ ((a : Nat) : Int) = 18442240474082181120 := fun h => h1 (by unfold fNInf; omega)
  have n2 : ¬ ((b : Nat) : Int) = 9218868437227405312 := fun h => h2 (by unfold fInf; omega)
  have m1 : (((a : Nat) : Int) == 18442240474082181120) = false := by simpa using n1
  have m2 : (((b : Nat) : Int) == 9218868437227405312) = false := by simpa using n2
  clear n1 n2
  have hm : imid (a, b) < 18446744073709551616 := imid_lt (x := (a, b))
  have H2 := fun W [Tb W] => Lib.hid (frm (imid_any W tb a b ha hb))
  have H3 := fun W [Tb W] => Lib.hid (frd (isN_fof (imid (a, b))) (fof_any W (imid (a, b)) hm tb))
  have HA := fun W [Tb W] => Lib.hid (frd (isN_fof a) (fof_any W a ha tb))
  have HB := fun W [Tb W] => Lib.hid (frd (isN_fof b) (fof_any W b hb tb))
  have HC := fun W a1 c1 a2 c2 [i1 : DIv W (fof (imid (a, b))) a1 c1] [i2 : DIv W (fof a) a2 c2] [Tb W] => Lib.hid (frd (show IsN (dsub (fof (imid (a, b))) (fof a)) from isN_add _ _) (dsub_any W _ _ _ _ _ _ _ _ _ _ _ _ (fof (imid (a, b))) (fof a) i1.out i2.out tb))
  have HD := fun W a1 c1 a2 c2 [i1 : DIv W (fof b) a1 c1] [i2 : DIv W (fof (imid (a, b))) a2 c2] [Tb W] => Lib.hid (frd (show IsN (dsub (fof b) (fof (imid (a, b)))) from isN_add _ _) (dsub_any W _ _ _ _ _ _ _ _ _ _ _ _ (fof b) (fof (imid (a, b))) i1.out i2.out tb))
  have HE := fun W a1 c1 [i1 : DIv W (dsub (fof (imid (a, b))) (fof a)) a1 c1] [Tb W] => Lib.hid (frm (fround_any W _ _ _ _ _ _ 2 (dsub (fof (imid (a, b))) (fof a)) i1.out tb))
  have HF := fun W a1 c1 [i1 : DIv W (dsub (fof b) (fof (imid (a, b)))) a1 c1] [Tb W] => Lib.hid (frm (fround_any W _ _ _ _ _ _ 2 (dsub (fof b) (fof (imid (a, b)))) i1.out tb))
  have HM := fun W g [FV W g (.int .u64 (fround (dsub (fof (imid (a, b))) (fof a)) 2 : Nat)) (.int .u64 (fround (dsub (fof b) (fof (imid (a, b)))) 2 : Nat))] => Lib.hid (frm (imost2 W g (fround (dsub (fof (imid (a, b))) (fof a)) 2) (fround (dsub (fof b) (fof (imid (a, b)))) 2) (fround_lt' _ _) (fround_lt' _ _)))
  generalize ((fmax2 (fround (dsub (fof (imid (a, b))) (fof a)) 2) (fround (dsub (fof b) (fof (imid (a, b)))) 2) : Nat) : Int) = u at *
  generalize ((fround (dsub (fof (imid (a, b))) (fof a)) 2 : Nat) : Int) = u1 at *
  generalize ((fround (dsub (fof b) (fof (imid (a, b)))) 2 : Nat) : Int) = u2 at *
  generalize hs1 : dsub (fof (imid (a, b))) (fof a) = s1 at *
  generalize hs2 : dsub (fof b) (fof (imid (a, b))) = s2 at *
  clear hs1 hs2
  generalize fof (imid (a, b)) = d0 at *
  generalize fof a = d1 at *
  generalize fof b = d2 at *
  generalize ((imid (a, b) : Nat) : Int) = m at *
  generalize ((a : Nat) : Int) = p at *
  generalize ((b : Nat) : Int) = q at *
  clear h1 h2 hm
  go_enter Tryz.func99, Tryz.ntmps99
  go_wp2_with fail
  refine (H1 _).out.mono ?_
  rintro e w1 ⟨rfl, b1⟩
  go_wp2_with fail
  refine (H2 _).out.mono ?_
  rintro e w2 ⟨rfl, b2⟩
  go_wp2_with fail
  refine (H3 _).out.mono ?_
  rintro e w3 ⟨a3, c3, rfl, i3, b3⟩
  go_wp2_with fail
  first
  | go_region_held3 (fun w' => w'.cell? ⟨w.heap.size, 0, none⟩ = some (.int .u64 p) ∧ w'.cell? ⟨w.heap.size, 1, none⟩ = some (.int .u64 q) ∧ w'.cell? ⟨w3.heap.size, 0, none⟩ = some (.bool (dbad d0)) ∧ w'.cell? ⟨w3.heap.size, 1, none⟩ = some (.bool (decide (dman d0 < 0))) ∧ w'.cell? ⟨w3.heap.size, 2, none⟩ = some (.slice a3 (nl (dman d0).natAbs) c3) ∧ w'.cell? ⟨w3.heap.size, 3, none⟩ = some (.int .i64 (dexp d0))) (first | (go_simp; done))
      (first
        | (go_at_call 60; refine (HA _).out.mono ?_; rintro e w4 ⟨a4, c4, rfl, i4, b4⟩)
        | (go_at_call 60; refine (HB _).out.mono ?_; rintro e w5 ⟨a5, c5, rfl, i5, b5⟩)
        | (go_at_call 157; refine (HC _ _ _ _ _).out.mono ?_; rintro e w6 ⟨a6, c6, rfl, i6, b6⟩)
        | (go_at_call 157; refine (HD _ _ _ _ _).out.mono ?_; rintro e w7 ⟨a7, c7, rfl, i7, b7⟩)
        | (go_at_call 42; refine (HE _ _ _).out.mono ?_; rintro e w8 ⟨rfl, b8⟩)
        | (go_at_call 42; refine (HF _ _ _).out.mono ?_; rintro e w9 ⟨rfl, b9⟩)
        | (go_at_call 189; refine (HM _ _).out.mono ?_; rintro e w10 ⟨rfl, b10⟩)
        | fail)
  | fail "region"
  all_goals (
    go_wp2_with fail
    go_ret
    exact ⟨rfl, zbh⟩)

set_option maxRecDepth 100000 in
set_option maxHeartbeats 8000000 in
theorem irad_any (w : World) (hT : Tab w) (a : Nat) (b : Nat) (ha : a < 18446744073709551616) (hb : b < 18446744073709551616) : Calls Tryz.prog 99 #[.agg #[.int .u64 (a : Nat), .int .u64 (b : Nat)]] w fun e w' => e = .returned (.int .u64 (irad (a, b) : Nat)) ∧ Below w.heap.size w w' := by
  have HT : Tb w := ⟨hT⟩
  have H1 := fun W => Lib.hid (frm (ivalid_any W a b ha hb))
  by_cases hk : iok (a, b) = true
  · by_cases h1 : a = fNInf
    · have hv : irad (a, b) = fInf := by unfold irad; rw [hk]; simp [h1]
      rw [hk] at H1
      rw [hv]
      subst h1
      have H1 := fun W => Lib.hid (show Calls Tryz.prog 105 #[.agg #[.int .u64 18442240474082181120, .int .u64 (b : Nat)]] W fun e w' => e = .returned (.bool true) ∧ From W w' from (H1 W).out)
      show Calls Tryz.prog 99 #[.agg #[.int .u64 18442240474082181120, .int .u64 (b : Nat)]] w fun e w' => e = .returned (.int .u64 9218868437227405312) ∧ Below w.heap.size w w'
      clear hv hk
      generalize ((b : Nat) : Int) = q at *
      go_enter Tryz.func99, Tryz.ntmps99
      go_wp2_with fail
      refine (H1 _).out.mono ?_
      rintro e w1 ⟨rfl, b1⟩
      go_wp2_with fail
      go_ret
      exact ⟨rfl, zbh⟩
    · by_cases h2 : b = fInf
      · have hv : irad (a, b) = fInf := by unfold irad; rw [hk]; simp [h1, h2]
        rw [hk] at H1
        rw [hv]
        subst h2
        have n1 : ¬ ((a : Nat) : Int) = 18442240474082181120 := fun h => h1 (by unfold fNInf; omega)
        have H1 := fun W => Lib.hid (show Calls Tryz.prog 105 #[.agg #[.int .u64 (a : Nat), .int .u64 9218868437227405312]] W fun e w' => e = .returned (.bool true) ∧ From W w' from (H1 W).out)
        show Calls Tryz.prog 99 #[.agg #[.int .u64 (a : Nat), .int .u64 9218868437227405312]] w fun e w' => e = .returned (.int .u64 9218868437227405312) ∧ Below w.heap.size w w'
        clear hv h1 hk
        generalize ((a : Nat) : Int) = p at *
        go_enter Tryz.func99, Tryz.ntmps99
        go_wp2_with fail
        refine (H1 _).out.mono ?_
        rintro e w1 ⟨rfl, b1⟩
        go_wp2_with fail
        go_ret
        exact ⟨rfl, zbh⟩
      · have hv : irad (a, b) = fmax2 (fround (dsub (fof (imid (a, b))) (fof a)) 2) (fround (dsub (fof b) (fof (imid (a, b)))) 2) := by unfold irad; rw [hk]; simp [h1, h2, dsub]
        rw [hv]
        exact irad_fin_any w hT a b ha hb hk h1 h2
  · have hk : iok (a, b) = false := by simpa using hk
    have hv : irad (a, b) = fNaN := by unfold irad; rw [hk]; rfl
    rw [hk] at H1
    rw [hv]
    show Calls _ _ _ _ fun e w' => e = .returned (.int .u64 9221120237041090560) ∧ Below w.heap.size w w'
    clear hv
    generalize ((a : Nat) : Int) = p at *
    generalize ((b : Nat) : Int) = q at *
    go_enter Tryz.func99, Tryz.ntmps99
    go_wp2_with fail
    refine (H1 _).out.mono ?_
    rintro e w1 ⟨rfl, b1⟩
    go_wp2_with fail
    go_ret
    exact ⟨rfl, zbh⟩

theorem dvalid_in (w : World) (v s : Bool) (A : Option Addr) (n c : Nat) (e : Int) (d : Option (Int × Int)) (hx : DyIn w v s A n c e d) (hT : Tab w) : Calls Tryz.prog 128 #[.agg #[.bool v, .bool s, .slice A n c, .int .i64 e]] w fun e w' => e = .returned (.bool (!dbad d)) ∧ Below w.heap.size w w' := by
  obtain ⟨x, h1, h2, h3, h4, h5, h6⟩ := hx
  have := dvalid_any w v s A n c x e h1 h2 hT h3 (tz_lim h3) h4 h5
  rwa [h6] at this

set_option maxRecDepth 100000 in
set_option maxHeartbeats 8000000 in
theorem iabove_any (w : World) (g : Nat) (a : Nat) (ha : a < 18446744073709551616) (v s : Bool) (A : Option Addr) (n c : Nat) (e : Int) (d : Option (Int × Int)) [ht : Tb w] [hg : DB w g v s (.slice A n c) e] [hd : DI w v s A n c e d] :
    Calls Tryz.prog 196 #[.int .u64 (a : Nat), .pointer (some ⟨g, 0, none⟩)] w fun e w' => e = .returned (.int .i64 (dcmp (fof a) d)) ∧ Below w.heap.size w w' := by
  have HA := fun W [Tb W] => Lib.hid (frd (isN_fof a) (fof_any W a ha tb))
  have HC := fun W a1 c1 [i1 : DIv W (fof a) a1 c1] [i2 : DI W v s A n c e d] [Tb W] => Lib.hid (frm (dcmp_any W _ _ _ _ _ _ _ _ _ _ _ _ (fof a) d i1.out i2.out tb))
  generalize fof a = d1 at *
  generalize dcmp d1 d = u at *
  generalize (!dbad d1 && !dbad d) = u' at *
  generalize ((a : Nat) : Int) = p at *
  go_enter Tryz.func196, Tryz.ntmps196
  go_wp2_with fail
  first
  | go_region_held3 (fun w' => w'.cell? ⟨g, 0, none⟩ = some (.bool v) ∧ w'.cell? ⟨g, 1, none⟩ = some (.bool s) ∧ w'.cell? ⟨g, 2, none⟩ = some (.slice A n c) ∧ w'.cell? ⟨g, 3, none⟩ = some (.int .i64 e)) (first | (go_simp; done))
      (first
        | (go_at_call 60; refine (HA _).out.mono ?_; rintro e w1 ⟨a1, c1, rfl, i1, b1⟩)
        | (go_at_call 127; refine (HC _ _ _).out.mono ?_; rintro e w2 ⟨rfl, b2⟩)
        | fail)
  | fail "region"
  all_goals (
    go_wp2_with fail
    go_ret
    exact ⟨rfl, zbh⟩)

set_option maxRecDepth 100000 in
set_option maxHeartbeats 8000000 in
theorem icont_any (w : World) (hT : Tab w) (a : Nat) (b : Nat) (ha : a < 18446744073709551616) (hb : b < 18446744073709551616) (v s : Bool) (A : Option Addr) (n c : Nat) (e : Int) (d : Option (Int × Int)) (hx : DyIn w v s A n c e d) :
    Calls Tryz.prog 91 #[.agg #[.int .u64 (a : Nat), .int .u64 (b : Nat)], .agg #[.bool v, .bool s, .slice A n c, .int .i64 e]] w fun e w' => e = .returned (.bool (icont (a, b) d)) ∧ Below w.heap.size w w' := by
  have hmf : ∀ (fn : Fn) (first cap : Array Value) (w : World), (Instr.makeFunc fn first cap).run Tryz.prog w = .ok (.func fn first cap) w := fun _ _ _ _ => rfl
  have HT : Tb w := ⟨hT⟩
  have HX : DI w v s A n c e d := ⟨hx⟩
  clear hx
  have H1 := fun W => Lib.hid (frm (ivalid_any W a b ha hb))
  have H2 := fun W [i1 : DI W v s A n c e d] [Tb W] => Lib.hid (frm (dvalid_in W v s A n c e d i1.out tb))
  have H3 := fun W g [Tb W] [DB W g v s (.slice A n c) e] [DI W v s A n c e d] => Lib.hid (frm (iabove_any W g a ha v s A n c e d))
  have H4 := fun W g [Tb W] [DB W g v s (.slice A n c) e] [DI W v s A n c e d] => Lib.hid (frm (iabove_any W g b hb v s A n c e d))
  have e1 := beq_nat a fNInf 18442240474082181120 (by decide)
  have e2 := beq_nat b fInf 9218868437227405312 (by decide)
  show Calls _ _ _ _ fun e w' => e = .returned (.bool (iok (a, b) && !dbad d && (decide (a = fNInf) || decide (dcmp (fof a) d ≤ 0)) && (decide (b = fInf) || decide (0 ≤ dcmp (fof b) d)))) ∧ Below w.heap.size w w'
  rw [← e1, ← e2]
  clear e1 e2
  generalize iok (a, b) = k1 at *
  generalize (!dbad d) = k2 at *
  generalize dcmp (fof a) d = u1 at *
  generalize dcmp (fof b) d = u2 at *
  generalize ((a : Nat) : Int) = p at *
  generalize ((b : Nat) : Int) = q at *
  cases k1
  · skip
    go_enter Tryz.func91, Tryz.ntmps91
    go_wp2_with fail
    refine (H1 _).out.mono ?_
    rintro e w1 ⟨rfl, b1⟩
    go_wp2_with fail
    go_ret
    exact ⟨rfl, zbh⟩
  · cases k2
    · skip
      go_enter Tryz.func91, Tryz.ntmps91
      go_wp2_with fail
      refine (H1 _).out.mono ?_
      rintro e w1 ⟨rfl, b1⟩
      go_wp2_with fail
      refine (H2 _).out.mono ?_
      rintro e w2 ⟨rfl, b2⟩
      go_wp2_with fail
      go_ret
      exact ⟨rfl, zbh⟩
    · rcases two_ways (p == 18442240474082181120) with hp | hp <;> rcases two_ways (q == 9218868437227405312) with hq | hq <;> rcases two_ways (decide (u1 ≤ 0)) with hu | hu
      all_goals (
        rw [hp, hq, hu]
        simp only [decide_eq_true_eq, decide_eq_false_iff_not, beq_iff_eq, beq_eq_false_iff_ne, ne_eq] at hp hq hu
        (try subst hp)
        (try subst hq)
        go_enter Tryz.func91, Tryz.ntmps91
        go_wp2_with fail
        refine (H1 _).out.mono ?_
        rintro e' w1 ⟨rfl, b1⟩
        go_wp2_with fail
        refine (H2 _).out.mono ?_
        rintro e' w2 ⟨rfl, b2⟩
        go_wp2_with fail
        (try (refine (H3 _ _).out.mono ?_; rintro e' w3 ⟨rfl, b3⟩; go_wp2_with fail))
        (try (refine (H4 _ _).out.mono ?_; rintro e' w4 ⟨rfl, b4⟩; go_wp2_with fail))
        go_ret
        first | exact ⟨rfl, zbh⟩ | (refine ⟨?_, zbh⟩; simp; done) | (refine ⟨?_, zbh⟩; simp [hp]; done) | (refine ⟨?_, zbh⟩; simp [hq]; done) | (refine ⟨?_, zbh⟩; simp [hp, hq]; done) | (refine ⟨?_, zbh⟩; simp [hu]; done) | (refine ⟨?_, zbh⟩; simp [hp, hu]; done) | (refine ⟨?_, zbh⟩; simp [hq, hu]; done) | (refine ⟨?_, zbh⟩; simp [hp, hq, hu]; done))

end Go.Proofs.YtakbappmkdaioaaGreatDoor

