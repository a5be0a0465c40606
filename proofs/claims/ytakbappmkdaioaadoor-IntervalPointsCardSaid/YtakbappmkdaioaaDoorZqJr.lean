/-
  Walks: the law IntervalPoints.
-/
import Derived.Test.YtakbappmkdaioaaDoorZqJD
import Derived.Test.YtakbappmkdaioaaDoorZqS3
import Derived.Test.YtakbappmkdaioaaDoorZqIP
import Derived.Test.YtakbappmkdaioaaDoorZqCm
import Derived.Deep.DeepCutAuto
namespace Go.Proofs.YtakbappmkdaioaaDoor
open Go.RowKit Sp
set_option linter.unusedSimpArgs false

attribute [local irreducible] Calls
set_option maxRecDepth 100000 in
set_option maxHeartbeats 40000000 in
theorem points_main (w : World) (hT : Tab w) (a : Nat) (b : Nat) (ha : a < 18446744073709551616) (hb : b < 18446744073709551616) (fa : ffin a = true) (fb : ffin b = true) : Calls Tryd.prog 3 #[.int .u64 (a : Nat), .int .u64 (b : Nat)] w fun o w' => o = .returned (.bool true) ∧ Below w.heap.size w w' := by
  have HT : Tb w := ⟨hT⟩
  obtain ⟨L1, L2, L3, L4⟩ := points_law ha hb fa fb
  have la := (ipoint_place ha fa).2.2
  have lb := (ipoint_place hb fb).2.2
  have ls := iadd_lt la lb
  have lm := imul_lt (ipoint a) (ipoint b)
  have HF := fun W => Lib.hid (rfin_any W a)
  have HG := fun W => Lib.hid (rfin_any W b)
  have HW := fun W [Tb W] => Lib.hid (frm (awakeI_any W))
  rw [fa] at HF
  rw [fb] at HG
  have HA := fun W => Lib.hid (frm (ipoint_any W a ha))
  have HB := fun W => Lib.hid (frm (ipoint_any W b hb))
  have HS := fun W [Tb W] => Lib.hid (frm (iadd_any W tb (ipoint a).1 (ipoint a).2 (ipoint b).1 (ipoint b).2 la.1 la.2 lb.1 lb.2))
  have HM := fun W [Tb W] => Lib.hid (frm (imul_any W tb (ipoint a).1 (ipoint a).2 (ipoint b).1 (ipoint b).2 la.1 la.2 lb.1 lb.2))
  have H1 := fun W [Tb W] => Lib.hid (frm (wadd_any W a b ha hb 1 tb))
  have H2 := fun W [Tb W] => Lib.hid (frm (wadd_any W a b ha hb 2 tb))
  have H3 := fun W [Tb W] => Lib.hid (frm (wmul_any W a b ha hb 1 tb))
  have H4 := fun W [Tb W] => Lib.hid (frm (wmul_any W a b ha hb 2 tb))
  have C1 := fun W => Lib.hid (show Calls Tryd.prog 9 #[.int .u64 ((iadd (ipoint a) (ipoint b)).1 : Nat), .int .u64 (fadd a b 1 : Nat)] W fun e w' => e = .returned (.tuple #[.int .i64 0, .bool true]) ∧ From W w' from by
    have := frm (fcmp_any W ((iadd (ipoint a) (ipoint b)).1) (fadd a b 1) ls.1 (fadd_lt' ha hb 1))
    rwa [L1.1, L1.2] at this)
  have C2 := fun W => Lib.hid (show Calls Tryd.prog 9 #[.int .u64 ((iadd (ipoint a) (ipoint b)).2 : Nat), .int .u64 (fadd a b 2 : Nat)] W fun e w' => e = .returned (.tuple #[.int .i64 0, .bool true]) ∧ From W w' from by
    have := frm (fcmp_any W ((iadd (ipoint a) (ipoint b)).2) (fadd a b 2) ls.2 (fadd_lt' ha hb 2))
    rwa [L2.1, L2.2] at this)
  have C3 := fun W => Lib.hid (show Calls Tryd.prog 9 #[.int .u64 ((imul (ipoint a) (ipoint b)).1 : Nat), .int .u64 (fmul a b 1 : Nat)] W fun e w' => e = .returned (.tuple #[.int .i64 0, .bool true]) ∧ From W w' from by
    have := frm (fcmp_any W ((imul (ipoint a) (ipoint b)).1) (fmul a b 1) lm.1 (fmul_lt' a b 1))
    rwa [L3.1, L3.2] at this)
  have C4 := fun W => Lib.hid (show Calls Tryd.prog 9 #[.int .u64 ((imul (ipoint a) (ipoint b)).2 : Nat), .int .u64 (fmul a b 2 : Nat)] W fun e w' => e = .returned (.tuple #[.int .i64 0, .bool true]) ∧ From W w' from by
    have := frm (fcmp_any W ((imul (ipoint a) (ipoint b)).2) (fmul a b 2) lm.2 (fmul_lt' a b 2))
    rwa [L4.1, L4.2] at this)
  clear L1 L2 L3 L4 fa fb la lb ls lm
  generalize (((iadd (ipoint a) (ipoint b)).1 : Nat) : Int) = s0 at *
  generalize (((iadd (ipoint a) (ipoint b)).2 : Nat) : Int) = s1 at *
  generalize (((imul (ipoint a) (ipoint b)).1 : Nat) : Int) = m0 at *
  generalize (((imul (ipoint a) (ipoint b)).2 : Nat) : Int) = m1 at *
  generalize (((ipoint a).1 : Nat) : Int) = x0 at *
  generalize (((ipoint a).2 : Nat) : Int) = x1 at *
  generalize (((ipoint b).1 : Nat) : Int) = y0 at *
  generalize (((ipoint b).2 : Nat) : Int) = y1 at *
  generalize ((fadd a b 1 : Nat) : Int) = r1 at *
  generalize ((fadd a b 2 : Nat) : Int) = r2 at *
  generalize ((fmul a b 1 : Nat) : Int) = r3 at *
  generalize ((fmul a b 2 : Nat) : Int) = r4 at *
  generalize ((a : Nat) : Int) = p at *
  generalize ((b : Nat) : Int) = q at *
  go_enter Tryd.func3, Tryd.ntmps3
  go_wp2_with fail
  refine (HF _).out.mono ?_
  rintro o w1 ⟨rfl, rfl⟩
  go_wp2_with fail
  refine (HG _).out.mono ?_
  rintro o w1 ⟨rfl, rfl⟩
  go_wp2_with fail
  refine (HA _).out.mono ?_
  rintro o w1 ⟨rfl, b1⟩
  go_wp2_with fail
  refine (HB _).out.mono ?_
  rintro o w2 ⟨rfl, b2⟩
  go_upto_region 4 with fail
  go_cut [7, 8] (fun p7 p8 wx => ∃ z7 z8, p7 = .pointer (some ⟨z7, 0, none⟩) ∧ p8 = .pointer (some ⟨z8, 0, none⟩) ∧ FV wx z7 (.int .u64 s0) (.int .u64 s1) ∧ FV wx z8 (.int .u64 m0) (.int .u64 m1) ∧ From w2 wx)
  case first =>
    first
    | go_region_held3 (fun w' => w'.cell? ⟨w2.heap.size, 0, none⟩ = some (.int .u64 x0) ∧ w'.cell? ⟨w2.heap.size, 1, none⟩ = some (.int .u64 x1) ∧ w'.cell? ⟨w2.heap.size + 1, 0, none⟩ = some (.int .u64 y0) ∧ w'.cell? ⟨w2.heap.size + 1, 1, none⟩ = some (.int .u64 y1)) (first | (go_simp; done))
      (first
        | (go_at_call 7; refine (HS _).out.mono ?_; rintro o w3 ⟨rfl, b3⟩)
        | (go_at_call 8; refine (HM _).out.mono ?_; rintro o w4 ⟨rfl, b4⟩)
        | fail)
    | fail "region"
    all_goals (
      go_wp2_with fail
      go_meet
      exact ⟨_, _, rfl, rfl, inferInstance, inferInstance, ⟨zbh⟩⟩)
  case rest =>
    obtain ⟨z7, z8, rfl, rfl, V7, V8, b5⟩ := hcut
    generalize wc = v1 at *
    clear HS HM HA HB HF HG
    go_wp2_with fail
    first
    | go_region_held3 (fun w' => w'.cell? ⟨z7, 0, none⟩ = some (.int .u64 s0) ∧ w'.cell? ⟨z7, 1, none⟩ = some (.int .u64 s1)) (first | (go_simp; done))
        (first
          | (go_at_call 10; refine (H1 _).out.mono ?_; rintro o w6 ⟨rfl, b6⟩)
          | (go_at_call 9; refine (C1 _).out.mono ?_; rintro o w7 ⟨rfl, b7⟩)
          | fail)
    | fail "region"
    all_goals (
      go_wp2_with fail
      first
      | go_region_held3 (fun w' => w'.cell? ⟨z7, 0, none⟩ = some (.int .u64 s0) ∧ w'.cell? ⟨z7, 1, none⟩ = some (.int .u64 s1)) (first | (go_simp; done))
          (first
            | (go_at_call 10; refine (H2 _).out.mono ?_; rintro o w8 ⟨rfl, b8⟩)
            | (go_at_call 9; refine (C2 _).out.mono ?_; rintro o w9 ⟨rfl, b9⟩)
            | fail)
      | fail "region"
      all_goals (
        go_wp2_with fail
        first
        | go_region_held3 (fun w' => w'.cell? ⟨z8, 0, none⟩ = some (.int .u64 m0) ∧ w'.cell? ⟨z8, 1, none⟩ = some (.int .u64 m1)) (first | (go_simp; done))
            (first
              | (go_at_call 11; refine (H3 _).out.mono ?_; rintro o w10 ⟨rfl, b10⟩)
              | (go_at_call 9; refine (C3 _).out.mono ?_; rintro o w11 ⟨rfl, b11⟩)
              | fail)
        | fail "region"
        all_goals (
          go_wp2_with fail
          first
          | go_region_held3 (fun w' => w'.cell? ⟨z8, 0, none⟩ = some (.int .u64 m0) ∧ w'.cell? ⟨z8, 1, none⟩ = some (.int .u64 m1)) (first | (go_simp; done))
              (first
                | (go_at_call 11; refine (H4 _).out.mono ?_; rintro o w12 ⟨rfl, b12⟩)
                | (go_at_call 9; refine (C4 _).out.mono ?_; rintro o w13 ⟨rfl, b13⟩)
                | fail)
          | fail "region"
          all_goals (
            go_wp2_with fail
            refine (HW _).out.mono ?_
            rintro o w14 ⟨rfl, b14⟩
            go_wp2_with fail
            go_ret
            exact ⟨rfl, zbh⟩))))
theorem points5_any (w : World) (hT : Tab w) (a : Nat) (b : Nat) (ha : a < 18446744073709551616) (hb : b < 18446744073709551616) : Calls Tryd.prog 3 #[.int .u64 (a : Nat), .int .u64 (b : Nat)] w fun o w' => o = .returned (.bool true) ∧ Below w.heap.size w w' := by
  cases fa : ffin a with
  | true =>
    cases fb : ffin b with
    | true => exact points_main w hT a b ha hb fa fb
    | false =>
      have HT : Tb w := ⟨hT⟩
      have HF := fun W => Lib.hid (rfin_any W a)
      have HG := fun W => Lib.hid (rfin_any W b)
      have HW := fun W [Tb W] => Lib.hid (frm (awakeI_any W))
      rw [fa] at HF
      rw [fb] at HG
      clear fa fb
      generalize ((a : Nat) : Int) = p at *
      generalize ((b : Nat) : Int) = q at *
      go_enter Tryd.func3, Tryd.ntmps3
      go_wp2_with fail
      refine (HF _).out.mono ?_
      rintro o w1 ⟨rfl, rfl⟩
      go_wp2_with fail
      refine (HG _).out.mono ?_
      rintro o w1 ⟨rfl, rfl⟩
      go_wp2_with fail
      refine (HW _).out.mono ?_
      rintro o w2 ⟨rfl, b2⟩
      go_wp2_with fail
      go_ret
      exact ⟨rfl, zbh⟩
  | false =>
    have HT : Tb w := ⟨hT⟩
    have HF := fun W => Lib.hid (rfin_any W a)
    have HG := fun W => Lib.hid (rfin_any W b)
    have HW := fun W [Tb W] => Lib.hid (frm (awakeI_any W))
    rw [fa] at HF
    clear fa HG
    generalize ((a : Nat) : Int) = p at *
    generalize ((b : Nat) : Int) = q at *
    go_enter Tryd.func3, Tryd.ntmps3
    go_wp2_with fail
    refine (HF _).out.mono ?_
    rintro o w1 ⟨rfl, rfl⟩
    go_wp2_with fail
    refine (HW _).out.mono ?_
    rintro o w2 ⟨rfl, b2⟩
    go_wp2_with fail
    go_ret
    exact ⟨rfl, zbh⟩

end Go.Proofs.YtakbappmkdaioaaDoor

