/-
  Walks: package interval: Meet, Sqr, Sqrt.
-/
import Derived.Test.YtakbappmkdaioaaGreatDoorZuJc
import Derived.Test.YtakbappmkdaioaaGreatDoorZuGf
import Derived.Test.YtakbappmkdaioaaGreatDoorZuIP
namespace Go.Proofs.YtakbappmkdaioaaGreatDoor
open Go.RowKit Sp

attribute [local irreducible] Calls
set_option maxRecDepth 100000 in
set_option maxHeartbeats 8000000 in
theorem isqr_any (w : World) (hT : Tab w) (a : Nat) (b : Nat) (ha : a < 18446744073709551616) (hb : b < 18446744073709551616) : Calls Tryz.prog 119 #[.agg #[.int .u64 (a : Nat), .int .u64 (b : Nat)]] w fun e w' => e = .returned (.agg #[.int .u64 ((isqr (a, b)).1 : Nat), .int .u64 ((isqr (a, b)).2 : Nat)]) ∧ Below w.heap.size w w' := by
  have HT : Tb w := ⟨hT⟩
  have H1 := fun W => Lib.hid (frm (ivalid_any W a b ha hb))
  have HA := fun W => Lib.hid (frm (imig_any W a b ha hb))
  have HB := fun W => Lib.hid (frm (imag_any W a b ha hb))
  have HC := fun W [Tb W] => Lib.hid (frm (wmul_any W (imig (a, b)) (imig (a, b)) imig_lt imig_lt 1 tb))
  have HD := fun W [Tb W] => Lib.hid (frm (wmul_any W (imag (a, b)) (imag (a, b)) imag_lt imag_lt 2 tb))
  have HR := fun W => Lib.hid (frm (iresult_any W (fmul (imig (a, b)) (imig (a, b)) 1) (fmul (imag (a, b)) (imag (a, b)) 2) (fmul_lt' _ _ _) (fmul_lt' _ _ _)))
  have HW := fun W => Lib.hid (show Calls Tryz.prog 202 #[] W fun e w' => e = .returned (.agg #[.int .u64 18442240474082181120, .int .u64 9218868437227405312]) ∧ From W w' from frm (iwhole_any W))
  unfold isqr iall ires
  generalize iok (a, b) = k1 at *
  cases k1
  · show Calls _ _ _ _ fun e w' => e = .returned (.agg #[.int .u64 18442240474082181120, .int .u64 9218868437227405312]) ∧ Below w.heap.size w w'
    generalize ((a : Nat) : Int) = p at *
    generalize ((b : Nat) : Int) = q at *
    go_enter Tryz.func119, Tryz.ntmps119
    go_wp2_with fail
    refine (H1 _).out.mono ?_
    rintro e w1 ⟨rfl, b1⟩
    go_wp2_with fail
    refine (HW _).out.mono ?_
    rintro e w2 ⟨rfl, b2⟩
    go_wp2_with fail
    refine bodyPost_ret (v := .agg #[.int .u64 18442240474082181120, .int .u64 9218868437227405312]) (by simp only [results, Tryz.results119]; go_simp) rfl ?_
    exact ⟨rfl, zbh⟩
  · show Calls _ _ _ _ fun e w' => e = .returned (.agg #[.int .u64 (fclean (fmul (imig (a, b)) (imig (a, b)) 1) : Nat), .int .u64 (fclean (fmul (imag (a, b)) (imag (a, b)) 2) : Nat)]) ∧ Below w.heap.size w w'
    generalize ((fclean (fmul (imig (a, b)) (imig (a, b)) 1) : Nat) : Int) = u at *
    generalize ((fclean (fmul (imag (a, b)) (imag (a, b)) 2) : Nat) : Int) = v at *
    generalize ((fmul (imig (a, b)) (imig (a, b)) 1 : Nat) : Int) = u1 at *
    generalize ((fmul (imag (a, b)) (imag (a, b)) 2 : Nat) : Int) = v1 at *
    generalize ((imig (a, b) : Nat) : Int) = u2 at *
    generalize ((imag (a, b) : Nat) : Int) = v2 at *
    generalize ((a : Nat) : Int) = p at *
    generalize ((b : Nat) : Int) = q at *
    go_enter Tryz.func119, Tryz.ntmps119
    go_wp2_with fail
    refine (H1 _).out.mono ?_
    rintro e w1 ⟨rfl, b1⟩
    go_wp2_with fail
    first
    | go_region_held3 (fun w' => w'.cell? ⟨w.heap.size, 0, none⟩ = some (.int .u64 p) ∧ w'.cell? ⟨w.heap.size, 1, none⟩ = some (.int .u64 q)) (first | (go_simp; done))
        (first
          | (go_at_call 103; refine (HA _).out.mono ?_; rintro e w2 ⟨rfl, b2⟩)
          | (go_at_call 101; refine (HB _).out.mono ?_; rintro e w3 ⟨rfl, b3⟩)
          | fail)
    | fail "region"
    all_goals (
      go_wp2_with fail
      refine (HC _).out.mono ?_
      rintro e w4 ⟨rfl, b4⟩
      go_wp2_with fail
      refine (HD _).out.mono ?_
      rintro e w5 ⟨rfl, b5⟩
      go_wp2_with fail
      refine (HR _).out.mono ?_
      rintro e w6 ⟨rfl, b6⟩
      go_wp2_with fail
      refine bodyPost_ret (v := .agg #[.int .u64 u, .int .u64 v]) (by simp only [results, Tryz.results119]; go_simp) rfl ?_
      exact ⟨rfl, zbh⟩)

set_option maxRecDepth 100000 in
set_option maxHeartbeats 8000000 in
theorem isqrt_any (w : World) (hT : Tab w) (a : Nat) (b : Nat) (ha : a < 18446744073709551616) (hb : b < 18446744073709551616) : Calls Tryz.prog 121 #[.agg #[.int .u64 (a : Nat), .int .u64 (b : Nat)]] w fun e w' => e = .returned (.agg #[.int .u64 ((isqrt (a, b)).1 : Nat), .int .u64 ((isqrt (a, b)).2 : Nat)]) ∧ Below w.heap.size w w' := by
  have HT : Tb w := ⟨hT⟩
  have hm : fmax2 a 0 < 18446744073709551616 := fmax2_lt ha (by decide)
  have H1 := fun W => Lib.hid (frm (ivalid_any W a b ha hb))
  have HZ := fun W => Lib.hid (show Calls Tryz.prog 191 #[.int .u64 (b : Nat), .int .u64 0] W fun e w' => e = .returned (.bool (fless b 0)) ∧ From W w' from frm (iless_any W b 0 hb (by decide)))
  have HA := fun W g [FV W g (.int .u64 (a : Nat)) (.int .u64 0)] => Lib.hid (frm (imost2 W g a 0 ha (by decide) (h := (inferInstance : FV W g (.int .u64 (a : Nat)) (.int .u64 0)))))
  have HC := fun W [Tb W] => Lib.hid (frm (wsqrt_any W (fmax2 a 0) hm 1 tb))
  have HD := fun W [Tb W] => Lib.hid (frm (wsqrt_any W b hb 2 tb))
  have HR := fun W => Lib.hid (frm (iresult_any W (fsqrt (fmax2 a 0) 1) (fsqrt b 2) (fsqrt_lt' hm _) (fsqrt_lt' hb _)))
  have HW := fun W => Lib.hid (show Calls Tryz.prog 202 #[] W fun e w' => e = .returned (.agg #[.int .u64 18442240474082181120, .int .u64 9218868437227405312]) ∧ From W w' from frm (iwhole_any W))
  unfold isqrt iall ires
  generalize iok (a, b) = k1 at *
  generalize fless b 0 = k2 at *
  cases k1
  · show Calls _ _ _ _ fun e w' => e = .returned (.agg #[.int .u64 18442240474082181120, .int .u64 9218868437227405312]) ∧ Below w.heap.size w w'
    generalize ((a : Nat) : Int) = p at *
    generalize ((b : Nat) : Int) = q at *
    go_enter Tryz.func121, Tryz.ntmps121
    go_wp2_with fail
    refine (H1 _).out.mono ?_
    rintro e w1 ⟨rfl, b1⟩
    go_wp2_with fail
    refine (HW _).out.mono ?_
    rintro e w2 ⟨rfl, b2⟩
    go_wp2_with fail
    refine bodyPost_ret (v := .agg #[.int .u64 18442240474082181120, .int .u64 9218868437227405312]) (by simp only [results, Tryz.results121]; go_simp) rfl ?_
    exact ⟨rfl, zbh⟩
  · cases k2
    · show Calls _ _ _ _ fun e w' => e = .returned (.agg #[.int .u64 (fclean (fsqrt (fmax2 a 0) 1) : Nat), .int .u64 (fclean (fsqrt b 2) : Nat)]) ∧ Below w.heap.size w w'
      generalize ((fclean (fsqrt (fmax2 a 0) 1) : Nat) : Int) = u at *
      generalize ((fclean (fsqrt b 2) : Nat) : Int) = v at *
      generalize ((fsqrt (fmax2 a 0) 1 : Nat) : Int) = u1 at *
      generalize ((fsqrt b 2 : Nat) : Int) = v1 at *
      generalize ((fmax2 a 0 : Nat) : Int) = u2 at *
      generalize ((a : Nat) : Int) = p at *
      generalize ((b : Nat) : Int) = q at *
      go_enter Tryz.func121, Tryz.ntmps121
      go_wp2_with fail
      refine (H1 _).out.mono ?_
      rintro e w1 ⟨rfl, b1⟩
      go_wp2_with fail
      refine (HZ _).out.mono ?_
      rintro e w2 ⟨rfl, b2⟩
      go_wp2_with fail
      first
      | go_region_held3 (fun w' => w'.cell? ⟨w.heap.size, 0, none⟩ = some (.int .u64 p) ∧ w'.cell? ⟨w.heap.size, 1, none⟩ = some (.int .u64 q)) (first | (go_simp; done))
          (first
            | (go_at_call 192; refine (HR _).out.mono ?_; rintro e w6 ⟨rfl, b6⟩)
            | (go_at_call 189; refine (HA _ _).out.mono ?_; rintro e w3 ⟨rfl, b3⟩)
            | (go_at_call 80; refine (HC _).out.mono ?_; rintro e w4 ⟨rfl, b4⟩)
            | (go_at_call 80; refine (HD _).out.mono ?_; rintro e w5 ⟨rfl, b5⟩)
            | fail)
      | fail "region"
      all_goals (
        go_wp2_with fail
        refine bodyPost_ret (v := .agg #[.int .u64 u, .int .u64 v]) (by simp only [results, Tryz.results121]; go_simp) rfl ?_
        exact ⟨rfl, zbh⟩)
    · show Calls _ _ _ _ fun e w' => e = .returned (.agg #[.int .u64 18442240474082181120, .int .u64 9218868437227405312]) ∧ Below w.heap.size w w'
      generalize ((a : Nat) : Int) = p at *
      generalize ((b : Nat) : Int) = q at *
      go_enter Tryz.func121, Tryz.ntmps121
      go_wp2_with fail
      refine (H1 _).out.mono ?_
      rintro e w1 ⟨rfl, b1⟩
      go_wp2_with fail
      refine (HZ _).out.mono ?_
      rintro e w2 ⟨rfl, b2⟩
      go_wp2_with fail
      refine (HW _).out.mono ?_
      rintro e w3 ⟨rfl, b3⟩
      go_wp2_with fail
      refine bodyPost_ret (v := .agg #[.int .u64 18442240474082181120, .int .u64 9218868437227405312]) (by simp only [results, Tryz.results121]; go_simp) rfl ?_
      exact ⟨rfl, zbh⟩

end Go.Proofs.YtakbappmkdaioaaGreatDoor

