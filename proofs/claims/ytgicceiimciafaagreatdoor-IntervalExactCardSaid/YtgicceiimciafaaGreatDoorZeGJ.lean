/-
  Walks: package float: FMA, Sqrt.
  Walks: package interval: Meet, Sqr, Sqrt.
-/
import Derived.Test.YtgicceiimciafaaGreatDoorZeGS
import Derived.Test.YtgicceiimciafaaGreatDoorZeGQ
import Derived.Test.YtgicceiimciafaaGreatDoorZeCL
import Derived.Test.YtgicceiimciafaaGreatDoorZeJA
import Derived.Test.YtgicceiimciafaaGreatDoorZeIP
set_option maxRecDepth 100000
set_option maxHeartbeats 20000000
namespace Go.Proofs.YtgicceiimciafaaGreatDoor
open Go.RowKit Sp
attribute [local irreducible] Calls
theorem wsqrt_spec (w : World) (a : Nat) (ha : a < 18446744073709551616) (mode : Int) (V : Nat) (h : (fnan a = true ∧ V = (9221120237041090560 : Nat)) ∨ (fnan a = false ∧ fzero a = true ∧ V = (a : Nat)) ∨ (fnan a = false ∧ fzero a = false ∧ ((a : Int) == 9218868437227405312) = true ∧ V = (a : Nat)) ∨ (fnan a = false ∧ fzero a = false ∧ ((a : Int) == 9218868437227405312) = false ∧ fS a = true ∧ V = (9221120237041090560 : Nat))) :
 Calls Tryz.prog 73 #[.int .u64 a, .int .i64 mode] w fun o w' => o = .returned (.int .u64 (V : Nat)) ∧ Below w.heap.size w w' := by
 have HN := fun W g h0 => Lib.hid (nan1 W g a h0)
 have HZa := fun W => Lib.hid (fzero_any W a)
 have HSa := fun W => Lib.hid (fsign_any W a ha)
 rcases h with ⟨n1, hV⟩ | ⟨n1, z1, hV⟩ | ⟨n1, z1, e1, hV⟩ | ⟨n1, z1, e1, e2, hV⟩
 all_goals (try rw [n1] at HN)
 all_goals (try rw [z1] at HZa)
 all_goals (try rw [e2] at HSa)
 all_goals (
  rw [hV]
  clear hV
  go_enter Tryz.func73, Tryz.ntmps73
  go_wp2_with (first | (go_at_call 97; refine (HN _ _ (by go_simp)).out.mono ?_; rintro e w1 ⟨rfl, rfl⟩) | (go_at_call 102; refine (HZa _).out.mono ?_; rintro e w1 ⟨rfl, rfl⟩) | (go_at_call 95; refine (HSa _).out.mono ?_; rintro e w1 ⟨rfl, rfl⟩))
  go_ret
  exact ⟨rfl, zbh⟩)
theorem wsqrt_any (w : World) (a : Nat) (ha : a < 18446744073709551616) (mode : Int) (hT : Tab w) :
 Calls Tryz.prog 73 #[.int .u64 a, .int .i64 mode] w fun o w' => o = .returned (.int .u64 (fsqrt a mode : Nat)) ∧ Below w.heap.size w w' := by
 have sp := wsqrt_spec w a ha mode (fsqrt a mode)
 cases n1 : fnan a with
 | true => exact sp (Or.inl ⟨n1, by unfold fsqrt; rw [n1]; rfl⟩)
 | false =>
 cases z1 : fzero a with
 | true => exact sp (Or.inr (Or.inl ⟨n1, z1, by unfold fsqrt; rw [n1, z1]; rfl⟩))
 | false =>
 by_cases m : a = fInf
 · exact sp (Or.inr (Or.inr (Or.inl ⟨n1, z1, by rw [m]; rfl, by unfold fsqrt; rw [n1, z1, decide_eq_true m]; rfl⟩)))
 · have e1 : ((a : Int) == 9218868437227405312) = false := by rw [beq_eq_false_iff_ne]; intro h; exact m (by unfold fInf; omega)
   cases e2 : fS a with
   | true => exact sp (Or.inr (Or.inr (Or.inr ⟨n1, z1, e1, e2, by unfold fsqrt; rw [n1, z1, decide_eq_false m, e2]; rfl⟩)))
   | false =>
    have HT : Tb w := ⟨hT⟩
    rw [show fsqrt a mode = froot (fof a) mode by unfold fsqrt; rw [n1, z1, decide_eq_false m, e2]; rfl]
    have HN := fun W g h0 => Lib.hid (nan1 W g a h0)
    have HZa := fun W => Lib.hid (fzero_any W a)
    have HSa := fun W => Lib.hid (fsign_any W a ha)
    have HOa := fun W [Tb W] => Lib.hid (frd (isN_fof a) (fof_any W a ha tb))
    rw [n1] at HN; rw [z1] at HZa; rw [e2] at HSa
    generalize fof a = da at *
    have HR := fun W b1 q1 [i : DI W (dbad (da)) (decide (dman (da) < 0)) b1 (nl (dman (da)).natAbs) q1 (dexp (da)) (da)] [Tb W] => Lib.hid (frm (wroot_any W _ _ _ _ _ _ mode _ i.out tb))
    generalize ((froot da mode : Nat) : Int) = V at *
    clear sp m n1 z1 e2
    go_enter Tryz.func73, Tryz.ntmps73
    go_wp2_with (first | (go_at_call 97; refine (HN _ _ (by go_simp)).out.mono ?_; rintro e w1 ⟨rfl, rfl⟩) | (go_at_call 102; refine (HZa _).out.mono ?_; rintro e w1 ⟨rfl, rfl⟩) | (go_at_call 95; refine (HSa _).out.mono ?_; rintro e w1 ⟨rfl, rfl⟩))
    refine (HOa _).out.mono ?_
    rintro o w1 ⟨a1, c1, rfl, i1, b1⟩
    haveI T1 : Tb w1 := ⟨hT.below zbh⟩
    go_wp2_with fail
    refine (HR _ _ _).out.mono ?_
    rintro o w2 ⟨rfl, b2⟩
    haveI T2 : Tb w2 := ⟨hT.below zbh⟩
    go_wp2_with fail
    go_ret
    exact ⟨rfl, zbh⟩
end Go.Proofs.YtgicceiimciafaaGreatDoor
namespace Go.Proofs.YtgicceiimciafaaGreatDoor
open Go.RowKit Sp
attribute [local irreducible] Calls
theorem isqr_any (w : World) (hT : Tab w) (a : Nat) (b : Nat) (ha : a < 18446744073709551616) (hb : b < 18446744073709551616) : Calls Tryz.prog 27 #[.agg #[.int .u64 (a : Nat), .int .u64 (b : Nat)]] w fun e w' => e = .returned (.agg #[.int .u64 ((isqr (a, b)).1 : Nat), .int .u64 ((isqr (a, b)).2 : Nat)]) ∧ Below w.heap.size w w' := by
 have HT : Tb w := ⟨hT⟩
 have H1 := fun W => Lib.hid (frm (ivalid_any W a b ha hb))
 have HA := fun W => Lib.hid (frm (imig_any W a b ha hb))
 have HB := fun W => Lib.hid (frm (imag_any W a b ha hb))
 have HC := fun W [Tb W] => Lib.hid (frm (wmul_any W (imig (a, b)) (imig (a, b)) imig_lt imig_lt 1 tb))
 have HD := fun W [Tb W] => Lib.hid (frm (wmul_any W (imag (a, b)) (imag (a, b)) imag_lt imag_lt 2 tb))
 have HR := fun W => Lib.hid (frm (iresult_any W (fmul (imig (a, b)) (imig (a, b)) 1) (fmul (imag (a, b)) (imag (a, b)) 2) (fmul_lt' _ _ _) (fmul_lt' _ _ _)))
 have HW := fun W => Lib.hid (show Calls Tryz.prog 51 #[] W fun e w' => e = .returned (.agg #[.int .u64 18442240474082181120, .int .u64 9218868437227405312]) ∧ From W w' from frm (iwhole_any W))
 unfold isqr iall ires
 generalize iok (a, b) = k1 at *
 cases k1
 · show Calls _ _ _ _ fun e w' => e = .returned (.agg #[.int .u64 18442240474082181120, .int .u64 9218868437227405312]) ∧ Below w.heap.size w w'
   generalize ((a : Nat) : Int) = p at *
   generalize ((b : Nat) : Int) = q at *
   go_enter Tryz.func27, Tryz.ntmps27
   go_wp2_with fail
   refine (H1 _).out.mono ?_
   rintro e w1 ⟨rfl, b1⟩
   go_wp2_with fail
   refine (HW _).out.mono ?_
   rintro e w2 ⟨rfl, b2⟩
   go_wp2_with fail
   refine bodyPost_ret (v := .agg #[.int .u64 18442240474082181120, .int .u64 9218868437227405312]) (by simp only [results, Tryz.results27]; go_simp) rfl ?_
   exact ⟨rfl, zbh⟩
 · show Calls _ _ _ _ fun e w' => e = .returned (.agg #[.int .u64 (fclean (fmul (imig (a, b)) (imig (a, b)) 1) : Nat), .int .u64 (fclean (fmul (imag (a, b)) (imag (a, b)) 2) : Nat)]) ∧ Below w.heap.size w w'
   generalize ((fclean (fmul (imig (a, b)) (imig (a, b)) 1) : Nat) : Int) = u at *
   generalize ((fclean (fmul (imag (a, b)) (imag (a, b)) 2) : Nat) : Int) = v at *
   generalize ((fmul (imig (a, b)) (imig (a, b)) 1 : Nat) : Int) = u1 at *
   generalize ((fmul (imag (a, b)) (imag (a, b)) 2 : Nat) : Int) = v1 at *
   generalize ((imig (a, b) : Nat) : Int) = u2 at *
   generalize ((imag (a, b) : Nat) : Int) = v2 at *
   generalize ((a : Nat) : Int) = p at *
   generalize ((b : Nat) : Int) = q at *
   go_enter Tryz.func27, Tryz.ntmps27
   go_wp2_with fail
   refine (H1 _).out.mono ?_
   rintro e w1 ⟨rfl, b1⟩
   go_wp2_with fail
   first
   | go_region_held3 (fun w' => w'.cell? ⟨w.heap.size, 0, none⟩ = some (.int .u64 p) ∧ w'.cell? ⟨w.heap.size, 1, none⟩ = some (.int .u64 q)) (first | (go_simp; done))
    (first
     | (go_at_call 70; refine (HA _).out.mono ?_; rintro e w2 ⟨rfl, b2⟩)
     | (go_at_call 71; refine (HB _).out.mono ?_; rintro e w3 ⟨rfl, b3⟩)
     | fail)
   | fail "region"
   all_goals (
    go_wp2_with fail
    refine (HC _).out.mono ?_
    rintro e w4 ⟨rfl, b4⟩
    go_wp2_with fail
    refine (HD _).out.mono ?_
    rintro e w5 ⟨rfl, b5⟩
    go_wp2_with fail
    refine (HR _).out.mono ?_
    rintro e w6 ⟨rfl, b6⟩
    go_wp2_with fail
    refine bodyPost_ret (v := .agg #[.int .u64 u, .int .u64 v]) (by simp only [results, Tryz.results27]; go_simp) rfl ?_
    exact ⟨rfl, zbh⟩)
theorem isqrt_any (w : World) (hT : Tab w) (a : Nat) (b : Nat) (ha : a < 18446744073709551616) (hb : b < 18446744073709551616) : Calls Tryz.prog 29 #[.agg #[.int .u64 (a : Nat), .int .u64 (b : Nat)]] w fun e w' => e = .returned (.agg #[.int .u64 ((isqrt (a, b)).1 : Nat), .int .u64 ((isqrt (a, b)).2 : Nat)]) ∧ Below w.heap.size w w' := by
 have HT : Tb w := ⟨hT⟩
 have hm : fmax2 a 0 < 18446744073709551616 := fmax2_lt ha (by decide)
 have H1 := fun W => Lib.hid (frm (ivalid_any W a b ha hb))
 have HZ := fun W => Lib.hid (show Calls Tryz.prog 72 #[.int .u64 (b : Nat), .int .u64 0] W fun e w' => e = .returned (.bool (fless b 0)) ∧ From W w' from frm (iless_any W b 0 hb (by decide)))
 have HA := fun W g [FV W g (.int .u64 (a : Nat)) (.int .u64 0)] => Lib.hid (frm (imost2 W g a 0 ha (by decide) (h := (inferInstance : FV W g (.int .u64 (a : Nat)) (.int .u64 0)))))
 have HC := fun W [Tb W] => Lib.hid (frm (wsqrt_any W (fmax2 a 0) hm 1 tb))
 have HD := fun W [Tb W] => Lib.hid (frm (wsqrt_any W b hb 2 tb))
 have HR := fun W => Lib.hid (frm (iresult_any W (fsqrt (fmax2 a 0) 1) (fsqrt b 2) (fsqrt_lt' hm _) (fsqrt_lt' hb _)))
 have HW := fun W => Lib.hid (show Calls Tryz.prog 51 #[] W fun e w' => e = .returned (.agg #[.int .u64 18442240474082181120, .int .u64 9218868437227405312]) ∧ From W w' from frm (iwhole_any W))
 unfold isqrt iall ires
 generalize iok (a, b) = k1 at *
 generalize fless b 0 = k2 at *
 cases k1
 · show Calls _ _ _ _ fun e w' => e = .returned (.agg #[.int .u64 18442240474082181120, .int .u64 9218868437227405312]) ∧ Below w.heap.size w w'
   generalize ((a : Nat) : Int) = p at *
   generalize ((b : Nat) : Int) = q at *
   go_enter Tryz.func29, Tryz.ntmps29
   go_wp2_with fail
   refine (H1 _).out.mono ?_
   rintro e w1 ⟨rfl, b1⟩
   go_wp2_with fail
   refine (HW _).out.mono ?_
   rintro e w2 ⟨rfl, b2⟩
   go_wp2_with fail
   refine bodyPost_ret (v := .agg #[.int .u64 18442240474082181120, .int .u64 9218868437227405312]) (by simp only [results, Tryz.results29]; go_simp) rfl ?_
   exact ⟨rfl, zbh⟩
 · cases k2
   · show Calls _ _ _ _ fun e w' => e = .returned (.agg #[.int .u64 (fclean (fsqrt (fmax2 a 0) 1) : Nat), .int .u64 (fclean (fsqrt b 2) : Nat)]) ∧ Below w.heap.size w w'
     generalize ((fclean (fsqrt (fmax2 a 0) 1) : Nat) : Int) = u at *
     generalize ((fclean (fsqrt b 2) : Nat) : Int) = v at *
     generalize ((fsqrt (fmax2 a 0) 1 : Nat) : Int) = u1 at *
     generalize ((fsqrt b 2 : Nat) : Int) = v1 at *
     generalize ((fmax2 a 0 : Nat) : Int) = u2 at *
     generalize ((a : Nat) : Int) = p at *
     generalize ((b : Nat) : Int) = q at *
     go_enter Tryz.func29, Tryz.ntmps29
     go_wp2_with fail
     refine (H1 _).out.mono ?_
     rintro e w1 ⟨rfl, b1⟩
     go_wp2_with fail
     refine (HZ _).out.mono ?_
     rintro e w2 ⟨rfl, b2⟩
     go_wp2_with fail
     first
     | go_region_held3 (fun w' => w'.cell? ⟨w.heap.size, 0, none⟩ = some (.int .u64 p) ∧ w'.cell? ⟨w.heap.size, 1, none⟩ = some (.int .u64 q)) (first | (go_simp; done))
      (first
       | (go_at_call 52; refine (HR _).out.mono ?_; rintro e w6 ⟨rfl, b6⟩)
       | (go_at_call 74; refine (HA _ _).out.mono ?_; rintro e w3 ⟨rfl, b3⟩)
       | (go_at_call 73; refine (HC _).out.mono ?_; rintro e w4 ⟨rfl, b4⟩)
       | (go_at_call 73; refine (HD _).out.mono ?_; rintro e w5 ⟨rfl, b5⟩)
       | fail)
     | fail "region"
     all_goals (
      go_wp2_with fail
      refine bodyPost_ret (v := .agg #[.int .u64 u, .int .u64 v]) (by simp only [results, Tryz.results29]; go_simp) rfl ?_
      exact ⟨rfl, zbh⟩)
   · show Calls _ _ _ _ fun e w' => e = .returned (.agg #[.int .u64 18442240474082181120, .int .u64 9218868437227405312]) ∧ Below w.heap.size w w'
     generalize ((a : Nat) : Int) = p at *
     generalize ((b : Nat) : Int) = q at *
     go_enter Tryz.func29, Tryz.ntmps29
     go_wp2_with fail
     refine (H1 _).out.mono ?_
     rintro e w1 ⟨rfl, b1⟩
     go_wp2_with fail
     refine (HZ _).out.mono ?_
     rintro e w2 ⟨rfl, b2⟩
     go_wp2_with fail
     refine (HW _).out.mono ?_
     rintro e w3 ⟨rfl, b3⟩
     go_wp2_with fail
     refine bodyPost_ret (v := .agg #[.int .u64 18442240474082181120, .int .u64 9218868437227405312]) (by simp only [results, Tryz.results29]; go_simp) rfl ?_
     exact ⟨rfl, zbh⟩
end Go.Proofs.YtgicceiimciafaaGreatDoor
