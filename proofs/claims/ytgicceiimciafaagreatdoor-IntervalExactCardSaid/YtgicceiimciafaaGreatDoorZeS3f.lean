/-
  Walks: the reference's floats: Add, Sub, Mul, Div, FMA, Sqrt.
-/
import Derived.Test.YtgicceiimciafaaGreatDoorZeS3
import Derived.Test.YtgicceiimciafaaGreatDoorZeS3g
import Derived.Test.YtgicceiimciafaaGreatDoorZeCs
import Derived.Test.YtgicceiimciafaaGreatDoorZeRV
set_option maxRecDepth 100000
set_option maxHeartbeats 20000000
namespace Go.Proofs.YtgicceiimciafaaGreatDoor
open Go.RowKit Sp
attribute [local irreducible] Calls
theorem r3sqrt_spec (w : World) (a : Nat) (ha : a < 18446744073709551616) (mode : Int) (V : Nat) (h : (fnan a = true ∧ V = (9221120237041090560 : Nat)) ∨ (fnan a = false ∧ fzero a = true ∧ V = (a : Nat)) ∨ (fnan a = false ∧ fzero a = false ∧ ((a : Int) == 9218868437227405312) = true ∧ V = (a : Nat)) ∨ (fnan a = false ∧ fzero a = false ∧ ((a : Int) == 9218868437227405312) = false ∧ fS a = true ∧ V = (9221120237041090560 : Nat))) :
 Calls Tryz.prog 75 #[.int .u64 a, .int .i64 mode] w fun o w' => o = .returned (.int .u64 (V : Nat)) ∧ Below w.heap.size w w' := by
 have HNa := fun W => Lib.hid (rnan_any W a)
 have HZa := fun W => Lib.hid (rzero_any W a)
 have HSa := fun W => Lib.hid (rminus_any W a ha)
 rcases h with ⟨n1, hV⟩ | ⟨n1, z1, hV⟩ | ⟨n1, z1, e1, hV⟩ | ⟨n1, z1, e1, e2, hV⟩
 all_goals (try rw [n1] at HNa)
 all_goals (try rw [z1] at HZa)
 all_goals (try rw [e2] at HSa)
 all_goals (
  rw [hV]
  clear hV
  go_enter Tryz.func75, Tryz.ntmps75
  go_wp2_with (first | (go_at_call 80; refine (HNa _).out.mono ?_; rintro e w1 ⟨rfl, rfl⟩) | (go_at_call 120; refine (HZa _).out.mono ?_; rintro e w1 ⟨rfl, rfl⟩) | (go_at_call 121; refine (HSa _).out.mono ?_; rintro e w1 ⟨rfl, rfl⟩))
  go_ret
  exact ⟨rfl, Below.refl _ _⟩)
theorem r3sqrt_any (w : World) (a : Nat) (ha : a < 18446744073709551616) (mode : Int) (hT : Tab w) :
 Calls Tryz.prog 75 #[.int .u64 a, .int .i64 mode] w fun o w' => o = .returned (.int .u64 (fsqrt a mode : Nat)) ∧ Below w.heap.size w w' := by
 have sp := r3sqrt_spec w a ha mode (fsqrt a mode)
 cases n1 : fnan a with
 | true => exact sp (Or.inl ⟨n1, by unfold fsqrt; rw [n1]; rfl⟩)
 | false =>
 cases z1 : fzero a with
 | true => exact sp (Or.inr (Or.inl ⟨n1, z1, by unfold fsqrt; rw [n1, z1]; rfl⟩))
 | false =>
 by_cases m : a = fInf
 · exact sp (Or.inr (Or.inr (Or.inl ⟨n1, z1, by rw [m]; rfl, by unfold fsqrt; rw [n1, z1, decide_eq_true m]; rfl⟩)))
 · have e1 : ((a : Int) == 9218868437227405312) = false := by rw [beq_eq_false_iff_ne]; intro h; exact m (by unfold fInf; omega)
   cases e2 : fS a with
   | true => exact sp (Or.inr (Or.inr (Or.inr ⟨n1, z1, e1, e2, by unfold fsqrt; rw [n1, z1, decide_eq_false m, e2]; rfl⟩)))
   | false =>
    have HT : Tb w := ⟨hT⟩
    rw [show fsqrt a mode = froot (fof a) mode by unfold fsqrt; rw [n1, z1, decide_eq_false m, e2]; rfl]
    have HNa := fun W => Lib.hid (rnan_any W a)
    have HZa := fun W => Lib.hid (rzero_any W a)
    have HSa := fun W => Lib.hid (rminus_any W a ha)
    have HOa := fun W [Tb W] => Lib.hid (frs (isN_fof a) (r3of_any W a ha tb))
    rw [n1] at HNa; rw [z1] at HZa; rw [e2] at HSa
    generalize fof a = da at *
    have HR := fun W b1 q1 [i : DS W (dbad (da)) (decide (dman (da) < 0)) b1 (nl (dman (da)).natAbs) q1 (dexp (da)) (da)] [Tb W] => Lib.hid (frm (r3root_any W _ _ _ _ _ _ _ mode i.out tb))
    generalize ((froot da mode : Nat) : Int) = V at *
    clear sp m n1 z1 e2
    go_enter Tryz.func75, Tryz.ntmps75
    go_wp2_with (first | (go_at_call 80; refine (HNa _).out.mono ?_; rintro e w1 ⟨rfl, rfl⟩) | (go_at_call 120; refine (HZa _).out.mono ?_; rintro e w1 ⟨rfl, rfl⟩) | (go_at_call 121; refine (HSa _).out.mono ?_; rintro e w1 ⟨rfl, rfl⟩))
    refine (HOa _).out.mono ?_
    rintro o w1 ⟨a1, c1, rfl, i1, b1⟩
    haveI T1 : Tb w1 := ⟨hT.below zbh⟩
    go_wp2_with fail
    refine (HR _ _ _).out.mono ?_
    rintro o w2 ⟨rfl, b2⟩
    haveI T2 : Tb w2 := ⟨hT.below zbh⟩
    go_wp2_with fail
    go_ret
    exact ⟨rfl, zbh⟩
end Go.Proofs.YtgicceiimciafaaGreatDoor
