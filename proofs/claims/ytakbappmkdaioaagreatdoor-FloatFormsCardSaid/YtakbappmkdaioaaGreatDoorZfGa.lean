/-
  Walks: package float: the parts of a float and the functions of its bits.
-/
import Derived.Test.YtakbappmkdaioaaGreatDoorZfFP
import Derived.Test.YtakbappmkdaioaaGreatDoorZfBf
namespace Go.Proofs.YtakbappmkdaioaaGreatDoor
open Go.RowKit Sp

set_option maxHeartbeats 400000 in
theorem fparts_any (w : World) (f : Nat) : Calls Tryz.prog 168 #[.int .u64 f] w fun e w' => e = .returned (.tuple #[.int .i64 (fE f : Nat), .int .u64 (fR f : Nat)]) ∧ w = w' := by
  have h1 := bits_E f
  have h2 := bits_R f
  have h3 := fE_lt f
  have h4 : IntKind.i64.wrap ((fE f : Nat) : Int) = (fE f : Nat) := by rw [IntKind.wrap_i64]; omega
  generalize ((fE f : Nat) : Int) = E at *
  generalize ((fR f : Nat) : Int) = R at *
  go_enter Tryz.func168, Tryz.ntmps168
  go_wp2
  refine bodyPost_ret (v := .tuple #[.int .i64 E, .int .u64 R]) (by simp only [results, Tryz.results168]; go_simp) rfl ?_
  exact ⟨rfl, rfl⟩

set_option maxHeartbeats 400000 in
theorem fsign_any (w : World) (f : Nat) (hf : f < 18446744073709551616) : Calls Tryz.prog 170 #[.int .u64 f] w fun e w' => e = .returned (.bool (fS f)) ∧ w = w' := by
  have h1 := bits_sign hf
  cases hs : fS f <;> rw [hs] at h1 <;>
  · simp only [if_true, Bool.false_eq_true, if_false] at h1
    go_enter Tryz.func170, Tryz.ntmps170
    go_wp2
    go_ret
    exact ⟨by simp, rfl⟩

set_option maxHeartbeats 400000 in
theorem fsigned_any (w : World) (c : Nat) (s : Bool) (hc : c < 9223372036854775808) : Calls Tryz.prog 183 #[.int .u64 c, .bool s] w fun e w' => e = .returned (.int .u64 (fsgn s c : Nat)) ∧ w = w' := by
  have h1 := bits_or_sign hc
  cases s
  · go_enter Tryz.func183, Tryz.ntmps183
    go_wp2
    go_ret
    exact ⟨rfl, rfl⟩
  · generalize ((fsgn true c : Nat) : Int) = v at *
    go_enter Tryz.func183, Tryz.ntmps183
    go_wp2
    go_ret
    exact ⟨by simp, rfl⟩

theorem fkind_ER (f : Nat) : fkind f = if fE f = 2047 then (if fR f = 0 then 2 else 3) else if fE f = 0 then (if fR f = 0 then 0 else 1) else 1 := by
  have h1 := fnan_E f
  have h2 := finf_E f
  have h3 := fzero_E f
  unfold fkind
  rw [h1, h2, h3]
  by_cases a : fE f = 2047 <;> by_cases b : fR f = 0 <;> by_cases c : fE f = 0 <;> simp [a, b, c] <;> omega

set_option maxHeartbeats 400000 in
theorem fkind_any (w : World) (f : Nat) : Calls Tryz.prog 52 #[.int .u64 f] w fun e w' => e = .returned (.int .i64 (fkind f)) ∧ w = w' := by
  have HP := fun W => Lib.hid (fparts_any W f)
  have hk := fkind_ER f
  have a1 : (((fE f : Nat) : Int) == 2047) = decide (fE f = 2047) := by rw [Bool.eq_iff_iff]; simp; omega
  have a2 : (((fE f : Nat) : Int) == 0) = decide (fE f = 0) := by rw [Bool.eq_iff_iff]; simp
  have a3 : (((fR f : Nat) : Int) == 0) = decide (fR f = 0) := by rw [Bool.eq_iff_iff]; simp
  have a4 : (((fR f : Nat) : Int) != 0) = !decide (fR f = 0) := by unfold bne; rw [a3]
  generalize fkind f = k at *
  generalize ((fE f : Nat) : Int) = E at *
  generalize ((fR f : Nat) : Int) = R at *
  by_cases a : fE f = 2047
  · rw [decide_eq_true a] at a1
    rw [if_pos a] at hk
    by_cases b : fR f = 0
    · rw [decide_eq_true b] at a3 a4
      rw [if_pos b] at hk
      subst hk
      clear a b a2 a3
      go_enter Tryz.func52, Tryz.ntmps52
      go_wp2_with fail
      refine (HP _).out.mono ?_
      rintro e w1 ⟨rfl, rfl⟩
      go_wp2_with fail
      go_ret
      exact ⟨rfl, rfl⟩
    · rw [decide_eq_false b] at a3 a4
      rw [if_neg b] at hk
      subst hk
      clear a b a2 a3
      go_enter Tryz.func52, Tryz.ntmps52
      go_wp2_with fail
      refine (HP _).out.mono ?_
      rintro e w1 ⟨rfl, rfl⟩
      go_wp2_with fail
      go_ret
      exact ⟨rfl, rfl⟩
  · rw [decide_eq_false a] at a1
    rw [if_neg a] at hk
    by_cases c : fE f = 0
    · rw [decide_eq_true c] at a2
      rw [if_pos c] at hk
      by_cases b : fR f = 0
      · rw [decide_eq_true b] at a3
        rw [if_pos b] at hk
        subst hk
        clear a b c a4
        go_enter Tryz.func52, Tryz.ntmps52
        go_wp2_with fail
        refine (HP _).out.mono ?_
        rintro e w1 ⟨rfl, rfl⟩
        go_wp2_with fail
        go_ret
        exact ⟨rfl, rfl⟩
      · rw [decide_eq_false b] at a3
        rw [if_neg b] at hk
        subst hk
        clear a b c a4
        go_enter Tryz.func52, Tryz.ntmps52
        go_wp2_with fail
        refine (HP _).out.mono ?_
        rintro e w1 ⟨rfl, rfl⟩
        go_wp2_with fail
        go_ret
        exact ⟨rfl, rfl⟩
    · rw [decide_eq_false c] at a2
      rw [if_neg c] at hk
      subst hk
      clear a c a3 a4
      go_enter Tryz.func52, Tryz.ntmps52
      go_wp2_with fail
      refine (HP _).out.mono ?_
      rintro e w1 ⟨rfl, rfl⟩
      go_wp2_with fail
      go_ret
      exact ⟨rfl, rfl⟩

theorem fkind_eqs (f : Nat) : (fkind f == 3) = fnan f ∧ (fkind f == 2) = finf f ∧ (fkind f == 0) = fzero f := by
  have h1 := fnan_E f
  have h2 := finf_E f
  have h3 := fzero_E f
  rw [fkind_ER, h1, h2, h3]
  by_cases a : fE f = 2047 <;> by_cases b : fR f = 0 <;> by_cases c : fE f = 0 <;> simp [a, b, c] <;> omega

set_option maxHeartbeats 400000 in
theorem finf_any (w : World) (f : Nat) : Calls Tryz.prog 177 #[.int .u64 f] w fun e w' => e = .returned (.bool (finf f)) ∧ w = w' := by
  have HP := fun W => Lib.hid (fkind_any W f)
  have hk := (fkind_eqs f).2.1
  generalize fkind f = k at *
  go_enter Tryz.func177, Tryz.ntmps177
  go_wp2_with fail
  refine (HP _).out.mono ?_
  rintro e w1 ⟨rfl, rfl⟩
  go_wp2_with fail
  go_ret
  exact ⟨by simp, rfl⟩

set_option maxHeartbeats 400000 in
theorem fzero_any (w : World) (f : Nat) : Calls Tryz.prog 174 #[.int .u64 f] w fun e w' => e = .returned (.bool (fzero f)) ∧ w = w' := by
  have HP := fun W => Lib.hid (fkind_any W f)
  have hk := (fkind_eqs f).2.2
  generalize fkind f = k at *
  go_enter Tryz.func174, Tryz.ntmps174
  go_wp2_with fail
  refine (HP _).out.mono ?_
  rintro e w1 ⟨rfl, rfl⟩
  go_wp2_with fail
  go_ret
  exact ⟨by simp, rfl⟩

end Go.Proofs.YtakbappmkdaioaaGreatDoor

