/-
  Walks: the reference's floats: the functions of the bits.
  Walks: the reference's floats: Cmp, Up, Down.
  Walks: the reference's Int, and Of of its floats.
  Walks: the reference's floats: rounded.
  Walks: the reference's floats: Round, FromInt.
-/
import Derived.Test.YtakbappmkdaioaaGreatDoorZuGc
import Derived.Test.YtakbappmkdaioaaGreatDoorZuRq
import Derived.Test.YtakbappmkdaioaaGreatDoorZuRm
import Derived.Test.YtakbappmkdaioaaGreatDoorZuGi
import Derived.Test.YtakbappmkdaioaaGreatDoorZuGo
import Derived.Test.YtakbappmkdaioaaGreatDoorZuBg
import Derived.Test.YtakbappmkdaioaaGreatDoorZuBf
import Derived.Test.YtakbappmkdaioaaGreatDoorZuGr
namespace Go.Proofs.YtakbappmkdaioaaGreatDoor
open Go.RowKit Sp

theorem fkind_B (f : Nat) : fkind f = bif (((fE f : Nat) : Int) == 2047) then (bif (((fR f : Nat) : Int) == 0) then 2 else 3) else bif (((fE f : Nat) : Int) == 0) then (bif (((fR f : Nat) : Int) == 0) then 0 else 1) else 1 := by
  rw [fkind_ER]
  have a1 : (((fE f : Nat) : Int) == 2047) = decide (fE f = 2047) := by rw [Bool.eq_iff_iff]; simp; omega
  have a2 : (((fE f : Nat) : Int) == 0) = decide (fE f = 0) := by rw [Bool.eq_iff_iff]; simp
  have a3 : (((fR f : Nat) : Int) == 0) = decide (fR f = 0) := by rw [Bool.eq_iff_iff]; simp
  rw [a1, a2, a3]
  by_cases a : fE f = 2047 <;> by_cases b : fR f = 0 <;> by_cases c : fE f = 0 <;> simp [a, b, c] <;> omega

set_option maxRecDepth 100000 in
set_option maxHeartbeats 2000000 in
theorem rkind_any (w : World) (f : Nat) : Calls Tryz.prog 53 #[.int .u64 f] w fun e w' => e = .returned (.int .i64 (fkind f)) ∧ w = w' := by
  have h1 := bits_E f
  have h2 := bits_R f
  have hk := fkind_B f
  generalize fkind f = k at *
  generalize ((fE f : Nat) : Int) = E at *
  generalize ((fR f : Nat) : Int) = R at *
  have a4 : (R != 0) = !(R == 0) := rfl
  cases ha : (E == 2047) <;> cases hb : (R == 0) <;> cases hc : (E == 0) <;> rw [hb] at a4 <;> rw [ha, hb, hc] at hk <;> simp only [cond_true, cond_false, Bool.not_true, Bool.not_false] at hk a4 <;> subst hk <;>
  · go_enter Tryz.func53, Tryz.ntmps53
    go_wp2
    go_ret
    exact ⟨rfl, rfl⟩

set_option maxRecDepth 100000 in
set_option maxHeartbeats 2000000 in
theorem rnan_any (w : World) (f : Nat) : Calls Tryz.prog 164 #[.int .u64 f] w fun e w' => e = .returned (.bool (fnan f)) ∧ w = w' := by
  have HP := fun W => Lib.hid (rkind_any W f)
  have hk := (fkind_eqs f).1
  generalize fkind f = k at *
  go_enter Tryz.func164, Tryz.ntmps164
  go_wp2_with fail
  refine (HP _).out.mono ?_
  rintro e w1 ⟨rfl, rfl⟩
  go_wp2_with fail
  go_ret
  exact ⟨by simp, rfl⟩

set_option maxRecDepth 100000 in
set_option maxHeartbeats 2000000 in
theorem rminus_any (w : World) (f : Nat) (hf : f < 18446744073709551616) : Calls Tryz.prog 173 #[.int .u64 f] w fun e w' => e = .returned (.bool (fS f)) ∧ w = w' := by
  have h1 := bits_sign hf
  cases hs : fS f <;> rw [hs] at h1 <;>
  · simp only [if_true, Bool.false_eq_true, if_false] at h1
    go_enter Tryz.func173, Tryz.ntmps173
    go_wp2
    go_ret
    exact ⟨by simp, rfl⟩

set_option maxRecDepth 100000 in
set_option maxHeartbeats 2000000 in
theorem rkey_any (w : World) (f : Nat) (hf : f < 18446744073709551616) : Calls Tryz.prog 165 #[.int .u64 f] w fun e w' => e = .returned (.int .i64 (fplace f)) ∧ w = w' := by
  have h1 := bits_abs hf
  have hM := fM_lt f
  have h2 : IntKind.i64.wrap ((fM f : Nat) : Int) = (fM f : Nat) := by rw [IntKind.wrap_i64]; omega
  have h3 : IntKind.i64.wrap (-((fM f : Nat) : Int)) = -((fM f : Nat) : Int) := by rw [IntKind.wrap_i64]; omega
  have HS := fun W => Lib.hid (rminus_any W f hf)
  rw [fplace_eq]
  cases hs : fS f with
  | true =>
    clear hM
    generalize ((fM f : Nat) : Int) = m at *
    rw [hs] at HS
    rw [if_pos rfl]
    go_enter Tryz.func165, Tryz.ntmps165
    go_wp2_with fail
    refine (HS _).out.mono ?_
    rintro e w1 ⟨rfl, rfl⟩
    go_wp2_with fail
    go_ret
    exact ⟨rfl, rfl⟩
  | false =>
    have e1 : (f : Int) = (fM f : Nat) := by
      unfold fS at hs; unfold fM
      have : f < 9223372036854775808 := by simpa using hs
      omega
    rw [← e1] at h2 ⊢
    clear hM h1 h3 e1
    rw [hs] at HS
    rw [if_neg (by decide)]
    go_enter Tryz.func165, Tryz.ntmps165
    go_wp2_with fail
    refine (HS _).out.mono ?_
    rintro e w1 ⟨rfl, rfl⟩
    go_wp2_with fail
    go_ret
    exact ⟨rfl, rfl⟩

end Go.Proofs.YtakbappmkdaioaaGreatDoor

namespace Go.Proofs.YtakbappmkdaioaaGreatDoor
open Go.RowKit Sp

set_option maxRecDepth 100000 in
set_option maxHeartbeats 2000000 in
theorem r3cmp_any (w : World) (a b : Nat) (ha : a < 18446744073709551616) (hb : b < 18446744073709551616) :
    Calls Tryz.prog 49 #[.int .u64 a, .int .u64 b] w fun e w' => e = .returned (.tuple #[.int .i64 (fcmpv a b), .bool (fcmpok a b)]) ∧ w = w' := by
  have HNa := fun W => Lib.hid (rnan_any W a)
  have HNb := fun W => Lib.hid (rnan_any W b)
  have HKa := fun W => Lib.hid (rkey_any W a ha)
  have HKb := fun W => Lib.hid (rkey_any W b hb)
  unfold fcmpv fcmpok
  cases hna : fnan a with
  | true =>
    rw [hna] at HNa
    go_enter Tryz.func49, Tryz.ntmps49
    go_wp2_with fail
    (refine (HNa _).out.mono ?_; rintro e w1 ⟨rfl, rfl⟩; go_wp2_with fail)
    refine bodyPost_ret (v := .tuple #[.int .i64 0, .bool false]) (by simp only [results, Tryz.results49]; go_simp) rfl ?_
    exact ⟨rfl, rfl⟩
  | false =>
    rw [hna] at HNa
    cases hnb : fnan b with
    | true =>
      rw [hnb] at HNb
      go_enter Tryz.func49, Tryz.ntmps49
      go_wp2_with fail
      (refine (HNa _).out.mono ?_; rintro e w1 ⟨rfl, rfl⟩; go_wp2_with fail)
      (refine (HNb _).out.mono ?_; rintro e w1 ⟨rfl, rfl⟩; go_wp2_with fail)
      refine bodyPost_ret (v := .tuple #[.int .i64 0, .bool false]) (by simp only [results, Tryz.results49]; go_simp) rfl ?_
      exact ⟨rfl, rfl⟩
    | false =>
      rw [hnb] at HNb
      generalize fplace a = x at *
      generalize fplace b = y at *
      clear hna hnb ha hb
      rw [if_neg (by decide)]
      obtain ⟨c, hc⟩ : ∃ c, c = cmpI x y := ⟨_, rfl⟩
      rw [← hc]
      rcases Int.lt_trichotomy x y with h | h | h
      · rw [cmpI_lt h] at hc; subst hc
        have h1 : decide (x < y) = true := by simpa using h
        clear h
        go_enter Tryz.func49, Tryz.ntmps49
        go_wp2_with fail
        (refine (HNa _).out.mono ?_; rintro e w1 ⟨rfl, rfl⟩; go_wp2_with fail)
        (refine (HNb _).out.mono ?_; rintro e w1 ⟨rfl, rfl⟩; go_wp2_with fail)
        (refine (HKa _).out.mono ?_; rintro e w1 ⟨rfl, rfl⟩; go_wp2_with fail)
        (refine (HKb _).out.mono ?_; rintro e w1 ⟨rfl, rfl⟩; go_wp2_with fail)
        refine bodyPost_ret (v := .tuple #[.int .i64 (-1), .bool true]) (by simp only [results, Tryz.results49]; go_simp) rfl ?_
        exact ⟨rfl, rfl⟩
      · rw [cmpI_eq h] at hc; subst hc
        have h1 : decide (x < y) = false := by simp; omega
        have h2 : decide (y < x) = false := by simp; omega
        clear h
        go_enter Tryz.func49, Tryz.ntmps49
        go_wp2_with fail
        (refine (HNa _).out.mono ?_; rintro e w1 ⟨rfl, rfl⟩; go_wp2_with fail)
        (refine (HNb _).out.mono ?_; rintro e w1 ⟨rfl, rfl⟩; go_wp2_with fail)
        (refine (HKa _).out.mono ?_; rintro e w1 ⟨rfl, rfl⟩; go_wp2_with fail)
        (refine (HKb _).out.mono ?_; rintro e w1 ⟨rfl, rfl⟩; go_wp2_with fail)
        (refine (HKa _).out.mono ?_; rintro e w1 ⟨rfl, rfl⟩; go_wp2_with fail)
        (refine (HKb _).out.mono ?_; rintro e w1 ⟨rfl, rfl⟩; go_wp2_with fail)
        refine bodyPost_ret (v := .tuple #[.int .i64 0, .bool true]) (by simp only [results, Tryz.results49]; go_simp) rfl ?_
        exact ⟨rfl, rfl⟩
      · rw [cmpI_gt h] at hc; subst hc
        have h1 : decide (x < y) = false := by simp; omega
        have h2 : decide (y < x) = true := by simpa using h
        clear h
        go_enter Tryz.func49, Tryz.ntmps49
        go_wp2_with fail
        (refine (HNa _).out.mono ?_; rintro e w1 ⟨rfl, rfl⟩; go_wp2_with fail)
        (refine (HNb _).out.mono ?_; rintro e w1 ⟨rfl, rfl⟩; go_wp2_with fail)
        (refine (HKa _).out.mono ?_; rintro e w1 ⟨rfl, rfl⟩; go_wp2_with fail)
        (refine (HKb _).out.mono ?_; rintro e w1 ⟨rfl, rfl⟩; go_wp2_with fail)
        (refine (HKa _).out.mono ?_; rintro e w1 ⟨rfl, rfl⟩; go_wp2_with fail)
        (refine (HKb _).out.mono ?_; rintro e w1 ⟨rfl, rfl⟩; go_wp2_with fail)
        refine bodyPost_ret (v := .tuple #[.int .i64 1, .bool true]) (by simp only [results, Tryz.results49]; go_simp) rfl ?_
        exact ⟨rfl, rfl⟩

end Go.Proofs.YtakbappmkdaioaaGreatDoor

namespace Go.Proofs.YtakbappmkdaioaaGreatDoor
open Go.RowKit Sp

end Go.Proofs.YtakbappmkdaioaaGreatDoor

namespace Go.Proofs.YtakbappmkdaioaaGreatDoor
open Go.RowKit Sp

end Go.Proofs.YtakbappmkdaioaaGreatDoor

namespace Go.Proofs.YtakbappmkdaioaaGreatDoor
open Go.RowKit Sp

end Go.Proofs.YtakbappmkdaioaaGreatDoor

