/-
  Walks: package float: Up, Down.
-/
import Derived.Test.YtkpglfloddkclaaGreatDoorGc
namespace Go.Proofs.YtkpglfloddkclaaGreatDoor
open Go.RowKit Sp

set_option maxRecDepth 100000 in
set_option maxHeartbeats 2000000 in
theorem fup_any (w : World) (f : Nat) (hf : f < 18446744073709551616) : Calls Tryz.prog 21 #[.int .u64 f] w fun e w' => e = .returned (.int .u64 (fup f : Nat)) ∧ Below w.heap.size w w' := by
  have HN := fun W g h => Lib.hid (nan1 W g f h)
  have HZ := fun W => Lib.hid (fzero_any W f)
  have HS := fun W => Lib.hid (fsign_any W f hf)
  have hi : ((f : Int) == 9218868437227405312) = decide (f = fInf) := by rw [Bool.eq_iff_iff, beq_iff_eq, decide_eq_true_eq]; unfold fInf; omega
  cases hn : fnan f with
  | true =>
    have hv : ((fup f : Nat) : Int) = 9221120237041090560 := by unfold fup; rw [if_pos hn]; rfl
    rw [hn] at HN
    rw [hv]
    clear hv hn hi
    go_enter Tryz.func21, Tryz.ntmps21
    go_wp2_with fail
    refine (HN _ _ (by go_simp)).out.mono ?_
    rintro e w1 ⟨rfl, rfl⟩
    go_wp2_with fail
    go_ret
    exact ⟨rfl, (by repeat (with_reducible first | refine Below.setCell ?_ (by simp <;> omega) _ | refine Below.alloc ?_ (by simp <;> omega) _ | refine Below.drew ?_ | refine below_drewN ?_ _ | exact Below.refl _ _))⟩
  | false =>
    rw [hn] at HN
    by_cases h1 : f = fInf
    · have hv : fup f = f := by unfold fup; rw [if_neg (by rw [hn]; decide), if_pos h1]
      rw [decide_eq_true h1] at hi
      rw [hv]
      clear hv hn h1
      go_enter Tryz.func21, Tryz.ntmps21
      go_wp2_with fail
      refine (HN _ _ (by go_simp)).out.mono ?_
      rintro e w1 ⟨rfl, rfl⟩
      go_wp2_with fail
      go_ret
      exact ⟨rfl, (by repeat (with_reducible first | refine Below.setCell ?_ (by simp <;> omega) _ | refine Below.alloc ?_ (by simp <;> omega) _ | refine Below.drew ?_ | refine below_drewN ?_ _ | exact Below.refl _ _))⟩
    · rw [decide_eq_false h1] at hi
      cases hz : fzero f with
      | true =>
        have hv : ((fup f : Nat) : Int) = 1 := by unfold fup; rw [if_neg (by rw [hn]; decide), if_neg h1, if_pos hz]; rfl
        rw [hz] at HZ
        rw [hv]
        clear hv hn h1 hz
        go_enter Tryz.func21, Tryz.ntmps21
        go_wp2_with fail
        refine (HN _ _ (by go_simp)).out.mono ?_
        rintro e w1 ⟨rfl, rfl⟩
        go_wp2_with fail
        refine (HZ _).out.mono ?_
        rintro e w1 ⟨rfl, rfl⟩
        go_wp2_with fail
        go_ret
        exact ⟨rfl, (by repeat (with_reducible first | refine Below.setCell ?_ (by simp <;> omega) _ | refine Below.alloc ?_ (by simp <;> omega) _ | refine Below.drew ?_ | refine below_drewN ?_ _ | exact Below.refl _ _))⟩
      | false =>
        rw [hz] at HZ
        cases hs : fS f with
        | true =>
          have hw : IntKind.u64.wrap ((f : Int) - 1) = ((fup f : Nat) : Int) := by
            have : 9223372036854775808 ≤ f := by unfold fS at hs; simpa using hs
            unfold fup; rw [if_neg (by rw [hn]; decide), if_neg h1, if_neg (by rw [hz]; decide), if_pos hs, IntKind.wrap_u64]; omega
          rw [hs] at HS
          generalize ((fup f : Nat) : Int) = v at *
          clear hn h1 hz hs
          go_enter Tryz.func21, Tryz.ntmps21
          go_wp2_with fail
          refine (HN _ _ (by go_simp)).out.mono ?_
          rintro e w1 ⟨rfl, rfl⟩
          go_wp2_with fail
          refine (HZ _).out.mono ?_
          rintro e w1 ⟨rfl, rfl⟩
          go_wp2_with fail
          refine (HS _).out.mono ?_
          rintro e w1 ⟨rfl, rfl⟩
          go_wp2_with fail
          go_ret
          exact ⟨rfl, (by repeat (with_reducible first | refine Below.setCell ?_ (by simp <;> omega) _ | refine Below.alloc ?_ (by simp <;> omega) _ | refine Below.drew ?_ | refine below_drewN ?_ _ | exact Below.refl _ _))⟩
        | false =>
          have hw : IntKind.u64.wrap ((f : Int) + 1) = ((fup f : Nat) : Int) := by
            have : ¬ 9223372036854775808 ≤ f := by unfold fS at hs; simpa using hs
            unfold fup; rw [if_neg (by rw [hn]; decide), if_neg h1, if_neg (by rw [hz]; decide), if_neg (by rw [hs]; decide), IntKind.wrap_u64]; omega
          rw [hs] at HS
          generalize ((fup f : Nat) : Int) = v at *
          clear hn h1 hz hs
          go_enter Tryz.func21, Tryz.ntmps21
          go_wp2_with fail
          refine (HN _ _ (by go_simp)).out.mono ?_
          rintro e w1 ⟨rfl, rfl⟩
          go_wp2_with fail
          refine (HZ _).out.mono ?_
          rintro e w1 ⟨rfl, rfl⟩
          go_wp2_with fail
          refine (HS _).out.mono ?_
          rintro e w1 ⟨rfl, rfl⟩
          go_wp2_with fail
          go_ret
          exact ⟨rfl, (by repeat (with_reducible first | refine Below.setCell ?_ (by simp <;> omega) _ | refine Below.alloc ?_ (by simp <;> omega) _ | refine Below.drew ?_ | refine below_drewN ?_ _ | exact Below.refl _ _))⟩

set_option maxRecDepth 100000 in
set_option maxHeartbeats 2000000 in
theorem fdown_any (w : World) (f : Nat) (hf : f < 18446744073709551616) : Calls Tryz.prog 35 #[.int .u64 f] w fun e w' => e = .returned (.int .u64 (fdown f : Nat)) ∧ Below w.heap.size w w' := by
  have H1 := fun W => Lib.hid (fneg_any W f hf)
  have H2 := fun W => Lib.hid (fup_any W (fneg f) (fneg_lt f))
  have H3 := fun W => Lib.hid (fneg_any W (fup (fneg f)) (fup_lt (fneg_lt f)))
  unfold fdown
  generalize ((fneg (fup (fneg f)) : Nat) : Int) = u at *
  generalize ((fup (fneg f) : Nat) : Int) = v at *
  generalize ((fneg f : Nat) : Int) = x at *
  go_enter Tryz.func35, Tryz.ntmps35
  go_wp2_with fail
  refine (H1 _).out.mono ?_
  rintro e w1 ⟨rfl, hb1⟩
  have B1 := below_box (w := w) (by repeat (with_reducible first | refine Below.setCell ?_ (by simp <;> omega) _ | refine Below.alloc ?_ (by simp <;> omega) _ | refine Below.drew ?_ | refine below_drewN ?_ _ | exact Below.refl _ _)) hb1
  clear hb1
  go_wp2_with fail
  refine (H2 _).out.mono ?_
  rintro e w2 ⟨rfl, hb2⟩
  have B2 := below_box (w := w) (by have hszw := (B1).size; repeat (with_reducible first | refine Below.setCell ?_ (by first | omega | (simp <;> omega)) _ | refine Below.alloc ?_ (by first | omega | (simp <;> omega)) _ | refine Below.drew ?_ | refine below_drewN ?_ _ | exact B1)) hb2
  clear hb2
  go_wp2_with fail
  refine (H3 _).out.mono ?_
  rintro e w3 ⟨rfl, hb3⟩
  have B3 := below_box (w := w) (by have hszw := (B2).size; repeat (with_reducible first | refine Below.setCell ?_ (by first | omega | (simp <;> omega)) _ | refine Below.alloc ?_ (by first | omega | (simp <;> omega)) _ | refine Below.drew ?_ | refine below_drewN ?_ _ | exact B2)) hb3
  clear hb3
  go_wp2_with fail
  go_ret
  exact ⟨rfl, (by have hszw := (B3).size; repeat (with_reducible first | refine Below.setCell ?_ (by first | omega | (simp <;> omega)) _ | refine Below.alloc ?_ (by first | omega | (simp <;> omega)) _ | refine Below.drew ?_ | refine below_drewN ?_ _ | exact B3))⟩

end Go.Proofs.YtkpglfloddkclaaGreatDoor

