/-
  Walks: helpers of the laws of floats: SlimDyad for 20 limbs and 3000, opposite.
-/
import Derived.Test.YtkpglfloddkclaaGreatDoorGw
import Derived.Test.YtkpglfloddkclaaGreatDoorSl
namespace Go.Proofs.YtkpglfloddkclaaGreatDoor
open Go.RowKit Sp

def slim3B (n : Nat) (e : Int) : Bool := decide (n ≤ 20) && ((decide (-3000 ≤ e) && decide (e ≤ 3000)) || decide (131072 < e) || decide (e < -131072))
theorem slim3_nrm {n x : Nat} {s bd : Bool} {e m f : Int} (hn : slim3B n e = true) (hx : x < B ^ n) (h : nrmB bd (sgn s x) e = some (m, f)) : Slim3 m f := by
  cases bd with
  | true => cases h
  | false =>
    have h : nrm (sgn s x) e = some (m, f) := h
    simp only [slim3B, Bool.and_eq_true, Bool.or_eq_true, decide_eq_true_eq] at hn
    obtain ⟨hn20, he⟩ := hn
    have hb : blen (sgn s x).natAbs ≤ 640 := by have := slim_pow x n hx; rw [sgn_natAbs]; omega
    by_cases h0 : sgn s x = 0
    · rw [h0, nrm_zero] at h; injection h with h; injection h with h1 h2; subst h1 h2; exact Or.inl ⟨rfl, rfl⟩
    · obtain ⟨t, ht, hf, hodd, h1, h2⟩ := nrm_some h0 h
      have hm0 : m ≠ 0 := fun hm => by rw [hm, Int.zero_mul] at ht; exact h0 ht
      have hbl : blen (sgn s x).natAbs = blen m.natAbs + t := by rw [ht, natAbs_mul_pow, blen_mul_pow (Int.natAbs_pos.2 hm0)]
      refine Or.inr ⟨hodd, by omega, ?_, ?_⟩ <;> omega
theorem dyis_of3 {w : World} {bd s : Bool} {a : Option Addr} {n p x : Nat} {e : Int} (hm : Mag w a n p x) (hs : slim3B n e = true) (h0 : -9223372036854775808 ≤ e) (h1 : e ≤ 9223372036854775807) : DyIs w bd s a n p e (nrmB bd (sgn s x) e) := by
  have hn : n ≤ 20 := by simp only [slim3B, Bool.and_eq_true, decide_eq_true_eq] at hs; exact hs.1
  have hb := slim_pow x n hm.lt
  exact ⟨⟨x, hm, by omega, by omega, h0, h1, rfl⟩, by omega⟩

set_option maxRecDepth 100000 in
set_option maxHeartbeats 2000000 in
theorem slimDyad3_any (w : World) (bd s : Bool) (a : Option Addr) (n cap : Nat) (e : Int) (hn : n ≤ 9223372036854775807) (v : Bool) (hv : slim3B n e = v) :
    Calls Tryz.prog 7 #[.agg #[.bool bd, .bool s, .slice a n cap, .int .i64 e], .int .i64 20, .int .i64 3000] w fun o w' => o = .returned (.bool v) ∧ Below w.heap.size w w' := by
  subst hv
  go_enter Tryz.func7, Tryz.ntmps7
  go_wp2
  all_goals (
    go_ret
    refine ⟨?_, (by repeat (with_reducible first | refine Below.setCell ?_ (by simp <;> omega) _ | refine Below.alloc ?_ (by simp <;> omega) _ | refine Below.drew ?_ | refine below_drewN ?_ _ | exact Below.refl _ _))⟩)
  all_goals exact congrArg (fun q => Ending.returned (.bool q)) (by unfold slim3B; rw [Bool.eq_iff_iff]; simp <;> omega)

end Go.Proofs.YtkpglfloddkclaaGreatDoor

