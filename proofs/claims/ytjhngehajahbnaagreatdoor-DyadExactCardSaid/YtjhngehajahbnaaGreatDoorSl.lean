/-
  Walks: sparsekit.SlimDyad, Place; the laws' slim, same, bits.
-/
import Derived.Test.YtjhngehajahbnaaGreatDoorRm
import Derived.Test.YtjhngehajahbnaaGreatDoorKit
import Derived.Test.YtjhngehajahbnaaGreatDoorBL
namespace Go.Proofs.YtjhngehajahbnaaGreatDoor
open Go.RowKit Sp

/-- what slim answers -/
def slimB (n : Nat) (e : Int) : Bool := decide (n ≤ 20) && ((decide (-2000 ≤ e) && decide (e ≤ 2000)) || decide (131072 < e) || decide (e < -131072))

theorem slim_pow (x k : Nat) (h : x < B ^ k) : blen x ≤ 32 * k := blen_le (by rw [← Bpow_two]; exact h)
theorem slim_nrm {n x : Nat} {s bd : Bool} {e m f : Int} (hn : slimB n e = true) (hx : x < B ^ n) (h : nrmB bd (sgn s x) e = some (m, f)) : Slim m f := by
  cases bd with
  | true => cases h
  | false =>
    have h : nrm (sgn s x) e = some (m, f) := h
    simp only [slimB, Bool.and_eq_true, Bool.or_eq_true, decide_eq_true_eq] at hn
    obtain ⟨hn20, he⟩ := hn
    have hb : blen (sgn s x).natAbs ≤ 640 := by have := slim_pow x n hx; rw [sgn_natAbs]; omega
    by_cases h0 : sgn s x = 0
    · rw [h0, nrm_zero] at h; injection h with h; injection h with h1 h2; subst h1 h2; exact Or.inl ⟨rfl, rfl⟩
    · obtain ⟨t, ht, hf, hodd, h1, h2⟩ := nrm_some h0 h
      have hm0 : m ≠ 0 := fun hm => by rw [hm, Int.zero_mul] at ht; exact h0 ht
      have hbl : blen (sgn s x).natAbs = blen m.natAbs + t := by rw [ht, natAbs_mul_pow, blen_mul_pow (Int.natAbs_pos.2 hm0)]
      refine Or.inr ⟨hodd, by omega, ?_, ?_⟩ <;> omega

set_option maxRecDepth 100000 in
set_option maxHeartbeats 2000000 in
theorem slimDyad_any (w : World) (bd s : Bool) (a : Option Addr) (n cap : Nat) (e : Int) (hn : n ≤ 9223372036854775807) :
    Calls Tryz.prog 46 #[.agg #[.bool bd, .bool s, .slice a n cap, .int .i64 e], .int .i64 20, .int .i64 2000] w fun o w' => o = .returned (.bool (slimB n e)) ∧ Below w.heap.size w w' := by
  go_enter Tryz.func46, Tryz.ntmps46
  go_wp2
  all_goals (
    go_ret
    refine ⟨?_, (by repeat (with_reducible first | refine Below.setCell ?_ (by simp <;> omega) _ | refine Below.alloc ?_ (by simp <;> omega) _ | refine Below.drew ?_ | refine below_drewN ?_ _ | exact Below.refl _ _))⟩)
  all_goals exact congrArg (fun q => Ending.returned (.bool q)) (by unfold slimB; rw [Bool.eq_iff_iff]; simp <;> omega)

set_option maxRecDepth 100000 in
set_option maxHeartbeats 2000000 in
theorem slim_any (w : World) (bd s : Bool) (a : Option Addr) (n cap : Nat) (e : Int) (hn : n ≤ 9223372036854775807) (v : Bool) (hv : slimB n e = v) :
    Calls Tryz.prog 5 #[.agg #[.bool bd, .bool s, .slice a n cap, .int .i64 e]] w fun o w' => o = .returned (.bool v) ∧ Below w.heap.size w w' := by
  have HS := fun W => Lib.hid (slimDyad_any W bd s a n cap e hn)
  rw [hv] at HS
  clear hv
  go_enter Tryz.func5, Tryz.ntmps5
  go_wp2_with fail
  refine (HS _).out.mono ?_
  rintro e w1 ⟨rfl, hb⟩
  have hbw := below_box (w := w) (by repeat (with_reducible first | refine Below.setCell ?_ (by simp <;> omega) _ | refine Below.alloc ?_ (by simp <;> omega) _ | refine Below.drew ?_ | refine below_drewN ?_ _ | exact Below.refl _ _)) hb
  go_wp2_with fail
  go_ret
  exact ⟨rfl, (by have hszw := (hbw).size; repeat (with_reducible first | refine Below.setCell ?_ (by first | omega | (simp <;> omega)) _ | refine Below.alloc ?_ (by first | omega | (simp <;> omega)) _ | refine Below.drew ?_ | refine below_drewN ?_ _ | exact hbw))⟩

/-- a number's place -/
def placeI (a n : Int) : Int := a % 18446744073709551616 % n
theorem dNorm_in (w : World) {bd s : Bool} {a : Option Addr} {n cap : Nat} {e : Int} {d : Option (Int × Int)} (h : DyIn w bd s a n cap e d) (hT : Tab w) :
    Calls Tryz.prog 21 #[.agg #[.bool bd, .bool s, .slice a n cap, .int .i64 e]] w (RetDy w d) := by
  obtain ⟨x, h1, h2, h3, h4, h5, h6⟩ := h
  have := dNorm_any w bd s a n cap x e h1 h2 hT h3 (tz_lim h3) h4 h5
  rwa [h6] at this
theorem dyEq_dec (d d' : Option (Int × Int)) : dyEq (dbad d) (dbad d') (decide (dman d < 0)) (decide (dman d' < 0)) (dman d).natAbs (dman d').natAbs (dexp d) (dexp d') = decide (d = d') := by
  unfold dyEq
  rw [Bool.eq_iff_iff]
  cases d with
  | none => cases d' with
    | none => simp
    | some q => simp [dbad]
  | some p => cases d' with
    | none => simp [dbad]
    | some q =>
      obtain ⟨m, e⟩ := p
      obtain ⟨n, f⟩ := q
      have hs : (m < 0 ↔ n < 0) ∧ m.natAbs = n.natAbs ↔ m = n := by omega
      have h0 : (decide (m < 0) = decide (n < 0)) = (m < 0 ↔ n < 0) := propext decide_eq_decide
      show ((false == false) && ((e == f) && (decide (m < 0) == decide (n < 0) && decide (m.natAbs = n.natAbs)))) = true ↔ decide ((some (m, e) : Option (Int × Int)) = some (n, f)) = true
      simp only [beq_self_eq_true, Bool.true_and, Bool.and_eq_true, beq_iff_eq, decide_eq_true_eq, Option.some.injEq, Prod.mk.injEq]
      rw [h0, ← hs]
      constructor
      · rintro ⟨h1, h2, h3⟩; exact ⟨⟨h2, h3⟩, h1⟩
      · rintro ⟨⟨h2, h3⟩, h1⟩; exact ⟨h1, h2, h3⟩

end Go.Proofs.YtjhngehajahbnaaGreatDoor

