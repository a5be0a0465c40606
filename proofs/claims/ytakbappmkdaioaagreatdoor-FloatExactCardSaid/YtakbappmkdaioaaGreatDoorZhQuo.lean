/-
  Walks: package dyad, round.go: Quo.
-/
import Derived.Test.YtakbappmkdaioaaGreatDoorZhBh
import Derived.Test.YtakbappmkdaioaaGreatDoorZhRat
namespace Go.Proofs.YtakbappmkdaioaaGreatDoor
open Go.RowKit Sp

/-- A call's result: a real number, its magnitude a natural one. -/
def RetReN (w : World) (s : Bool) (x : Nat) (E : Int) (more : Bool) (e : Ending) (w' : World) : Prop :=
  ∃ a c, e = .returned (.agg #[.bool s, .bool false, .slice a (nl x) c, .int .i64 E, .bool more]) ∧ Mag w' a (nl x) c x ∧ Below w.heap.size w w' ∧ (0 < nl x → w.heap.size ≤ ab a)
theorem ratio_any (w : World) (bd bd' : Bool) (a a' : Option Addr) (c c' : Nat) (z f z' f' p : Int) (hx : Mag w a (nl z.natAbs) c z.natAbs) (hy : Mag w a' (nl z'.natAbs) c' z'.natAbs) (hb : blen z.natAbs ≤ 131072) (hb' : blen z'.natAbs ≤ 131072) (hz' : z' ≠ 0) (hp0 : 1 ≤ p) (hp1 : p ≤ 4096) (hf : -65536 ≤ f) (hf1 : f ≤ 65536) (hf' : -65536 ≤ f') (hf1' : f' ≤ 65536) :
    Calls Tryz.prog 141 #[.agg #[.bool bd, .bool (decide (z < 0)), .slice a (nl z.natAbs) c, .int .i64 f], .agg #[.bool bd', .bool (decide (z' < 0)), .slice a' (nl z'.natAbs) c', .int .i64 f'], .int .i64 p]
      w (RetReN w (decide (z < 0) != decide (z' < 0)) (z.natAbs * 2 ^ qsh z z' p / z'.natAbs) (f - qsh z z' p - f') (decide (z.natAbs * 2 ^ qsh z z' p % z'.natAbs ≠ 0))) := by
  have hn : max 0 (p + 3 + (blen z'.natAbs : Int) - (blen z.natAbs : Int)) = (qsh z z' p : Int) := by unfold qsh; omega
  have hn2 : qsh z z' p ≤ 140000 := by unfold qsh; omega
  have hyl : nl ((z.natAbs * 2 ^ qsh z z' p : Nat) : Int).natAbs ≤ 1099511627776 := by
    refine nl_lim ?_
    show blen (z.natAbs * 2 ^ qsh z z' p) ≤ _
    by_cases h0 : z.natAbs = 0
    · rw [h0, Nat.zero_mul]; decide
    · rw [blen_mul_pow (Nat.pos_of_ne_zero h0)]; omega
  have h := ratio_core w bd bd' a a' c c' z f z' f' p (qsh z z' p) (f - qsh z z' p - f') (z.natAbs : Int) ((z.natAbs * 2 ^ qsh z z' p : Nat) : Int) _ _ _ _ (z.natAbs * 2 ^ qsh z z' p) z'.natAbs hx hy (nl_lim (by omega)) (nl_lim (by omega)) rfl rfl hb hb' hp0 hp1 hn rfl (by simp) rfl rfl (Int.natAbs_pos.2 hz') rfl rfl hyl hf hf1 hf' hf1' rfl
  have e : (sg ((z.natAbs * 2 ^ qsh z z' p % z'.natAbs : Nat) : Int) != 0) = decide (z.natAbs * 2 ^ qsh z z' p % z'.natAbs ≠ 0) := by
    by_cases h0 : z.natAbs * 2 ^ qsh z z' p % z'.natAbs = 0
    · rw [h0]; rfl
    · rw [sg_pos (by omega)]; simp [h0]
  rw [e] at h
  refine h.mono ?_
  rintro o w' ⟨a1, c1, rfl, h1, h2, h3⟩
  refine ⟨a1, c1, ?_, h1, h2, h3⟩
  simp only [show ∀ k : Nat, decide ((k : Int) < 0) = false from fun k => by simp]
  rfl

end Go.Proofs.YtakbappmkdaioaaGreatDoor

