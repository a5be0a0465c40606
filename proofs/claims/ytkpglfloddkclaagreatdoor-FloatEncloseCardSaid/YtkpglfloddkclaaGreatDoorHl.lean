/-
  Plain law: the model's floats are words of 64 bits. No program in sight.
-/
import Derived.Test.YtkpglfloddkclaaGreatDoorFP
namespace Go.Proofs.YtkpglfloddkclaaGreatDoor
open Go.RowKit Sp

theorem fround_lt (d : Option (Int × Int)) (mode : Int) : fround d mode < 18446744073709551616 := by
  unfold fround; split
  · decide
  · split
    · decide
    · exact fcut_lt _ _ _
theorem fmul_lt (a b : Nat) (mode : Int) : fmul a b mode < 18446744073709551616 := by
  unfold fmul; split
  · decide
  · split
    · exact fsgn_lt (by decide)
    · split
      · exact fsgn_lt (by decide)
      · exact fround_lt _ _
theorem gquo_lt (d d' : Option (Int × Int)) (mode : Int) : fquo d d' mode < 18446744073709551616 := by
  unfold fquo; split
  · split
    · decide
    · split
      · decide
      · exact fcut_lt _ _ _
  · decide
theorem gdiv_lt (a b : Nat) (mode : Int) : fdiv a b mode < 18446744073709551616 := by
  unfold fdiv; split
  · decide
  · split
    · exact fsgn_lt (by decide)
    · split
      · exact fsgn_lt (by decide)
      · exact gquo_lt _ _ _
theorem fadd_lt {a b : Nat} (ha : a < 18446744073709551616) (hb : b < 18446744073709551616) (mode : Int) : fadd a b mode < 18446744073709551616 := by
  unfold fadd; split
  · decide
  · split
    · exact ha
    · split
      · exact hb
      · split
        · exact ha
        · split
          · exact fsgn_lt (by decide)
          · exact fround_lt _ _

end Go.Proofs.YtkpglfloddkclaaGreatDoor

