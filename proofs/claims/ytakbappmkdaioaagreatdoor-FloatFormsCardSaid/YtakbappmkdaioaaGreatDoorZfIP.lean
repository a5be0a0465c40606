/-
  Plain law: intervals of floats: what the functions compute; sums and products. No program in sight.
  Plain law: intervals of floats: the order of sums, products and quotients of bounds. No program in sight.
  Plain law: intervals of floats: quotients of bounds; elements of results; the laws of sums, products and hulls. No program in sight.
  Plain law: intervals of floats: elements of results; narrower arguments. No program in sight.
  Plain law: intervals of floats: squares, roots, hulls, intersections, midpoints; the statements. No program in sight.
  Plain law: intervals of floats: midpoints; operations undone; the whole line. No program in sight.
  Plain law: bounds of intervals as the reference reads them. No program in sight.
-/
import Derived.Test.YtakbappmkdaioaaGreatDoorZfFP
import Derived.Test.YtakbappmkdaioaaGreatDoorZfBL
namespace Go.Proofs.YtakbappmkdaioaaGreatDoor
open Go.RowKit Sp
set_option linter.unusedSimpArgs false

/-! ### what the functions compute -/
/-! ### bounds of 64 bits -/
/-! ### places -/
/-! ### directed roundings -/
end Go.Proofs.YtakbappmkdaioaaGreatDoor

namespace Go.Proofs.YtakbappmkdaioaaGreatDoor
open Go.RowKit Sp
set_option linter.unusedSimpArgs false

/-! ### sums -/
/-! ### products; where there is none it is zero -/
end Go.Proofs.YtakbappmkdaioaaGreatDoor

namespace Go.Proofs.YtakbappmkdaioaaGreatDoor
open Go.RowKit Sp
set_option linter.unusedSimpArgs false

/-! ### quotients; where there is none it is zero -/
end Go.Proofs.YtakbappmkdaioaaGreatDoor

namespace Go.Proofs.YtakbappmkdaioaaGreatDoor
open Go.RowKit Sp
set_option linter.unusedSimpArgs false

/-! ### results between whose bounds two values lie -/
/-! ### sums -/
/-! ### products -/
/-! ### quotients -/
end Go.Proofs.YtakbappmkdaioaaGreatDoor

namespace Go.Proofs.YtakbappmkdaioaaGreatDoor
open Go.RowKit Sp
set_option linter.unusedSimpArgs false

/-! ### absolute values -/
/-! ### squares -/
/-! ### hulls and intersections -/
/-! ### IntervalPoints -/
/-! ### IntervalHolds -/
end Go.Proofs.YtakbappmkdaioaaGreatDoor

namespace Go.Proofs.YtakbappmkdaioaaGreatDoor
open Go.RowKit Sp
set_option linter.unusedSimpArgs false

/-! ### IntervalWhole -/
/-! ### IntervalMiddle -/
theorem g1 : (-1074 : Int) - 1 = -1074 - ((1 : Nat) : Int) := by decide
/-! ### IntervalUndone: sums -/
/-! ### IntervalUndone: quotients -/
/-! ### IntervalUndone: roots of squares -/
end Go.Proofs.YtakbappmkdaioaaGreatDoor

namespace Go.Proofs.YtakbappmkdaioaaGreatDoor
open Go.RowKit Sp
set_option linter.unusedSimpArgs false

end Go.Proofs.YtakbappmkdaioaaGreatDoor

