/-
  NARROWER THAN 'FOR EVERY INPUT', by the rows' own cells (each row's printed sentence says how): DyadRounds: laid · AccumTwo: laid · AccumFree: laid · AccumOrder: laid · AccumExact: laid · AccumResidual: laid · AccumCauchy: laid · IntervalMeets: laid · FloatQuotients: laid · AccumRoots: laid · FloatForms: laid · FloatExact: laid · IntervalMiddle: laid · AccumNorms: laid · IntervalRelations: laid · IntervalMonotone: laid · IntervalWhole: laid · IntervalHolds: laid · IntervalExact: laid · IntervalUndone: laid.
  DERIVED. THE GIVEN ROWS OF THIS SEAT. 20 by the template 'for every input the law returns true; each argument reads behind the call as it read before'; 0 by the template 'total and deterministic' (their statements: YtmpcikkimcehnaaGreatDoorTotals.lean).
  GIVEN WITH THE SEED: the statements are not yours to turn. If you find one false, say at which input.
  Laid BY PROGRAM, IN A SANDBOX (cutbox-rows.mjs): the forced cells as the released guide's own fill.sh prints them over the translation bb4d9a115383eabe… (all of the seat's roots in one cut). By AI agents, Wed Nov 11 2026. No macro, syntax, notation, axiom, sorry.
-/
import Derived.Test.YtmpcikkimcehnaaGreatDoorChecked
import GoSem.Claim
import GoSem.ClaimJoined
import GoSem.ClaimMapViews
import Derived.JoinedTies
import Derived.KernelRfl
namespace Go.Proofs.YtmpcikkimcehnaaGreatDoor
/- THE CELL 'sum', in the pinned program and in every row, IS THE sha256 OF THE DUMP (.gsa) THAT YtmpcikkimcehnaaGreatDoorProg.lean LOADS. Nothing in Lean hashes anything: it is a label: what it is worth is what the hold of that sum in a sandbox is worth. -/
noncomputable def Tryz.pinned : Pinned := { name := "ytmpcikkimcehnaagreatdoor", sum := "bb4d9a115383eabe496daf10bd043b1c1495338c5b1419e8e4050e740cc3581c", checked := Tryz.checked }
namespace Rows
def none {H : Type} : Left H := { results := [], args := [] }

/- WHAT THE LISTED PACKAGE-LEVEL VARIABLES READ AS WHEN THE CALL BEGINS. Each datum BY PROGRAM (the guide's laid-datum.mjs) off the statement by which the dump's own 'gosem.cut.vars' lays the variable. In a bare row this is a premise. The card (YtmpcikkimcehnaaGreatDoorCards.lean) ties it to the program's text. -/
def laid_math_bits_deBruijn32tab {H : Type} : DataW H := .agg [.lit (.int .u8 0), .lit (.int .u8 1), .lit (.int .u8 28), .lit (.int .u8 2), .lit (.int .u8 29), .lit (.int .u8 14), .lit (.int .u8 24), .lit (.int .u8 3), .lit (.int .u8 30), .lit (.int .u8 22), .lit (.int .u8 20), .lit (.int .u8 15), .lit (.int .u8 25), .lit (.int .u8 17), .lit (.int .u8 4), .lit (.int .u8 8), .lit (.int .u8 31), .lit (.int .u8 27), .lit (.int .u8 13), .lit (.int .u8 23), .lit (.int .u8 21), .lit (.int .u8 19), .lit (.int .u8 16), .lit (.int .u8 7), .lit (.int .u8 26), .lit (.int .u8 12), .lit (.int .u8 18), .lit (.int .u8 6), .lit (.int .u8 11), .lit (.int .u8 5), .lit (.int .u8 10), .lit (.int .u8 9)]

/-- 'sparselaw02.DyadRounds': WHATEVER THE INPUT: true; the input reads as it did. -/
def dyadRoundsSpec : ChangeSpec := { name := "dyadRounds", fn := fun _ => fun
  | [d1, d2, d3, d4] => { results := [.lit (.bool true)], args := [d1, d2, d3, d4] }
  | _ => none }
def dyadRoundsRow : OpenClaim := { program := "ytmpcikkimcehnaagreatdoor", sum := "bb4d9a115383eabe496daf10bd043b1c1495338c5b1419e8e4050e740cc3581c", func := "sparse/sparselaw02.DyadRounds", spec := "dyadRounds", unfollowed := true, recurses := true, named := ["math/bits.deBruijn32tab"], apart := false, laid := [("math/bits.deBruijn32tab", laid_math_bits_deBruijn32tab)] }
def DyadRoundsSaid : Prop := dyadRoundsRow.holds Tryz.pinned (OpenSpec.ofChange dyadRoundsSpec)

/-- ITS FALSE NEIGHBOUR: 'it returns false'. Refute it at one input. -/
def dyadRoundsWrong : ChangeSpec := { name := "dyadRounds", fn := fun _ => fun
  | [d1, d2, d3, d4] => { results := [.lit (.bool false)], args := [d1, d2, d3, d4] }
  | _ => none }
def DyadRoundsWrongFalsely : Prop := dyadRoundsRow.holds Tryz.pinned (OpenSpec.ofChange dyadRoundsWrong)

/-- 'sparselaw06.AccumTwo': WHATEVER THE INPUT: true; the input reads as it did. -/
def accumTwoSpec : ChangeSpec := { name := "accumTwo", fn := fun _ => fun
  | [d1, d2] => { results := [.lit (.bool true)], args := [d1, d2] }
  | _ => none }
def accumTwoRow : OpenClaim := { program := "ytmpcikkimcehnaagreatdoor", sum := "bb4d9a115383eabe496daf10bd043b1c1495338c5b1419e8e4050e740cc3581c", func := "sparse/sparselaw06.AccumTwo", spec := "accumTwo", unfollowed := true, recurses := true, named := ["math/bits.deBruijn32tab"], apart := false, laid := [("math/bits.deBruijn32tab", laid_math_bits_deBruijn32tab)] }
def AccumTwoSaid : Prop := accumTwoRow.holds Tryz.pinned (OpenSpec.ofChange accumTwoSpec)

/-- ITS FALSE NEIGHBOUR: 'it returns false'. Refute it at one input. -/
def accumTwoWrong : ChangeSpec := { name := "accumTwo", fn := fun _ => fun
  | [d1, d2] => { results := [.lit (.bool false)], args := [d1, d2] }
  | _ => none }
def AccumTwoWrongFalsely : Prop := accumTwoRow.holds Tryz.pinned (OpenSpec.ofChange accumTwoWrong)

/-- 'sparselaw06.AccumFree': WHATEVER THE INPUT: true; the input reads as it did. -/
def accumFreeSpec : ChangeSpec := { name := "accumFree", fn := fun _ => fun
  | [d1, d2] => { results := [.lit (.bool true)], args := [d1, d2] }
  | _ => none }
def accumFreeRow : OpenClaim := { program := "ytmpcikkimcehnaagreatdoor", sum := "bb4d9a115383eabe496daf10bd043b1c1495338c5b1419e8e4050e740cc3581c", func := "sparse/sparselaw06.AccumFree", spec := "accumFree", unfollowed := true, recurses := true, named := ["math/bits.deBruijn32tab"], apart := false, laid := [("math/bits.deBruijn32tab", laid_math_bits_deBruijn32tab)] }
def AccumFreeSaid : Prop := accumFreeRow.holds Tryz.pinned (OpenSpec.ofChange accumFreeSpec)

/-- ITS FALSE NEIGHBOUR: 'it returns false'. Refute it at one input. -/
def accumFreeWrong : ChangeSpec := { name := "accumFree", fn := fun _ => fun
  | [d1, d2] => { results := [.lit (.bool false)], args := [d1, d2] }
  | _ => none }
def AccumFreeWrongFalsely : Prop := accumFreeRow.holds Tryz.pinned (OpenSpec.ofChange accumFreeWrong)

/-- 'sparselaw06.AccumOrder': WHATEVER THE INPUT: true; the input reads as it did. -/
def accumOrderSpec : ChangeSpec := { name := "accumOrder", fn := fun _ => fun
  | [d1, d2, d3, d4] => { results := [.lit (.bool true)], args := [d1, d2, d3, d4] }
  | _ => none }
def accumOrderRow : OpenClaim := { program := "ytmpcikkimcehnaagreatdoor", sum := "bb4d9a115383eabe496daf10bd043b1c1495338c5b1419e8e4050e740cc3581c", func := "sparse/sparselaw06.AccumOrder", spec := "accumOrder", unfollowed := true, recurses := true, named := ["math/bits.deBruijn32tab"], apart := false, laid := [("math/bits.deBruijn32tab", laid_math_bits_deBruijn32tab)] }
def AccumOrderSaid : Prop := accumOrderRow.holds Tryz.pinned (OpenSpec.ofChange accumOrderSpec)

/-- ITS FALSE NEIGHBOUR: 'it returns false'. Refute it at one input. -/
def accumOrderWrong : ChangeSpec := { name := "accumOrder", fn := fun _ => fun
  | [d1, d2, d3, d4] => { results := [.lit (.bool false)], args := [d1, d2, d3, d4] }
  | _ => none }
def AccumOrderWrongFalsely : Prop := accumOrderRow.holds Tryz.pinned (OpenSpec.ofChange accumOrderWrong)

/-- 'sparselaw06.AccumExact': WHATEVER THE INPUT: true; the input reads as it did. -/
def accumExactSpec : ChangeSpec := { name := "accumExact", fn := fun _ => fun
  | [d1, d2, d3] => { results := [.lit (.bool true)], args := [d1, d2, d3] }
  | _ => none }
def accumExactRow : OpenClaim := { program := "ytmpcikkimcehnaagreatdoor", sum := "bb4d9a115383eabe496daf10bd043b1c1495338c5b1419e8e4050e740cc3581c", func := "sparse/sparselaw06.AccumExact", spec := "accumExact", unfollowed := true, recurses := true, named := ["math/bits.deBruijn32tab"], apart := false, laid := [("math/bits.deBruijn32tab", laid_math_bits_deBruijn32tab)] }
def AccumExactSaid : Prop := accumExactRow.holds Tryz.pinned (OpenSpec.ofChange accumExactSpec)

/-- ITS FALSE NEIGHBOUR: 'it returns false'. Refute it at one input. -/
def accumExactWrong : ChangeSpec := { name := "accumExact", fn := fun _ => fun
  | [d1, d2, d3] => { results := [.lit (.bool false)], args := [d1, d2, d3] }
  | _ => none }
def AccumExactWrongFalsely : Prop := accumExactRow.holds Tryz.pinned (OpenSpec.ofChange accumExactWrong)

/-- 'sparselaw06.AccumResidual': WHATEVER THE INPUT: true; the input reads as it did. -/
def accumResidualSpec : ChangeSpec := { name := "accumResidual", fn := fun _ => fun
  | [d1, d2, d3] => { results := [.lit (.bool true)], args := [d1, d2, d3] }
  | _ => none }
def accumResidualRow : OpenClaim := { program := "ytmpcikkimcehnaagreatdoor", sum := "bb4d9a115383eabe496daf10bd043b1c1495338c5b1419e8e4050e740cc3581c", func := "sparse/sparselaw06.AccumResidual", spec := "accumResidual", unfollowed := true, recurses := true, named := ["math/bits.deBruijn32tab"], apart := false, laid := [("math/bits.deBruijn32tab", laid_math_bits_deBruijn32tab)] }
def AccumResidualSaid : Prop := accumResidualRow.holds Tryz.pinned (OpenSpec.ofChange accumResidualSpec)

/-- ITS FALSE NEIGHBOUR: 'it returns false'. Refute it at one input. -/
def accumResidualWrong : ChangeSpec := { name := "accumResidual", fn := fun _ => fun
  | [d1, d2, d3] => { results := [.lit (.bool false)], args := [d1, d2, d3] }
  | _ => none }
def AccumResidualWrongFalsely : Prop := accumResidualRow.holds Tryz.pinned (OpenSpec.ofChange accumResidualWrong)

/-- 'sparselaw06.AccumCauchy': WHATEVER THE INPUT: true; the input reads as it did. -/
def accumCauchySpec : ChangeSpec := { name := "accumCauchy", fn := fun _ => fun
  | [d1, d2] => { results := [.lit (.bool true)], args := [d1, d2] }
  | _ => none }
def accumCauchyRow : OpenClaim := { program := "ytmpcikkimcehnaagreatdoor", sum := "bb4d9a115383eabe496daf10bd043b1c1495338c5b1419e8e4050e740cc3581c", func := "sparse/sparselaw06.AccumCauchy", spec := "accumCauchy", unfollowed := true, recurses := true, named := ["math/bits.deBruijn32tab"], apart := false, laid := [("math/bits.deBruijn32tab", laid_math_bits_deBruijn32tab)] }
def AccumCauchySaid : Prop := accumCauchyRow.holds Tryz.pinned (OpenSpec.ofChange accumCauchySpec)

/-- ITS FALSE NEIGHBOUR: 'it returns false'. Refute it at one input. -/
def accumCauchyWrong : ChangeSpec := { name := "accumCauchy", fn := fun _ => fun
  | [d1, d2] => { results := [.lit (.bool false)], args := [d1, d2] }
  | _ => none }
def AccumCauchyWrongFalsely : Prop := accumCauchyRow.holds Tryz.pinned (OpenSpec.ofChange accumCauchyWrong)

/-- 'sparselaw05.IntervalMeets': WHATEVER THE INPUT: true; the input reads as it did. -/
def intervalMeetsSpec : ChangeSpec := { name := "intervalMeets", fn := fun _ => fun
  | [d1, d2, d3] => { results := [.lit (.bool true)], args := [d1, d2, d3] }
  | _ => none }
def intervalMeetsRow : OpenClaim := { program := "ytmpcikkimcehnaagreatdoor", sum := "bb4d9a115383eabe496daf10bd043b1c1495338c5b1419e8e4050e740cc3581c", func := "sparse/sparselaw05.IntervalMeets", spec := "intervalMeets", unfollowed := true, recurses := true, named := ["math/bits.deBruijn32tab"], apart := false, laid := [("math/bits.deBruijn32tab", laid_math_bits_deBruijn32tab)] }
def IntervalMeetsSaid : Prop := intervalMeetsRow.holds Tryz.pinned (OpenSpec.ofChange intervalMeetsSpec)

/-- ITS FALSE NEIGHBOUR: 'it returns false'. Refute it at one input. -/
def intervalMeetsWrong : ChangeSpec := { name := "intervalMeets", fn := fun _ => fun
  | [d1, d2, d3] => { results := [.lit (.bool false)], args := [d1, d2, d3] }
  | _ => none }
def IntervalMeetsWrongFalsely : Prop := intervalMeetsRow.holds Tryz.pinned (OpenSpec.ofChange intervalMeetsWrong)

/-- 'sparselaw03.FloatQuotients': WHATEVER THE INPUT: true; the input reads as it did. -/
def floatQuotientsSpec : ChangeSpec := { name := "floatQuotients", fn := fun _ => fun
  | [d1, d2, d3] => { results := [.lit (.bool true)], args := [d1, d2, d3] }
  | _ => none }
def floatQuotientsRow : OpenClaim := { program := "ytmpcikkimcehnaagreatdoor", sum := "bb4d9a115383eabe496daf10bd043b1c1495338c5b1419e8e4050e740cc3581c", func := "sparse/sparselaw03.FloatQuotients", spec := "floatQuotients", unfollowed := true, recurses := true, named := ["math/bits.deBruijn32tab"], apart := false, laid := [("math/bits.deBruijn32tab", laid_math_bits_deBruijn32tab)] }
def FloatQuotientsSaid : Prop := floatQuotientsRow.holds Tryz.pinned (OpenSpec.ofChange floatQuotientsSpec)

/-- ITS FALSE NEIGHBOUR: 'it returns false'. Refute it at one input. -/
def floatQuotientsWrong : ChangeSpec := { name := "floatQuotients", fn := fun _ => fun
  | [d1, d2, d3] => { results := [.lit (.bool false)], args := [d1, d2, d3] }
  | _ => none }
def FloatQuotientsWrongFalsely : Prop := floatQuotientsRow.holds Tryz.pinned (OpenSpec.ofChange floatQuotientsWrong)

/-- 'sparselaw06.AccumRoots': WHATEVER THE INPUT: true; the input reads as it did. -/
def accumRootsSpec : ChangeSpec := { name := "accumRoots", fn := fun _ => fun
  | [d] => { results := [.lit (.bool true)], args := [d] }
  | _ => none }
def accumRootsRow : OpenClaim := { program := "ytmpcikkimcehnaagreatdoor", sum := "bb4d9a115383eabe496daf10bd043b1c1495338c5b1419e8e4050e740cc3581c", func := "sparse/sparselaw06.AccumRoots", spec := "accumRoots", unfollowed := true, recurses := true, named := ["math/bits.deBruijn32tab"], apart := false, laid := [("math/bits.deBruijn32tab", laid_math_bits_deBruijn32tab)] }
def AccumRootsSaid : Prop := accumRootsRow.holds Tryz.pinned (OpenSpec.ofChange accumRootsSpec)

/-- ITS FALSE NEIGHBOUR: 'it returns false'. Refute it at one input. -/
def accumRootsWrong : ChangeSpec := { name := "accumRoots", fn := fun _ => fun
  | [d] => { results := [.lit (.bool false)], args := [d] }
  | _ => none }
def AccumRootsWrongFalsely : Prop := accumRootsRow.holds Tryz.pinned (OpenSpec.ofChange accumRootsWrong)

/-- 'sparselaw03.FloatForms': WHATEVER THE INPUT: true; the input reads as it did. -/
def floatFormsSpec : ChangeSpec := { name := "floatForms", fn := fun _ => fun
  | [d1, d2, d3, d4] => { results := [.lit (.bool true)], args := [d1, d2, d3, d4] }
  | _ => none }
def floatFormsRow : OpenClaim := { program := "ytmpcikkimcehnaagreatdoor", sum := "bb4d9a115383eabe496daf10bd043b1c1495338c5b1419e8e4050e740cc3581c", func := "sparse/sparselaw03.FloatForms", spec := "floatForms", unfollowed := true, recurses := true, named := ["math/bits.deBruijn32tab"], apart := false, laid := [("math/bits.deBruijn32tab", laid_math_bits_deBruijn32tab)] }
def FloatFormsSaid : Prop := floatFormsRow.holds Tryz.pinned (OpenSpec.ofChange floatFormsSpec)

/-- ITS FALSE NEIGHBOUR: 'it returns false'. Refute it at one input. -/
def floatFormsWrong : ChangeSpec := { name := "floatForms", fn := fun _ => fun
  | [d1, d2, d3, d4] => { results := [.lit (.bool false)], args := [d1, d2, d3, d4] }
  | _ => none }
def FloatFormsWrongFalsely : Prop := floatFormsRow.holds Tryz.pinned (OpenSpec.ofChange floatFormsWrong)

/-- 'sparselaw03.FloatExact': WHATEVER THE INPUT: true; the input reads as it did. -/
def floatExactSpec : ChangeSpec := { name := "floatExact", fn := fun _ => fun
  | [d1, d2, d3, d4] => { results := [.lit (.bool true)], args := [d1, d2, d3, d4] }
  | _ => none }
def floatExactRow : OpenClaim := { program := "ytmpcikkimcehnaagreatdoor", sum := "bb4d9a115383eabe496daf10bd043b1c1495338c5b1419e8e4050e740cc3581c", func := "sparse/sparselaw03.FloatExact", spec := "floatExact", unfollowed := true, recurses := true, named := ["math/bits.deBruijn32tab"], apart := false, laid := [("math/bits.deBruijn32tab", laid_math_bits_deBruijn32tab)] }
def FloatExactSaid : Prop := floatExactRow.holds Tryz.pinned (OpenSpec.ofChange floatExactSpec)

/-- ITS FALSE NEIGHBOUR: 'it returns false'. Refute it at one input. -/
def floatExactWrong : ChangeSpec := { name := "floatExact", fn := fun _ => fun
  | [d1, d2, d3, d4] => { results := [.lit (.bool false)], args := [d1, d2, d3, d4] }
  | _ => none }
def FloatExactWrongFalsely : Prop := floatExactRow.holds Tryz.pinned (OpenSpec.ofChange floatExactWrong)

/-- 'sparselaw05.IntervalMiddle': WHATEVER THE INPUT: true; the input reads as it did. -/
def intervalMiddleSpec : ChangeSpec := { name := "intervalMiddle", fn := fun _ => fun
  | [d1, d2] => { results := [.lit (.bool true)], args := [d1, d2] }
  | _ => none }
def intervalMiddleRow : OpenClaim := { program := "ytmpcikkimcehnaagreatdoor", sum := "bb4d9a115383eabe496daf10bd043b1c1495338c5b1419e8e4050e740cc3581c", func := "sparse/sparselaw05.IntervalMiddle", spec := "intervalMiddle", unfollowed := true, recurses := true, named := ["math/bits.deBruijn32tab"], apart := false, laid := [("math/bits.deBruijn32tab", laid_math_bits_deBruijn32tab)] }
def IntervalMiddleSaid : Prop := intervalMiddleRow.holds Tryz.pinned (OpenSpec.ofChange intervalMiddleSpec)

/-- ITS FALSE NEIGHBOUR: 'it returns false'. Refute it at one input. -/
def intervalMiddleWrong : ChangeSpec := { name := "intervalMiddle", fn := fun _ => fun
  | [d1, d2] => { results := [.lit (.bool false)], args := [d1, d2] }
  | _ => none }
def IntervalMiddleWrongFalsely : Prop := intervalMiddleRow.holds Tryz.pinned (OpenSpec.ofChange intervalMiddleWrong)

/-- 'sparselaw06.AccumNorms': WHATEVER THE INPUT: true; the input reads as it did. -/
def accumNormsSpec : ChangeSpec := { name := "accumNorms", fn := fun _ => fun
  | [d1, d2] => { results := [.lit (.bool true)], args := [d1, d2] }
  | _ => none }
def accumNormsRow : OpenClaim := { program := "ytmpcikkimcehnaagreatdoor", sum := "bb4d9a115383eabe496daf10bd043b1c1495338c5b1419e8e4050e740cc3581c", func := "sparse/sparselaw06.AccumNorms", spec := "accumNorms", unfollowed := true, recurses := true, named := ["math/bits.deBruijn32tab"], apart := false, laid := [("math/bits.deBruijn32tab", laid_math_bits_deBruijn32tab)] }
def AccumNormsSaid : Prop := accumNormsRow.holds Tryz.pinned (OpenSpec.ofChange accumNormsSpec)

/-- ITS FALSE NEIGHBOUR: 'it returns false'. Refute it at one input. -/
def accumNormsWrong : ChangeSpec := { name := "accumNorms", fn := fun _ => fun
  | [d1, d2] => { results := [.lit (.bool false)], args := [d1, d2] }
  | _ => none }
def AccumNormsWrongFalsely : Prop := accumNormsRow.holds Tryz.pinned (OpenSpec.ofChange accumNormsWrong)

/-- 'sparselaw05.IntervalRelations': WHATEVER THE INPUT: true; the input reads as it did. -/
def intervalRelationsSpec : ChangeSpec := { name := "intervalRelations", fn := fun _ => fun
  | [d1, d2, d3] => { results := [.lit (.bool true)], args := [d1, d2, d3] }
  | _ => none }
def intervalRelationsRow : OpenClaim := { program := "ytmpcikkimcehnaagreatdoor", sum := "bb4d9a115383eabe496daf10bd043b1c1495338c5b1419e8e4050e740cc3581c", func := "sparse/sparselaw05.IntervalRelations", spec := "intervalRelations", unfollowed := true, recurses := true, named := ["math/bits.deBruijn32tab"], apart := false, laid := [("math/bits.deBruijn32tab", laid_math_bits_deBruijn32tab)] }
def IntervalRelationsSaid : Prop := intervalRelationsRow.holds Tryz.pinned (OpenSpec.ofChange intervalRelationsSpec)

/-- ITS FALSE NEIGHBOUR: 'it returns false'. Refute it at one input. -/
def intervalRelationsWrong : ChangeSpec := { name := "intervalRelations", fn := fun _ => fun
  | [d1, d2, d3] => { results := [.lit (.bool false)], args := [d1, d2, d3] }
  | _ => none }
def IntervalRelationsWrongFalsely : Prop := intervalRelationsRow.holds Tryz.pinned (OpenSpec.ofChange intervalRelationsWrong)

/-- 'sparselaw05.IntervalMonotone': WHATEVER THE INPUT: true; the input reads as it did. -/
def intervalMonotoneSpec : ChangeSpec := { name := "intervalMonotone", fn := fun _ => fun
  | [d1, d2, d3] => { results := [.lit (.bool true)], args := [d1, d2, d3] }
  | _ => none }
def intervalMonotoneRow : OpenClaim := { program := "ytmpcikkimcehnaagreatdoor", sum := "bb4d9a115383eabe496daf10bd043b1c1495338c5b1419e8e4050e740cc3581c", func := "sparse/sparselaw05.IntervalMonotone", spec := "intervalMonotone", unfollowed := true, recurses := true, named := ["math/bits.deBruijn32tab"], apart := false, laid := [("math/bits.deBruijn32tab", laid_math_bits_deBruijn32tab)] }
def IntervalMonotoneSaid : Prop := intervalMonotoneRow.holds Tryz.pinned (OpenSpec.ofChange intervalMonotoneSpec)

/-- ITS FALSE NEIGHBOUR: 'it returns false'. Refute it at one input. -/
def intervalMonotoneWrong : ChangeSpec := { name := "intervalMonotone", fn := fun _ => fun
  | [d1, d2, d3] => { results := [.lit (.bool false)], args := [d1, d2, d3] }
  | _ => none }
def IntervalMonotoneWrongFalsely : Prop := intervalMonotoneRow.holds Tryz.pinned (OpenSpec.ofChange intervalMonotoneWrong)

/-- 'sparselaw05.IntervalWhole': WHATEVER THE INPUT: true; the input reads as it did. -/
def intervalWholeSpec : ChangeSpec := { name := "intervalWhole", fn := fun _ => fun
  | [d1, d2] => { results := [.lit (.bool true)], args := [d1, d2] }
  | _ => none }
def intervalWholeRow : OpenClaim := { program := "ytmpcikkimcehnaagreatdoor", sum := "bb4d9a115383eabe496daf10bd043b1c1495338c5b1419e8e4050e740cc3581c", func := "sparse/sparselaw05.IntervalWhole", spec := "intervalWhole", unfollowed := true, recurses := true, named := ["math/bits.deBruijn32tab"], apart := false, laid := [("math/bits.deBruijn32tab", laid_math_bits_deBruijn32tab)] }
def IntervalWholeSaid : Prop := intervalWholeRow.holds Tryz.pinned (OpenSpec.ofChange intervalWholeSpec)

/-- ITS FALSE NEIGHBOUR: 'it returns false'. Refute it at one input. -/
def intervalWholeWrong : ChangeSpec := { name := "intervalWhole", fn := fun _ => fun
  | [d1, d2] => { results := [.lit (.bool false)], args := [d1, d2] }
  | _ => none }
def IntervalWholeWrongFalsely : Prop := intervalWholeRow.holds Tryz.pinned (OpenSpec.ofChange intervalWholeWrong)

/-- 'sparselaw05.IntervalHolds': WHATEVER THE INPUT: true; the input reads as it did. -/
def intervalHoldsSpec : ChangeSpec := { name := "intervalHolds", fn := fun _ => fun
  | [d1, d2, d3, d4] => { results := [.lit (.bool true)], args := [d1, d2, d3, d4] }
  | _ => none }
def intervalHoldsRow : OpenClaim := { program := "ytmpcikkimcehnaagreatdoor", sum := "bb4d9a115383eabe496daf10bd043b1c1495338c5b1419e8e4050e740cc3581c", func := "sparse/sparselaw05.IntervalHolds", spec := "intervalHolds", unfollowed := true, recurses := true, named := ["math/bits.deBruijn32tab"], apart := false, laid := [("math/bits.deBruijn32tab", laid_math_bits_deBruijn32tab)] }
def IntervalHoldsSaid : Prop := intervalHoldsRow.holds Tryz.pinned (OpenSpec.ofChange intervalHoldsSpec)

/-- ITS FALSE NEIGHBOUR: 'it returns false'. Refute it at one input. -/
def intervalHoldsWrong : ChangeSpec := { name := "intervalHolds", fn := fun _ => fun
  | [d1, d2, d3, d4] => { results := [.lit (.bool false)], args := [d1, d2, d3, d4] }
  | _ => none }
def IntervalHoldsWrongFalsely : Prop := intervalHoldsRow.holds Tryz.pinned (OpenSpec.ofChange intervalHoldsWrong)

/-- 'sparselaw05.IntervalExact': WHATEVER THE INPUT: true; the input reads as it did. -/
def intervalExactSpec : ChangeSpec := { name := "intervalExact", fn := fun _ => fun
  | [d1, d2] => { results := [.lit (.bool true)], args := [d1, d2] }
  | _ => none }
def intervalExactRow : OpenClaim := { program := "ytmpcikkimcehnaagreatdoor", sum := "bb4d9a115383eabe496daf10bd043b1c1495338c5b1419e8e4050e740cc3581c", func := "sparse/sparselaw05.IntervalExact", spec := "intervalExact", unfollowed := true, recurses := true, named := ["math/bits.deBruijn32tab"], apart := false, laid := [("math/bits.deBruijn32tab", laid_math_bits_deBruijn32tab)] }
def IntervalExactSaid : Prop := intervalExactRow.holds Tryz.pinned (OpenSpec.ofChange intervalExactSpec)

/-- ITS FALSE NEIGHBOUR: 'it returns false'. Refute it at one input. -/
def intervalExactWrong : ChangeSpec := { name := "intervalExact", fn := fun _ => fun
  | [d1, d2] => { results := [.lit (.bool false)], args := [d1, d2] }
  | _ => none }
def IntervalExactWrongFalsely : Prop := intervalExactRow.holds Tryz.pinned (OpenSpec.ofChange intervalExactWrong)

/-- 'sparselaw05.IntervalUndone': WHATEVER THE INPUT: true; the input reads as it did. -/
def intervalUndoneSpec : ChangeSpec := { name := "intervalUndone", fn := fun _ => fun
  | [d1, d2] => { results := [.lit (.bool true)], args := [d1, d2] }
  | _ => none }
def intervalUndoneRow : OpenClaim := { program := "ytmpcikkimcehnaagreatdoor", sum := "bb4d9a115383eabe496daf10bd043b1c1495338c5b1419e8e4050e740cc3581c", func := "sparse/sparselaw05.IntervalUndone", spec := "intervalUndone", unfollowed := true, recurses := true, named := ["math/bits.deBruijn32tab"], apart := false, laid := [("math/bits.deBruijn32tab", laid_math_bits_deBruijn32tab)] }
def IntervalUndoneSaid : Prop := intervalUndoneRow.holds Tryz.pinned (OpenSpec.ofChange intervalUndoneSpec)

/-- ITS FALSE NEIGHBOUR: 'it returns false'. Refute it at one input. -/
def intervalUndoneWrong : ChangeSpec := { name := "intervalUndone", fn := fun _ => fun
  | [d1, d2] => { results := [.lit (.bool false)], args := [d1, d2] }
  | _ => none }
def IntervalUndoneWrongFalsely : Prop := intervalUndoneRow.holds Tryz.pinned (OpenSpec.ofChange intervalUndoneWrong)

/- THE SECOND FORM. 'bulk': how many values and letters a reading holds, each counted each time it is reached (what is shared counts as often as it is met; a slice's spare places count too). A statement '..UptoSaid' is the law's where the arguments, and the package variables that the reading takes, are together of bulk at most 1048576: NARROWER than '..Said'. Prove '..Said' where nothing that the law and all that it calls make is longer than what came in: it says more and counts as full. Else prove '..UptoSaid'. A law counts once. -/
mutual
def uptoBulk {H : Type} : DataW H → Nat
  | .lit (.string bytes) => bytes.length + 1
  | .lit _ => 1
  | .nil => 1
  | .ptr d => uptoBulk d + 1
  | .slice elems spare => uptoBulkAll elems + uptoBulkAll spare + 1
  | .agg parts => uptoBulkAll parts + 1
  | .iface _ d => uptoBulk d + 1
  | .map entries => uptoBulkEntries entries + 1
  | .held _ => 1
def uptoBulkAll {H : Type} : List (DataW H) → Nat
  | [] => 0
  | d :: r => uptoBulk d + uptoBulkAll r
def uptoBulkEntries {H : Type} : List (Lit × DataW H) → Nat
  | [] => 0
  | x :: r => uptoBulkEntry x + uptoBulkEntries r
def uptoBulkEntry {H : Type} : Lit × DataW H → Nat
  | (.string bytes, d) => bytes.length + uptoBulk d + 1
  | (_, d) => uptoBulk d + 1
 end
def uptoSmall : (H : Type) → List (DataW H) → Bool := fun _ ds => decide (uptoBulkAll ds ≤ 1048576)
def OpenSpec.upto (s : _root_.Go.ChangeSpec) : _root_.Go.OpenSpec := { _root_.Go.OpenSpec.ofChange s with cond := some uptoSmall }

/-- 'sparselaw02.DyadRounds', WHERE WHAT IT READS IS OF BULK AT MOST 1048576: true; the input reads as it did. -/
def dyadRoundsUptoRow : OpenClaim := { program := "ytmpcikkimcehnaagreatdoor", sum := "bb4d9a115383eabe496daf10bd043b1c1495338c5b1419e8e4050e740cc3581c", func := "sparse/sparselaw02.DyadRounds", spec := "dyadRounds", unfollowed := true, recurses := true, named := ["math/bits.deBruijn32tab"], apart := false, laid := [("math/bits.deBruijn32tab", laid_math_bits_deBruijn32tab)], narrowed := true }
def DyadRoundsUptoSaid : Prop := dyadRoundsUptoRow.holds Tryz.pinned (OpenSpec.upto dyadRoundsSpec)

/-- 'sparselaw06.AccumTwo', WHERE WHAT IT READS IS OF BULK AT MOST 1048576: true; the input reads as it did. -/
def accumTwoUptoRow : OpenClaim := { program := "ytmpcikkimcehnaagreatdoor", sum := "bb4d9a115383eabe496daf10bd043b1c1495338c5b1419e8e4050e740cc3581c", func := "sparse/sparselaw06.AccumTwo", spec := "accumTwo", unfollowed := true, recurses := true, named := ["math/bits.deBruijn32tab"], apart := false, laid := [("math/bits.deBruijn32tab", laid_math_bits_deBruijn32tab)], narrowed := true }
def AccumTwoUptoSaid : Prop := accumTwoUptoRow.holds Tryz.pinned (OpenSpec.upto accumTwoSpec)

/-- 'sparselaw06.AccumFree', WHERE WHAT IT READS IS OF BULK AT MOST 1048576: true; the input reads as it did. -/
def accumFreeUptoRow : OpenClaim := { program := "ytmpcikkimcehnaagreatdoor", sum := "bb4d9a115383eabe496daf10bd043b1c1495338c5b1419e8e4050e740cc3581c", func := "sparse/sparselaw06.AccumFree", spec := "accumFree", unfollowed := true, recurses := true, named := ["math/bits.deBruijn32tab"], apart := false, laid := [("math/bits.deBruijn32tab", laid_math_bits_deBruijn32tab)], narrowed := true }
def AccumFreeUptoSaid : Prop := accumFreeUptoRow.holds Tryz.pinned (OpenSpec.upto accumFreeSpec)

/-- 'sparselaw06.AccumOrder', WHERE WHAT IT READS IS OF BULK AT MOST 1048576: true; the input reads as it did. -/
def accumOrderUptoRow : OpenClaim := { program := "ytmpcikkimcehnaagreatdoor", sum := "bb4d9a115383eabe496daf10bd043b1c1495338c5b1419e8e4050e740cc3581c", func := "sparse/sparselaw06.AccumOrder", spec := "accumOrder", unfollowed := true, recurses := true, named := ["math/bits.deBruijn32tab"], apart := false, laid := [("math/bits.deBruijn32tab", laid_math_bits_deBruijn32tab)], narrowed := true }
def AccumOrderUptoSaid : Prop := accumOrderUptoRow.holds Tryz.pinned (OpenSpec.upto accumOrderSpec)

/-- 'sparselaw06.AccumExact', WHERE WHAT IT READS IS OF BULK AT MOST 1048576: true; the input reads as it did. -/
def accumExactUptoRow : OpenClaim := { program := "ytmpcikkimcehnaagreatdoor", sum := "bb4d9a115383eabe496daf10bd043b1c1495338c5b1419e8e4050e740cc3581c", func := "sparse/sparselaw06.AccumExact", spec := "accumExact", unfollowed := true, recurses := true, named := ["math/bits.deBruijn32tab"], apart := false, laid := [("math/bits.deBruijn32tab", laid_math_bits_deBruijn32tab)], narrowed := true }
def AccumExactUptoSaid : Prop := accumExactUptoRow.holds Tryz.pinned (OpenSpec.upto accumExactSpec)

/-- 'sparselaw06.AccumResidual', WHERE WHAT IT READS IS OF BULK AT MOST 1048576: true; the input reads as it did. -/
def accumResidualUptoRow : OpenClaim := { program := "ytmpcikkimcehnaagreatdoor", sum := "bb4d9a115383eabe496daf10bd043b1c1495338c5b1419e8e4050e740cc3581c", func := "sparse/sparselaw06.AccumResidual", spec := "accumResidual", unfollowed := true, recurses := true, named := ["math/bits.deBruijn32tab"], apart := false, laid := [("math/bits.deBruijn32tab", laid_math_bits_deBruijn32tab)], narrowed := true }
def AccumResidualUptoSaid : Prop := accumResidualUptoRow.holds Tryz.pinned (OpenSpec.upto accumResidualSpec)

/-- 'sparselaw06.AccumCauchy', WHERE WHAT IT READS IS OF BULK AT MOST 1048576: true; the input reads as it did. -/
def accumCauchyUptoRow : OpenClaim := { program := "ytmpcikkimcehnaagreatdoor", sum := "bb4d9a115383eabe496daf10bd043b1c1495338c5b1419e8e4050e740cc3581c", func := "sparse/sparselaw06.AccumCauchy", spec := "accumCauchy", unfollowed := true, recurses := true, named := ["math/bits.deBruijn32tab"], apart := false, laid := [("math/bits.deBruijn32tab", laid_math_bits_deBruijn32tab)], narrowed := true }
def AccumCauchyUptoSaid : Prop := accumCauchyUptoRow.holds Tryz.pinned (OpenSpec.upto accumCauchySpec)

/-- 'sparselaw05.IntervalMeets', WHERE WHAT IT READS IS OF BULK AT MOST 1048576: true; the input reads as it did. -/
def intervalMeetsUptoRow : OpenClaim := { program := "ytmpcikkimcehnaagreatdoor", sum := "bb4d9a115383eabe496daf10bd043b1c1495338c5b1419e8e4050e740cc3581c", func := "sparse/sparselaw05.IntervalMeets", spec := "intervalMeets", unfollowed := true, recurses := true, named := ["math/bits.deBruijn32tab"], apart := false, laid := [("math/bits.deBruijn32tab", laid_math_bits_deBruijn32tab)], narrowed := true }
def IntervalMeetsUptoSaid : Prop := intervalMeetsUptoRow.holds Tryz.pinned (OpenSpec.upto intervalMeetsSpec)

/-- 'sparselaw03.FloatQuotients', WHERE WHAT IT READS IS OF BULK AT MOST 1048576: true; the input reads as it did. -/
def floatQuotientsUptoRow : OpenClaim := { program := "ytmpcikkimcehnaagreatdoor", sum := "bb4d9a115383eabe496daf10bd043b1c1495338c5b1419e8e4050e740cc3581c", func := "sparse/sparselaw03.FloatQuotients", spec := "floatQuotients", unfollowed := true, recurses := true, named := ["math/bits.deBruijn32tab"], apart := false, laid := [("math/bits.deBruijn32tab", laid_math_bits_deBruijn32tab)], narrowed := true }
def FloatQuotientsUptoSaid : Prop := floatQuotientsUptoRow.holds Tryz.pinned (OpenSpec.upto floatQuotientsSpec)

/-- 'sparselaw06.AccumRoots', WHERE WHAT IT READS IS OF BULK AT MOST 1048576: true; the input reads as it did. -/
def accumRootsUptoRow : OpenClaim := { program := "ytmpcikkimcehnaagreatdoor", sum := "bb4d9a115383eabe496daf10bd043b1c1495338c5b1419e8e4050e740cc3581c", func := "sparse/sparselaw06.AccumRoots", spec := "accumRoots", unfollowed := true, recurses := true, named := ["math/bits.deBruijn32tab"], apart := false, laid := [("math/bits.deBruijn32tab", laid_math_bits_deBruijn32tab)], narrowed := true }
def AccumRootsUptoSaid : Prop := accumRootsUptoRow.holds Tryz.pinned (OpenSpec.upto accumRootsSpec)

/-- 'sparselaw03.FloatForms', WHERE WHAT IT READS IS OF BULK AT MOST 1048576: true; the input reads as it did. -/
def floatFormsUptoRow : OpenClaim := { program := "ytmpcikkimcehnaagreatdoor", sum := "bb4d9a115383eabe496daf10bd043b1c1495338c5b1419e8e4050e740cc3581c", func := "sparse/sparselaw03.FloatForms", spec := "floatForms", unfollowed := true, recurses := true, named := ["math/bits.deBruijn32tab"], apart := false, laid := [("math/bits.deBruijn32tab", laid_math_bits_deBruijn32tab)], narrowed := true }
def FloatFormsUptoSaid : Prop := floatFormsUptoRow.holds Tryz.pinned (OpenSpec.upto floatFormsSpec)

/-- 'sparselaw03.FloatExact', WHERE WHAT IT READS IS OF BULK AT MOST 1048576: true; the input reads as it did. -/
def floatExactUptoRow : OpenClaim := { program := "ytmpcikkimcehnaagreatdoor", sum := "bb4d9a115383eabe496daf10bd043b1c1495338c5b1419e8e4050e740cc3581c", func := "sparse/sparselaw03.FloatExact", spec := "floatExact", unfollowed := true, recurses := true, named := ["math/bits.deBruijn32tab"], apart := false, laid := [("math/bits.deBruijn32tab", laid_math_bits_deBruijn32tab)], narrowed := true }
def FloatExactUptoSaid : Prop := floatExactUptoRow.holds Tryz.pinned (OpenSpec.upto floatExactSpec)

/-- 'sparselaw05.IntervalMiddle', WHERE WHAT IT READS IS OF BULK AT MOST 1048576: true; the input reads as it did. -/
def intervalMiddleUptoRow : OpenClaim := { program := "ytmpcikkimcehnaagreatdoor", sum := "bb4d9a115383eabe496daf10bd043b1c1495338c5b1419e8e4050e740cc3581c", func := "sparse/sparselaw05.IntervalMiddle", spec := "intervalMiddle", unfollowed := true, recurses := true, named := ["math/bits.deBruijn32tab"], apart := false, laid := [("math/bits.deBruijn32tab", laid_math_bits_deBruijn32tab)], narrowed := true }
def IntervalMiddleUptoSaid : Prop := intervalMiddleUptoRow.holds Tryz.pinned (OpenSpec.upto intervalMiddleSpec)

/-- 'sparselaw06.AccumNorms', WHERE WHAT IT READS IS OF BULK AT MOST 1048576: true; the input reads as it did. -/
def accumNormsUptoRow : OpenClaim := { program := "ytmpcikkimcehnaagreatdoor", sum := "bb4d9a115383eabe496daf10bd043b1c1495338c5b1419e8e4050e740cc3581c", func := "sparse/sparselaw06.AccumNorms", spec := "accumNorms", unfollowed := true, recurses := true, named := ["math/bits.deBruijn32tab"], apart := false, laid := [("math/bits.deBruijn32tab", laid_math_bits_deBruijn32tab)], narrowed := true }
def AccumNormsUptoSaid : Prop := accumNormsUptoRow.holds Tryz.pinned (OpenSpec.upto accumNormsSpec)

/-- 'sparselaw05.IntervalRelations', WHERE WHAT IT READS IS OF BULK AT MOST 1048576: true; the input reads as it did. -/
def intervalRelationsUptoRow : OpenClaim := { program := "ytmpcikkimcehnaagreatdoor", sum := "bb4d9a115383eabe496daf10bd043b1c1495338c5b1419e8e4050e740cc3581c", func := "sparse/sparselaw05.IntervalRelations", spec := "intervalRelations", unfollowed := true, recurses := true, named := ["math/bits.deBruijn32tab"], apart := false, laid := [("math/bits.deBruijn32tab", laid_math_bits_deBruijn32tab)], narrowed := true }
def IntervalRelationsUptoSaid : Prop := intervalRelationsUptoRow.holds Tryz.pinned (OpenSpec.upto intervalRelationsSpec)

/-- 'sparselaw05.IntervalMonotone', WHERE WHAT IT READS IS OF BULK AT MOST 1048576: true; the input reads as it did. -/
def intervalMonotoneUptoRow : OpenClaim := { program := "ytmpcikkimcehnaagreatdoor", sum := "bb4d9a115383eabe496daf10bd043b1c1495338c5b1419e8e4050e740cc3581c", func := "sparse/sparselaw05.IntervalMonotone", spec := "intervalMonotone", unfollowed := true, recurses := true, named := ["math/bits.deBruijn32tab"], apart := false, laid := [("math/bits.deBruijn32tab", laid_math_bits_deBruijn32tab)], narrowed := true }
def IntervalMonotoneUptoSaid : Prop := intervalMonotoneUptoRow.holds Tryz.pinned (OpenSpec.upto intervalMonotoneSpec)

/-- 'sparselaw05.IntervalWhole', WHERE WHAT IT READS IS OF BULK AT MOST 1048576: true; the input reads as it did. -/
def intervalWholeUptoRow : OpenClaim := { program := "ytmpcikkimcehnaagreatdoor", sum := "bb4d9a115383eabe496daf10bd043b1c1495338c5b1419e8e4050e740cc3581c", func := "sparse/sparselaw05.IntervalWhole", spec := "intervalWhole", unfollowed := true, recurses := true, named := ["math/bits.deBruijn32tab"], apart := false, laid := [("math/bits.deBruijn32tab", laid_math_bits_deBruijn32tab)], narrowed := true }
def IntervalWholeUptoSaid : Prop := intervalWholeUptoRow.holds Tryz.pinned (OpenSpec.upto intervalWholeSpec)

/-- 'sparselaw05.IntervalHolds', WHERE WHAT IT READS IS OF BULK AT MOST 1048576: true; the input reads as it did. -/
def intervalHoldsUptoRow : OpenClaim := { program := "ytmpcikkimcehnaagreatdoor", sum := "bb4d9a115383eabe496daf10bd043b1c1495338c5b1419e8e4050e740cc3581c", func := "sparse/sparselaw05.IntervalHolds", spec := "intervalHolds", unfollowed := true, recurses := true, named := ["math/bits.deBruijn32tab"], apart := false, laid := [("math/bits.deBruijn32tab", laid_math_bits_deBruijn32tab)], narrowed := true }
def IntervalHoldsUptoSaid : Prop := intervalHoldsUptoRow.holds Tryz.pinned (OpenSpec.upto intervalHoldsSpec)

/-- 'sparselaw05.IntervalExact', WHERE WHAT IT READS IS OF BULK AT MOST 1048576: true; the input reads as it did. -/
def intervalExactUptoRow : OpenClaim := { program := "ytmpcikkimcehnaagreatdoor", sum := "bb4d9a115383eabe496daf10bd043b1c1495338c5b1419e8e4050e740cc3581c", func := "sparse/sparselaw05.IntervalExact", spec := "intervalExact", unfollowed := true, recurses := true, named := ["math/bits.deBruijn32tab"], apart := false, laid := [("math/bits.deBruijn32tab", laid_math_bits_deBruijn32tab)], narrowed := true }
def IntervalExactUptoSaid : Prop := intervalExactUptoRow.holds Tryz.pinned (OpenSpec.upto intervalExactSpec)

/-- 'sparselaw05.IntervalUndone', WHERE WHAT IT READS IS OF BULK AT MOST 1048576: true; the input reads as it did. -/
def intervalUndoneUptoRow : OpenClaim := { program := "ytmpcikkimcehnaagreatdoor", sum := "bb4d9a115383eabe496daf10bd043b1c1495338c5b1419e8e4050e740cc3581c", func := "sparse/sparselaw05.IntervalUndone", spec := "intervalUndone", unfollowed := true, recurses := true, named := ["math/bits.deBruijn32tab"], apart := false, laid := [("math/bits.deBruijn32tab", laid_math_bits_deBruijn32tab)], narrowed := true }
def IntervalUndoneUptoSaid : Prop := intervalUndoneUptoRow.holds Tryz.pinned (OpenSpec.upto intervalUndoneSpec)

end Rows
end Go.Proofs.YtmpcikkimcehnaaGreatDoor
