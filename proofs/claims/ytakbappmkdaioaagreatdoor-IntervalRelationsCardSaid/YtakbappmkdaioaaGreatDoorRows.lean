/-
  NARROWER THAN 'FOR EVERY INPUT', by the rows' own cells (each row's printed sentence says how): DyadRounds: laid · AccumTwo: laid · AccumOrder: laid · AccumExact: laid · FloatQuotients: laid · FloatForms: laid · FloatExact: laid · AccumNorms: laid · IntervalRelations: laid · IntervalExact: laid · IntervalUndone: laid.
  DERIVED. THE GIVEN ROWS OF THIS SEAT. 11 by the template 'for every input the law returns true; each argument reads behind the call as it read before'; 0 by the template 'total and deterministic' (their statements: YtakbappmkdaioaaGreatDoorTotals.lean).
  GIVEN WITH THE SEED: the statements are not yours to turn. If you find one false, say at which input.
  Laid BY PROGRAM, IN A SANDBOX (cutbox-rows.mjs): the forced cells as the released guide's own fill.sh prints them over the translation 570b35ab06ec3825… (all of the seat's roots in one cut). By AI agents, Wed Nov 11 2026. No macro, syntax, notation, axiom, sorry.
-/
import Derived.Test.YtakbappmkdaioaaGreatDoorChecked
import GoSem.Claim
import GoSem.ClaimJoined
import GoSem.ClaimMapViews
import Derived.JoinedTies
import Derived.KernelRfl
namespace Go.Proofs.YtakbappmkdaioaaGreatDoor
/- THE CELL 'sum', in the pinned program and in every row, IS THE sha256 OF THE DUMP (.gsa) THAT YtakbappmkdaioaaGreatDoorProg.lean LOADS. Nothing in Lean hashes anything: it is a label: what it is worth is what the hold of that sum in a sandbox is worth. -/
noncomputable def Tryz.pinned : Pinned := { name := "ytakbappmkdaioaagreatdoor", sum := "570b35ab06ec382562ddb1f2a14339682979c21cf964404969267954875373b4", checked := Tryz.checked }
namespace Rows
def none {H : Type} : Left H := { results := [], args := [] }

/- WHAT THE LISTED PACKAGE-LEVEL VARIABLES READ AS WHEN THE CALL BEGINS. Each datum BY PROGRAM (the guide's laid-datum.mjs) off the statement by which the dump's own 'gosem.cut.vars' lays the variable. In a bare row this is a premise. The card (YtakbappmkdaioaaGreatDoorCards.lean) ties it to the program's text. -/
def laid_math_bits_deBruijn32tab {H : Type} : DataW H := .agg [.lit (.int .u8 0), .lit (.int .u8 1), .lit (.int .u8 28), .lit (.int .u8 2), .lit (.int .u8 29), .lit (.int .u8 14), .lit (.int .u8 24), .lit (.int .u8 3), .lit (.int .u8 30), .lit (.int .u8 22), .lit (.int .u8 20), .lit (.int .u8 15), .lit (.int .u8 25), .lit (.int .u8 17), .lit (.int .u8 4), .lit (.int .u8 8), .lit (.int .u8 31), .lit (.int .u8 27), .lit (.int .u8 13), .lit (.int .u8 23), .lit (.int .u8 21), .lit (.int .u8 19), .lit (.int .u8 16), .lit (.int .u8 7), .lit (.int .u8 26), .lit (.int .u8 12), .lit (.int .u8 18), .lit (.int .u8 6), .lit (.int .u8 11), .lit (.int .u8 5), .lit (.int .u8 10), .lit (.int .u8 9)]

/-- 'sparselaw02.DyadRounds': WHATEVER THE INPUT: true; the input reads as it did. -/
def dyadRoundsSpec : ChangeSpec := { name := "dyadRounds", fn := fun _ => fun
  | [d1, d2, d3, d4] => { results := [.lit (.bool true)], args := [d1, d2, d3, d4] }
  | _ => none }
def dyadRoundsRow : OpenClaim := { program := "ytakbappmkdaioaagreatdoor", sum := "570b35ab06ec382562ddb1f2a14339682979c21cf964404969267954875373b4", func := "sparse/sparselaw02.DyadRounds", spec := "dyadRounds", unfollowed := true, recurses := true, named := ["math/bits.deBruijn32tab"], apart := false, laid := [("math/bits.deBruijn32tab", laid_math_bits_deBruijn32tab)] }
def DyadRoundsSaid : Prop := dyadRoundsRow.holds Tryz.pinned (OpenSpec.ofChange dyadRoundsSpec)

/-- ITS FALSE NEIGHBOUR: 'it returns false'. Refute it at one input. -/
def dyadRoundsWrong : ChangeSpec := { name := "dyadRounds", fn := fun _ => fun
  | [d1, d2, d3, d4] => { results := [.lit (.bool false)], args := [d1, d2, d3, d4] }
  | _ => none }
def DyadRoundsWrongFalsely : Prop := dyadRoundsRow.holds Tryz.pinned (OpenSpec.ofChange dyadRoundsWrong)

/-- 'sparselaw06.AccumTwo': WHATEVER THE INPUT: true; the input reads as it did. -/
def accumTwoSpec : ChangeSpec := { name := "accumTwo", fn := fun _ => fun
  | [d1, d2] => { results := [.lit (.bool true)], args := [d1, d2] }
  | _ => none }
def accumTwoRow : OpenClaim := { program := "ytakbappmkdaioaagreatdoor", sum := "570b35ab06ec382562ddb1f2a14339682979c21cf964404969267954875373b4", func := "sparse/sparselaw06.AccumTwo", spec := "accumTwo", unfollowed := true, recurses := true, named := ["math/bits.deBruijn32tab"], apart := false, laid := [("math/bits.deBruijn32tab", laid_math_bits_deBruijn32tab)] }
def AccumTwoSaid : Prop := accumTwoRow.holds Tryz.pinned (OpenSpec.ofChange accumTwoSpec)

/-- ITS FALSE NEIGHBOUR: 'it returns false'. Refute it at one input. -/
def accumTwoWrong : ChangeSpec := { name := "accumTwo", fn := fun _ => fun
  | [d1, d2] => { results := [.lit (.bool false)], args := [d1, d2] }
  | _ => none }
def AccumTwoWrongFalsely : Prop := accumTwoRow.holds Tryz.pinned (OpenSpec.ofChange accumTwoWrong)

/-- 'sparselaw06.AccumOrder': WHATEVER THE INPUT: true; the input reads as it did. -/
def accumOrderSpec : ChangeSpec := { name := "accumOrder", fn := fun _ => fun
  | [d1, d2, d3, d4] => { results := [.lit (.bool true)], args := [d1, d2, d3, d4] }
  | _ => none }
def accumOrderRow : OpenClaim := { program := "ytakbappmkdaioaagreatdoor", sum := "570b35ab06ec382562ddb1f2a14339682979c21cf964404969267954875373b4", func := "sparse/sparselaw06.AccumOrder", spec := "accumOrder", unfollowed := true, recurses := true, named := ["math/bits.deBruijn32tab"], apart := false, laid := [("math/bits.deBruijn32tab", laid_math_bits_deBruijn32tab)] }
def AccumOrderSaid : Prop := accumOrderRow.holds Tryz.pinned (OpenSpec.ofChange accumOrderSpec)

/-- ITS FALSE NEIGHBOUR: 'it returns false'. Refute it at one input. -/
def accumOrderWrong : ChangeSpec := { name := "accumOrder", fn := fun _ => fun
  | [d1, d2, d3, d4] => { results := [.lit (.bool false)], args := [d1, d2, d3, d4] }
  | _ => none }
def AccumOrderWrongFalsely : Prop := accumOrderRow.holds Tryz.pinned (OpenSpec.ofChange accumOrderWrong)

/-- 'sparselaw06.AccumExact': WHATEVER THE INPUT: true; the input reads as it did. -/
def accumExactSpec : ChangeSpec := { name := "accumExact", fn := fun _ => fun
  | [d1, d2, d3] => { results := [.lit (.bool true)], args := [d1, d2, d3] }
  | _ => none }
def accumExactRow : OpenClaim := { program := "ytakbappmkdaioaagreatdoor", sum := "570b35ab06ec382562ddb1f2a14339682979c21cf964404969267954875373b4", func := "sparse/sparselaw06.AccumExact", spec := "accumExact", unfollowed := true, recurses := true, named := ["math/bits.deBruijn32tab"], apart := false, laid := [("math/bits.deBruijn32tab", laid_math_bits_deBruijn32tab)] }
def AccumExactSaid : Prop := accumExactRow.holds Tryz.pinned (OpenSpec.ofChange accumExactSpec)

/-- ITS FALSE NEIGHBOUR: 'it returns false'. Refute it at one input. -/
def accumExactWrong : ChangeSpec := { name := "accumExact", fn := fun _ => fun
  | [d1, d2, d3] => { results := [.lit (.bool false)], args := [d1, d2, d3] }
  | _ => none }
def AccumExactWrongFalsely : Prop := accumExactRow.holds Tryz.pinned (OpenSpec.ofChange accumExactWrong)

/-- 'sparselaw03.FloatQuotients': WHATEVER THE INPUT: true; the input reads as it did. -/
def floatQuotientsSpec : ChangeSpec := { name := "floatQuotients", fn := fun _ => fun
  | [d1, d2, d3] => { results := [.lit (.bool true)], args := [d1, d2, d3] }
  | _ => none }
def floatQuotientsRow : OpenClaim := { program := "ytakbappmkdaioaagreatdoor", sum := "570b35ab06ec382562ddb1f2a14339682979c21cf964404969267954875373b4", func := "sparse/sparselaw03.FloatQuotients", spec := "floatQuotients", unfollowed := true, recurses := true, named := ["math/bits.deBruijn32tab"], apart := false, laid := [("math/bits.deBruijn32tab", laid_math_bits_deBruijn32tab)] }
def FloatQuotientsSaid : Prop := floatQuotientsRow.holds Tryz.pinned (OpenSpec.ofChange floatQuotientsSpec)

/-- ITS FALSE NEIGHBOUR: 'it returns false'. Refute it at one input. -/
def floatQuotientsWrong : ChangeSpec := { name := "floatQuotients", fn := fun _ => fun
  | [d1, d2, d3] => { results := [.lit (.bool false)], args := [d1, d2, d3] }
  | _ => none }
def FloatQuotientsWrongFalsely : Prop := floatQuotientsRow.holds Tryz.pinned (OpenSpec.ofChange floatQuotientsWrong)

/-- 'sparselaw03.FloatForms': WHATEVER THE INPUT: true; the input reads as it did. -/
def floatFormsSpec : ChangeSpec := { name := "floatForms", fn := fun _ => fun
  | [d1, d2, d3, d4] => { results := [.lit (.bool true)], args := [d1, d2, d3, d4] }
  | _ => none }
def floatFormsRow : OpenClaim := { program := "ytakbappmkdaioaagreatdoor", sum := "570b35ab06ec382562ddb1f2a14339682979c21cf964404969267954875373b4", func := "sparse/sparselaw03.FloatForms", spec := "floatForms", unfollowed := true, recurses := true, named := ["math/bits.deBruijn32tab"], apart := false, laid := [("math/bits.deBruijn32tab", laid_math_bits_deBruijn32tab)] }
def FloatFormsSaid : Prop := floatFormsRow.holds Tryz.pinned (OpenSpec.ofChange floatFormsSpec)

/-- ITS FALSE NEIGHBOUR: 'it returns false'. Refute it at one input. -/
def floatFormsWrong : ChangeSpec := { name := "floatForms", fn := fun _ => fun
  | [d1, d2, d3, d4] => { results := [.lit (.bool false)], args := [d1, d2, d3, d4] }
  | _ => none }
def FloatFormsWrongFalsely : Prop := floatFormsRow.holds Tryz.pinned (OpenSpec.ofChange floatFormsWrong)

/-- 'sparselaw03.FloatExact': WHATEVER THE INPUT: true; the input reads as it did. -/
def floatExactSpec : ChangeSpec := { name := "floatExact", fn := fun _ => fun
  | [d1, d2, d3, d4] => { results := [.lit (.bool true)], args := [d1, d2, d3, d4] }
  | _ => none }
def floatExactRow : OpenClaim := { program := "ytakbappmkdaioaagreatdoor", sum := "570b35ab06ec382562ddb1f2a14339682979c21cf964404969267954875373b4", func := "sparse/sparselaw03.FloatExact", spec := "floatExact", unfollowed := true, recurses := true, named := ["math/bits.deBruijn32tab"], apart := false, laid := [("math/bits.deBruijn32tab", laid_math_bits_deBruijn32tab)] }
def FloatExactSaid : Prop := floatExactRow.holds Tryz.pinned (OpenSpec.ofChange floatExactSpec)

/-- ITS FALSE NEIGHBOUR: 'it returns false'. Refute it at one input. -/
def floatExactWrong : ChangeSpec := { name := "floatExact", fn := fun _ => fun
  | [d1, d2, d3, d4] => { results := [.lit (.bool false)], args := [d1, d2, d3, d4] }
  | _ => none }
def FloatExactWrongFalsely : Prop := floatExactRow.holds Tryz.pinned (OpenSpec.ofChange floatExactWrong)

/-- 'sparselaw06.AccumNorms': WHATEVER THE INPUT: true; the input reads as it did. -/
def accumNormsSpec : ChangeSpec := { name := "accumNorms", fn := fun _ => fun
  | [d1, d2] => { results := [.lit (.bool true)], args := [d1, d2] }
  | _ => none }
def accumNormsRow : OpenClaim := { program := "ytakbappmkdaioaagreatdoor", sum := "570b35ab06ec382562ddb1f2a14339682979c21cf964404969267954875373b4", func := "sparse/sparselaw06.AccumNorms", spec := "accumNorms", unfollowed := true, recurses := true, named := ["math/bits.deBruijn32tab"], apart := false, laid := [("math/bits.deBruijn32tab", laid_math_bits_deBruijn32tab)] }
def AccumNormsSaid : Prop := accumNormsRow.holds Tryz.pinned (OpenSpec.ofChange accumNormsSpec)

/-- ITS FALSE NEIGHBOUR: 'it returns false'. Refute it at one input. -/
def accumNormsWrong : ChangeSpec := { name := "accumNorms", fn := fun _ => fun
  | [d1, d2] => { results := [.lit (.bool false)], args := [d1, d2] }
  | _ => none }
def AccumNormsWrongFalsely : Prop := accumNormsRow.holds Tryz.pinned (OpenSpec.ofChange accumNormsWrong)

/-- 'sparselaw05.IntervalRelations': WHATEVER THE INPUT: true; the input reads as it did. -/
def intervalRelationsSpec : ChangeSpec := { name := "intervalRelations", fn := fun _ => fun
  | [d1, d2, d3] => { results := [.lit (.bool true)], args := [d1, d2, d3] }
  | _ => none }
def intervalRelationsRow : OpenClaim := { program := "ytakbappmkdaioaagreatdoor", sum := "570b35ab06ec382562ddb1f2a14339682979c21cf964404969267954875373b4", func := "sparse/sparselaw05.IntervalRelations", spec := "intervalRelations", unfollowed := true, recurses := true, named := ["math/bits.deBruijn32tab"], apart := false, laid := [("math/bits.deBruijn32tab", laid_math_bits_deBruijn32tab)] }
def IntervalRelationsSaid : Prop := intervalRelationsRow.holds Tryz.pinned (OpenSpec.ofChange intervalRelationsSpec)

/-- ITS FALSE NEIGHBOUR: 'it returns false'. Refute it at one input. -/
def intervalRelationsWrong : ChangeSpec := { name := "intervalRelations", fn := fun _ => fun
  | [d1, d2, d3] => { results := [.lit (.bool false)], args := [d1, d2, d3] }
  | _ => none }
def IntervalRelationsWrongFalsely : Prop := intervalRelationsRow.holds Tryz.pinned (OpenSpec.ofChange intervalRelationsWrong)

/-- 'sparselaw05.IntervalExact': WHATEVER THE INPUT: true; the input reads as it did. -/
def intervalExactSpec : ChangeSpec := { name := "intervalExact", fn := fun _ => fun
  | [d1, d2] => { results := [.lit (.bool true)], args := [d1, d2] }
  | _ => none }
def intervalExactRow : OpenClaim := { program := "ytakbappmkdaioaagreatdoor", sum := "570b35ab06ec382562ddb1f2a14339682979c21cf964404969267954875373b4", func := "sparse/sparselaw05.IntervalExact", spec := "intervalExact", unfollowed := true, recurses := true, named := ["math/bits.deBruijn32tab"], apart := false, laid := [("math/bits.deBruijn32tab", laid_math_bits_deBruijn32tab)] }
def IntervalExactSaid : Prop := intervalExactRow.holds Tryz.pinned (OpenSpec.ofChange intervalExactSpec)

/-- ITS FALSE NEIGHBOUR: 'it returns false'. Refute it at one input. -/
def intervalExactWrong : ChangeSpec := { name := "intervalExact", fn := fun _ => fun
  | [d1, d2] => { results := [.lit (.bool false)], args := [d1, d2] }
  | _ => none }
def IntervalExactWrongFalsely : Prop := intervalExactRow.holds Tryz.pinned (OpenSpec.ofChange intervalExactWrong)

/-- 'sparselaw05.IntervalUndone': WHATEVER THE INPUT: true; the input reads as it did. -/
def intervalUndoneSpec : ChangeSpec := { name := "intervalUndone", fn := fun _ => fun
  | [d1, d2] => { results := [.lit (.bool true)], args := [d1, d2] }
  | _ => none }
def intervalUndoneRow : OpenClaim := { program := "ytakbappmkdaioaagreatdoor", sum := "570b35ab06ec382562ddb1f2a14339682979c21cf964404969267954875373b4", func := "sparse/sparselaw05.IntervalUndone", spec := "intervalUndone", unfollowed := true, recurses := true, named := ["math/bits.deBruijn32tab"], apart := false, laid := [("math/bits.deBruijn32tab", laid_math_bits_deBruijn32tab)] }
def IntervalUndoneSaid : Prop := intervalUndoneRow.holds Tryz.pinned (OpenSpec.ofChange intervalUndoneSpec)

/-- ITS FALSE NEIGHBOUR: 'it returns false'. Refute it at one input. -/
def intervalUndoneWrong : ChangeSpec := { name := "intervalUndone", fn := fun _ => fun
  | [d1, d2] => { results := [.lit (.bool false)], args := [d1, d2] }
  | _ => none }
def IntervalUndoneWrongFalsely : Prop := intervalUndoneRow.holds Tryz.pinned (OpenSpec.ofChange intervalUndoneWrong)

/- THE SECOND FORM. 'bulk': how many values and letters a reading holds, each counted each time it is reached (what is shared counts as often as it is met; a slice's spare places count too). A statement '..UptoSaid' is the law's where the arguments, and the package variables that the reading takes, are together of bulk at most 1048576: NARROWER than '..Said'. Prove '..Said' where nothing that the law and all that it calls make is longer than what came in: it says more and counts as full. Else prove '..UptoSaid'. A law counts once. -/
mutual
def uptoBulk {H : Type} : DataW H → Nat
  | .lit (.string bytes) => bytes.length + 1
  | .lit _ => 1
  | .nil => 1
  | .ptr d => uptoBulk d + 1
  | .slice elems spare => uptoBulkAll elems + uptoBulkAll spare + 1
  | .agg parts => uptoBulkAll parts + 1
  | .iface _ d => uptoBulk d + 1
  | .map entries => uptoBulkEntries entries + 1
  | .held _ => 1
def uptoBulkAll {H : Type} : List (DataW H) → Nat
  | [] => 0
  | d :: r => uptoBulk d + uptoBulkAll r
def uptoBulkEntries {H : Type} : List (Lit × DataW H) → Nat
  | [] => 0
  | x :: r => uptoBulkEntry x + uptoBulkEntries r
def uptoBulkEntry {H : Type} : Lit × DataW H → Nat
  | (.string bytes, d) => bytes.length + uptoBulk d + 1
  | (_, d) => uptoBulk d + 1
 end
def uptoSmall : (H : Type) → List (DataW H) → Bool := fun _ ds => decide (uptoBulkAll ds ≤ 1048576)
def OpenSpec.upto (s : _root_.Go.ChangeSpec) : _root_.Go.OpenSpec := { _root_.Go.OpenSpec.ofChange s with cond := some uptoSmall }

/-- 'sparselaw02.DyadRounds', WHERE WHAT IT READS IS OF BULK AT MOST 1048576: true; the input reads as it did. -/
def dyadRoundsUptoRow : OpenClaim := { program := "ytakbappmkdaioaagreatdoor", sum := "570b35ab06ec382562ddb1f2a14339682979c21cf964404969267954875373b4", func := "sparse/sparselaw02.DyadRounds", spec := "dyadRounds", unfollowed := true, recurses := true, named := ["math/bits.deBruijn32tab"], apart := false, laid := [("math/bits.deBruijn32tab", laid_math_bits_deBruijn32tab)], narrowed := true }
def DyadRoundsUptoSaid : Prop := dyadRoundsUptoRow.holds Tryz.pinned (OpenSpec.upto dyadRoundsSpec)

/-- 'sparselaw06.AccumTwo', WHERE WHAT IT READS IS OF BULK AT MOST 1048576: true; the input reads as it did. -/
def accumTwoUptoRow : OpenClaim := { program := "ytakbappmkdaioaagreatdoor", sum := "570b35ab06ec382562ddb1f2a14339682979c21cf964404969267954875373b4", func := "sparse/sparselaw06.AccumTwo", spec := "accumTwo", unfollowed := true, recurses := true, named := ["math/bits.deBruijn32tab"], apart := false, laid := [("math/bits.deBruijn32tab", laid_math_bits_deBruijn32tab)], narrowed := true }
def AccumTwoUptoSaid : Prop := accumTwoUptoRow.holds Tryz.pinned (OpenSpec.upto accumTwoSpec)

/-- 'sparselaw06.AccumOrder', WHERE WHAT IT READS IS OF BULK AT MOST 1048576: true; the input reads as it did. -/
def accumOrderUptoRow : OpenClaim := { program := "ytakbappmkdaioaagreatdoor", sum := "570b35ab06ec382562ddb1f2a14339682979c21cf964404969267954875373b4", func := "sparse/sparselaw06.AccumOrder", spec := "accumOrder", unfollowed := true, recurses := true, named := ["math/bits.deBruijn32tab"], apart := false, laid := [("math/bits.deBruijn32tab", laid_math_bits_deBruijn32tab)], narrowed := true }
def AccumOrderUptoSaid : Prop := accumOrderUptoRow.holds Tryz.pinned (OpenSpec.upto accumOrderSpec)

/-- 'sparselaw06.AccumExact', WHERE WHAT IT READS IS OF BULK AT MOST 1048576: true; the input reads as it did. -/
def accumExactUptoRow : OpenClaim := { program := "ytakbappmkdaioaagreatdoor", sum := "570b35ab06ec382562ddb1f2a14339682979c21cf964404969267954875373b4", func := "sparse/sparselaw06.AccumExact", spec := "accumExact", unfollowed := true, recurses := true, named := ["math/bits.deBruijn32tab"], apart := false, laid := [("math/bits.deBruijn32tab", laid_math_bits_deBruijn32tab)], narrowed := true }
def AccumExactUptoSaid : Prop := accumExactUptoRow.holds Tryz.pinned (OpenSpec.upto accumExactSpec)

/-- 'sparselaw03.FloatQuotients', WHERE WHAT IT READS IS OF BULK AT MOST 1048576: true; the input reads as it did. -/
def floatQuotientsUptoRow : OpenClaim := { program := "ytakbappmkdaioaagreatdoor", sum := "570b35ab06ec382562ddb1f2a14339682979c21cf964404969267954875373b4", func := "sparse/sparselaw03.FloatQuotients", spec := "floatQuotients", unfollowed := true, recurses := true, named := ["math/bits.deBruijn32tab"], apart := false, laid := [("math/bits.deBruijn32tab", laid_math_bits_deBruijn32tab)], narrowed := true }
def FloatQuotientsUptoSaid : Prop := floatQuotientsUptoRow.holds Tryz.pinned (OpenSpec.upto floatQuotientsSpec)

/-- 'sparselaw03.FloatForms', WHERE WHAT IT READS IS OF BULK AT MOST 1048576: true; the input reads as it did. -/
def floatFormsUptoRow : OpenClaim := { program := "ytakbappmkdaioaagreatdoor", sum := "570b35ab06ec382562ddb1f2a14339682979c21cf964404969267954875373b4", func := "sparse/sparselaw03.FloatForms", spec := "floatForms", unfollowed := true, recurses := true, named := ["math/bits.deBruijn32tab"], apart := false, laid := [("math/bits.deBruijn32tab", laid_math_bits_deBruijn32tab)], narrowed := true }
def FloatFormsUptoSaid : Prop := floatFormsUptoRow.holds Tryz.pinned (OpenSpec.upto floatFormsSpec)

/-- 'sparselaw03.FloatExact', WHERE WHAT IT READS IS OF BULK AT MOST 1048576: true; the input reads as it did. -/
def floatExactUptoRow : OpenClaim := { program := "ytakbappmkdaioaagreatdoor", sum := "570b35ab06ec382562ddb1f2a14339682979c21cf964404969267954875373b4", func := "sparse/sparselaw03.FloatExact", spec := "floatExact", unfollowed := true, recurses := true, named := ["math/bits.deBruijn32tab"], apart := false, laid := [("math/bits.deBruijn32tab", laid_math_bits_deBruijn32tab)], narrowed := true }
def FloatExactUptoSaid : Prop := floatExactUptoRow.holds Tryz.pinned (OpenSpec.upto floatExactSpec)

/-- 'sparselaw06.AccumNorms', WHERE WHAT IT READS IS OF BULK AT MOST 1048576: true; the input reads as it did. -/
def accumNormsUptoRow : OpenClaim := { program := "ytakbappmkdaioaagreatdoor", sum := "570b35ab06ec382562ddb1f2a14339682979c21cf964404969267954875373b4", func := "sparse/sparselaw06.AccumNorms", spec := "accumNorms", unfollowed := true, recurses := true, named := ["math/bits.deBruijn32tab"], apart := false, laid := [("math/bits.deBruijn32tab", laid_math_bits_deBruijn32tab)], narrowed := true }
def AccumNormsUptoSaid : Prop := accumNormsUptoRow.holds Tryz.pinned (OpenSpec.upto accumNormsSpec)

/-- 'sparselaw05.IntervalRelations', WHERE WHAT IT READS IS OF BULK AT MOST 1048576: true; the input reads as it did. -/
def intervalRelationsUptoRow : OpenClaim := { program := "ytakbappmkdaioaagreatdoor", sum := "570b35ab06ec382562ddb1f2a14339682979c21cf964404969267954875373b4", func := "sparse/sparselaw05.IntervalRelations", spec := "intervalRelations", unfollowed := true, recurses := true, named := ["math/bits.deBruijn32tab"], apart := false, laid := [("math/bits.deBruijn32tab", laid_math_bits_deBruijn32tab)], narrowed := true }
def IntervalRelationsUptoSaid : Prop := intervalRelationsUptoRow.holds Tryz.pinned (OpenSpec.upto intervalRelationsSpec)

/-- 'sparselaw05.IntervalExact', WHERE WHAT IT READS IS OF BULK AT MOST 1048576: true; the input reads as it did. -/
def intervalExactUptoRow : OpenClaim := { program := "ytakbappmkdaioaagreatdoor", sum := "570b35ab06ec382562ddb1f2a14339682979c21cf964404969267954875373b4", func := "sparse/sparselaw05.IntervalExact", spec := "intervalExact", unfollowed := true, recurses := true, named := ["math/bits.deBruijn32tab"], apart := false, laid := [("math/bits.deBruijn32tab", laid_math_bits_deBruijn32tab)], narrowed := true }
def IntervalExactUptoSaid : Prop := intervalExactUptoRow.holds Tryz.pinned (OpenSpec.upto intervalExactSpec)

/-- 'sparselaw05.IntervalUndone', WHERE WHAT IT READS IS OF BULK AT MOST 1048576: true; the input reads as it did. -/
def intervalUndoneUptoRow : OpenClaim := { program := "ytakbappmkdaioaagreatdoor", sum := "570b35ab06ec382562ddb1f2a14339682979c21cf964404969267954875373b4", func := "sparse/sparselaw05.IntervalUndone", spec := "intervalUndone", unfollowed := true, recurses := true, named := ["math/bits.deBruijn32tab"], apart := false, laid := [("math/bits.deBruijn32tab", laid_math_bits_deBruijn32tab)], narrowed := true }
def IntervalUndoneUptoSaid : Prop := intervalUndoneUptoRow.holds Tryz.pinned (OpenSpec.upto intervalUndoneSpec)

end Rows
end Go.Proofs.YtakbappmkdaioaaGreatDoor
