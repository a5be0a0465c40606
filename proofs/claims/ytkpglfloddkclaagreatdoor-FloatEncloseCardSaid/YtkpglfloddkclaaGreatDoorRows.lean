/-
  NARROWER THAN 'FOR EVERY INPUT', by the rows' own cells (each row's printed sentence says how): FloatQuotients: laid · FloatEnclose: laid · FloatForms: laid · FloatExact: laid.
  DERIVED. THE GIVEN ROWS OF THIS SEAT. 4 by the template 'for every input the law returns true; each argument reads behind the call as it read before'; 0 by the template 'total and deterministic' (their statements: YtkpglfloddkclaaGreatDoorTotals.lean).
  GIVEN WITH THE SEED: the statements are not yours to turn. If you find one false, say at which input.
  Laid BY PROGRAM, IN A SANDBOX (cutbox-rows.mjs): the forced cells as the released guide's own fill.sh prints them over the translation 68df2e6e6da0fe3a… (all of the seat's roots in one cut). By AI agents, Wed Nov 11 2026. No macro, syntax, notation, axiom, sorry.
-/
import Derived.Test.YtkpglfloddkclaaGreatDoorChecked
import GoSem.Claim
import GoSem.ClaimJoined
import GoSem.ClaimMapViews
import Derived.JoinedTies
import Derived.KernelRfl
namespace Go.Proofs.YtkpglfloddkclaaGreatDoor
/- THE CELL 'sum', in the pinned program and in every row, IS THE sha256 OF THE DUMP (.gsa) THAT YtkpglfloddkclaaGreatDoorProg.lean LOADS. Nothing in Lean hashes anything: it is a label: what it is worth is what the hold of that sum in a sandbox is worth. -/
noncomputable def Tryz.pinned : Pinned := { name := "ytkpglfloddkclaagreatdoor", sum := "68df2e6e6da0fe3ae86bf4c0a990dbf9363106b00ce1b64b77723848fe50ab6d", checked := Tryz.checked }
namespace Rows
def none {H : Type} : Left H := { results := [], args := [] }

/- WHAT THE LISTED PACKAGE-LEVEL VARIABLES READ AS WHEN THE CALL BEGINS. Each datum BY PROGRAM (the guide's laid-datum.mjs) off the statement by which the dump's own 'gosem.cut.vars' lays the variable. In a bare row this is a premise. The card (YtkpglfloddkclaaGreatDoorCards.lean) ties it to the program's text. -/
def laid_math_bits_deBruijn32tab {H : Type} : DataW H := .agg [.lit (.int .u8 0), .lit (.int .u8 1), .lit (.int .u8 28), .lit (.int .u8 2), .lit (.int .u8 29), .lit (.int .u8 14), .lit (.int .u8 24), .lit (.int .u8 3), .lit (.int .u8 30), .lit (.int .u8 22), .lit (.int .u8 20), .lit (.int .u8 15), .lit (.int .u8 25), .lit (.int .u8 17), .lit (.int .u8 4), .lit (.int .u8 8), .lit (.int .u8 31), .lit (.int .u8 27), .lit (.int .u8 13), .lit (.int .u8 23), .lit (.int .u8 21), .lit (.int .u8 19), .lit (.int .u8 16), .lit (.int .u8 7), .lit (.int .u8 26), .lit (.int .u8 12), .lit (.int .u8 18), .lit (.int .u8 6), .lit (.int .u8 11), .lit (.int .u8 5), .lit (.int .u8 10), .lit (.int .u8 9)]

/-- 'sparselaw03.FloatQuotients': WHATEVER THE INPUT: true; the input reads as it did. -/
def floatQuotientsSpec : ChangeSpec := { name := "floatQuotients", fn := fun _ => fun
  | [d1, d2, d3] => { results := [.lit (.bool true)], args := [d1, d2, d3] }
  | _ => none }
def floatQuotientsRow : OpenClaim := { program := "ytkpglfloddkclaagreatdoor", sum := "68df2e6e6da0fe3ae86bf4c0a990dbf9363106b00ce1b64b77723848fe50ab6d", func := "sparse/sparselaw03.FloatQuotients", spec := "floatQuotients", unfollowed := true, recurses := true, named := ["math/bits.deBruijn32tab"], apart := false, laid := [("math/bits.deBruijn32tab", laid_math_bits_deBruijn32tab)] }
def FloatQuotientsSaid : Prop := floatQuotientsRow.holds Tryz.pinned (OpenSpec.ofChange floatQuotientsSpec)

/-- ITS FALSE NEIGHBOUR: 'it returns false'. Refute it at one input. -/
def floatQuotientsWrong : ChangeSpec := { name := "floatQuotients", fn := fun _ => fun
  | [d1, d2, d3] => { results := [.lit (.bool false)], args := [d1, d2, d3] }
  | _ => none }
def FloatQuotientsWrongFalsely : Prop := floatQuotientsRow.holds Tryz.pinned (OpenSpec.ofChange floatQuotientsWrong)

/-- 'sparselaw03.FloatEnclose': WHATEVER THE INPUT: true; the input reads as it did. -/
def floatEncloseSpec : ChangeSpec := { name := "floatEnclose", fn := fun _ => fun
  | [d] => { results := [.lit (.bool true)], args := [d] }
  | _ => none }
def floatEncloseRow : OpenClaim := { program := "ytkpglfloddkclaagreatdoor", sum := "68df2e6e6da0fe3ae86bf4c0a990dbf9363106b00ce1b64b77723848fe50ab6d", func := "sparse/sparselaw03.FloatEnclose", spec := "floatEnclose", unfollowed := true, recurses := true, named := ["math/bits.deBruijn32tab"], apart := false, laid := [("math/bits.deBruijn32tab", laid_math_bits_deBruijn32tab)] }
def FloatEncloseSaid : Prop := floatEncloseRow.holds Tryz.pinned (OpenSpec.ofChange floatEncloseSpec)

/-- ITS FALSE NEIGHBOUR: 'it returns false'. Refute it at one input. -/
def floatEncloseWrong : ChangeSpec := { name := "floatEnclose", fn := fun _ => fun
  | [d] => { results := [.lit (.bool false)], args := [d] }
  | _ => none }
def FloatEncloseWrongFalsely : Prop := floatEncloseRow.holds Tryz.pinned (OpenSpec.ofChange floatEncloseWrong)

/-- 'sparselaw03.FloatForms': WHATEVER THE INPUT: true; the input reads as it did. -/
def floatFormsSpec : ChangeSpec := { name := "floatForms", fn := fun _ => fun
  | [d1, d2, d3, d4] => { results := [.lit (.bool true)], args := [d1, d2, d3, d4] }
  | _ => none }
def floatFormsRow : OpenClaim := { program := "ytkpglfloddkclaagreatdoor", sum := "68df2e6e6da0fe3ae86bf4c0a990dbf9363106b00ce1b64b77723848fe50ab6d", func := "sparse/sparselaw03.FloatForms", spec := "floatForms", unfollowed := true, recurses := true, named := ["math/bits.deBruijn32tab"], apart := false, laid := [("math/bits.deBruijn32tab", laid_math_bits_deBruijn32tab)] }
def FloatFormsSaid : Prop := floatFormsRow.holds Tryz.pinned (OpenSpec.ofChange floatFormsSpec)

/-- ITS FALSE NEIGHBOUR: 'it returns false'. Refute it at one input. -/
def floatFormsWrong : ChangeSpec := { name := "floatForms", fn := fun _ => fun
  | [d1, d2, d3, d4] => { results := [.lit (.bool false)], args := [d1, d2, d3, d4] }
  | _ => none }
def FloatFormsWrongFalsely : Prop := floatFormsRow.holds Tryz.pinned (OpenSpec.ofChange floatFormsWrong)

/-- 'sparselaw03.FloatExact': WHATEVER THE INPUT: true; the input reads as it did. -/
def floatExactSpec : ChangeSpec := { name := "floatExact", fn := fun _ => fun
  | [d1, d2, d3, d4] => { results := [.lit (.bool true)], args := [d1, d2, d3, d4] }
  | _ => none }
def floatExactRow : OpenClaim := { program := "ytkpglfloddkclaagreatdoor", sum := "68df2e6e6da0fe3ae86bf4c0a990dbf9363106b00ce1b64b77723848fe50ab6d", func := "sparse/sparselaw03.FloatExact", spec := "floatExact", unfollowed := true, recurses := true, named := ["math/bits.deBruijn32tab"], apart := false, laid := [("math/bits.deBruijn32tab", laid_math_bits_deBruijn32tab)] }
def FloatExactSaid : Prop := floatExactRow.holds Tryz.pinned (OpenSpec.ofChange floatExactSpec)

/-- ITS FALSE NEIGHBOUR: 'it returns false'. Refute it at one input. -/
def floatExactWrong : ChangeSpec := { name := "floatExact", fn := fun _ => fun
  | [d1, d2, d3, d4] => { results := [.lit (.bool false)], args := [d1, d2, d3, d4] }
  | _ => none }
def FloatExactWrongFalsely : Prop := floatExactRow.holds Tryz.pinned (OpenSpec.ofChange floatExactWrong)

/- THE SECOND FORM. 'bulk': how many values and letters a reading holds, each counted each time it is reached (what is shared counts as often as it is met; a slice's spare places count too). A statement '..UptoSaid' is the law's where the arguments, and the package variables that the reading takes, are together of bulk at most 1048576: NARROWER than '..Said'. Prove '..Said' where nothing that the law and all that it calls make is longer than what came in: it says more and counts as full. Else prove '..UptoSaid'. A law counts once. -/
mutual
def uptoBulk {H : Type} : DataW H → Nat
  | .lit (.string bytes) => bytes.length + 1
  | .lit _ => 1
  | .nil => 1
  | .ptr d => uptoBulk d + 1
  | .slice elems spare => uptoBulkAll elems + uptoBulkAll spare + 1
  | .agg parts => uptoBulkAll parts + 1
  | .iface _ d => uptoBulk d + 1
  | .map entries => uptoBulkEntries entries + 1
  | .held _ => 1
def uptoBulkAll {H : Type} : List (DataW H) → Nat
  | [] => 0
  | d :: r => uptoBulk d + uptoBulkAll r
def uptoBulkEntries {H : Type} : List (Lit × DataW H) → Nat
  | [] => 0
  | x :: r => uptoBulkEntry x + uptoBulkEntries r
def uptoBulkEntry {H : Type} : Lit × DataW H → Nat
  | (.string bytes, d) => bytes.length + uptoBulk d + 1
  | (_, d) => uptoBulk d + 1
 end
def uptoSmall : (H : Type) → List (DataW H) → Bool := fun _ ds => decide (uptoBulkAll ds ≤ 1048576)
def OpenSpec.upto (s : _root_.Go.ChangeSpec) : _root_.Go.OpenSpec := { _root_.Go.OpenSpec.ofChange s with cond := some uptoSmall }

/-- 'sparselaw03.FloatQuotients', WHERE WHAT IT READS IS OF BULK AT MOST 1048576: true; the input reads as it did. -/
def floatQuotientsUptoRow : OpenClaim := { program := "ytkpglfloddkclaagreatdoor", sum := "68df2e6e6da0fe3ae86bf4c0a990dbf9363106b00ce1b64b77723848fe50ab6d", func := "sparse/sparselaw03.FloatQuotients", spec := "floatQuotients", unfollowed := true, recurses := true, named := ["math/bits.deBruijn32tab"], apart := false, laid := [("math/bits.deBruijn32tab", laid_math_bits_deBruijn32tab)], narrowed := true }
def FloatQuotientsUptoSaid : Prop := floatQuotientsUptoRow.holds Tryz.pinned (OpenSpec.upto floatQuotientsSpec)

/-- 'sparselaw03.FloatEnclose', WHERE WHAT IT READS IS OF BULK AT MOST 1048576: true; the input reads as it did. -/
def floatEncloseUptoRow : OpenClaim := { program := "ytkpglfloddkclaagreatdoor", sum := "68df2e6e6da0fe3ae86bf4c0a990dbf9363106b00ce1b64b77723848fe50ab6d", func := "sparse/sparselaw03.FloatEnclose", spec := "floatEnclose", unfollowed := true, recurses := true, named := ["math/bits.deBruijn32tab"], apart := false, laid := [("math/bits.deBruijn32tab", laid_math_bits_deBruijn32tab)], narrowed := true }
def FloatEncloseUptoSaid : Prop := floatEncloseUptoRow.holds Tryz.pinned (OpenSpec.upto floatEncloseSpec)

/-- 'sparselaw03.FloatForms', WHERE WHAT IT READS IS OF BULK AT MOST 1048576: true; the input reads as it did. -/
def floatFormsUptoRow : OpenClaim := { program := "ytkpglfloddkclaagreatdoor", sum := "68df2e6e6da0fe3ae86bf4c0a990dbf9363106b00ce1b64b77723848fe50ab6d", func := "sparse/sparselaw03.FloatForms", spec := "floatForms", unfollowed := true, recurses := true, named := ["math/bits.deBruijn32tab"], apart := false, laid := [("math/bits.deBruijn32tab", laid_math_bits_deBruijn32tab)], narrowed := true }
def FloatFormsUptoSaid : Prop := floatFormsUptoRow.holds Tryz.pinned (OpenSpec.upto floatFormsSpec)

/-- 'sparselaw03.FloatExact', WHERE WHAT IT READS IS OF BULK AT MOST 1048576: true; the input reads as it did. -/
def floatExactUptoRow : OpenClaim := { program := "ytkpglfloddkclaagreatdoor", sum := "68df2e6e6da0fe3ae86bf4c0a990dbf9363106b00ce1b64b77723848fe50ab6d", func := "sparse/sparselaw03.FloatExact", spec := "floatExact", unfollowed := true, recurses := true, named := ["math/bits.deBruijn32tab"], apart := false, laid := [("math/bits.deBruijn32tab", laid_math_bits_deBruijn32tab)], narrowed := true }
def FloatExactUptoSaid : Prop := floatExactUptoRow.holds Tryz.pinned (OpenSpec.upto floatExactSpec)

end Rows
end Go.Proofs.YtkpglfloddkclaaGreatDoor
