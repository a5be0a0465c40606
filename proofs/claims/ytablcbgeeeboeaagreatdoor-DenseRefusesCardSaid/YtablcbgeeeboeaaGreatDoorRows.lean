/-
  NARROWER THAN 'FOR EVERY INPUT', by the rows' own cells (each row's printed sentence says how): DenseEliminates: laid · DenseWidths: laid · DenseStages: laid · DenseContribution: laid · DenseChecks: laid · DenseAssembles: laid · DenseRefuses: laid · DenseMultiplies: laid.
  DERIVED. THE GIVEN ROWS OF THIS SEAT. 8 by the template 'for every input the law returns true; each argument reads behind the call as it read before'; 0 by the template 'total and deterministic' (their statements: YtablcbgeeeboeaaGreatDoorTotals.lean).
  GIVEN WITH THE SEED: the statements are not yours to turn. If you find one false, say at which input.
  Laid BY PROGRAM, IN A SANDBOX (cutbox-rows.mjs): the forced cells as the released guide's own fill.sh prints them over the translation 97b443c997a6080c… (all of the seat's roots in one cut). By AI agents, Wed Nov 11 2026. No macro, syntax, notation, axiom, sorry.
-/
import Derived.Test.YtablcbgeeeboeaaGreatDoorChecked
import GoSem.Claim
import GoSem.ClaimJoined
import GoSem.ClaimMapViews
import Derived.JoinedTies
import Derived.KernelRfl
namespace Go.Proofs.YtablcbgeeeboeaaGreatDoor
/- THE CELL 'sum', in the pinned program and in every row, IS THE sha256 OF THE DUMP (.gsa) THAT YtablcbgeeeboeaaGreatDoorProg.lean LOADS. Nothing in Lean hashes anything: it is a label: what it is worth is what the hold of that sum in a sandbox is worth. -/
noncomputable def Tryz.pinned : Pinned := { name := "ytablcbgeeeboeaagreatdoor", sum := "97b443c997a6080ce9f126163aafdfc5d0bb66d5e9329b7608a9d14695724294", checked := Tryz.checked }
namespace Rows
def none {H : Type} : Left H := { results := [], args := [] }

/- WHAT THE LISTED PACKAGE-LEVEL VARIABLES READ AS WHEN THE CALL BEGINS. Each datum BY PROGRAM (the guide's laid-datum.mjs) off the statement by which the dump's own 'gosem.cut.vars' lays the variable. In a bare row this is a premise. The card (YtablcbgeeeboeaaGreatDoorCards.lean) ties it to the program's text. -/
def laid_math_bits_deBruijn32tab {H : Type} : DataW H := .agg [.lit (.int .u8 0), .lit (.int .u8 1), .lit (.int .u8 28), .lit (.int .u8 2), .lit (.int .u8 29), .lit (.int .u8 14), .lit (.int .u8 24), .lit (.int .u8 3), .lit (.int .u8 30), .lit (.int .u8 22), .lit (.int .u8 20), .lit (.int .u8 15), .lit (.int .u8 25), .lit (.int .u8 17), .lit (.int .u8 4), .lit (.int .u8 8), .lit (.int .u8 31), .lit (.int .u8 27), .lit (.int .u8 13), .lit (.int .u8 23), .lit (.int .u8 21), .lit (.int .u8 19), .lit (.int .u8 16), .lit (.int .u8 7), .lit (.int .u8 26), .lit (.int .u8 12), .lit (.int .u8 18), .lit (.int .u8 6), .lit (.int .u8 11), .lit (.int .u8 5), .lit (.int .u8 10), .lit (.int .u8 9)]

/-- 'sparselaw23.DenseEliminates': WHATEVER THE INPUT: true; the input reads as it did. -/
def denseEliminatesSpec : ChangeSpec := { name := "denseEliminates", fn := fun _ => fun
  | [d1, d2, d3, d4, d5, d6] => { results := [.lit (.bool true)], args := [d1, d2, d3, d4, d5, d6] }
  | _ => none }
def denseEliminatesRow : OpenClaim := { program := "ytablcbgeeeboeaagreatdoor", sum := "97b443c997a6080ce9f126163aafdfc5d0bb66d5e9329b7608a9d14695724294", func := "sparse/sparselaw23.DenseEliminates", spec := "denseEliminates", unfollowed := true, recurses := true, named := ["math/bits.deBruijn32tab"], apart := false, laid := [("math/bits.deBruijn32tab", laid_math_bits_deBruijn32tab)] }
def DenseEliminatesSaid : Prop := denseEliminatesRow.holds Tryz.pinned (OpenSpec.ofChange denseEliminatesSpec)

/-- ITS FALSE NEIGHBOUR: 'it returns false'. Refute it at one input. -/
def denseEliminatesWrong : ChangeSpec := { name := "denseEliminates", fn := fun _ => fun
  | [d1, d2, d3, d4, d5, d6] => { results := [.lit (.bool false)], args := [d1, d2, d3, d4, d5, d6] }
  | _ => none }
def DenseEliminatesWrongFalsely : Prop := denseEliminatesRow.holds Tryz.pinned (OpenSpec.ofChange denseEliminatesWrong)

/-- 'sparselaw23.DenseWidths': WHATEVER THE INPUT: true; the input reads as it did. -/
def denseWidthsSpec : ChangeSpec := { name := "denseWidths", fn := fun _ => fun
  | [d1, d2, d3, d4, d5, d6] => { results := [.lit (.bool true)], args := [d1, d2, d3, d4, d5, d6] }
  | _ => none }
def denseWidthsRow : OpenClaim := { program := "ytablcbgeeeboeaagreatdoor", sum := "97b443c997a6080ce9f126163aafdfc5d0bb66d5e9329b7608a9d14695724294", func := "sparse/sparselaw23.DenseWidths", spec := "denseWidths", unfollowed := true, recurses := true, named := ["math/bits.deBruijn32tab"], apart := false, laid := [("math/bits.deBruijn32tab", laid_math_bits_deBruijn32tab)] }
def DenseWidthsSaid : Prop := denseWidthsRow.holds Tryz.pinned (OpenSpec.ofChange denseWidthsSpec)

/-- ITS FALSE NEIGHBOUR: 'it returns false'. Refute it at one input. -/
def denseWidthsWrong : ChangeSpec := { name := "denseWidths", fn := fun _ => fun
  | [d1, d2, d3, d4, d5, d6] => { results := [.lit (.bool false)], args := [d1, d2, d3, d4, d5, d6] }
  | _ => none }
def DenseWidthsWrongFalsely : Prop := denseWidthsRow.holds Tryz.pinned (OpenSpec.ofChange denseWidthsWrong)

/-- 'sparselaw23.DenseStages': WHATEVER THE INPUT: true; the input reads as it did. -/
def denseStagesSpec : ChangeSpec := { name := "denseStages", fn := fun _ => fun
  | [d1, d2, d3, d4, d5] => { results := [.lit (.bool true)], args := [d1, d2, d3, d4, d5] }
  | _ => none }
def denseStagesRow : OpenClaim := { program := "ytablcbgeeeboeaagreatdoor", sum := "97b443c997a6080ce9f126163aafdfc5d0bb66d5e9329b7608a9d14695724294", func := "sparse/sparselaw23.DenseStages", spec := "denseStages", unfollowed := true, recurses := true, named := ["math/bits.deBruijn32tab"], apart := false, laid := [("math/bits.deBruijn32tab", laid_math_bits_deBruijn32tab)] }
def DenseStagesSaid : Prop := denseStagesRow.holds Tryz.pinned (OpenSpec.ofChange denseStagesSpec)

/-- ITS FALSE NEIGHBOUR: 'it returns false'. Refute it at one input. -/
def denseStagesWrong : ChangeSpec := { name := "denseStages", fn := fun _ => fun
  | [d1, d2, d3, d4, d5] => { results := [.lit (.bool false)], args := [d1, d2, d3, d4, d5] }
  | _ => none }
def DenseStagesWrongFalsely : Prop := denseStagesRow.holds Tryz.pinned (OpenSpec.ofChange denseStagesWrong)

/-- 'sparselaw23.DenseContribution': WHATEVER THE INPUT: true; the input reads as it did. -/
def denseContributionSpec : ChangeSpec := { name := "denseContribution", fn := fun _ => fun
  | [d1, d2, d3, d4] => { results := [.lit (.bool true)], args := [d1, d2, d3, d4] }
  | _ => none }
def denseContributionRow : OpenClaim := { program := "ytablcbgeeeboeaagreatdoor", sum := "97b443c997a6080ce9f126163aafdfc5d0bb66d5e9329b7608a9d14695724294", func := "sparse/sparselaw23.DenseContribution", spec := "denseContribution", unfollowed := true, recurses := true, named := ["math/bits.deBruijn32tab"], apart := false, laid := [("math/bits.deBruijn32tab", laid_math_bits_deBruijn32tab)] }
def DenseContributionSaid : Prop := denseContributionRow.holds Tryz.pinned (OpenSpec.ofChange denseContributionSpec)

/-- ITS FALSE NEIGHBOUR: 'it returns false'. Refute it at one input. -/
def denseContributionWrong : ChangeSpec := { name := "denseContribution", fn := fun _ => fun
  | [d1, d2, d3, d4] => { results := [.lit (.bool false)], args := [d1, d2, d3, d4] }
  | _ => none }
def DenseContributionWrongFalsely : Prop := denseContributionRow.holds Tryz.pinned (OpenSpec.ofChange denseContributionWrong)

/-- 'sparselaw23.DenseChecks': WHATEVER THE INPUT: true; the input reads as it did. -/
def denseChecksSpec : ChangeSpec := { name := "denseChecks", fn := fun _ => fun
  | [d1, d2, d3, d4, d5] => { results := [.lit (.bool true)], args := [d1, d2, d3, d4, d5] }
  | _ => none }
def denseChecksRow : OpenClaim := { program := "ytablcbgeeeboeaagreatdoor", sum := "97b443c997a6080ce9f126163aafdfc5d0bb66d5e9329b7608a9d14695724294", func := "sparse/sparselaw23.DenseChecks", spec := "denseChecks", unfollowed := true, recurses := true, named := ["math/bits.deBruijn32tab"], apart := false, laid := [("math/bits.deBruijn32tab", laid_math_bits_deBruijn32tab)] }
def DenseChecksSaid : Prop := denseChecksRow.holds Tryz.pinned (OpenSpec.ofChange denseChecksSpec)

/-- ITS FALSE NEIGHBOUR: 'it returns false'. Refute it at one input. -/
def denseChecksWrong : ChangeSpec := { name := "denseChecks", fn := fun _ => fun
  | [d1, d2, d3, d4, d5] => { results := [.lit (.bool false)], args := [d1, d2, d3, d4, d5] }
  | _ => none }
def DenseChecksWrongFalsely : Prop := denseChecksRow.holds Tryz.pinned (OpenSpec.ofChange denseChecksWrong)

/-- 'sparselaw23.DenseAssembles': WHATEVER THE INPUT: true; the input reads as it did. -/
def denseAssemblesSpec : ChangeSpec := { name := "denseAssembles", fn := fun _ => fun
  | [d1, d2, d3, d4] => { results := [.lit (.bool true)], args := [d1, d2, d3, d4] }
  | _ => none }
def denseAssemblesRow : OpenClaim := { program := "ytablcbgeeeboeaagreatdoor", sum := "97b443c997a6080ce9f126163aafdfc5d0bb66d5e9329b7608a9d14695724294", func := "sparse/sparselaw23.DenseAssembles", spec := "denseAssembles", unfollowed := true, recurses := true, named := ["math/bits.deBruijn32tab"], apart := false, laid := [("math/bits.deBruijn32tab", laid_math_bits_deBruijn32tab)] }
def DenseAssemblesSaid : Prop := denseAssemblesRow.holds Tryz.pinned (OpenSpec.ofChange denseAssemblesSpec)

/-- ITS FALSE NEIGHBOUR: 'it returns false'. Refute it at one input. -/
def denseAssemblesWrong : ChangeSpec := { name := "denseAssembles", fn := fun _ => fun
  | [d1, d2, d3, d4] => { results := [.lit (.bool false)], args := [d1, d2, d3, d4] }
  | _ => none }
def DenseAssemblesWrongFalsely : Prop := denseAssemblesRow.holds Tryz.pinned (OpenSpec.ofChange denseAssemblesWrong)

/-- 'sparselaw23.DenseRefuses': WHATEVER THE INPUT: true; the input reads as it did. -/
def denseRefusesSpec : ChangeSpec := { name := "denseRefuses", fn := fun _ => fun
  | [d1, d2, d3, d4, d5, d6, d7] => { results := [.lit (.bool true)], args := [d1, d2, d3, d4, d5, d6, d7] }
  | _ => none }
def denseRefusesRow : OpenClaim := { program := "ytablcbgeeeboeaagreatdoor", sum := "97b443c997a6080ce9f126163aafdfc5d0bb66d5e9329b7608a9d14695724294", func := "sparse/sparselaw23.DenseRefuses", spec := "denseRefuses", unfollowed := true, recurses := true, named := ["math/bits.deBruijn32tab"], apart := false, laid := [("math/bits.deBruijn32tab", laid_math_bits_deBruijn32tab)] }
def DenseRefusesSaid : Prop := denseRefusesRow.holds Tryz.pinned (OpenSpec.ofChange denseRefusesSpec)

/-- ITS FALSE NEIGHBOUR: 'it returns false'. Refute it at one input. -/
def denseRefusesWrong : ChangeSpec := { name := "denseRefuses", fn := fun _ => fun
  | [d1, d2, d3, d4, d5, d6, d7] => { results := [.lit (.bool false)], args := [d1, d2, d3, d4, d5, d6, d7] }
  | _ => none }
def DenseRefusesWrongFalsely : Prop := denseRefusesRow.holds Tryz.pinned (OpenSpec.ofChange denseRefusesWrong)

/-- 'sparselaw23.DenseMultiplies': WHATEVER THE INPUT: true; the input reads as it did. -/
def denseMultipliesSpec : ChangeSpec := { name := "denseMultiplies", fn := fun _ => fun
  | [d1, d2, d3, d4, d5] => { results := [.lit (.bool true)], args := [d1, d2, d3, d4, d5] }
  | _ => none }
def denseMultipliesRow : OpenClaim := { program := "ytablcbgeeeboeaagreatdoor", sum := "97b443c997a6080ce9f126163aafdfc5d0bb66d5e9329b7608a9d14695724294", func := "sparse/sparselaw23.DenseMultiplies", spec := "denseMultiplies", unfollowed := true, recurses := true, named := ["math/bits.deBruijn32tab"], apart := false, laid := [("math/bits.deBruijn32tab", laid_math_bits_deBruijn32tab)] }
def DenseMultipliesSaid : Prop := denseMultipliesRow.holds Tryz.pinned (OpenSpec.ofChange denseMultipliesSpec)

/-- ITS FALSE NEIGHBOUR: 'it returns false'. Refute it at one input. -/
def denseMultipliesWrong : ChangeSpec := { name := "denseMultiplies", fn := fun _ => fun
  | [d1, d2, d3, d4, d5] => { results := [.lit (.bool false)], args := [d1, d2, d3, d4, d5] }
  | _ => none }
def DenseMultipliesWrongFalsely : Prop := denseMultipliesRow.holds Tryz.pinned (OpenSpec.ofChange denseMultipliesWrong)

/- THE SECOND FORM. 'bulk': how many values and letters a reading holds, each counted each time it is reached (what is shared counts as often as it is met; a slice's spare places count too). A statement '..UptoSaid' is the law's where the arguments, and the package variables that the reading takes, are together of bulk at most 1048576: NARROWER than '..Said'. Prove '..Said' where nothing that the law and all that it calls make is longer than what came in: it says more and counts as full. Else prove '..UptoSaid'. A law counts once. -/
mutual
def uptoBulk {H : Type} : DataW H → Nat
  | .lit (.string bytes) => bytes.length + 1
  | .lit _ => 1
  | .nil => 1
  | .ptr d => uptoBulk d + 1
  | .slice elems spare => uptoBulkAll elems + uptoBulkAll spare + 1
  | .agg parts => uptoBulkAll parts + 1
  | .iface _ d => uptoBulk d + 1
  | .map entries => uptoBulkEntries entries + 1
  | .held _ => 1
def uptoBulkAll {H : Type} : List (DataW H) → Nat
  | [] => 0
  | d :: r => uptoBulk d + uptoBulkAll r
def uptoBulkEntries {H : Type} : List (Lit × DataW H) → Nat
  | [] => 0
  | x :: r => uptoBulkEntry x + uptoBulkEntries r
def uptoBulkEntry {H : Type} : Lit × DataW H → Nat
  | (.string bytes, d) => bytes.length + uptoBulk d + 1
  | (_, d) => uptoBulk d + 1
 end
def uptoSmall : (H : Type) → List (DataW H) → Bool := fun _ ds => decide (uptoBulkAll ds ≤ 1048576)
def OpenSpec.upto (s : _root_.Go.ChangeSpec) : _root_.Go.OpenSpec := { _root_.Go.OpenSpec.ofChange s with cond := some uptoSmall }

/-- 'sparselaw23.DenseEliminates', WHERE WHAT IT READS IS OF BULK AT MOST 1048576: true; the input reads as it did. -/
def denseEliminatesUptoRow : OpenClaim := { program := "ytablcbgeeeboeaagreatdoor", sum := "97b443c997a6080ce9f126163aafdfc5d0bb66d5e9329b7608a9d14695724294", func := "sparse/sparselaw23.DenseEliminates", spec := "denseEliminates", unfollowed := true, recurses := true, named := ["math/bits.deBruijn32tab"], apart := false, laid := [("math/bits.deBruijn32tab", laid_math_bits_deBruijn32tab)], narrowed := true }
def DenseEliminatesUptoSaid : Prop := denseEliminatesUptoRow.holds Tryz.pinned (OpenSpec.upto denseEliminatesSpec)

/-- 'sparselaw23.DenseWidths', WHERE WHAT IT READS IS OF BULK AT MOST 1048576: true; the input reads as it did. -/
def denseWidthsUptoRow : OpenClaim := { program := "ytablcbgeeeboeaagreatdoor", sum := "97b443c997a6080ce9f126163aafdfc5d0bb66d5e9329b7608a9d14695724294", func := "sparse/sparselaw23.DenseWidths", spec := "denseWidths", unfollowed := true, recurses := true, named := ["math/bits.deBruijn32tab"], apart := false, laid := [("math/bits.deBruijn32tab", laid_math_bits_deBruijn32tab)], narrowed := true }
def DenseWidthsUptoSaid : Prop := denseWidthsUptoRow.holds Tryz.pinned (OpenSpec.upto denseWidthsSpec)

/-- 'sparselaw23.DenseStages', WHERE WHAT IT READS IS OF BULK AT MOST 1048576: true; the input reads as it did. -/
def denseStagesUptoRow : OpenClaim := { program := "ytablcbgeeeboeaagreatdoor", sum := "97b443c997a6080ce9f126163aafdfc5d0bb66d5e9329b7608a9d14695724294", func := "sparse/sparselaw23.DenseStages", spec := "denseStages", unfollowed := true, recurses := true, named := ["math/bits.deBruijn32tab"], apart := false, laid := [("math/bits.deBruijn32tab", laid_math_bits_deBruijn32tab)], narrowed := true }
def DenseStagesUptoSaid : Prop := denseStagesUptoRow.holds Tryz.pinned (OpenSpec.upto denseStagesSpec)

/-- 'sparselaw23.DenseContribution', WHERE WHAT IT READS IS OF BULK AT MOST 1048576: true; the input reads as it did. -/
def denseContributionUptoRow : OpenClaim := { program := "ytablcbgeeeboeaagreatdoor", sum := "97b443c997a6080ce9f126163aafdfc5d0bb66d5e9329b7608a9d14695724294", func := "sparse/sparselaw23.DenseContribution", spec := "denseContribution", unfollowed := true, recurses := true, named := ["math/bits.deBruijn32tab"], apart := false, laid := [("math/bits.deBruijn32tab", laid_math_bits_deBruijn32tab)], narrowed := true }
def DenseContributionUptoSaid : Prop := denseContributionUptoRow.holds Tryz.pinned (OpenSpec.upto denseContributionSpec)

/-- 'sparselaw23.DenseChecks', WHERE WHAT IT READS IS OF BULK AT MOST 1048576: true; the input reads as it did. -/
def denseChecksUptoRow : OpenClaim := { program := "ytablcbgeeeboeaagreatdoor", sum := "97b443c997a6080ce9f126163aafdfc5d0bb66d5e9329b7608a9d14695724294", func := "sparse/sparselaw23.DenseChecks", spec := "denseChecks", unfollowed := true, recurses := true, named := ["math/bits.deBruijn32tab"], apart := false, laid := [("math/bits.deBruijn32tab", laid_math_bits_deBruijn32tab)], narrowed := true }
def DenseChecksUptoSaid : Prop := denseChecksUptoRow.holds Tryz.pinned (OpenSpec.upto denseChecksSpec)

/-- 'sparselaw23.DenseAssembles', WHERE WHAT IT READS IS OF BULK AT MOST 1048576: true; the input reads as it did. -/
def denseAssemblesUptoRow : OpenClaim := { program := "ytablcbgeeeboeaagreatdoor", sum := "97b443c997a6080ce9f126163aafdfc5d0bb66d5e9329b7608a9d14695724294", func := "sparse/sparselaw23.DenseAssembles", spec := "denseAssembles", unfollowed := true, recurses := true, named := ["math/bits.deBruijn32tab"], apart := false, laid := [("math/bits.deBruijn32tab", laid_math_bits_deBruijn32tab)], narrowed := true }
def DenseAssemblesUptoSaid : Prop := denseAssemblesUptoRow.holds Tryz.pinned (OpenSpec.upto denseAssemblesSpec)

/-- 'sparselaw23.DenseRefuses', WHERE WHAT IT READS IS OF BULK AT MOST 1048576: true; the input reads as it did. -/
def denseRefusesUptoRow : OpenClaim := { program := "ytablcbgeeeboeaagreatdoor", sum := "97b443c997a6080ce9f126163aafdfc5d0bb66d5e9329b7608a9d14695724294", func := "sparse/sparselaw23.DenseRefuses", spec := "denseRefuses", unfollowed := true, recurses := true, named := ["math/bits.deBruijn32tab"], apart := false, laid := [("math/bits.deBruijn32tab", laid_math_bits_deBruijn32tab)], narrowed := true }
def DenseRefusesUptoSaid : Prop := denseRefusesUptoRow.holds Tryz.pinned (OpenSpec.upto denseRefusesSpec)

/-- 'sparselaw23.DenseMultiplies', WHERE WHAT IT READS IS OF BULK AT MOST 1048576: true; the input reads as it did. -/
def denseMultipliesUptoRow : OpenClaim := { program := "ytablcbgeeeboeaagreatdoor", sum := "97b443c997a6080ce9f126163aafdfc5d0bb66d5e9329b7608a9d14695724294", func := "sparse/sparselaw23.DenseMultiplies", spec := "denseMultiplies", unfollowed := true, recurses := true, named := ["math/bits.deBruijn32tab"], apart := false, laid := [("math/bits.deBruijn32tab", laid_math_bits_deBruijn32tab)], narrowed := true }
def DenseMultipliesUptoSaid : Prop := denseMultipliesUptoRow.holds Tryz.pinned (OpenSpec.upto denseMultipliesSpec)

end Rows
end Go.Proofs.YtablcbgeeeboeaaGreatDoor
