/-
  NARROWER THAN 'FOR EVERY INPUT', by the rows' own cells (each row's printed sentence says how): UpdateChanges: laid · UpdateDown: laid · UpdateSigns: laid · UpdateProduct: laid · UpdatePath: laid · UpdateRefuses: laid · UpdateUntouched: laid.
  DERIVED. THE GIVEN ROWS OF THIS SEAT. 7 by the template 'for every input the law returns true; each argument reads behind the call as it read before'; 0 by the template 'total and deterministic' (their statements: YtmbkgapknoammaaGreatDoorTotals.lean).
  GIVEN WITH THE SEED: the statements are not yours to turn. If you find one false, say at which input.
  Laid BY PROGRAM, IN A SANDBOX (cutbox-rows.mjs): the forced cells as the released guide's own fill.sh prints them over the translation 247dea2782ed1b50… (all of the seat's roots in one cut). By AI agents, Wed Nov 11 2026. No macro, syntax, notation, axiom, sorry.
-/
import Derived.Test.YtmbkgapknoammaaGreatDoorChecked
import GoSem.Claim
import GoSem.ClaimJoined
import GoSem.ClaimMapViews
import Derived.JoinedTies
import Derived.KernelRfl
namespace Go.Proofs.YtmbkgapknoammaaGreatDoor
/- THE CELL 'sum', in the pinned program and in every row, IS THE sha256 OF THE DUMP (.gsa) THAT YtmbkgapknoammaaGreatDoorProg.lean LOADS. Nothing in Lean hashes anything: it is a label: what it is worth is what the hold of that sum in a sandbox is worth. -/
noncomputable def Tryz.pinned : Pinned := { name := "ytmbkgapknoammaagreatdoor", sum := "247dea2782ed1b50f1ab73c04a5f0df99f9972232b1d06704ea6c43530d91087", checked := Tryz.checked }
namespace Rows
def none {H : Type} : Left H := { results := [], args := [] }

/- WHAT THE LISTED PACKAGE-LEVEL VARIABLES READ AS WHEN THE CALL BEGINS. Each datum BY PROGRAM (the guide's laid-datum.mjs) off the statement by which the dump's own 'gosem.cut.vars' lays the variable. In a bare row this is a premise. The card (YtmbkgapknoammaaGreatDoorCards.lean) ties it to the program's text. -/
def laid_math_bits_deBruijn32tab {H : Type} : DataW H := .agg [.lit (.int .u8 0), .lit (.int .u8 1), .lit (.int .u8 28), .lit (.int .u8 2), .lit (.int .u8 29), .lit (.int .u8 14), .lit (.int .u8 24), .lit (.int .u8 3), .lit (.int .u8 30), .lit (.int .u8 22), .lit (.int .u8 20), .lit (.int .u8 15), .lit (.int .u8 25), .lit (.int .u8 17), .lit (.int .u8 4), .lit (.int .u8 8), .lit (.int .u8 31), .lit (.int .u8 27), .lit (.int .u8 13), .lit (.int .u8 23), .lit (.int .u8 21), .lit (.int .u8 19), .lit (.int .u8 16), .lit (.int .u8 7), .lit (.int .u8 26), .lit (.int .u8 12), .lit (.int .u8 18), .lit (.int .u8 6), .lit (.int .u8 11), .lit (.int .u8 5), .lit (.int .u8 10), .lit (.int .u8 9)]

/-- 'sparselaw29.UpdateChanges': WHATEVER THE INPUT: true; the input reads as it did. -/
def updateChangesSpec : ChangeSpec := { name := "updateChanges", fn := fun _ => fun
  | [d1, d2, d3, d4, d5] => { results := [.lit (.bool true)], args := [d1, d2, d3, d4, d5] }
  | _ => none }
def updateChangesRow : OpenClaim := { program := "ytmbkgapknoammaagreatdoor", sum := "247dea2782ed1b50f1ab73c04a5f0df99f9972232b1d06704ea6c43530d91087", func := "sparse/sparselaw29.UpdateChanges", spec := "updateChanges", unfollowed := true, recurses := true, named := ["math/bits.deBruijn32tab"], apart := false, laid := [("math/bits.deBruijn32tab", laid_math_bits_deBruijn32tab)] }
def UpdateChangesSaid : Prop := updateChangesRow.holds Tryz.pinned (OpenSpec.ofChange updateChangesSpec)

/-- ITS FALSE NEIGHBOUR: 'it returns false'. Refute it at one input. -/
def updateChangesWrong : ChangeSpec := { name := "updateChanges", fn := fun _ => fun
  | [d1, d2, d3, d4, d5] => { results := [.lit (.bool false)], args := [d1, d2, d3, d4, d5] }
  | _ => none }
def UpdateChangesWrongFalsely : Prop := updateChangesRow.holds Tryz.pinned (OpenSpec.ofChange updateChangesWrong)

/-- 'sparselaw29.UpdateDown': WHATEVER THE INPUT: true; the input reads as it did. -/
def updateDownSpec : ChangeSpec := { name := "updateDown", fn := fun _ => fun
  | [d1, d2, d3, d4, d5, d6] => { results := [.lit (.bool true)], args := [d1, d2, d3, d4, d5, d6] }
  | _ => none }
def updateDownRow : OpenClaim := { program := "ytmbkgapknoammaagreatdoor", sum := "247dea2782ed1b50f1ab73c04a5f0df99f9972232b1d06704ea6c43530d91087", func := "sparse/sparselaw29.UpdateDown", spec := "updateDown", unfollowed := true, recurses := true, named := ["math/bits.deBruijn32tab"], apart := false, laid := [("math/bits.deBruijn32tab", laid_math_bits_deBruijn32tab)] }
def UpdateDownSaid : Prop := updateDownRow.holds Tryz.pinned (OpenSpec.ofChange updateDownSpec)

/-- ITS FALSE NEIGHBOUR: 'it returns false'. Refute it at one input. -/
def updateDownWrong : ChangeSpec := { name := "updateDown", fn := fun _ => fun
  | [d1, d2, d3, d4, d5, d6] => { results := [.lit (.bool false)], args := [d1, d2, d3, d4, d5, d6] }
  | _ => none }
def UpdateDownWrongFalsely : Prop := updateDownRow.holds Tryz.pinned (OpenSpec.ofChange updateDownWrong)

/-- 'sparselaw29.UpdateSigns': WHATEVER THE INPUT: true; the input reads as it did. -/
def updateSignsSpec : ChangeSpec := { name := "updateSigns", fn := fun _ => fun
  | [d1, d2, d3, d4] => { results := [.lit (.bool true)], args := [d1, d2, d3, d4] }
  | _ => none }
def updateSignsRow : OpenClaim := { program := "ytmbkgapknoammaagreatdoor", sum := "247dea2782ed1b50f1ab73c04a5f0df99f9972232b1d06704ea6c43530d91087", func := "sparse/sparselaw29.UpdateSigns", spec := "updateSigns", unfollowed := true, recurses := true, named := ["math/bits.deBruijn32tab"], apart := false, laid := [("math/bits.deBruijn32tab", laid_math_bits_deBruijn32tab)] }
def UpdateSignsSaid : Prop := updateSignsRow.holds Tryz.pinned (OpenSpec.ofChange updateSignsSpec)

/-- ITS FALSE NEIGHBOUR: 'it returns false'. Refute it at one input. -/
def updateSignsWrong : ChangeSpec := { name := "updateSigns", fn := fun _ => fun
  | [d1, d2, d3, d4] => { results := [.lit (.bool false)], args := [d1, d2, d3, d4] }
  | _ => none }
def UpdateSignsWrongFalsely : Prop := updateSignsRow.holds Tryz.pinned (OpenSpec.ofChange updateSignsWrong)

/-- 'sparselaw29.UpdateProduct': WHATEVER THE INPUT: true; the input reads as it did. -/
def updateProductSpec : ChangeSpec := { name := "updateProduct", fn := fun _ => fun
  | [d1, d2] => { results := [.lit (.bool true)], args := [d1, d2] }
  | _ => none }
def updateProductRow : OpenClaim := { program := "ytmbkgapknoammaagreatdoor", sum := "247dea2782ed1b50f1ab73c04a5f0df99f9972232b1d06704ea6c43530d91087", func := "sparse/sparselaw29.UpdateProduct", spec := "updateProduct", unfollowed := true, recurses := true, named := ["math/bits.deBruijn32tab"], apart := false, laid := [("math/bits.deBruijn32tab", laid_math_bits_deBruijn32tab)] }
def UpdateProductSaid : Prop := updateProductRow.holds Tryz.pinned (OpenSpec.ofChange updateProductSpec)

/-- ITS FALSE NEIGHBOUR: 'it returns false'. Refute it at one input. -/
def updateProductWrong : ChangeSpec := { name := "updateProduct", fn := fun _ => fun
  | [d1, d2] => { results := [.lit (.bool false)], args := [d1, d2] }
  | _ => none }
def UpdateProductWrongFalsely : Prop := updateProductRow.holds Tryz.pinned (OpenSpec.ofChange updateProductWrong)

/-- 'sparselaw29.UpdatePath': WHATEVER THE INPUT: true; the input reads as it did. -/
def updatePathSpec : ChangeSpec := { name := "updatePath", fn := fun _ => fun
  | [d1, d2, d3, d4, d5] => { results := [.lit (.bool true)], args := [d1, d2, d3, d4, d5] }
  | _ => none }
def updatePathRow : OpenClaim := { program := "ytmbkgapknoammaagreatdoor", sum := "247dea2782ed1b50f1ab73c04a5f0df99f9972232b1d06704ea6c43530d91087", func := "sparse/sparselaw29.UpdatePath", spec := "updatePath", unfollowed := true, recurses := true, named := ["math/bits.deBruijn32tab"], apart := false, laid := [("math/bits.deBruijn32tab", laid_math_bits_deBruijn32tab)] }
def UpdatePathSaid : Prop := updatePathRow.holds Tryz.pinned (OpenSpec.ofChange updatePathSpec)

/-- ITS FALSE NEIGHBOUR: 'it returns false'. Refute it at one input. -/
def updatePathWrong : ChangeSpec := { name := "updatePath", fn := fun _ => fun
  | [d1, d2, d3, d4, d5] => { results := [.lit (.bool false)], args := [d1, d2, d3, d4, d5] }
  | _ => none }
def UpdatePathWrongFalsely : Prop := updatePathRow.holds Tryz.pinned (OpenSpec.ofChange updatePathWrong)

/-- 'sparselaw29.UpdateRefuses': WHATEVER THE INPUT: true; the input reads as it did. -/
def updateRefusesSpec : ChangeSpec := { name := "updateRefuses", fn := fun _ => fun
  | [d1, d2, d3, d4, d5] => { results := [.lit (.bool true)], args := [d1, d2, d3, d4, d5] }
  | _ => none }
def updateRefusesRow : OpenClaim := { program := "ytmbkgapknoammaagreatdoor", sum := "247dea2782ed1b50f1ab73c04a5f0df99f9972232b1d06704ea6c43530d91087", func := "sparse/sparselaw29.UpdateRefuses", spec := "updateRefuses", unfollowed := true, recurses := true, named := ["math/bits.deBruijn32tab"], apart := false, laid := [("math/bits.deBruijn32tab", laid_math_bits_deBruijn32tab)] }
def UpdateRefusesSaid : Prop := updateRefusesRow.holds Tryz.pinned (OpenSpec.ofChange updateRefusesSpec)

/-- ITS FALSE NEIGHBOUR: 'it returns false'. Refute it at one input. -/
def updateRefusesWrong : ChangeSpec := { name := "updateRefuses", fn := fun _ => fun
  | [d1, d2, d3, d4, d5] => { results := [.lit (.bool false)], args := [d1, d2, d3, d4, d5] }
  | _ => none }
def UpdateRefusesWrongFalsely : Prop := updateRefusesRow.holds Tryz.pinned (OpenSpec.ofChange updateRefusesWrong)

/-- 'sparselaw29.UpdateUntouched': WHATEVER THE INPUT: true; the input reads as it did. -/
def updateUntouchedSpec : ChangeSpec := { name := "updateUntouched", fn := fun _ => fun
  | [d1, d2, d3, d4, d5] => { results := [.lit (.bool true)], args := [d1, d2, d3, d4, d5] }
  | _ => none }
def updateUntouchedRow : OpenClaim := { program := "ytmbkgapknoammaagreatdoor", sum := "247dea2782ed1b50f1ab73c04a5f0df99f9972232b1d06704ea6c43530d91087", func := "sparse/sparselaw29.UpdateUntouched", spec := "updateUntouched", unfollowed := true, recurses := true, named := ["math/bits.deBruijn32tab"], apart := false, laid := [("math/bits.deBruijn32tab", laid_math_bits_deBruijn32tab)] }
def UpdateUntouchedSaid : Prop := updateUntouchedRow.holds Tryz.pinned (OpenSpec.ofChange updateUntouchedSpec)

/-- ITS FALSE NEIGHBOUR: 'it returns false'. Refute it at one input. -/
def updateUntouchedWrong : ChangeSpec := { name := "updateUntouched", fn := fun _ => fun
  | [d1, d2, d3, d4, d5] => { results := [.lit (.bool false)], args := [d1, d2, d3, d4, d5] }
  | _ => none }
def UpdateUntouchedWrongFalsely : Prop := updateUntouchedRow.holds Tryz.pinned (OpenSpec.ofChange updateUntouchedWrong)

/- THE SECOND FORM. 'bulk': how many values and letters a reading holds, each counted each time it is reached (what is shared counts as often as it is met; a slice's spare places count too). A statement '..UptoSaid' is the law's where the arguments, and the package variables that the reading takes, are together of bulk at most 1048576: NARROWER than '..Said'. Prove '..Said' where nothing that the law and all that it calls make is longer than what came in: it says more and counts as full. Else prove '..UptoSaid'. A law counts once. -/
mutual
def uptoBulk {H : Type} : DataW H → Nat
  | .lit (.string bytes) => bytes.length + 1
  | .lit _ => 1
  | .nil => 1
  | .ptr d => uptoBulk d + 1
  | .slice elems spare => uptoBulkAll elems + uptoBulkAll spare + 1
  | .agg parts => uptoBulkAll parts + 1
  | .iface _ d => uptoBulk d + 1
  | .map entries => uptoBulkEntries entries + 1
  | .held _ => 1
def uptoBulkAll {H : Type} : List (DataW H) → Nat
  | [] => 0
  | d :: r => uptoBulk d + uptoBulkAll r
def uptoBulkEntries {H : Type} : List (Lit × DataW H) → Nat
  | [] => 0
  | x :: r => uptoBulkEntry x + uptoBulkEntries r
def uptoBulkEntry {H : Type} : Lit × DataW H → Nat
  | (.string bytes, d) => bytes.length + uptoBulk d + 1
  | (_, d) => uptoBulk d + 1
 end
def uptoSmall : (H : Type) → List (DataW H) → Bool := fun _ ds => decide (uptoBulkAll ds ≤ 1048576)
def OpenSpec.upto (s : _root_.Go.ChangeSpec) : _root_.Go.OpenSpec := { _root_.Go.OpenSpec.ofChange s with cond := some uptoSmall }

/-- 'sparselaw29.UpdateChanges', WHERE WHAT IT READS IS OF BULK AT MOST 1048576: true; the input reads as it did. -/
def updateChangesUptoRow : OpenClaim := { program := "ytmbkgapknoammaagreatdoor", sum := "247dea2782ed1b50f1ab73c04a5f0df99f9972232b1d06704ea6c43530d91087", func := "sparse/sparselaw29.UpdateChanges", spec := "updateChanges", unfollowed := true, recurses := true, named := ["math/bits.deBruijn32tab"], apart := false, laid := [("math/bits.deBruijn32tab", laid_math_bits_deBruijn32tab)], narrowed := true }
def UpdateChangesUptoSaid : Prop := updateChangesUptoRow.holds Tryz.pinned (OpenSpec.upto updateChangesSpec)

/-- 'sparselaw29.UpdateDown', WHERE WHAT IT READS IS OF BULK AT MOST 1048576: true; the input reads as it did. -/
def updateDownUptoRow : OpenClaim := { program := "ytmbkgapknoammaagreatdoor", sum := "247dea2782ed1b50f1ab73c04a5f0df99f9972232b1d06704ea6c43530d91087", func := "sparse/sparselaw29.UpdateDown", spec := "updateDown", unfollowed := true, recurses := true, named := ["math/bits.deBruijn32tab"], apart := false, laid := [("math/bits.deBruijn32tab", laid_math_bits_deBruijn32tab)], narrowed := true }
def UpdateDownUptoSaid : Prop := updateDownUptoRow.holds Tryz.pinned (OpenSpec.upto updateDownSpec)

/-- 'sparselaw29.UpdateSigns', WHERE WHAT IT READS IS OF BULK AT MOST 1048576: true; the input reads as it did. -/
def updateSignsUptoRow : OpenClaim := { program := "ytmbkgapknoammaagreatdoor", sum := "247dea2782ed1b50f1ab73c04a5f0df99f9972232b1d06704ea6c43530d91087", func := "sparse/sparselaw29.UpdateSigns", spec := "updateSigns", unfollowed := true, recurses := true, named := ["math/bits.deBruijn32tab"], apart := false, laid := [("math/bits.deBruijn32tab", laid_math_bits_deBruijn32tab)], narrowed := true }
def UpdateSignsUptoSaid : Prop := updateSignsUptoRow.holds Tryz.pinned (OpenSpec.upto updateSignsSpec)

/-- 'sparselaw29.UpdateProduct', WHERE WHAT IT READS IS OF BULK AT MOST 1048576: true; the input reads as it did. -/
def updateProductUptoRow : OpenClaim := { program := "ytmbkgapknoammaagreatdoor", sum := "247dea2782ed1b50f1ab73c04a5f0df99f9972232b1d06704ea6c43530d91087", func := "sparse/sparselaw29.UpdateProduct", spec := "updateProduct", unfollowed := true, recurses := true, named := ["math/bits.deBruijn32tab"], apart := false, laid := [("math/bits.deBruijn32tab", laid_math_bits_deBruijn32tab)], narrowed := true }
def UpdateProductUptoSaid : Prop := updateProductUptoRow.holds Tryz.pinned (OpenSpec.upto updateProductSpec)

/-- 'sparselaw29.UpdatePath', WHERE WHAT IT READS IS OF BULK AT MOST 1048576: true; the input reads as it did. -/
def updatePathUptoRow : OpenClaim := { program := "ytmbkgapknoammaagreatdoor", sum := "247dea2782ed1b50f1ab73c04a5f0df99f9972232b1d06704ea6c43530d91087", func := "sparse/sparselaw29.UpdatePath", spec := "updatePath", unfollowed := true, recurses := true, named := ["math/bits.deBruijn32tab"], apart := false, laid := [("math/bits.deBruijn32tab", laid_math_bits_deBruijn32tab)], narrowed := true }
def UpdatePathUptoSaid : Prop := updatePathUptoRow.holds Tryz.pinned (OpenSpec.upto updatePathSpec)

/-- 'sparselaw29.UpdateRefuses', WHERE WHAT IT READS IS OF BULK AT MOST 1048576: true; the input reads as it did. -/
def updateRefusesUptoRow : OpenClaim := { program := "ytmbkgapknoammaagreatdoor", sum := "247dea2782ed1b50f1ab73c04a5f0df99f9972232b1d06704ea6c43530d91087", func := "sparse/sparselaw29.UpdateRefuses", spec := "updateRefuses", unfollowed := true, recurses := true, named := ["math/bits.deBruijn32tab"], apart := false, laid := [("math/bits.deBruijn32tab", laid_math_bits_deBruijn32tab)], narrowed := true }
def UpdateRefusesUptoSaid : Prop := updateRefusesUptoRow.holds Tryz.pinned (OpenSpec.upto updateRefusesSpec)

/-- 'sparselaw29.UpdateUntouched', WHERE WHAT IT READS IS OF BULK AT MOST 1048576: true; the input reads as it did. -/
def updateUntouchedUptoRow : OpenClaim := { program := "ytmbkgapknoammaagreatdoor", sum := "247dea2782ed1b50f1ab73c04a5f0df99f9972232b1d06704ea6c43530d91087", func := "sparse/sparselaw29.UpdateUntouched", spec := "updateUntouched", unfollowed := true, recurses := true, named := ["math/bits.deBruijn32tab"], apart := false, laid := [("math/bits.deBruijn32tab", laid_math_bits_deBruijn32tab)], narrowed := true }
def UpdateUntouchedUptoSaid : Prop := updateUntouchedUptoRow.holds Tryz.pinned (OpenSpec.upto updateUntouchedSpec)

end Rows
end Go.Proofs.YtmbkgapknoammaaGreatDoor
