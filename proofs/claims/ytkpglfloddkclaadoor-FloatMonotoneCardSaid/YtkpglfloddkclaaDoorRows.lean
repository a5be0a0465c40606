/-
  NARROWER THAN 'FOR EVERY INPUT', by the rows' own cells (each row's printed sentence says how): FloatMirrors: laid · FloatCommutes: laid · FloatMonotone: laid · FloatSterbenz: laid · FloatNeighbours: laid · FloatHalves: laid · FloatSpecial: laid.
  DERIVED. THE GIVEN ROWS OF THIS SEAT. 7 by the template 'for every input the law returns true; each argument reads behind the call as it read before'; 0 by the template 'total and deterministic' (their statements: YtkpglfloddkclaaDoorTotals.lean).
  GIVEN WITH THE SEED: the statements are not yours to turn. If you find one false, say at which input.
  Laid BY PROGRAM, IN A SANDBOX (cutbox-rows.mjs): the forced cells as the released guide's own fill.sh prints them over the translation 0dadd636b768c97a… (all of the seat's roots in one cut). By AI agents, Wed Nov 11 2026. No macro, syntax, notation, axiom, sorry.
-/
import Derived.Test.YtkpglfloddkclaaDoorChecked
import GoSem.Claim
import GoSem.ClaimJoined
import GoSem.ClaimMapViews
import Derived.JoinedTies
import Derived.KernelRfl
namespace Go.Proofs.YtkpglfloddkclaaDoor
/- THE CELL 'sum', in the pinned program and in every row, IS THE sha256 OF THE DUMP (.gsa) THAT YtkpglfloddkclaaDoorProg.lean LOADS. Nothing in Lean hashes anything: it is a label: what it is worth is what the hold of that sum in a sandbox is worth. -/
noncomputable def Tryd.pinned : Pinned := { name := "ytkpglfloddkclaadoor", sum := "0dadd636b768c97ad83055c2767ca58a06e02ee5787c289d9f74663268df98ec", checked := Tryd.checked }
namespace Rows
def none {H : Type} : Left H := { results := [], args := [] }

/- WHAT THE LISTED PACKAGE-LEVEL VARIABLES READ AS WHEN THE CALL BEGINS. Each datum BY PROGRAM (the guide's laid-datum.mjs) off the statement by which the dump's own 'gosem.cut.vars' lays the variable. In a bare row this is a premise. The card (YtkpglfloddkclaaDoorCards.lean) ties it to the program's text. -/
def laid_math_bits_deBruijn32tab {H : Type} : DataW H := .agg [.lit (.int .u8 0), .lit (.int .u8 1), .lit (.int .u8 28), .lit (.int .u8 2), .lit (.int .u8 29), .lit (.int .u8 14), .lit (.int .u8 24), .lit (.int .u8 3), .lit (.int .u8 30), .lit (.int .u8 22), .lit (.int .u8 20), .lit (.int .u8 15), .lit (.int .u8 25), .lit (.int .u8 17), .lit (.int .u8 4), .lit (.int .u8 8), .lit (.int .u8 31), .lit (.int .u8 27), .lit (.int .u8 13), .lit (.int .u8 23), .lit (.int .u8 21), .lit (.int .u8 19), .lit (.int .u8 16), .lit (.int .u8 7), .lit (.int .u8 26), .lit (.int .u8 12), .lit (.int .u8 18), .lit (.int .u8 6), .lit (.int .u8 11), .lit (.int .u8 5), .lit (.int .u8 10), .lit (.int .u8 9)]

/-- 'sparselaw03.FloatMirrors': WHATEVER THE INPUT: true; the input reads as it did. -/
def floatMirrorsSpec : ChangeSpec := { name := "floatMirrors", fn := fun _ => fun
  | [d1, d2, d3, d4] => { results := [.lit (.bool true)], args := [d1, d2, d3, d4] }
  | _ => none }
def floatMirrorsRow : OpenClaim := { program := "ytkpglfloddkclaadoor", sum := "0dadd636b768c97ad83055c2767ca58a06e02ee5787c289d9f74663268df98ec", func := "sparse/sparselaw03.FloatMirrors", spec := "floatMirrors", unfollowed := true, recurses := true, named := ["math/bits.deBruijn32tab"], apart := false, laid := [("math/bits.deBruijn32tab", laid_math_bits_deBruijn32tab)] }
def FloatMirrorsSaid : Prop := floatMirrorsRow.holds Tryd.pinned (OpenSpec.ofChange floatMirrorsSpec)

/-- ITS FALSE NEIGHBOUR: 'it returns false'. Refute it at one input. -/
def floatMirrorsWrong : ChangeSpec := { name := "floatMirrors", fn := fun _ => fun
  | [d1, d2, d3, d4] => { results := [.lit (.bool false)], args := [d1, d2, d3, d4] }
  | _ => none }
def FloatMirrorsWrongFalsely : Prop := floatMirrorsRow.holds Tryd.pinned (OpenSpec.ofChange floatMirrorsWrong)

/-- 'sparselaw03.FloatCommutes': WHATEVER THE INPUT: true; the input reads as it did. -/
def floatCommutesSpec : ChangeSpec := { name := "floatCommutes", fn := fun _ => fun
  | [d1, d2, d3, d4] => { results := [.lit (.bool true)], args := [d1, d2, d3, d4] }
  | _ => none }
def floatCommutesRow : OpenClaim := { program := "ytkpglfloddkclaadoor", sum := "0dadd636b768c97ad83055c2767ca58a06e02ee5787c289d9f74663268df98ec", func := "sparse/sparselaw03.FloatCommutes", spec := "floatCommutes", unfollowed := true, recurses := true, named := ["math/bits.deBruijn32tab"], apart := false, laid := [("math/bits.deBruijn32tab", laid_math_bits_deBruijn32tab)] }
def FloatCommutesSaid : Prop := floatCommutesRow.holds Tryd.pinned (OpenSpec.ofChange floatCommutesSpec)

/-- ITS FALSE NEIGHBOUR: 'it returns false'. Refute it at one input. -/
def floatCommutesWrong : ChangeSpec := { name := "floatCommutes", fn := fun _ => fun
  | [d1, d2, d3, d4] => { results := [.lit (.bool false)], args := [d1, d2, d3, d4] }
  | _ => none }
def FloatCommutesWrongFalsely : Prop := floatCommutesRow.holds Tryd.pinned (OpenSpec.ofChange floatCommutesWrong)

/-- 'sparselaw03.FloatMonotone': WHATEVER THE INPUT: true; the input reads as it did. -/
def floatMonotoneSpec : ChangeSpec := { name := "floatMonotone", fn := fun _ => fun
  | [d1, d2, d3, d4, d5, d6] => { results := [.lit (.bool true)], args := [d1, d2, d3, d4, d5, d6] }
  | _ => none }
def floatMonotoneRow : OpenClaim := { program := "ytkpglfloddkclaadoor", sum := "0dadd636b768c97ad83055c2767ca58a06e02ee5787c289d9f74663268df98ec", func := "sparse/sparselaw03.FloatMonotone", spec := "floatMonotone", unfollowed := true, recurses := true, named := ["math/bits.deBruijn32tab"], apart := false, laid := [("math/bits.deBruijn32tab", laid_math_bits_deBruijn32tab)] }
def FloatMonotoneSaid : Prop := floatMonotoneRow.holds Tryd.pinned (OpenSpec.ofChange floatMonotoneSpec)

/-- ITS FALSE NEIGHBOUR: 'it returns false'. Refute it at one input. -/
def floatMonotoneWrong : ChangeSpec := { name := "floatMonotone", fn := fun _ => fun
  | [d1, d2, d3, d4, d5, d6] => { results := [.lit (.bool false)], args := [d1, d2, d3, d4, d5, d6] }
  | _ => none }
def FloatMonotoneWrongFalsely : Prop := floatMonotoneRow.holds Tryd.pinned (OpenSpec.ofChange floatMonotoneWrong)

/-- 'sparselaw03.FloatSterbenz': WHATEVER THE INPUT: true; the input reads as it did. -/
def floatSterbenzSpec : ChangeSpec := { name := "floatSterbenz", fn := fun _ => fun
  | [d1, d2, d3] => { results := [.lit (.bool true)], args := [d1, d2, d3] }
  | _ => none }
def floatSterbenzRow : OpenClaim := { program := "ytkpglfloddkclaadoor", sum := "0dadd636b768c97ad83055c2767ca58a06e02ee5787c289d9f74663268df98ec", func := "sparse/sparselaw03.FloatSterbenz", spec := "floatSterbenz", unfollowed := true, recurses := true, named := ["math/bits.deBruijn32tab"], apart := false, laid := [("math/bits.deBruijn32tab", laid_math_bits_deBruijn32tab)] }
def FloatSterbenzSaid : Prop := floatSterbenzRow.holds Tryd.pinned (OpenSpec.ofChange floatSterbenzSpec)

/-- ITS FALSE NEIGHBOUR: 'it returns false'. Refute it at one input. -/
def floatSterbenzWrong : ChangeSpec := { name := "floatSterbenz", fn := fun _ => fun
  | [d1, d2, d3] => { results := [.lit (.bool false)], args := [d1, d2, d3] }
  | _ => none }
def FloatSterbenzWrongFalsely : Prop := floatSterbenzRow.holds Tryd.pinned (OpenSpec.ofChange floatSterbenzWrong)

/-- 'sparselaw03.FloatNeighbours': WHATEVER THE INPUT: true; the input reads as it did. -/
def floatNeighboursSpec : ChangeSpec := { name := "floatNeighbours", fn := fun _ => fun
  | [d1, d2] => { results := [.lit (.bool true)], args := [d1, d2] }
  | _ => none }
def floatNeighboursRow : OpenClaim := { program := "ytkpglfloddkclaadoor", sum := "0dadd636b768c97ad83055c2767ca58a06e02ee5787c289d9f74663268df98ec", func := "sparse/sparselaw03.FloatNeighbours", spec := "floatNeighbours", unfollowed := true, recurses := true, named := ["math/bits.deBruijn32tab"], apart := false, laid := [("math/bits.deBruijn32tab", laid_math_bits_deBruijn32tab)] }
def FloatNeighboursSaid : Prop := floatNeighboursRow.holds Tryd.pinned (OpenSpec.ofChange floatNeighboursSpec)

/-- ITS FALSE NEIGHBOUR: 'it returns false'. Refute it at one input. -/
def floatNeighboursWrong : ChangeSpec := { name := "floatNeighbours", fn := fun _ => fun
  | [d1, d2] => { results := [.lit (.bool false)], args := [d1, d2] }
  | _ => none }
def FloatNeighboursWrongFalsely : Prop := floatNeighboursRow.holds Tryd.pinned (OpenSpec.ofChange floatNeighboursWrong)

/-- 'sparselaw03.FloatHalves': WHATEVER THE INPUT: true; the input reads as it did. -/
def floatHalvesSpec : ChangeSpec := { name := "floatHalves", fn := fun _ => fun
  | [d1, d2] => { results := [.lit (.bool true)], args := [d1, d2] }
  | _ => none }
def floatHalvesRow : OpenClaim := { program := "ytkpglfloddkclaadoor", sum := "0dadd636b768c97ad83055c2767ca58a06e02ee5787c289d9f74663268df98ec", func := "sparse/sparselaw03.FloatHalves", spec := "floatHalves", unfollowed := true, recurses := true, named := ["math/bits.deBruijn32tab"], apart := false, laid := [("math/bits.deBruijn32tab", laid_math_bits_deBruijn32tab)] }
def FloatHalvesSaid : Prop := floatHalvesRow.holds Tryd.pinned (OpenSpec.ofChange floatHalvesSpec)

/-- ITS FALSE NEIGHBOUR: 'it returns false'. Refute it at one input. -/
def floatHalvesWrong : ChangeSpec := { name := "floatHalves", fn := fun _ => fun
  | [d1, d2] => { results := [.lit (.bool false)], args := [d1, d2] }
  | _ => none }
def FloatHalvesWrongFalsely : Prop := floatHalvesRow.holds Tryd.pinned (OpenSpec.ofChange floatHalvesWrong)

/-- 'sparselaw03.FloatSpecial': WHATEVER THE INPUT: true; the input reads as it did. -/
def floatSpecialSpec : ChangeSpec := { name := "floatSpecial", fn := fun _ => fun
  | [d1, d2] => { results := [.lit (.bool true)], args := [d1, d2] }
  | _ => none }
def floatSpecialRow : OpenClaim := { program := "ytkpglfloddkclaadoor", sum := "0dadd636b768c97ad83055c2767ca58a06e02ee5787c289d9f74663268df98ec", func := "sparse/sparselaw03.FloatSpecial", spec := "floatSpecial", unfollowed := true, recurses := true, named := ["math/bits.deBruijn32tab"], apart := false, laid := [("math/bits.deBruijn32tab", laid_math_bits_deBruijn32tab)] }
def FloatSpecialSaid : Prop := floatSpecialRow.holds Tryd.pinned (OpenSpec.ofChange floatSpecialSpec)

/-- ITS FALSE NEIGHBOUR: 'it returns false'. Refute it at one input. -/
def floatSpecialWrong : ChangeSpec := { name := "floatSpecial", fn := fun _ => fun
  | [d1, d2] => { results := [.lit (.bool false)], args := [d1, d2] }
  | _ => none }
def FloatSpecialWrongFalsely : Prop := floatSpecialRow.holds Tryd.pinned (OpenSpec.ofChange floatSpecialWrong)

/- THE SECOND FORM. 'bulk': how many values and letters a reading holds, each counted each time it is reached (what is shared counts as often as it is met; a slice's spare places count too). A statement '..UptoSaid' is the law's where the arguments, and the package variables that the reading takes, are together of bulk at most 1048576: NARROWER than '..Said'. Prove '..Said' where nothing that the law and all that it calls make is longer than what came in: it says more and counts as full. Else prove '..UptoSaid'. A law counts once. -/
mutual
def uptoBulk {H : Type} : DataW H → Nat
  | .lit (.string bytes) => bytes.length + 1
  | .lit _ => 1
  | .nil => 1
  | .ptr d => uptoBulk d + 1
  | .slice elems spare => uptoBulkAll elems + uptoBulkAll spare + 1
  | .agg parts => uptoBulkAll parts + 1
  | .iface _ d => uptoBulk d + 1
  | .map entries => uptoBulkEntries entries + 1
  | .held _ => 1
def uptoBulkAll {H : Type} : List (DataW H) → Nat
  | [] => 0
  | d :: r => uptoBulk d + uptoBulkAll r
def uptoBulkEntries {H : Type} : List (Lit × DataW H) → Nat
  | [] => 0
  | x :: r => uptoBulkEntry x + uptoBulkEntries r
def uptoBulkEntry {H : Type} : Lit × DataW H → Nat
  | (.string bytes, d) => bytes.length + uptoBulk d + 1
  | (_, d) => uptoBulk d + 1
 end
def uptoSmall : (H : Type) → List (DataW H) → Bool := fun _ ds => decide (uptoBulkAll ds ≤ 1048576)
def OpenSpec.upto (s : _root_.Go.ChangeSpec) : _root_.Go.OpenSpec := { _root_.Go.OpenSpec.ofChange s with cond := some uptoSmall }

/-- 'sparselaw03.FloatMirrors', WHERE WHAT IT READS IS OF BULK AT MOST 1048576: true; the input reads as it did. -/
def floatMirrorsUptoRow : OpenClaim := { program := "ytkpglfloddkclaadoor", sum := "0dadd636b768c97ad83055c2767ca58a06e02ee5787c289d9f74663268df98ec", func := "sparse/sparselaw03.FloatMirrors", spec := "floatMirrors", unfollowed := true, recurses := true, named := ["math/bits.deBruijn32tab"], apart := false, laid := [("math/bits.deBruijn32tab", laid_math_bits_deBruijn32tab)], narrowed := true }
def FloatMirrorsUptoSaid : Prop := floatMirrorsUptoRow.holds Tryd.pinned (OpenSpec.upto floatMirrorsSpec)

/-- 'sparselaw03.FloatCommutes', WHERE WHAT IT READS IS OF BULK AT MOST 1048576: true; the input reads as it did. -/
def floatCommutesUptoRow : OpenClaim := { program := "ytkpglfloddkclaadoor", sum := "0dadd636b768c97ad83055c2767ca58a06e02ee5787c289d9f74663268df98ec", func := "sparse/sparselaw03.FloatCommutes", spec := "floatCommutes", unfollowed := true, recurses := true, named := ["math/bits.deBruijn32tab"], apart := false, laid := [("math/bits.deBruijn32tab", laid_math_bits_deBruijn32tab)], narrowed := true }
def FloatCommutesUptoSaid : Prop := floatCommutesUptoRow.holds Tryd.pinned (OpenSpec.upto floatCommutesSpec)

/-- 'sparselaw03.FloatMonotone', WHERE WHAT IT READS IS OF BULK AT MOST 1048576: true; the input reads as it did. -/
def floatMonotoneUptoRow : OpenClaim := { program := "ytkpglfloddkclaadoor", sum := "0dadd636b768c97ad83055c2767ca58a06e02ee5787c289d9f74663268df98ec", func := "sparse/sparselaw03.FloatMonotone", spec := "floatMonotone", unfollowed := true, recurses := true, named := ["math/bits.deBruijn32tab"], apart := false, laid := [("math/bits.deBruijn32tab", laid_math_bits_deBruijn32tab)], narrowed := true }
def FloatMonotoneUptoSaid : Prop := floatMonotoneUptoRow.holds Tryd.pinned (OpenSpec.upto floatMonotoneSpec)

/-- 'sparselaw03.FloatSterbenz', WHERE WHAT IT READS IS OF BULK AT MOST 1048576: true; the input reads as it did. -/
def floatSterbenzUptoRow : OpenClaim := { program := "ytkpglfloddkclaadoor", sum := "0dadd636b768c97ad83055c2767ca58a06e02ee5787c289d9f74663268df98ec", func := "sparse/sparselaw03.FloatSterbenz", spec := "floatSterbenz", unfollowed := true, recurses := true, named := ["math/bits.deBruijn32tab"], apart := false, laid := [("math/bits.deBruijn32tab", laid_math_bits_deBruijn32tab)], narrowed := true }
def FloatSterbenzUptoSaid : Prop := floatSterbenzUptoRow.holds Tryd.pinned (OpenSpec.upto floatSterbenzSpec)

/-- 'sparselaw03.FloatNeighbours', WHERE WHAT IT READS IS OF BULK AT MOST 1048576: true; the input reads as it did. -/
def floatNeighboursUptoRow : OpenClaim := { program := "ytkpglfloddkclaadoor", sum := "0dadd636b768c97ad83055c2767ca58a06e02ee5787c289d9f74663268df98ec", func := "sparse/sparselaw03.FloatNeighbours", spec := "floatNeighbours", unfollowed := true, recurses := true, named := ["math/bits.deBruijn32tab"], apart := false, laid := [("math/bits.deBruijn32tab", laid_math_bits_deBruijn32tab)], narrowed := true }
def FloatNeighboursUptoSaid : Prop := floatNeighboursUptoRow.holds Tryd.pinned (OpenSpec.upto floatNeighboursSpec)

/-- 'sparselaw03.FloatHalves', WHERE WHAT IT READS IS OF BULK AT MOST 1048576: true; the input reads as it did. -/
def floatHalvesUptoRow : OpenClaim := { program := "ytkpglfloddkclaadoor", sum := "0dadd636b768c97ad83055c2767ca58a06e02ee5787c289d9f74663268df98ec", func := "sparse/sparselaw03.FloatHalves", spec := "floatHalves", unfollowed := true, recurses := true, named := ["math/bits.deBruijn32tab"], apart := false, laid := [("math/bits.deBruijn32tab", laid_math_bits_deBruijn32tab)], narrowed := true }
def FloatHalvesUptoSaid : Prop := floatHalvesUptoRow.holds Tryd.pinned (OpenSpec.upto floatHalvesSpec)

/-- 'sparselaw03.FloatSpecial', WHERE WHAT IT READS IS OF BULK AT MOST 1048576: true; the input reads as it did. -/
def floatSpecialUptoRow : OpenClaim := { program := "ytkpglfloddkclaadoor", sum := "0dadd636b768c97ad83055c2767ca58a06e02ee5787c289d9f74663268df98ec", func := "sparse/sparselaw03.FloatSpecial", spec := "floatSpecial", unfollowed := true, recurses := true, named := ["math/bits.deBruijn32tab"], apart := false, laid := [("math/bits.deBruijn32tab", laid_math_bits_deBruijn32tab)], narrowed := true }
def FloatSpecialUptoSaid : Prop := floatSpecialUptoRow.holds Tryd.pinned (OpenSpec.upto floatSpecialSpec)

end Rows
end Go.Proofs.YtkpglfloddkclaaDoor
