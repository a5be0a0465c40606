/-
  NARROWER THAN 'FOR EVERY INPUT', by the rows' own cells (each row's printed sentence says how): DyadLimits: laid · DyadSums: laid · DyadQuotient: laid · DyadNearest: laid · DyadRing: laid · DyadScales: laid · DyadRoot: laid.
  DERIVED. THE GIVEN ROWS OF THIS SEAT. 7 by the template 'for every input the law returns true; each argument reads behind the call as it read before'; 0 by the template 'total and deterministic' (their statements: YtjhngehajahbnaaDoorTotals.lean).
  GIVEN WITH THE SEED: the statements are not yours to turn. If you find one false, say at which input.
  Laid BY PROGRAM, IN A SANDBOX (cutbox-rows.mjs): the forced cells as the released guide's own fill.sh prints them over the translation 899a1a5e2c27e8de… (all of the seat's roots in one cut). By AI agents, Wed Nov 11 2026. No macro, syntax, notation, axiom, sorry.
-/
import Derived.Test.YtjhngehajahbnaaDoorChecked
import GoSem.Claim
import GoSem.ClaimJoined
import GoSem.ClaimMapViews
import Derived.JoinedTies
import Derived.KernelRfl
namespace Go.Proofs.YtjhngehajahbnaaDoor
/- THE CELL 'sum', in the pinned program and in every row, IS THE sha256 OF THE DUMP (.gsa) THAT YtjhngehajahbnaaDoorProg.lean LOADS. Nothing in Lean hashes anything: it is a label: what it is worth is what the hold of that sum in a sandbox is worth. -/
noncomputable def Tryd.pinned : Pinned := { name := "ytjhngehajahbnaadoor", sum := "899a1a5e2c27e8de1ed10d556cd72e54f4426d64bd15716f57dc9077189736cc", checked := Tryd.checked }
namespace Rows
def none {H : Type} : Left H := { results := [], args := [] }

/- WHAT THE LISTED PACKAGE-LEVEL VARIABLES READ AS WHEN THE CALL BEGINS. Each datum BY PROGRAM (the guide's laid-datum.mjs) off the statement by which the dump's own 'gosem.cut.vars' lays the variable. In a bare row this is a premise. The card (YtjhngehajahbnaaDoorCards.lean) ties it to the program's text. -/
def laid_math_bits_deBruijn32tab {H : Type} : DataW H := .agg [.lit (.int .u8 0), .lit (.int .u8 1), .lit (.int .u8 28), .lit (.int .u8 2), .lit (.int .u8 29), .lit (.int .u8 14), .lit (.int .u8 24), .lit (.int .u8 3), .lit (.int .u8 30), .lit (.int .u8 22), .lit (.int .u8 20), .lit (.int .u8 15), .lit (.int .u8 25), .lit (.int .u8 17), .lit (.int .u8 4), .lit (.int .u8 8), .lit (.int .u8 31), .lit (.int .u8 27), .lit (.int .u8 13), .lit (.int .u8 23), .lit (.int .u8 21), .lit (.int .u8 19), .lit (.int .u8 16), .lit (.int .u8 7), .lit (.int .u8 26), .lit (.int .u8 12), .lit (.int .u8 18), .lit (.int .u8 6), .lit (.int .u8 11), .lit (.int .u8 5), .lit (.int .u8 10), .lit (.int .u8 9)]

/-- 'sparselaw02.DyadLimits': WHATEVER THE INPUT: true; the input reads as it did. -/
def dyadLimitsSpec : ChangeSpec := { name := "dyadLimits", fn := fun _ => fun
  | [d1, d2] => { results := [.lit (.bool true)], args := [d1, d2] }
  | _ => none }
def dyadLimitsRow : OpenClaim := { program := "ytjhngehajahbnaadoor", sum := "899a1a5e2c27e8de1ed10d556cd72e54f4426d64bd15716f57dc9077189736cc", func := "sparse/sparselaw02.DyadLimits", spec := "dyadLimits", unfollowed := true, recurses := true, named := ["math/bits.deBruijn32tab"], apart := false, laid := [("math/bits.deBruijn32tab", laid_math_bits_deBruijn32tab)] }
def DyadLimitsSaid : Prop := dyadLimitsRow.holds Tryd.pinned (OpenSpec.ofChange dyadLimitsSpec)

/-- ITS FALSE NEIGHBOUR: 'it returns false'. Refute it at one input. -/
def dyadLimitsWrong : ChangeSpec := { name := "dyadLimits", fn := fun _ => fun
  | [d1, d2] => { results := [.lit (.bool false)], args := [d1, d2] }
  | _ => none }
def DyadLimitsWrongFalsely : Prop := dyadLimitsRow.holds Tryd.pinned (OpenSpec.ofChange dyadLimitsWrong)

/-- 'sparselaw02.DyadSums': WHATEVER THE INPUT: true; the input reads as it did. -/
def dyadSumsSpec : ChangeSpec := { name := "dyadSums", fn := fun _ => fun
  | [d1, d2] => { results := [.lit (.bool true)], args := [d1, d2] }
  | _ => none }
def dyadSumsRow : OpenClaim := { program := "ytjhngehajahbnaadoor", sum := "899a1a5e2c27e8de1ed10d556cd72e54f4426d64bd15716f57dc9077189736cc", func := "sparse/sparselaw02.DyadSums", spec := "dyadSums", unfollowed := true, recurses := true, named := ["math/bits.deBruijn32tab"], apart := false, laid := [("math/bits.deBruijn32tab", laid_math_bits_deBruijn32tab)] }
def DyadSumsSaid : Prop := dyadSumsRow.holds Tryd.pinned (OpenSpec.ofChange dyadSumsSpec)

/-- ITS FALSE NEIGHBOUR: 'it returns false'. Refute it at one input. -/
def dyadSumsWrong : ChangeSpec := { name := "dyadSums", fn := fun _ => fun
  | [d1, d2] => { results := [.lit (.bool false)], args := [d1, d2] }
  | _ => none }
def DyadSumsWrongFalsely : Prop := dyadSumsRow.holds Tryd.pinned (OpenSpec.ofChange dyadSumsWrong)

/-- 'sparselaw02.DyadQuotient': WHATEVER THE INPUT: true; the input reads as it did. -/
def dyadQuotientSpec : ChangeSpec := { name := "dyadQuotient", fn := fun _ => fun
  | [d1, d2, d3] => { results := [.lit (.bool true)], args := [d1, d2, d3] }
  | _ => none }
def dyadQuotientRow : OpenClaim := { program := "ytjhngehajahbnaadoor", sum := "899a1a5e2c27e8de1ed10d556cd72e54f4426d64bd15716f57dc9077189736cc", func := "sparse/sparselaw02.DyadQuotient", spec := "dyadQuotient", unfollowed := true, recurses := true, named := ["math/bits.deBruijn32tab"], apart := false, laid := [("math/bits.deBruijn32tab", laid_math_bits_deBruijn32tab)] }
def DyadQuotientSaid : Prop := dyadQuotientRow.holds Tryd.pinned (OpenSpec.ofChange dyadQuotientSpec)

/-- ITS FALSE NEIGHBOUR: 'it returns false'. Refute it at one input. -/
def dyadQuotientWrong : ChangeSpec := { name := "dyadQuotient", fn := fun _ => fun
  | [d1, d2, d3] => { results := [.lit (.bool false)], args := [d1, d2, d3] }
  | _ => none }
def DyadQuotientWrongFalsely : Prop := dyadQuotientRow.holds Tryd.pinned (OpenSpec.ofChange dyadQuotientWrong)

/-- 'sparselaw02.DyadNearest': WHATEVER THE INPUT: true; the input reads as it did. -/
def dyadNearestSpec : ChangeSpec := { name := "dyadNearest", fn := fun _ => fun
  | [d1, d2] => { results := [.lit (.bool true)], args := [d1, d2] }
  | _ => none }
def dyadNearestRow : OpenClaim := { program := "ytjhngehajahbnaadoor", sum := "899a1a5e2c27e8de1ed10d556cd72e54f4426d64bd15716f57dc9077189736cc", func := "sparse/sparselaw02.DyadNearest", spec := "dyadNearest", unfollowed := true, recurses := true, named := ["math/bits.deBruijn32tab"], apart := false, laid := [("math/bits.deBruijn32tab", laid_math_bits_deBruijn32tab)] }
def DyadNearestSaid : Prop := dyadNearestRow.holds Tryd.pinned (OpenSpec.ofChange dyadNearestSpec)

/-- ITS FALSE NEIGHBOUR: 'it returns false'. Refute it at one input. -/
def dyadNearestWrong : ChangeSpec := { name := "dyadNearest", fn := fun _ => fun
  | [d1, d2] => { results := [.lit (.bool false)], args := [d1, d2] }
  | _ => none }
def DyadNearestWrongFalsely : Prop := dyadNearestRow.holds Tryd.pinned (OpenSpec.ofChange dyadNearestWrong)

/-- 'sparselaw02.DyadRing': WHATEVER THE INPUT: true; the input reads as it did. -/
def dyadRingSpec : ChangeSpec := { name := "dyadRing", fn := fun _ => fun
  | [d1, d2, d3] => { results := [.lit (.bool true)], args := [d1, d2, d3] }
  | _ => none }
def dyadRingRow : OpenClaim := { program := "ytjhngehajahbnaadoor", sum := "899a1a5e2c27e8de1ed10d556cd72e54f4426d64bd15716f57dc9077189736cc", func := "sparse/sparselaw02.DyadRing", spec := "dyadRing", unfollowed := true, recurses := true, named := ["math/bits.deBruijn32tab"], apart := false, laid := [("math/bits.deBruijn32tab", laid_math_bits_deBruijn32tab)] }
def DyadRingSaid : Prop := dyadRingRow.holds Tryd.pinned (OpenSpec.ofChange dyadRingSpec)

/-- ITS FALSE NEIGHBOUR: 'it returns false'. Refute it at one input. -/
def dyadRingWrong : ChangeSpec := { name := "dyadRing", fn := fun _ => fun
  | [d1, d2, d3] => { results := [.lit (.bool false)], args := [d1, d2, d3] }
  | _ => none }
def DyadRingWrongFalsely : Prop := dyadRingRow.holds Tryd.pinned (OpenSpec.ofChange dyadRingWrong)

/-- 'sparselaw02.DyadScales': WHATEVER THE INPUT: true; the input reads as it did. -/
def dyadScalesSpec : ChangeSpec := { name := "dyadScales", fn := fun _ => fun
  | [d1, d2] => { results := [.lit (.bool true)], args := [d1, d2] }
  | _ => none }
def dyadScalesRow : OpenClaim := { program := "ytjhngehajahbnaadoor", sum := "899a1a5e2c27e8de1ed10d556cd72e54f4426d64bd15716f57dc9077189736cc", func := "sparse/sparselaw02.DyadScales", spec := "dyadScales", unfollowed := true, recurses := true, named := ["math/bits.deBruijn32tab"], apart := false, laid := [("math/bits.deBruijn32tab", laid_math_bits_deBruijn32tab)] }
def DyadScalesSaid : Prop := dyadScalesRow.holds Tryd.pinned (OpenSpec.ofChange dyadScalesSpec)

/-- ITS FALSE NEIGHBOUR: 'it returns false'. Refute it at one input. -/
def dyadScalesWrong : ChangeSpec := { name := "dyadScales", fn := fun _ => fun
  | [d1, d2] => { results := [.lit (.bool false)], args := [d1, d2] }
  | _ => none }
def DyadScalesWrongFalsely : Prop := dyadScalesRow.holds Tryd.pinned (OpenSpec.ofChange dyadScalesWrong)

/-- 'sparselaw02.DyadRoot': WHATEVER THE INPUT: true; the input reads as it did. -/
def dyadRootSpec : ChangeSpec := { name := "dyadRoot", fn := fun _ => fun
  | [d1, d2] => { results := [.lit (.bool true)], args := [d1, d2] }
  | _ => none }
def dyadRootRow : OpenClaim := { program := "ytjhngehajahbnaadoor", sum := "899a1a5e2c27e8de1ed10d556cd72e54f4426d64bd15716f57dc9077189736cc", func := "sparse/sparselaw02.DyadRoot", spec := "dyadRoot", unfollowed := true, recurses := true, named := ["math/bits.deBruijn32tab"], apart := false, laid := [("math/bits.deBruijn32tab", laid_math_bits_deBruijn32tab)] }
def DyadRootSaid : Prop := dyadRootRow.holds Tryd.pinned (OpenSpec.ofChange dyadRootSpec)

/-- ITS FALSE NEIGHBOUR: 'it returns false'. Refute it at one input. -/
def dyadRootWrong : ChangeSpec := { name := "dyadRoot", fn := fun _ => fun
  | [d1, d2] => { results := [.lit (.bool false)], args := [d1, d2] }
  | _ => none }
def DyadRootWrongFalsely : Prop := dyadRootRow.holds Tryd.pinned (OpenSpec.ofChange dyadRootWrong)

/- THE SECOND FORM. 'bulk': how many values and letters a reading holds, each counted each time it is reached (what is shared counts as often as it is met; a slice's spare places count too). A statement '..UptoSaid' is the law's where the arguments, and the package variables that the reading takes, are together of bulk at most 1048576: NARROWER than '..Said'. Prove '..Said' where nothing that the law and all that it calls make is longer than what came in: it says more and counts as full. Else prove '..UptoSaid'. A law counts once. -/
mutual
def uptoBulk {H : Type} : DataW H → Nat
  | .lit (.string bytes) => bytes.length + 1
  | .lit _ => 1
  | .nil => 1
  | .ptr d => uptoBulk d + 1
  | .slice elems spare => uptoBulkAll elems + uptoBulkAll spare + 1
  | .agg parts => uptoBulkAll parts + 1
  | .iface _ d => uptoBulk d + 1
  | .map entries => uptoBulkEntries entries + 1
  | .held _ => 1
def uptoBulkAll {H : Type} : List (DataW H) → Nat
  | [] => 0
  | d :: r => uptoBulk d + uptoBulkAll r
def uptoBulkEntries {H : Type} : List (Lit × DataW H) → Nat
  | [] => 0
  | x :: r => uptoBulkEntry x + uptoBulkEntries r
def uptoBulkEntry {H : Type} : Lit × DataW H → Nat
  | (.string bytes, d) => bytes.length + uptoBulk d + 1
  | (_, d) => uptoBulk d + 1
 end
def uptoSmall : (H : Type) → List (DataW H) → Bool := fun _ ds => decide (uptoBulkAll ds ≤ 1048576)
def OpenSpec.upto (s : _root_.Go.ChangeSpec) : _root_.Go.OpenSpec := { _root_.Go.OpenSpec.ofChange s with cond := some uptoSmall }

/-- 'sparselaw02.DyadLimits', WHERE WHAT IT READS IS OF BULK AT MOST 1048576: true; the input reads as it did. -/
def dyadLimitsUptoRow : OpenClaim := { program := "ytjhngehajahbnaadoor", sum := "899a1a5e2c27e8de1ed10d556cd72e54f4426d64bd15716f57dc9077189736cc", func := "sparse/sparselaw02.DyadLimits", spec := "dyadLimits", unfollowed := true, recurses := true, named := ["math/bits.deBruijn32tab"], apart := false, laid := [("math/bits.deBruijn32tab", laid_math_bits_deBruijn32tab)], narrowed := true }
def DyadLimitsUptoSaid : Prop := dyadLimitsUptoRow.holds Tryd.pinned (OpenSpec.upto dyadLimitsSpec)

/-- 'sparselaw02.DyadSums', WHERE WHAT IT READS IS OF BULK AT MOST 1048576: true; the input reads as it did. -/
def dyadSumsUptoRow : OpenClaim := { program := "ytjhngehajahbnaadoor", sum := "899a1a5e2c27e8de1ed10d556cd72e54f4426d64bd15716f57dc9077189736cc", func := "sparse/sparselaw02.DyadSums", spec := "dyadSums", unfollowed := true, recurses := true, named := ["math/bits.deBruijn32tab"], apart := false, laid := [("math/bits.deBruijn32tab", laid_math_bits_deBruijn32tab)], narrowed := true }
def DyadSumsUptoSaid : Prop := dyadSumsUptoRow.holds Tryd.pinned (OpenSpec.upto dyadSumsSpec)

/-- 'sparselaw02.DyadQuotient', WHERE WHAT IT READS IS OF BULK AT MOST 1048576: true; the input reads as it did. -/
def dyadQuotientUptoRow : OpenClaim := { program := "ytjhngehajahbnaadoor", sum := "899a1a5e2c27e8de1ed10d556cd72e54f4426d64bd15716f57dc9077189736cc", func := "sparse/sparselaw02.DyadQuotient", spec := "dyadQuotient", unfollowed := true, recurses := true, named := ["math/bits.deBruijn32tab"], apart := false, laid := [("math/bits.deBruijn32tab", laid_math_bits_deBruijn32tab)], narrowed := true }
def DyadQuotientUptoSaid : Prop := dyadQuotientUptoRow.holds Tryd.pinned (OpenSpec.upto dyadQuotientSpec)

/-- 'sparselaw02.DyadNearest', WHERE WHAT IT READS IS OF BULK AT MOST 1048576: true; the input reads as it did. -/
def dyadNearestUptoRow : OpenClaim := { program := "ytjhngehajahbnaadoor", sum := "899a1a5e2c27e8de1ed10d556cd72e54f4426d64bd15716f57dc9077189736cc", func := "sparse/sparselaw02.DyadNearest", spec := "dyadNearest", unfollowed := true, recurses := true, named := ["math/bits.deBruijn32tab"], apart := false, laid := [("math/bits.deBruijn32tab", laid_math_bits_deBruijn32tab)], narrowed := true }
def DyadNearestUptoSaid : Prop := dyadNearestUptoRow.holds Tryd.pinned (OpenSpec.upto dyadNearestSpec)

/-- 'sparselaw02.DyadRing', WHERE WHAT IT READS IS OF BULK AT MOST 1048576: true; the input reads as it did. -/
def dyadRingUptoRow : OpenClaim := { program := "ytjhngehajahbnaadoor", sum := "899a1a5e2c27e8de1ed10d556cd72e54f4426d64bd15716f57dc9077189736cc", func := "sparse/sparselaw02.DyadRing", spec := "dyadRing", unfollowed := true, recurses := true, named := ["math/bits.deBruijn32tab"], apart := false, laid := [("math/bits.deBruijn32tab", laid_math_bits_deBruijn32tab)], narrowed := true }
def DyadRingUptoSaid : Prop := dyadRingUptoRow.holds Tryd.pinned (OpenSpec.upto dyadRingSpec)

/-- 'sparselaw02.DyadScales', WHERE WHAT IT READS IS OF BULK AT MOST 1048576: true; the input reads as it did. -/
def dyadScalesUptoRow : OpenClaim := { program := "ytjhngehajahbnaadoor", sum := "899a1a5e2c27e8de1ed10d556cd72e54f4426d64bd15716f57dc9077189736cc", func := "sparse/sparselaw02.DyadScales", spec := "dyadScales", unfollowed := true, recurses := true, named := ["math/bits.deBruijn32tab"], apart := false, laid := [("math/bits.deBruijn32tab", laid_math_bits_deBruijn32tab)], narrowed := true }
def DyadScalesUptoSaid : Prop := dyadScalesUptoRow.holds Tryd.pinned (OpenSpec.upto dyadScalesSpec)

/-- 'sparselaw02.DyadRoot', WHERE WHAT IT READS IS OF BULK AT MOST 1048576: true; the input reads as it did. -/
def dyadRootUptoRow : OpenClaim := { program := "ytjhngehajahbnaadoor", sum := "899a1a5e2c27e8de1ed10d556cd72e54f4426d64bd15716f57dc9077189736cc", func := "sparse/sparselaw02.DyadRoot", spec := "dyadRoot", unfollowed := true, recurses := true, named := ["math/bits.deBruijn32tab"], apart := false, laid := [("math/bits.deBruijn32tab", laid_math_bits_deBruijn32tab)], narrowed := true }
def DyadRootUptoSaid : Prop := dyadRootUptoRow.holds Tryd.pinned (OpenSpec.upto dyadRootSpec)

end Rows
end Go.Proofs.YtjhngehajahbnaaDoor
