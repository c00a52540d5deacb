/-
  No cell of these rows narrows 'for every input' (looked for: loops, veiled, ifaces, maps, wideKeys, modest, calm, conditions, laid).
  DERIVED. THE GIVEN ROWS OF THIS SEAT. 11 by the template 'for every input the law returns true; each argument reads behind the call as it read before'; 0 by the template 'total and deterministic' (their statements: YtempibbfdojfiacTotals.lean).
  GIVEN WITH THE SEED: the statements are not yours to turn. If you find one false, say at which input.
  Laid BY PROGRAM, IN A SANDBOX (cutbox-rows.mjs): the forced cells as the released guide's own fill.sh prints them over the translation 38347ae8d7c606da… (all of the seat's roots in one cut). By AI agents, Wed Nov 11 2026. No macro, syntax, notation, axiom, sorry.
-/
import Derived.Test.YtempibbfdojfiacChecked
import GoSem.Claim
import GoSem.ClaimJoined
import GoSem.ClaimMapViews
import Derived.JoinedTies
import Derived.KernelRfl
namespace Go.Proofs.Ytempibbfdojfiac
/- THE CELL 'sum', in the pinned program and in every row, IS THE sha256 OF THE DUMP (.gsa) THAT YtempibbfdojfiacProg.lean LOADS. Nothing in Lean hashes anything: it is a label: what it is worth is what the hold of that sum in a sandbox is worth. -/
noncomputable def Try.pinned : Pinned := { name := "ytempibbfdojfiac", sum := "38347ae8d7c606da3c775e7bc449fb9c44291ae069e3f47887a86952723e35bf", checked := Try.checked }
namespace Rows
def none {H : Type} : Left H := { results := [], args := [] }

/-- 'obollaw13.PolyInverse': WHATEVER THE INPUT: true; the input reads as it did. -/
def polyInverseSpec : ChangeSpec := { name := "polyInverse", fn := fun _ => fun
  | [d1, d2] => { results := [.lit (.bool true)], args := [d1, d2] }
  | _ => none }
def polyInverseRow : OpenClaim := { program := "ytempibbfdojfiac", sum := "38347ae8d7c606da3c775e7bc449fb9c44291ae069e3f47887a86952723e35bf", func := "obol/obollaw13.PolyInverse", spec := "polyInverse", recurses := true, named := ["math/bits.divideError", "math/bits.overflowError"], apart := false }
def PolyInverseSaid : Prop := polyInverseRow.holds Try.pinned (OpenSpec.ofChange polyInverseSpec)

/-- ITS FALSE NEIGHBOUR: 'it returns false'. Refute it at one input. -/
def polyInverseWrong : ChangeSpec := { name := "polyInverse", fn := fun _ => fun
  | [d1, d2] => { results := [.lit (.bool false)], args := [d1, d2] }
  | _ => none }
def PolyInverseWrongFalsely : Prop := polyInverseRow.holds Try.pinned (OpenSpec.ofChange polyInverseWrong)

/-- 'obollaw02.ExtCodes': WHATEVER THE INPUT: true; the input reads as it did. -/
def extCodesSpec : ChangeSpec := { name := "extCodes", fn := fun _ => fun
  | [d1, d2] => { results := [.lit (.bool true)], args := [d1, d2] }
  | _ => none }
def extCodesRow : OpenClaim := { program := "ytempibbfdojfiac", sum := "38347ae8d7c606da3c775e7bc449fb9c44291ae069e3f47887a86952723e35bf", func := "obol/obollaw02.ExtCodes", spec := "extCodes", named := ["math/bits.divideError", "math/bits.overflowError"], apart := false }
def ExtCodesSaid : Prop := extCodesRow.holds Try.pinned (OpenSpec.ofChange extCodesSpec)

/-- ITS FALSE NEIGHBOUR: 'it returns false'. Refute it at one input. -/
def extCodesWrong : ChangeSpec := { name := "extCodes", fn := fun _ => fun
  | [d1, d2] => { results := [.lit (.bool false)], args := [d1, d2] }
  | _ => none }
def ExtCodesWrongFalsely : Prop := extCodesRow.holds Try.pinned (OpenSpec.ofChange extCodesWrong)

/-- 'obollaw02.ExtStays': WHATEVER THE INPUT: true; the input reads as it did. -/
def extStaysSpec : ChangeSpec := { name := "extStays", fn := fun _ => fun
  | [d1, d2] => { results := [.lit (.bool true)], args := [d1, d2] }
  | _ => none }
def extStaysRow : OpenClaim := { program := "ytempibbfdojfiac", sum := "38347ae8d7c606da3c775e7bc449fb9c44291ae069e3f47887a86952723e35bf", func := "obol/obollaw02.ExtStays", spec := "extStays", named := ["math/bits.divideError", "math/bits.overflowError"], apart := false }
def ExtStaysSaid : Prop := extStaysRow.holds Try.pinned (OpenSpec.ofChange extStaysSpec)

/-- ITS FALSE NEIGHBOUR: 'it returns false'. Refute it at one input. -/
def extStaysWrong : ChangeSpec := { name := "extStays", fn := fun _ => fun
  | [d1, d2] => { results := [.lit (.bool false)], args := [d1, d2] }
  | _ => none }
def ExtStaysWrongFalsely : Prop := extStaysRow.holds Try.pinned (OpenSpec.ofChange extStaysWrong)

/-- 'obollaw16.TreeNew': WHATEVER THE INPUT: true; the input reads as it did. -/
def treeNewSpec : ChangeSpec := { name := "treeNew", fn := fun _ => fun
  | [d1, d2] => { results := [.lit (.bool true)], args := [d1, d2] }
  | _ => none }
def treeNewRow : OpenClaim := { program := "ytempibbfdojfiac", sum := "38347ae8d7c606da3c775e7bc449fb9c44291ae069e3f47887a86952723e35bf", func := "obol/obollaw16.TreeNew", spec := "treeNew", named := ["math/bits.divideError", "math/bits.overflowError"], apart := false }
def TreeNewSaid : Prop := treeNewRow.holds Try.pinned (OpenSpec.ofChange treeNewSpec)

/-- ITS FALSE NEIGHBOUR: 'it returns false'. Refute it at one input. -/
def treeNewWrong : ChangeSpec := { name := "treeNew", fn := fun _ => fun
  | [d1, d2] => { results := [.lit (.bool false)], args := [d1, d2] }
  | _ => none }
def TreeNewWrongFalsely : Prop := treeNewRow.holds Try.pinned (OpenSpec.ofChange treeNewWrong)

/-- 'obollaw16.TreeGrows': WHATEVER THE INPUT: true; the input reads as it did. -/
def treeGrowsSpec : ChangeSpec := { name := "treeGrows", fn := fun _ => fun
  | [d1, d2] => { results := [.lit (.bool true)], args := [d1, d2] }
  | _ => none }
def treeGrowsRow : OpenClaim := { program := "ytempibbfdojfiac", sum := "38347ae8d7c606da3c775e7bc449fb9c44291ae069e3f47887a86952723e35bf", func := "obol/obollaw16.TreeGrows", spec := "treeGrows", recurses := true, named := ["math/bits.divideError", "math/bits.overflowError"], apart := false }
def TreeGrowsSaid : Prop := treeGrowsRow.holds Try.pinned (OpenSpec.ofChange treeGrowsSpec)

/-- ITS FALSE NEIGHBOUR: 'it returns false'. Refute it at one input. -/
def treeGrowsWrong : ChangeSpec := { name := "treeGrows", fn := fun _ => fun
  | [d1, d2] => { results := [.lit (.bool false)], args := [d1, d2] }
  | _ => none }
def TreeGrowsWrongFalsely : Prop := treeGrowsRow.holds Try.pinned (OpenSpec.ofChange treeGrowsWrong)

/-- 'obollaw13.PolyBack': WHATEVER THE INPUT: true; the input reads as it did. -/
def polyBackSpec : ChangeSpec := { name := "polyBack", fn := fun _ => fun
  | [d1, d2, d3] => { results := [.lit (.bool true)], args := [d1, d2, d3] }
  | _ => none }
def polyBackRow : OpenClaim := { program := "ytempibbfdojfiac", sum := "38347ae8d7c606da3c775e7bc449fb9c44291ae069e3f47887a86952723e35bf", func := "obol/obollaw13.PolyBack", spec := "polyBack", recurses := true, named := ["math/bits.divideError", "math/bits.overflowError"], apart := false }
def PolyBackSaid : Prop := polyBackRow.holds Try.pinned (OpenSpec.ofChange polyBackSpec)

/-- ITS FALSE NEIGHBOUR: 'it returns false'. Refute it at one input. -/
def polyBackWrong : ChangeSpec := { name := "polyBack", fn := fun _ => fun
  | [d1, d2, d3] => { results := [.lit (.bool false)], args := [d1, d2, d3] }
  | _ => none }
def PolyBackWrongFalsely : Prop := polyBackRow.holds Try.pinned (OpenSpec.ofChange polyBackWrong)

/-- 'obollaw16.TreeClimbs': WHATEVER THE INPUT: true; the input reads as it did. -/
def treeClimbsSpec : ChangeSpec := { name := "treeClimbs", fn := fun _ => fun
  | [d1, d2, d3] => { results := [.lit (.bool true)], args := [d1, d2, d3] }
  | _ => none }
def treeClimbsRow : OpenClaim := { program := "ytempibbfdojfiac", sum := "38347ae8d7c606da3c775e7bc449fb9c44291ae069e3f47887a86952723e35bf", func := "obol/obollaw16.TreeClimbs", spec := "treeClimbs", named := ["math/bits.divideError", "math/bits.overflowError"], apart := false }
def TreeClimbsSaid : Prop := treeClimbsRow.holds Try.pinned (OpenSpec.ofChange treeClimbsSpec)

/-- ITS FALSE NEIGHBOUR: 'it returns false'. Refute it at one input. -/
def treeClimbsWrong : ChangeSpec := { name := "treeClimbs", fn := fun _ => fun
  | [d1, d2, d3] => { results := [.lit (.bool false)], args := [d1, d2, d3] }
  | _ => none }
def TreeClimbsWrongFalsely : Prop := treeClimbsRow.holds Try.pinned (OpenSpec.ofChange treeClimbsWrong)

/-- 'obollaw16.TreeOne': WHATEVER THE INPUT: true; the input reads as it did. -/
def treeOneSpec : ChangeSpec := { name := "treeOne", fn := fun _ => fun
  | [d1, d2, d3, d4, d5] => { results := [.lit (.bool true)], args := [d1, d2, d3, d4, d5] }
  | _ => none }
def treeOneRow : OpenClaim := { program := "ytempibbfdojfiac", sum := "38347ae8d7c606da3c775e7bc449fb9c44291ae069e3f47887a86952723e35bf", func := "obol/obollaw16.TreeOne", spec := "treeOne", named := ["math/bits.divideError", "math/bits.overflowError"], apart := false }
def TreeOneSaid : Prop := treeOneRow.holds Try.pinned (OpenSpec.ofChange treeOneSpec)

/-- ITS FALSE NEIGHBOUR: 'it returns false'. Refute it at one input. -/
def treeOneWrong : ChangeSpec := { name := "treeOne", fn := fun _ => fun
  | [d1, d2, d3, d4, d5] => { results := [.lit (.bool false)], args := [d1, d2, d3, d4, d5] }
  | _ => none }
def TreeOneWrongFalsely : Prop := treeOneRow.holds Try.pinned (OpenSpec.ofChange treeOneWrong)

/-- 'obollaw13.PolyStays': WHATEVER THE INPUT: true; the input reads as it did. -/
def polyStaysSpec : ChangeSpec := { name := "polyStays", fn := fun _ => fun
  | [d1, d2, d3] => { results := [.lit (.bool true)], args := [d1, d2, d3] }
  | _ => none }
def polyStaysRow : OpenClaim := { program := "ytempibbfdojfiac", sum := "38347ae8d7c606da3c775e7bc449fb9c44291ae069e3f47887a86952723e35bf", func := "obol/obollaw13.PolyStays", spec := "polyStays", recurses := true, named := ["math/bits.divideError", "math/bits.overflowError"], apart := false }
def PolyStaysSaid : Prop := polyStaysRow.holds Try.pinned (OpenSpec.ofChange polyStaysSpec)

/-- ITS FALSE NEIGHBOUR: 'it returns false'. Refute it at one input. -/
def polyStaysWrong : ChangeSpec := { name := "polyStays", fn := fun _ => fun
  | [d1, d2, d3] => { results := [.lit (.bool false)], args := [d1, d2, d3] }
  | _ => none }
def PolyStaysWrongFalsely : Prop := polyStaysRow.holds Try.pinned (OpenSpec.ofChange polyStaysWrong)

/-- 'obollaw16.TreeWholes': WHATEVER THE INPUT: true; the input reads as it did. -/
def treeWholesSpec : ChangeSpec := { name := "treeWholes", fn := fun _ => fun
  | [d1, d2] => { results := [.lit (.bool true)], args := [d1, d2] }
  | _ => none }
def treeWholesRow : OpenClaim := { program := "ytempibbfdojfiac", sum := "38347ae8d7c606da3c775e7bc449fb9c44291ae069e3f47887a86952723e35bf", func := "obol/obollaw16.TreeWholes", spec := "treeWholes", unfollowed := true, recurses := true, named := ["math/bits.divideError", "math/bits.overflowError"], apart := false }
def TreeWholesSaid : Prop := treeWholesRow.holds Try.pinned (OpenSpec.ofChange treeWholesSpec)

/-- ITS FALSE NEIGHBOUR: 'it returns false'. Refute it at one input. -/
def treeWholesWrong : ChangeSpec := { name := "treeWholes", fn := fun _ => fun
  | [d1, d2] => { results := [.lit (.bool false)], args := [d1, d2] }
  | _ => none }
def TreeWholesWrongFalsely : Prop := treeWholesRow.holds Try.pinned (OpenSpec.ofChange treeWholesWrong)

/-- 'obollaw16.TreePaths': WHATEVER THE INPUT: true; the input reads as it did. -/
def treePathsSpec : ChangeSpec := { name := "treePaths", fn := fun _ => fun
  | [d1, d2, d3] => { results := [.lit (.bool true)], args := [d1, d2, d3] }
  | _ => none }
def treePathsRow : OpenClaim := { program := "ytempibbfdojfiac", sum := "38347ae8d7c606da3c775e7bc449fb9c44291ae069e3f47887a86952723e35bf", func := "obol/obollaw16.TreePaths", spec := "treePaths", unfollowed := true, recurses := true, named := ["math/bits.divideError", "math/bits.overflowError"], apart := false }
def TreePathsSaid : Prop := treePathsRow.holds Try.pinned (OpenSpec.ofChange treePathsSpec)

/-- ITS FALSE NEIGHBOUR: 'it returns false'. Refute it at one input. -/
def treePathsWrong : ChangeSpec := { name := "treePaths", fn := fun _ => fun
  | [d1, d2, d3] => { results := [.lit (.bool false)], args := [d1, d2, d3] }
  | _ => none }
def TreePathsWrongFalsely : Prop := treePathsRow.holds Try.pinned (OpenSpec.ofChange treePathsWrong)

/- THE SECOND FORM. 'bulk': how many values and letters a reading holds, each counted each time it is reached (what is shared counts as often as it is met; a slice's spare places count too). A statement '..UptoSaid' is the law's where the arguments, and the package variables that the reading takes, are together of bulk at most 1048576: NARROWER than '..Said'. Prove '..Said' where nothing that the law and all that it calls make is longer than what came in: it says more and counts as full. Else prove '..UptoSaid'. A law counts once. -/
mutual
def uptoBulk {H : Type} : DataW H → Nat
  | .lit (.string bytes) => bytes.length + 1
  | .lit _ => 1
  | .nil => 1
  | .ptr d => uptoBulk d + 1
  | .slice elems spare => uptoBulkAll elems + uptoBulkAll spare + 1
  | .agg parts => uptoBulkAll parts + 1
  | .iface _ d => uptoBulk d + 1
  | .map entries => uptoBulkEntries entries + 1
  | .held _ => 1
def uptoBulkAll {H : Type} : List (DataW H) → Nat
  | [] => 0
  | d :: r => uptoBulk d + uptoBulkAll r
def uptoBulkEntries {H : Type} : List (Lit × DataW H) → Nat
  | [] => 0
  | x :: r => uptoBulkEntry x + uptoBulkEntries r
def uptoBulkEntry {H : Type} : Lit × DataW H → Nat
  | (.string bytes, d) => bytes.length + uptoBulk d + 1
  | (_, d) => uptoBulk d + 1
 end
def uptoSmall : (H : Type) → List (DataW H) → Bool := fun _ ds => decide (uptoBulkAll ds ≤ 1048576)
def OpenSpec.upto (s : _root_.Go.ChangeSpec) : _root_.Go.OpenSpec := { _root_.Go.OpenSpec.ofChange s with cond := some uptoSmall }

/-- 'obollaw13.PolyInverse', WHERE WHAT IT READS IS OF BULK AT MOST 1048576: true; the input reads as it did. -/
def polyInverseUptoRow : OpenClaim := { program := "ytempibbfdojfiac", sum := "38347ae8d7c606da3c775e7bc449fb9c44291ae069e3f47887a86952723e35bf", func := "obol/obollaw13.PolyInverse", spec := "polyInverse", recurses := true, named := ["math/bits.divideError", "math/bits.overflowError"], apart := false, narrowed := true }
def PolyInverseUptoSaid : Prop := polyInverseUptoRow.holds Try.pinned (OpenSpec.upto polyInverseSpec)

/-- 'obollaw02.ExtCodes', WHERE WHAT IT READS IS OF BULK AT MOST 1048576: true; the input reads as it did. -/
def extCodesUptoRow : OpenClaim := { program := "ytempibbfdojfiac", sum := "38347ae8d7c606da3c775e7bc449fb9c44291ae069e3f47887a86952723e35bf", func := "obol/obollaw02.ExtCodes", spec := "extCodes", named := ["math/bits.divideError", "math/bits.overflowError"], apart := false, narrowed := true }
def ExtCodesUptoSaid : Prop := extCodesUptoRow.holds Try.pinned (OpenSpec.upto extCodesSpec)

/-- 'obollaw02.ExtStays', WHERE WHAT IT READS IS OF BULK AT MOST 1048576: true; the input reads as it did. -/
def extStaysUptoRow : OpenClaim := { program := "ytempibbfdojfiac", sum := "38347ae8d7c606da3c775e7bc449fb9c44291ae069e3f47887a86952723e35bf", func := "obol/obollaw02.ExtStays", spec := "extStays", named := ["math/bits.divideError", "math/bits.overflowError"], apart := false, narrowed := true }
def ExtStaysUptoSaid : Prop := extStaysUptoRow.holds Try.pinned (OpenSpec.upto extStaysSpec)

/-- 'obollaw16.TreeNew', WHERE WHAT IT READS IS OF BULK AT MOST 1048576: true; the input reads as it did. -/
def treeNewUptoRow : OpenClaim := { program := "ytempibbfdojfiac", sum := "38347ae8d7c606da3c775e7bc449fb9c44291ae069e3f47887a86952723e35bf", func := "obol/obollaw16.TreeNew", spec := "treeNew", named := ["math/bits.divideError", "math/bits.overflowError"], apart := false, narrowed := true }
def TreeNewUptoSaid : Prop := treeNewUptoRow.holds Try.pinned (OpenSpec.upto treeNewSpec)

/-- 'obollaw16.TreeGrows', WHERE WHAT IT READS IS OF BULK AT MOST 1048576: true; the input reads as it did. -/
def treeGrowsUptoRow : OpenClaim := { program := "ytempibbfdojfiac", sum := "38347ae8d7c606da3c775e7bc449fb9c44291ae069e3f47887a86952723e35bf", func := "obol/obollaw16.TreeGrows", spec := "treeGrows", recurses := true, named := ["math/bits.divideError", "math/bits.overflowError"], apart := false, narrowed := true }
def TreeGrowsUptoSaid : Prop := treeGrowsUptoRow.holds Try.pinned (OpenSpec.upto treeGrowsSpec)

/-- 'obollaw13.PolyBack', WHERE WHAT IT READS IS OF BULK AT MOST 1048576: true; the input reads as it did. -/
def polyBackUptoRow : OpenClaim := { program := "ytempibbfdojfiac", sum := "38347ae8d7c606da3c775e7bc449fb9c44291ae069e3f47887a86952723e35bf", func := "obol/obollaw13.PolyBack", spec := "polyBack", recurses := true, named := ["math/bits.divideError", "math/bits.overflowError"], apart := false, narrowed := true }
def PolyBackUptoSaid : Prop := polyBackUptoRow.holds Try.pinned (OpenSpec.upto polyBackSpec)

/-- 'obollaw16.TreeClimbs', WHERE WHAT IT READS IS OF BULK AT MOST 1048576: true; the input reads as it did. -/
def treeClimbsUptoRow : OpenClaim := { program := "ytempibbfdojfiac", sum := "38347ae8d7c606da3c775e7bc449fb9c44291ae069e3f47887a86952723e35bf", func := "obol/obollaw16.TreeClimbs", spec := "treeClimbs", named := ["math/bits.divideError", "math/bits.overflowError"], apart := false, narrowed := true }
def TreeClimbsUptoSaid : Prop := treeClimbsUptoRow.holds Try.pinned (OpenSpec.upto treeClimbsSpec)

/-- 'obollaw16.TreeOne', WHERE WHAT IT READS IS OF BULK AT MOST 1048576: true; the input reads as it did. -/
def treeOneUptoRow : OpenClaim := { program := "ytempibbfdojfiac", sum := "38347ae8d7c606da3c775e7bc449fb9c44291ae069e3f47887a86952723e35bf", func := "obol/obollaw16.TreeOne", spec := "treeOne", named := ["math/bits.divideError", "math/bits.overflowError"], apart := false, narrowed := true }
def TreeOneUptoSaid : Prop := treeOneUptoRow.holds Try.pinned (OpenSpec.upto treeOneSpec)

/-- 'obollaw13.PolyStays', WHERE WHAT IT READS IS OF BULK AT MOST 1048576: true; the input reads as it did. -/
def polyStaysUptoRow : OpenClaim := { program := "ytempibbfdojfiac", sum := "38347ae8d7c606da3c775e7bc449fb9c44291ae069e3f47887a86952723e35bf", func := "obol/obollaw13.PolyStays", spec := "polyStays", recurses := true, named := ["math/bits.divideError", "math/bits.overflowError"], apart := false, narrowed := true }
def PolyStaysUptoSaid : Prop := polyStaysUptoRow.holds Try.pinned (OpenSpec.upto polyStaysSpec)

/-- 'obollaw16.TreeWholes', WHERE WHAT IT READS IS OF BULK AT MOST 1048576: true; the input reads as it did. -/
def treeWholesUptoRow : OpenClaim := { program := "ytempibbfdojfiac", sum := "38347ae8d7c606da3c775e7bc449fb9c44291ae069e3f47887a86952723e35bf", func := "obol/obollaw16.TreeWholes", spec := "treeWholes", unfollowed := true, recurses := true, named := ["math/bits.divideError", "math/bits.overflowError"], apart := false, narrowed := true }
def TreeWholesUptoSaid : Prop := treeWholesUptoRow.holds Try.pinned (OpenSpec.upto treeWholesSpec)

/-- 'obollaw16.TreePaths', WHERE WHAT IT READS IS OF BULK AT MOST 1048576: true; the input reads as it did. -/
def treePathsUptoRow : OpenClaim := { program := "ytempibbfdojfiac", sum := "38347ae8d7c606da3c775e7bc449fb9c44291ae069e3f47887a86952723e35bf", func := "obol/obollaw16.TreePaths", spec := "treePaths", unfollowed := true, recurses := true, named := ["math/bits.divideError", "math/bits.overflowError"], apart := false, narrowed := true }
def TreePathsUptoSaid : Prop := treePathsUptoRow.holds Try.pinned (OpenSpec.upto treePathsSpec)

end Rows
end Go.Proofs.Ytempibbfdojfiac
