/-
  No cell of these rows narrows 'for every input' (looked for: loops, veiled, ifaces, maps, wideKeys, modest, calm, conditions, laid).
  DERIVED. THE GIVEN ROWS OF THIS SEAT. 12 by the template 'for every input the law returns true; each argument reads behind the call as it read before'; 0 by the template 'total and deterministic' (their statements: YtempibbfdojfiaaTotals.lean).
  GIVEN WITH THE SEED: the statements are not yours to turn. If you find one false, say at which input.
  Laid BY PROGRAM, IN A SANDBOX (cutbox-rows.mjs): the forced cells as the released guide's own fill.sh prints them over the translation c5d236c71e36ce87… (all of the seat's roots in one cut). By AI agents, Wed Nov 11 2026. No macro, syntax, notation, axiom, sorry.
-/
import Derived.Test.YtempibbfdojfiaaChecked
import GoSem.Claim
import GoSem.ClaimJoined
import GoSem.ClaimMapViews
import Derived.JoinedTies
import Derived.KernelRfl
namespace Go.Proofs.Ytempibbfdojfiaa
/- THE CELL 'sum', in the pinned program and in every row, IS THE sha256 OF THE DUMP (.gsa) THAT YtempibbfdojfiaaProg.lean LOADS. Nothing in Lean hashes anything: it is a label: what it is worth is what the hold of that sum in a sandbox is worth. -/
noncomputable def Try.pinned : Pinned := { name := "ytempibbfdojfiaa", sum := "c5d236c71e36ce87bb63bae466c87240484d92da9dc5e8e5618678e8ca4bb2a4", checked := Try.checked }
namespace Rows
def none {H : Type} : Left H := { results := [], args := [] }

/-- 'obollaw13.PolyEvals': WHATEVER THE INPUT: true; the input reads as it did. -/
def polyEvalsSpec : ChangeSpec := { name := "polyEvals", fn := fun _ => fun
  | [d1, d2] => { results := [.lit (.bool true)], args := [d1, d2] }
  | _ => none }
def polyEvalsRow : OpenClaim := { program := "ytempibbfdojfiaa", sum := "c5d236c71e36ce87bb63bae466c87240484d92da9dc5e8e5618678e8ca4bb2a4", func := "obol/obollaw13.PolyEvals", spec := "polyEvals", named := ["math/bits.divideError", "math/bits.overflowError"], apart := false }
def PolyEvalsSaid : Prop := polyEvalsRow.holds Try.pinned (OpenSpec.ofChange polyEvalsSpec)

/-- ITS FALSE NEIGHBOUR: 'it returns false'. Refute it at one input. -/
def polyEvalsWrong : ChangeSpec := { name := "polyEvals", fn := fun _ => fun
  | [d1, d2] => { results := [.lit (.bool false)], args := [d1, d2] }
  | _ => none }
def PolyEvalsWrongFalsely : Prop := polyEvalsRow.holds Try.pinned (OpenSpec.ofChange polyEvalsWrong)

/-- 'obollaw13.PolyRoots': WHATEVER THE INPUT: true; the input reads as it did. -/
def polyRootsSpec : ChangeSpec := { name := "polyRoots", fn := fun _ => fun
  | [d] => { results := [.lit (.bool true)], args := [d] }
  | _ => none }
def polyRootsRow : OpenClaim := { program := "ytempibbfdojfiaa", sum := "c5d236c71e36ce87bb63bae466c87240484d92da9dc5e8e5618678e8ca4bb2a4", func := "obol/obollaw13.PolyRoots", spec := "polyRoots", named := ["math/bits.divideError", "math/bits.overflowError"], apart := false }
def PolyRootsSaid : Prop := polyRootsRow.holds Try.pinned (OpenSpec.ofChange polyRootsSpec)

/-- ITS FALSE NEIGHBOUR: 'it returns false'. Refute it at one input. -/
def polyRootsWrong : ChangeSpec := { name := "polyRoots", fn := fun _ => fun
  | [d] => { results := [.lit (.bool false)], args := [d] }
  | _ => none }
def PolyRootsWrongFalsely : Prop := polyRootsRow.holds Try.pinned (OpenSpec.ofChange polyRootsWrong)

/-- 'obollaw02.ExtMuls': WHATEVER THE INPUT: true; the input reads as it did. -/
def extMulsSpec : ChangeSpec := { name := "extMuls", fn := fun _ => fun
  | [d1, d2] => { results := [.lit (.bool true)], args := [d1, d2] }
  | _ => none }
def extMulsRow : OpenClaim := { program := "ytempibbfdojfiaa", sum := "c5d236c71e36ce87bb63bae466c87240484d92da9dc5e8e5618678e8ca4bb2a4", func := "obol/obollaw02.ExtMuls", spec := "extMuls", named := ["math/bits.divideError", "math/bits.overflowError"], apart := false }
def ExtMulsSaid : Prop := extMulsRow.holds Try.pinned (OpenSpec.ofChange extMulsSpec)

/-- ITS FALSE NEIGHBOUR: 'it returns false'. Refute it at one input. -/
def extMulsWrong : ChangeSpec := { name := "extMuls", fn := fun _ => fun
  | [d1, d2] => { results := [.lit (.bool false)], args := [d1, d2] }
  | _ => none }
def ExtMulsWrongFalsely : Prop := extMulsRow.holds Try.pinned (OpenSpec.ofChange extMulsWrong)

/-- 'obollaw02.ExtInverts': WHATEVER THE INPUT: true; the input reads as it did. -/
def extInvertsSpec : ChangeSpec := { name := "extInverts", fn := fun _ => fun
  | [d] => { results := [.lit (.bool true)], args := [d] }
  | _ => none }
def extInvertsRow : OpenClaim := { program := "ytempibbfdojfiaa", sum := "c5d236c71e36ce87bb63bae466c87240484d92da9dc5e8e5618678e8ca4bb2a4", func := "obol/obollaw02.ExtInverts", spec := "extInverts", named := ["math/bits.divideError", "math/bits.overflowError"], apart := false }
def ExtInvertsSaid : Prop := extInvertsRow.holds Try.pinned (OpenSpec.ofChange extInvertsSpec)

/-- ITS FALSE NEIGHBOUR: 'it returns false'. Refute it at one input. -/
def extInvertsWrong : ChangeSpec := { name := "extInverts", fn := fun _ => fun
  | [d] => { results := [.lit (.bool false)], args := [d] }
  | _ => none }
def ExtInvertsWrongFalsely : Prop := extInvertsRow.holds Try.pinned (OpenSpec.ofChange extInvertsWrong)

/-- 'obollaw02.ExtPows': WHATEVER THE INPUT: true; the input reads as it did. -/
def extPowsSpec : ChangeSpec := { name := "extPows", fn := fun _ => fun
  | [d1, d2] => { results := [.lit (.bool true)], args := [d1, d2] }
  | _ => none }
def extPowsRow : OpenClaim := { program := "ytempibbfdojfiaa", sum := "c5d236c71e36ce87bb63bae466c87240484d92da9dc5e8e5618678e8ca4bb2a4", func := "obol/obollaw02.ExtPows", spec := "extPows", named := ["math/bits.divideError", "math/bits.overflowError"], apart := false }
def ExtPowsSaid : Prop := extPowsRow.holds Try.pinned (OpenSpec.ofChange extPowsSpec)

/-- ITS FALSE NEIGHBOUR: 'it returns false'. Refute it at one input. -/
def extPowsWrong : ChangeSpec := { name := "extPows", fn := fun _ => fun
  | [d1, d2] => { results := [.lit (.bool false)], args := [d1, d2] }
  | _ => none }
def ExtPowsWrongFalsely : Prop := extPowsRow.holds Try.pinned (OpenSpec.ofChange extPowsWrong)

/-- 'obollaw10.CubeTurns': WHATEVER THE INPUT: true; the input reads as it did. -/
def cubeTurnsSpec : ChangeSpec := { name := "cubeTurns", fn := fun _ => fun
  | [d1, d2] => { results := [.lit (.bool true)], args := [d1, d2] }
  | _ => none }
def cubeTurnsRow : OpenClaim := { program := "ytempibbfdojfiaa", sum := "c5d236c71e36ce87bb63bae466c87240484d92da9dc5e8e5618678e8ca4bb2a4", func := "obol/obollaw10.CubeTurns", spec := "cubeTurns", named := ["math/bits.divideError", "math/bits.overflowError"], apart := false }
def CubeTurnsSaid : Prop := cubeTurnsRow.holds Try.pinned (OpenSpec.ofChange cubeTurnsSpec)

/-- ITS FALSE NEIGHBOUR: 'it returns false'. Refute it at one input. -/
def cubeTurnsWrong : ChangeSpec := { name := "cubeTurns", fn := fun _ => fun
  | [d1, d2] => { results := [.lit (.bool false)], args := [d1, d2] }
  | _ => none }
def CubeTurnsWrongFalsely : Prop := cubeTurnsRow.holds Try.pinned (OpenSpec.ofChange cubeTurnsWrong)

/-- 'obollaw10.CubeBacks': WHATEVER THE INPUT: true; the input reads as it did. -/
def cubeBacksSpec : ChangeSpec := { name := "cubeBacks", fn := fun _ => fun
  | [d1, d2] => { results := [.lit (.bool true)], args := [d1, d2] }
  | _ => none }
def cubeBacksRow : OpenClaim := { program := "ytempibbfdojfiaa", sum := "c5d236c71e36ce87bb63bae466c87240484d92da9dc5e8e5618678e8ca4bb2a4", func := "obol/obollaw10.CubeBacks", spec := "cubeBacks", named := ["math/bits.divideError", "math/bits.overflowError"], apart := false }
def CubeBacksSaid : Prop := cubeBacksRow.holds Try.pinned (OpenSpec.ofChange cubeBacksSpec)

/-- ITS FALSE NEIGHBOUR: 'it returns false'. Refute it at one input. -/
def cubeBacksWrong : ChangeSpec := { name := "cubeBacks", fn := fun _ => fun
  | [d1, d2] => { results := [.lit (.bool false)], args := [d1, d2] }
  | _ => none }
def CubeBacksWrongFalsely : Prop := cubeBacksRow.holds Try.pinned (OpenSpec.ofChange cubeBacksWrong)

/-- 'obollaw10.CubeHashes': WHATEVER THE INPUT: true; the input reads as it did. -/
def cubeHashesSpec : ChangeSpec := { name := "cubeHashes", fn := fun _ => fun
  | [d1, d2, d3] => { results := [.lit (.bool true)], args := [d1, d2, d3] }
  | _ => none }
def cubeHashesRow : OpenClaim := { program := "ytempibbfdojfiaa", sum := "c5d236c71e36ce87bb63bae466c87240484d92da9dc5e8e5618678e8ca4bb2a4", func := "obol/obollaw10.CubeHashes", spec := "cubeHashes", named := ["math/bits.divideError", "math/bits.overflowError"], apart := false }
def CubeHashesSaid : Prop := cubeHashesRow.holds Try.pinned (OpenSpec.ofChange cubeHashesSpec)

/-- ITS FALSE NEIGHBOUR: 'it returns false'. Refute it at one input. -/
def cubeHashesWrong : ChangeSpec := { name := "cubeHashes", fn := fun _ => fun
  | [d1, d2, d3] => { results := [.lit (.bool false)], args := [d1, d2, d3] }
  | _ => none }
def CubeHashesWrongFalsely : Prop := cubeHashesRow.holds Try.pinned (OpenSpec.ofChange cubeHashesWrong)

/-- 'obollaw10.CubeOne': WHATEVER THE INPUT: true; the input reads as it did. -/
def cubeOneSpec : ChangeSpec := { name := "cubeOne", fn := fun _ => fun
  | [d1, d2, d3] => { results := [.lit (.bool true)], args := [d1, d2, d3] }
  | _ => none }
def cubeOneRow : OpenClaim := { program := "ytempibbfdojfiaa", sum := "c5d236c71e36ce87bb63bae466c87240484d92da9dc5e8e5618678e8ca4bb2a4", func := "obol/obollaw10.CubeOne", spec := "cubeOne", named := ["math/bits.divideError", "math/bits.overflowError"], apart := false }
def CubeOneSaid : Prop := cubeOneRow.holds Try.pinned (OpenSpec.ofChange cubeOneSpec)

/-- ITS FALSE NEIGHBOUR: 'it returns false'. Refute it at one input. -/
def cubeOneWrong : ChangeSpec := { name := "cubeOne", fn := fun _ => fun
  | [d1, d2, d3] => { results := [.lit (.bool false)], args := [d1, d2, d3] }
  | _ => none }
def CubeOneWrongFalsely : Prop := cubeOneRow.holds Try.pinned (OpenSpec.ofChange cubeOneWrong)

/-- 'obollaw16.TreeStays': WHATEVER THE INPUT: true; the input reads as it did. -/
def treeStaysSpec : ChangeSpec := { name := "treeStays", fn := fun _ => fun
  | [d1, d2, d3] => { results := [.lit (.bool true)], args := [d1, d2, d3] }
  | _ => none }
def treeStaysRow : OpenClaim := { program := "ytempibbfdojfiaa", sum := "c5d236c71e36ce87bb63bae466c87240484d92da9dc5e8e5618678e8ca4bb2a4", func := "obol/obollaw16.TreeStays", spec := "treeStays", unfollowed := true, recurses := true, named := ["math/bits.divideError", "math/bits.overflowError"], apart := false }
def TreeStaysSaid : Prop := treeStaysRow.holds Try.pinned (OpenSpec.ofChange treeStaysSpec)

/-- ITS FALSE NEIGHBOUR: 'it returns false'. Refute it at one input. -/
def treeStaysWrong : ChangeSpec := { name := "treeStays", fn := fun _ => fun
  | [d1, d2, d3] => { results := [.lit (.bool false)], args := [d1, d2, d3] }
  | _ => none }
def TreeStaysWrongFalsely : Prop := treeStaysRow.holds Try.pinned (OpenSpec.ofChange treeStaysWrong)

/-- 'obollaw13.PolyMuls': WHATEVER THE INPUT: true; the input reads as it did. -/
def polyMulsSpec : ChangeSpec := { name := "polyMuls", fn := fun _ => fun
  | [d1, d2] => { results := [.lit (.bool true)], args := [d1, d2] }
  | _ => none }
def polyMulsRow : OpenClaim := { program := "ytempibbfdojfiaa", sum := "c5d236c71e36ce87bb63bae466c87240484d92da9dc5e8e5618678e8ca4bb2a4", func := "obol/obollaw13.PolyMuls", spec := "polyMuls", named := ["math/bits.divideError", "math/bits.overflowError"], apart := false }
def PolyMulsSaid : Prop := polyMulsRow.holds Try.pinned (OpenSpec.ofChange polyMulsSpec)

/-- ITS FALSE NEIGHBOUR: 'it returns false'. Refute it at one input. -/
def polyMulsWrong : ChangeSpec := { name := "polyMuls", fn := fun _ => fun
  | [d1, d2] => { results := [.lit (.bool false)], args := [d1, d2] }
  | _ => none }
def PolyMulsWrongFalsely : Prop := polyMulsRow.holds Try.pinned (OpenSpec.ofChange polyMulsWrong)

/-- 'obollaw02.ExtField': WHATEVER THE INPUT: true; the input reads as it did. -/
def extFieldSpec : ChangeSpec := { name := "extField", fn := fun _ => fun
  | [d1, d2, d3] => { results := [.lit (.bool true)], args := [d1, d2, d3] }
  | _ => none }
def extFieldRow : OpenClaim := { program := "ytempibbfdojfiaa", sum := "c5d236c71e36ce87bb63bae466c87240484d92da9dc5e8e5618678e8ca4bb2a4", func := "obol/obollaw02.ExtField", spec := "extField", named := ["math/bits.divideError", "math/bits.overflowError"], apart := false }
def ExtFieldSaid : Prop := extFieldRow.holds Try.pinned (OpenSpec.ofChange extFieldSpec)

/-- ITS FALSE NEIGHBOUR: 'it returns false'. Refute it at one input. -/
def extFieldWrong : ChangeSpec := { name := "extField", fn := fun _ => fun
  | [d1, d2, d3] => { results := [.lit (.bool false)], args := [d1, d2, d3] }
  | _ => none }
def ExtFieldWrongFalsely : Prop := extFieldRow.holds Try.pinned (OpenSpec.ofChange extFieldWrong)

/- THE SECOND FORM. 'bulk': how many values and letters a reading holds, each counted each time it is reached (what is shared counts as often as it is met; a slice's spare places count too). A statement '..UptoSaid' is the law's where the arguments, and the package variables that the reading takes, are together of bulk at most 1048576: NARROWER than '..Said'. Prove '..Said' where nothing that the law and all that it calls make is longer than what came in: it says more and counts as full. Else prove '..UptoSaid'. A law counts once. -/
mutual
def uptoBulk {H : Type} : DataW H → Nat
  | .lit (.string bytes) => bytes.length + 1
  | .lit _ => 1
  | .nil => 1
  | .ptr d => uptoBulk d + 1
  | .slice elems spare => uptoBulkAll elems + uptoBulkAll spare + 1
  | .agg parts => uptoBulkAll parts + 1
  | .iface _ d => uptoBulk d + 1
  | .map entries => uptoBulkEntries entries + 1
  | .held _ => 1
def uptoBulkAll {H : Type} : List (DataW H) → Nat
  | [] => 0
  | d :: r => uptoBulk d + uptoBulkAll r
def uptoBulkEntries {H : Type} : List (Lit × DataW H) → Nat
  | [] => 0
  | x :: r => uptoBulkEntry x + uptoBulkEntries r
def uptoBulkEntry {H : Type} : Lit × DataW H → Nat
  | (.string bytes, d) => bytes.length + uptoBulk d + 1
  | (_, d) => uptoBulk d + 1
 end
def uptoSmall : (H : Type) → List (DataW H) → Bool := fun _ ds => decide (uptoBulkAll ds ≤ 1048576)
def OpenSpec.upto (s : _root_.Go.ChangeSpec) : _root_.Go.OpenSpec := { _root_.Go.OpenSpec.ofChange s with cond := some uptoSmall }

/-- 'obollaw13.PolyEvals', WHERE WHAT IT READS IS OF BULK AT MOST 1048576: true; the input reads as it did. -/
def polyEvalsUptoRow : OpenClaim := { program := "ytempibbfdojfiaa", sum := "c5d236c71e36ce87bb63bae466c87240484d92da9dc5e8e5618678e8ca4bb2a4", func := "obol/obollaw13.PolyEvals", spec := "polyEvals", named := ["math/bits.divideError", "math/bits.overflowError"], apart := false, narrowed := true }
def PolyEvalsUptoSaid : Prop := polyEvalsUptoRow.holds Try.pinned (OpenSpec.upto polyEvalsSpec)

/-- 'obollaw13.PolyRoots', WHERE WHAT IT READS IS OF BULK AT MOST 1048576: true; the input reads as it did. -/
def polyRootsUptoRow : OpenClaim := { program := "ytempibbfdojfiaa", sum := "c5d236c71e36ce87bb63bae466c87240484d92da9dc5e8e5618678e8ca4bb2a4", func := "obol/obollaw13.PolyRoots", spec := "polyRoots", named := ["math/bits.divideError", "math/bits.overflowError"], apart := false, narrowed := true }
def PolyRootsUptoSaid : Prop := polyRootsUptoRow.holds Try.pinned (OpenSpec.upto polyRootsSpec)

/-- 'obollaw02.ExtMuls', WHERE WHAT IT READS IS OF BULK AT MOST 1048576: true; the input reads as it did. -/
def extMulsUptoRow : OpenClaim := { program := "ytempibbfdojfiaa", sum := "c5d236c71e36ce87bb63bae466c87240484d92da9dc5e8e5618678e8ca4bb2a4", func := "obol/obollaw02.ExtMuls", spec := "extMuls", named := ["math/bits.divideError", "math/bits.overflowError"], apart := false, narrowed := true }
def ExtMulsUptoSaid : Prop := extMulsUptoRow.holds Try.pinned (OpenSpec.upto extMulsSpec)

/-- 'obollaw02.ExtInverts', WHERE WHAT IT READS IS OF BULK AT MOST 1048576: true; the input reads as it did. -/
def extInvertsUptoRow : OpenClaim := { program := "ytempibbfdojfiaa", sum := "c5d236c71e36ce87bb63bae466c87240484d92da9dc5e8e5618678e8ca4bb2a4", func := "obol/obollaw02.ExtInverts", spec := "extInverts", named := ["math/bits.divideError", "math/bits.overflowError"], apart := false, narrowed := true }
def ExtInvertsUptoSaid : Prop := extInvertsUptoRow.holds Try.pinned (OpenSpec.upto extInvertsSpec)

/-- 'obollaw02.ExtPows', WHERE WHAT IT READS IS OF BULK AT MOST 1048576: true; the input reads as it did. -/
def extPowsUptoRow : OpenClaim := { program := "ytempibbfdojfiaa", sum := "c5d236c71e36ce87bb63bae466c87240484d92da9dc5e8e5618678e8ca4bb2a4", func := "obol/obollaw02.ExtPows", spec := "extPows", named := ["math/bits.divideError", "math/bits.overflowError"], apart := false, narrowed := true }
def ExtPowsUptoSaid : Prop := extPowsUptoRow.holds Try.pinned (OpenSpec.upto extPowsSpec)

/-- 'obollaw10.CubeTurns', WHERE WHAT IT READS IS OF BULK AT MOST 1048576: true; the input reads as it did. -/
def cubeTurnsUptoRow : OpenClaim := { program := "ytempibbfdojfiaa", sum := "c5d236c71e36ce87bb63bae466c87240484d92da9dc5e8e5618678e8ca4bb2a4", func := "obol/obollaw10.CubeTurns", spec := "cubeTurns", named := ["math/bits.divideError", "math/bits.overflowError"], apart := false, narrowed := true }
def CubeTurnsUptoSaid : Prop := cubeTurnsUptoRow.holds Try.pinned (OpenSpec.upto cubeTurnsSpec)

/-- 'obollaw10.CubeBacks', WHERE WHAT IT READS IS OF BULK AT MOST 1048576: true; the input reads as it did. -/
def cubeBacksUptoRow : OpenClaim := { program := "ytempibbfdojfiaa", sum := "c5d236c71e36ce87bb63bae466c87240484d92da9dc5e8e5618678e8ca4bb2a4", func := "obol/obollaw10.CubeBacks", spec := "cubeBacks", named := ["math/bits.divideError", "math/bits.overflowError"], apart := false, narrowed := true }
def CubeBacksUptoSaid : Prop := cubeBacksUptoRow.holds Try.pinned (OpenSpec.upto cubeBacksSpec)

/-- 'obollaw10.CubeHashes', WHERE WHAT IT READS IS OF BULK AT MOST 1048576: true; the input reads as it did. -/
def cubeHashesUptoRow : OpenClaim := { program := "ytempibbfdojfiaa", sum := "c5d236c71e36ce87bb63bae466c87240484d92da9dc5e8e5618678e8ca4bb2a4", func := "obol/obollaw10.CubeHashes", spec := "cubeHashes", named := ["math/bits.divideError", "math/bits.overflowError"], apart := false, narrowed := true }
def CubeHashesUptoSaid : Prop := cubeHashesUptoRow.holds Try.pinned (OpenSpec.upto cubeHashesSpec)

/-- 'obollaw10.CubeOne', WHERE WHAT IT READS IS OF BULK AT MOST 1048576: true; the input reads as it did. -/
def cubeOneUptoRow : OpenClaim := { program := "ytempibbfdojfiaa", sum := "c5d236c71e36ce87bb63bae466c87240484d92da9dc5e8e5618678e8ca4bb2a4", func := "obol/obollaw10.CubeOne", spec := "cubeOne", named := ["math/bits.divideError", "math/bits.overflowError"], apart := false, narrowed := true }
def CubeOneUptoSaid : Prop := cubeOneUptoRow.holds Try.pinned (OpenSpec.upto cubeOneSpec)

/-- 'obollaw16.TreeStays', WHERE WHAT IT READS IS OF BULK AT MOST 1048576: true; the input reads as it did. -/
def treeStaysUptoRow : OpenClaim := { program := "ytempibbfdojfiaa", sum := "c5d236c71e36ce87bb63bae466c87240484d92da9dc5e8e5618678e8ca4bb2a4", func := "obol/obollaw16.TreeStays", spec := "treeStays", unfollowed := true, recurses := true, named := ["math/bits.divideError", "math/bits.overflowError"], apart := false, narrowed := true }
def TreeStaysUptoSaid : Prop := treeStaysUptoRow.holds Try.pinned (OpenSpec.upto treeStaysSpec)

/-- 'obollaw13.PolyMuls', WHERE WHAT IT READS IS OF BULK AT MOST 1048576: true; the input reads as it did. -/
def polyMulsUptoRow : OpenClaim := { program := "ytempibbfdojfiaa", sum := "c5d236c71e36ce87bb63bae466c87240484d92da9dc5e8e5618678e8ca4bb2a4", func := "obol/obollaw13.PolyMuls", spec := "polyMuls", named := ["math/bits.divideError", "math/bits.overflowError"], apart := false, narrowed := true }
def PolyMulsUptoSaid : Prop := polyMulsUptoRow.holds Try.pinned (OpenSpec.upto polyMulsSpec)

/-- 'obollaw02.ExtField', WHERE WHAT IT READS IS OF BULK AT MOST 1048576: true; the input reads as it did. -/
def extFieldUptoRow : OpenClaim := { program := "ytempibbfdojfiaa", sum := "c5d236c71e36ce87bb63bae466c87240484d92da9dc5e8e5618678e8ca4bb2a4", func := "obol/obollaw02.ExtField", spec := "extField", named := ["math/bits.divideError", "math/bits.overflowError"], apart := false, narrowed := true }
def ExtFieldUptoSaid : Prop := extFieldUptoRow.holds Try.pinned (OpenSpec.upto extFieldSpec)

end Rows
end Go.Proofs.Ytempibbfdojfiaa
