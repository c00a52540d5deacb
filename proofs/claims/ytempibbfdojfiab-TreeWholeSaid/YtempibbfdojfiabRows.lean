/-
  No cell of these rows narrows 'for every input' (looked for: loops, veiled, ifaces, maps, wideKeys, modest, calm, conditions, laid).
  DERIVED. THE GIVEN ROWS OF THIS SEAT. 12 by the template 'for every input the law returns true; each argument reads behind the call as it read before'; 0 by the template 'total and deterministic' (their statements: YtempibbfdojfiabTotals.lean).
  GIVEN WITH THE SEED: the statements are not yours to turn. If you find one false, say at which input.
  Laid BY PROGRAM, IN A SANDBOX (cutbox-rows.mjs): the forced cells as the released guide's own fill.sh prints them over the translation 2eb2e1e4120851ca… (all of the seat's roots in one cut). By AI agents, Wed Nov 11 2026. No macro, syntax, notation, axiom, sorry.
-/
import Derived.Test.YtempibbfdojfiabChecked
import GoSem.Claim
import GoSem.ClaimJoined
import GoSem.ClaimMapViews
import Derived.JoinedTies
import Derived.KernelRfl
namespace Go.Proofs.Ytempibbfdojfiab
/- THE CELL 'sum', in the pinned program and in every row, IS THE sha256 OF THE DUMP (.gsa) THAT YtempibbfdojfiabProg.lean LOADS. Nothing in Lean hashes anything: it is a label: what it is worth is what the hold of that sum in a sandbox is worth. -/
noncomputable def Try.pinned : Pinned := { name := "ytempibbfdojfiab", sum := "2eb2e1e4120851ca2b619ca3772f000dd92ff3e656bc02de5e8b65a38b80b5fe", checked := Try.checked }
namespace Rows
def none {H : Type} : Left H := { results := [], args := [] }

/-- 'obollaw02.ExtAdds': WHATEVER THE INPUT: true; the input reads as it did. -/
def extAddsSpec : ChangeSpec := { name := "extAdds", fn := fun _ => fun
  | [d1, d2] => { results := [.lit (.bool true)], args := [d1, d2] }
  | _ => none }
def extAddsRow : OpenClaim := { program := "ytempibbfdojfiab", sum := "2eb2e1e4120851ca2b619ca3772f000dd92ff3e656bc02de5e8b65a38b80b5fe", func := "obol/obollaw02.ExtAdds", spec := "extAdds", named := ["math/bits.divideError", "math/bits.overflowError"], apart := false }
def ExtAddsSaid : Prop := extAddsRow.holds Try.pinned (OpenSpec.ofChange extAddsSpec)

/-- ITS FALSE NEIGHBOUR: 'it returns false'. Refute it at one input. -/
def extAddsWrong : ChangeSpec := { name := "extAdds", fn := fun _ => fun
  | [d1, d2] => { results := [.lit (.bool false)], args := [d1, d2] }
  | _ => none }
def ExtAddsWrongFalsely : Prop := extAddsRow.holds Try.pinned (OpenSpec.ofChange extAddsWrong)

/-- 'obollaw16.TreeWhole': WHATEVER THE INPUT: true; the input reads as it did. -/
def treeWholeSpec : ChangeSpec := { name := "treeWhole", fn := fun _ => fun
  | [d1, d2, d3] => { results := [.lit (.bool true)], args := [d1, d2, d3] }
  | _ => none }
def treeWholeRow : OpenClaim := { program := "ytempibbfdojfiab", sum := "2eb2e1e4120851ca2b619ca3772f000dd92ff3e656bc02de5e8b65a38b80b5fe", func := "obol/obollaw16.TreeWhole", spec := "treeWhole", unfollowed := true, recurses := true, named := ["math/bits.divideError", "math/bits.overflowError"], apart := false }
def TreeWholeSaid : Prop := treeWholeRow.holds Try.pinned (OpenSpec.ofChange treeWholeSpec)

/-- ITS FALSE NEIGHBOUR: 'it returns false'. Refute it at one input. -/
def treeWholeWrong : ChangeSpec := { name := "treeWhole", fn := fun _ => fun
  | [d1, d2, d3] => { results := [.lit (.bool false)], args := [d1, d2, d3] }
  | _ => none }
def TreeWholeWrongFalsely : Prop := treeWholeRow.holds Try.pinned (OpenSpec.ofChange treeWholeWrong)

/-- 'obollaw13.PolyVanishes': WHATEVER THE INPUT: true; the input reads as it did. -/
def polyVanishesSpec : ChangeSpec := { name := "polyVanishes", fn := fun _ => fun
  | [d1, d2] => { results := [.lit (.bool true)], args := [d1, d2] }
  | _ => none }
def polyVanishesRow : OpenClaim := { program := "ytempibbfdojfiab", sum := "2eb2e1e4120851ca2b619ca3772f000dd92ff3e656bc02de5e8b65a38b80b5fe", func := "obol/obollaw13.PolyVanishes", spec := "polyVanishes", named := ["math/bits.divideError", "math/bits.overflowError"], apart := false }
def PolyVanishesSaid : Prop := polyVanishesRow.holds Try.pinned (OpenSpec.ofChange polyVanishesSpec)

/-- ITS FALSE NEIGHBOUR: 'it returns false'. Refute it at one input. -/
def polyVanishesWrong : ChangeSpec := { name := "polyVanishes", fn := fun _ => fun
  | [d1, d2] => { results := [.lit (.bool false)], args := [d1, d2] }
  | _ => none }
def PolyVanishesWrongFalsely : Prop := polyVanishesRow.holds Try.pinned (OpenSpec.ofChange polyVanishesWrong)

/-- 'obollaw10.CubeStays': WHATEVER THE INPUT: true; the input reads as it did. -/
def cubeStaysSpec : ChangeSpec := { name := "cubeStays", fn := fun _ => fun
  | [d] => { results := [.lit (.bool true)], args := [d] }
  | _ => none }
def cubeStaysRow : OpenClaim := { program := "ytempibbfdojfiab", sum := "2eb2e1e4120851ca2b619ca3772f000dd92ff3e656bc02de5e8b65a38b80b5fe", func := "obol/obollaw10.CubeStays", spec := "cubeStays", named := ["math/bits.divideError", "math/bits.overflowError"], apart := false }
def CubeStaysSaid : Prop := cubeStaysRow.holds Try.pinned (OpenSpec.ofChange cubeStaysSpec)

/-- ITS FALSE NEIGHBOUR: 'it returns false'. Refute it at one input. -/
def cubeStaysWrong : ChangeSpec := { name := "cubeStays", fn := fun _ => fun
  | [d] => { results := [.lit (.bool false)], args := [d] }
  | _ => none }
def CubeStaysWrongFalsely : Prop := cubeStaysRow.holds Try.pinned (OpenSpec.ofChange cubeStaysWrong)

/-- 'obollaw13.PolyBases': WHATEVER THE INPUT: true; the input reads as it did. -/
def polyBasesSpec : ChangeSpec := { name := "polyBases", fn := fun _ => fun
  | [d1, d2] => { results := [.lit (.bool true)], args := [d1, d2] }
  | _ => none }
def polyBasesRow : OpenClaim := { program := "ytempibbfdojfiab", sum := "2eb2e1e4120851ca2b619ca3772f000dd92ff3e656bc02de5e8b65a38b80b5fe", func := "obol/obollaw13.PolyBases", spec := "polyBases", named := ["math/bits.divideError", "math/bits.overflowError"], apart := false }
def PolyBasesSaid : Prop := polyBasesRow.holds Try.pinned (OpenSpec.ofChange polyBasesSpec)

/-- ITS FALSE NEIGHBOUR: 'it returns false'. Refute it at one input. -/
def polyBasesWrong : ChangeSpec := { name := "polyBases", fn := fun _ => fun
  | [d1, d2] => { results := [.lit (.bool false)], args := [d1, d2] }
  | _ => none }
def PolyBasesWrongFalsely : Prop := polyBasesRow.holds Try.pinned (OpenSpec.ofChange polyBasesWrong)

/-- 'obollaw01.ModularMuls': WHATEVER THE INPUT: true; the input reads as it did. -/
def modularMulsSpec : ChangeSpec := { name := "modularMuls", fn := fun _ => fun
  | [d1, d2, d3] => { results := [.lit (.bool true)], args := [d1, d2, d3] }
  | _ => none }
def modularMulsRow : OpenClaim := { program := "ytempibbfdojfiab", sum := "2eb2e1e4120851ca2b619ca3772f000dd92ff3e656bc02de5e8b65a38b80b5fe", func := "obol/obollaw01.ModularMuls", spec := "modularMuls", named := ["math/bits.divideError", "math/bits.overflowError"], apart := false }
def ModularMulsSaid : Prop := modularMulsRow.holds Try.pinned (OpenSpec.ofChange modularMulsSpec)

/-- ITS FALSE NEIGHBOUR: 'it returns false'. Refute it at one input. -/
def modularMulsWrong : ChangeSpec := { name := "modularMuls", fn := fun _ => fun
  | [d1, d2, d3] => { results := [.lit (.bool false)], args := [d1, d2, d3] }
  | _ => none }
def ModularMulsWrongFalsely : Prop := modularMulsRow.holds Try.pinned (OpenSpec.ofChange modularMulsWrong)

/-- 'obollaw01.ModularPows': WHATEVER THE INPUT: true; the input reads as it did. -/
def modularPowsSpec : ChangeSpec := { name := "modularPows", fn := fun _ => fun
  | [d1, d2, d3] => { results := [.lit (.bool true)], args := [d1, d2, d3] }
  | _ => none }
def modularPowsRow : OpenClaim := { program := "ytempibbfdojfiab", sum := "2eb2e1e4120851ca2b619ca3772f000dd92ff3e656bc02de5e8b65a38b80b5fe", func := "obol/obollaw01.ModularPows", spec := "modularPows", named := ["math/bits.divideError", "math/bits.overflowError"], apart := false }
def ModularPowsSaid : Prop := modularPowsRow.holds Try.pinned (OpenSpec.ofChange modularPowsSpec)

/-- ITS FALSE NEIGHBOUR: 'it returns false'. Refute it at one input. -/
def modularPowsWrong : ChangeSpec := { name := "modularPows", fn := fun _ => fun
  | [d1, d2, d3] => { results := [.lit (.bool false)], args := [d1, d2, d3] }
  | _ => none }
def ModularPowsWrongFalsely : Prop := modularPowsRow.holds Try.pinned (OpenSpec.ofChange modularPowsWrong)

/-- 'obollaw01.ModularInverts': WHATEVER THE INPUT: true; the input reads as it did. -/
def modularInvertsSpec : ChangeSpec := { name := "modularInverts", fn := fun _ => fun
  | [d1, d2] => { results := [.lit (.bool true)], args := [d1, d2] }
  | _ => none }
def modularInvertsRow : OpenClaim := { program := "ytempibbfdojfiab", sum := "2eb2e1e4120851ca2b619ca3772f000dd92ff3e656bc02de5e8b65a38b80b5fe", func := "obol/obollaw01.ModularInverts", spec := "modularInverts", named := ["math/bits.divideError", "math/bits.overflowError"], apart := false }
def ModularInvertsSaid : Prop := modularInvertsRow.holds Try.pinned (OpenSpec.ofChange modularInvertsSpec)

/-- ITS FALSE NEIGHBOUR: 'it returns false'. Refute it at one input. -/
def modularInvertsWrong : ChangeSpec := { name := "modularInverts", fn := fun _ => fun
  | [d1, d2] => { results := [.lit (.bool false)], args := [d1, d2] }
  | _ => none }
def ModularInvertsWrongFalsely : Prop := modularInvertsRow.holds Try.pinned (OpenSpec.ofChange modularInvertsWrong)

/-- 'obollaw01.ModularRoots': WHATEVER THE INPUT: true; the input reads as it did. -/
def modularRootsSpec : ChangeSpec := { name := "modularRoots", fn := fun _ => fun
  | [d] => { results := [.lit (.bool true)], args := [d] }
  | _ => none }
def modularRootsRow : OpenClaim := { program := "ytempibbfdojfiab", sum := "2eb2e1e4120851ca2b619ca3772f000dd92ff3e656bc02de5e8b65a38b80b5fe", func := "obol/obollaw01.ModularRoots", spec := "modularRoots", named := ["math/bits.divideError", "math/bits.overflowError"], apart := false }
def ModularRootsSaid : Prop := modularRootsRow.holds Try.pinned (OpenSpec.ofChange modularRootsSpec)

/-- ITS FALSE NEIGHBOUR: 'it returns false'. Refute it at one input. -/
def modularRootsWrong : ChangeSpec := { name := "modularRoots", fn := fun _ => fun
  | [d] => { results := [.lit (.bool false)], args := [d] }
  | _ => none }
def ModularRootsWrongFalsely : Prop := modularRootsRow.holds Try.pinned (OpenSpec.ofChange modularRootsWrong)

/-- 'obollaw01.ModularAdds': WHATEVER THE INPUT: true; the input reads as it did. -/
def modularAddsSpec : ChangeSpec := { name := "modularAdds", fn := fun _ => fun
  | [d1, d2, d3] => { results := [.lit (.bool true)], args := [d1, d2, d3] }
  | _ => none }
def modularAddsRow : OpenClaim := { program := "ytempibbfdojfiab", sum := "2eb2e1e4120851ca2b619ca3772f000dd92ff3e656bc02de5e8b65a38b80b5fe", func := "obol/obollaw01.ModularAdds", spec := "modularAdds", named := ["math/bits.divideError", "math/bits.overflowError"], apart := false }
def ModularAddsSaid : Prop := modularAddsRow.holds Try.pinned (OpenSpec.ofChange modularAddsSpec)

/-- ITS FALSE NEIGHBOUR: 'it returns false'. Refute it at one input. -/
def modularAddsWrong : ChangeSpec := { name := "modularAdds", fn := fun _ => fun
  | [d1, d2, d3] => { results := [.lit (.bool false)], args := [d1, d2, d3] }
  | _ => none }
def ModularAddsWrongFalsely : Prop := modularAddsRow.holds Try.pinned (OpenSpec.ofChange modularAddsWrong)

/-- 'obollaw01.ModularCancels': WHATEVER THE INPUT: true; the input reads as it did. -/
def modularCancelsSpec : ChangeSpec := { name := "modularCancels", fn := fun _ => fun
  | [d1, d2, d3] => { results := [.lit (.bool true)], args := [d1, d2, d3] }
  | _ => none }
def modularCancelsRow : OpenClaim := { program := "ytempibbfdojfiab", sum := "2eb2e1e4120851ca2b619ca3772f000dd92ff3e656bc02de5e8b65a38b80b5fe", func := "obol/obollaw01.ModularCancels", spec := "modularCancels", named := ["math/bits.divideError", "math/bits.overflowError"], apart := false }
def ModularCancelsSaid : Prop := modularCancelsRow.holds Try.pinned (OpenSpec.ofChange modularCancelsSpec)

/-- ITS FALSE NEIGHBOUR: 'it returns false'. Refute it at one input. -/
def modularCancelsWrong : ChangeSpec := { name := "modularCancels", fn := fun _ => fun
  | [d1, d2, d3] => { results := [.lit (.bool false)], args := [d1, d2, d3] }
  | _ => none }
def ModularCancelsWrongFalsely : Prop := modularCancelsRow.holds Try.pinned (OpenSpec.ofChange modularCancelsWrong)

/-- 'obollaw13.PolyForward': WHATEVER THE INPUT: true; the input reads as it did. -/
def polyForwardSpec : ChangeSpec := { name := "polyForward", fn := fun _ => fun
  | [d1, d2] => { results := [.lit (.bool true)], args := [d1, d2] }
  | _ => none }
def polyForwardRow : OpenClaim := { program := "ytempibbfdojfiab", sum := "2eb2e1e4120851ca2b619ca3772f000dd92ff3e656bc02de5e8b65a38b80b5fe", func := "obol/obollaw13.PolyForward", spec := "polyForward", recurses := true, named := ["math/bits.divideError", "math/bits.overflowError"], apart := false }
def PolyForwardSaid : Prop := polyForwardRow.holds Try.pinned (OpenSpec.ofChange polyForwardSpec)

/-- ITS FALSE NEIGHBOUR: 'it returns false'. Refute it at one input. -/
def polyForwardWrong : ChangeSpec := { name := "polyForward", fn := fun _ => fun
  | [d1, d2] => { results := [.lit (.bool false)], args := [d1, d2] }
  | _ => none }
def PolyForwardWrongFalsely : Prop := polyForwardRow.holds Try.pinned (OpenSpec.ofChange polyForwardWrong)

/- THE SECOND FORM. 'bulk': how many values and letters a reading holds, each counted each time it is reached (what is shared counts as often as it is met; a slice's spare places count too). A statement '..UptoSaid' is the law's where the arguments, and the package variables that the reading takes, are together of bulk at most 1048576: NARROWER than '..Said'. Prove '..Said' where nothing that the law and all that it calls make is longer than what came in: it says more and counts as full. Else prove '..UptoSaid'. A law counts once. -/
mutual
def uptoBulk {H : Type} : DataW H → Nat
  | .lit (.string bytes) => bytes.length + 1
  | .lit _ => 1
  | .nil => 1
  | .ptr d => uptoBulk d + 1
  | .slice elems spare => uptoBulkAll elems + uptoBulkAll spare + 1
  | .agg parts => uptoBulkAll parts + 1
  | .iface _ d => uptoBulk d + 1
  | .map entries => uptoBulkEntries entries + 1
  | .held _ => 1
def uptoBulkAll {H : Type} : List (DataW H) → Nat
  | [] => 0
  | d :: r => uptoBulk d + uptoBulkAll r
def uptoBulkEntries {H : Type} : List (Lit × DataW H) → Nat
  | [] => 0
  | x :: r => uptoBulkEntry x + uptoBulkEntries r
def uptoBulkEntry {H : Type} : Lit × DataW H → Nat
  | (.string bytes, d) => bytes.length + uptoBulk d + 1
  | (_, d) => uptoBulk d + 1
 end
def uptoSmall : (H : Type) → List (DataW H) → Bool := fun _ ds => decide (uptoBulkAll ds ≤ 1048576)
def OpenSpec.upto (s : _root_.Go.ChangeSpec) : _root_.Go.OpenSpec := { _root_.Go.OpenSpec.ofChange s with cond := some uptoSmall }

/-- 'obollaw02.ExtAdds', WHERE WHAT IT READS IS OF BULK AT MOST 1048576: true; the input reads as it did. -/
def extAddsUptoRow : OpenClaim := { program := "ytempibbfdojfiab", sum := "2eb2e1e4120851ca2b619ca3772f000dd92ff3e656bc02de5e8b65a38b80b5fe", func := "obol/obollaw02.ExtAdds", spec := "extAdds", named := ["math/bits.divideError", "math/bits.overflowError"], apart := false, narrowed := true }
def ExtAddsUptoSaid : Prop := extAddsUptoRow.holds Try.pinned (OpenSpec.upto extAddsSpec)

/-- 'obollaw16.TreeWhole', WHERE WHAT IT READS IS OF BULK AT MOST 1048576: true; the input reads as it did. -/
def treeWholeUptoRow : OpenClaim := { program := "ytempibbfdojfiab", sum := "2eb2e1e4120851ca2b619ca3772f000dd92ff3e656bc02de5e8b65a38b80b5fe", func := "obol/obollaw16.TreeWhole", spec := "treeWhole", unfollowed := true, recurses := true, named := ["math/bits.divideError", "math/bits.overflowError"], apart := false, narrowed := true }
def TreeWholeUptoSaid : Prop := treeWholeUptoRow.holds Try.pinned (OpenSpec.upto treeWholeSpec)

/-- 'obollaw13.PolyVanishes', WHERE WHAT IT READS IS OF BULK AT MOST 1048576: true; the input reads as it did. -/
def polyVanishesUptoRow : OpenClaim := { program := "ytempibbfdojfiab", sum := "2eb2e1e4120851ca2b619ca3772f000dd92ff3e656bc02de5e8b65a38b80b5fe", func := "obol/obollaw13.PolyVanishes", spec := "polyVanishes", named := ["math/bits.divideError", "math/bits.overflowError"], apart := false, narrowed := true }
def PolyVanishesUptoSaid : Prop := polyVanishesUptoRow.holds Try.pinned (OpenSpec.upto polyVanishesSpec)

/-- 'obollaw10.CubeStays', WHERE WHAT IT READS IS OF BULK AT MOST 1048576: true; the input reads as it did. -/
def cubeStaysUptoRow : OpenClaim := { program := "ytempibbfdojfiab", sum := "2eb2e1e4120851ca2b619ca3772f000dd92ff3e656bc02de5e8b65a38b80b5fe", func := "obol/obollaw10.CubeStays", spec := "cubeStays", named := ["math/bits.divideError", "math/bits.overflowError"], apart := false, narrowed := true }
def CubeStaysUptoSaid : Prop := cubeStaysUptoRow.holds Try.pinned (OpenSpec.upto cubeStaysSpec)

/-- 'obollaw13.PolyBases', WHERE WHAT IT READS IS OF BULK AT MOST 1048576: true; the input reads as it did. -/
def polyBasesUptoRow : OpenClaim := { program := "ytempibbfdojfiab", sum := "2eb2e1e4120851ca2b619ca3772f000dd92ff3e656bc02de5e8b65a38b80b5fe", func := "obol/obollaw13.PolyBases", spec := "polyBases", named := ["math/bits.divideError", "math/bits.overflowError"], apart := false, narrowed := true }
def PolyBasesUptoSaid : Prop := polyBasesUptoRow.holds Try.pinned (OpenSpec.upto polyBasesSpec)

/-- 'obollaw01.ModularMuls', WHERE WHAT IT READS IS OF BULK AT MOST 1048576: true; the input reads as it did. -/
def modularMulsUptoRow : OpenClaim := { program := "ytempibbfdojfiab", sum := "2eb2e1e4120851ca2b619ca3772f000dd92ff3e656bc02de5e8b65a38b80b5fe", func := "obol/obollaw01.ModularMuls", spec := "modularMuls", named := ["math/bits.divideError", "math/bits.overflowError"], apart := false, narrowed := true }
def ModularMulsUptoSaid : Prop := modularMulsUptoRow.holds Try.pinned (OpenSpec.upto modularMulsSpec)

/-- 'obollaw01.ModularPows', WHERE WHAT IT READS IS OF BULK AT MOST 1048576: true; the input reads as it did. -/
def modularPowsUptoRow : OpenClaim := { program := "ytempibbfdojfiab", sum := "2eb2e1e4120851ca2b619ca3772f000dd92ff3e656bc02de5e8b65a38b80b5fe", func := "obol/obollaw01.ModularPows", spec := "modularPows", named := ["math/bits.divideError", "math/bits.overflowError"], apart := false, narrowed := true }
def ModularPowsUptoSaid : Prop := modularPowsUptoRow.holds Try.pinned (OpenSpec.upto modularPowsSpec)

/-- 'obollaw01.ModularInverts', WHERE WHAT IT READS IS OF BULK AT MOST 1048576: true; the input reads as it did. -/
def modularInvertsUptoRow : OpenClaim := { program := "ytempibbfdojfiab", sum := "2eb2e1e4120851ca2b619ca3772f000dd92ff3e656bc02de5e8b65a38b80b5fe", func := "obol/obollaw01.ModularInverts", spec := "modularInverts", named := ["math/bits.divideError", "math/bits.overflowError"], apart := false, narrowed := true }
def ModularInvertsUptoSaid : Prop := modularInvertsUptoRow.holds Try.pinned (OpenSpec.upto modularInvertsSpec)

/-- 'obollaw01.ModularRoots', WHERE WHAT IT READS IS OF BULK AT MOST 1048576: true; the input reads as it did. -/
def modularRootsUptoRow : OpenClaim := { program := "ytempibbfdojfiab", sum := "2eb2e1e4120851ca2b619ca3772f000dd92ff3e656bc02de5e8b65a38b80b5fe", func := "obol/obollaw01.ModularRoots", spec := "modularRoots", named := ["math/bits.divideError", "math/bits.overflowError"], apart := false, narrowed := true }
def ModularRootsUptoSaid : Prop := modularRootsUptoRow.holds Try.pinned (OpenSpec.upto modularRootsSpec)

/-- 'obollaw01.ModularAdds', WHERE WHAT IT READS IS OF BULK AT MOST 1048576: true; the input reads as it did. -/
def modularAddsUptoRow : OpenClaim := { program := "ytempibbfdojfiab", sum := "2eb2e1e4120851ca2b619ca3772f000dd92ff3e656bc02de5e8b65a38b80b5fe", func := "obol/obollaw01.ModularAdds", spec := "modularAdds", named := ["math/bits.divideError", "math/bits.overflowError"], apart := false, narrowed := true }
def ModularAddsUptoSaid : Prop := modularAddsUptoRow.holds Try.pinned (OpenSpec.upto modularAddsSpec)

/-- 'obollaw01.ModularCancels', WHERE WHAT IT READS IS OF BULK AT MOST 1048576: true; the input reads as it did. -/
def modularCancelsUptoRow : OpenClaim := { program := "ytempibbfdojfiab", sum := "2eb2e1e4120851ca2b619ca3772f000dd92ff3e656bc02de5e8b65a38b80b5fe", func := "obol/obollaw01.ModularCancels", spec := "modularCancels", named := ["math/bits.divideError", "math/bits.overflowError"], apart := false, narrowed := true }
def ModularCancelsUptoSaid : Prop := modularCancelsUptoRow.holds Try.pinned (OpenSpec.upto modularCancelsSpec)

/-- 'obollaw13.PolyForward', WHERE WHAT IT READS IS OF BULK AT MOST 1048576: true; the input reads as it did. -/
def polyForwardUptoRow : OpenClaim := { program := "ytempibbfdojfiab", sum := "2eb2e1e4120851ca2b619ca3772f000dd92ff3e656bc02de5e8b65a38b80b5fe", func := "obol/obollaw13.PolyForward", spec := "polyForward", recurses := true, named := ["math/bits.divideError", "math/bits.overflowError"], apart := false, narrowed := true }
def PolyForwardUptoSaid : Prop := polyForwardUptoRow.holds Try.pinned (OpenSpec.upto polyForwardSpec)

end Rows
end Go.Proofs.Ytempibbfdojfiab
