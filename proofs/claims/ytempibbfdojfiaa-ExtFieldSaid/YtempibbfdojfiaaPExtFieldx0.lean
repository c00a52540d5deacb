-- printed by a program of this session (wip/tools/mkprint.py)
import Derived.Test.YtempibbfdojfiaaProg
import Derived.Below
import Derived.Deep.Draws
import Derived.Deep.AppendLies
import Derived.Maps.AppendAt
import Derived.OwnWalk
import Derived.Laws.BytesArg
import Derived.Laws.MakeOwn
import Derived.Laws.OwnMore
import Derived.Deep.OwnRows
import Derived.Tactics
import Derived.Lib.ConvBytes
import Derived.Laws.Slices
import Derived.WalkKit
import Derived.KernelRfl
import Derived.RowKit3
import Derived.Deep.LoopGhost
import Derived.Deep.QuietTactic
import Derived.BigQuiet
import Derived.WideLaws
import Derived.Deep.DeepCutAuto
import Derived.Deep.CutBlock
import Derived.Deep.RegionHeld3
import Derived.Laws.Rows
import Derived.Lib.AppendStr
import Derived.ArgAppend
import Derived.Laws.IdiomCopy
import Derived.OrdersHeld
import Derived.Laws.BitsLemmas
import Derived.RowKit
import Derived.Test.YtempibbfdojfiaaWWords
import Derived.Test.YtempibbfdojfiaaWLast
import Derived.Test.YtempibbfdojfiaaWTab
import Derived.Test.YtempibbfdojfiaaWFour
import Derived.Test.YtempibbfdojfiaaWQPut
import Derived.Test.YtempibbfdojfiaaWApart
import Derived.Test.YtempibbfdojfiaaWArr
import Derived.Test.YtempibbfdojfiaaWZeros
import Derived.Test.YtempibbfdojfiaaWFoot
import Derived.Test.YtempibbfdojfiaaWKept
import Derived.Test.YtempibbfdojfiaaWShare
import Derived.Test.YtempibbfdojfiaaWN
import Derived.Test.YtempibbfdojfiaaWFootNe
import Derived.Test.YtempibbfdojfiaaWAt
import Derived.Test.YtempibbfdojfiaaWEqStruct
import Derived.Test.YtempibbfdojfiaaWRepsOne
import Derived.Test.YtempibbfdojfiaaWInv
import Derived.Test.YtempibbfdojfiaaWInvWords
import Derived.Test.YtempibbfdojfiaaWGuard
import Derived.Test.YtempibbfdojfiaaWNEv
import Derived.Test.YtempibbfdojfiaaWMore
namespace Go.Proofs.Ytempibbfdojfiaa.PExtField
open Go.RowKit Go.Proofs.YtempibbfdojfiaaW.PrintWords Go.Proofs.YtempibbfdojfiaaW.PrintLast Go.Proofs.YtempibbfdojfiaaW.PrintMore
attribute [local go_sem] max2_int min2_int max_two min_two max_three min_three max_four min_four   -- for this text's walks alone
set_option linter.unusedVariables false
set_option linter.unusedSimpArgs false



def errW : Option Int → Value
  | none => .nilIface
  | some c => .iface 0 (.int .i64 c)
theorem errW_none : errW none = .nilIface := rfl
theorem errW_some (c : Int) : errW (some c) = .iface 0 (.int .i64 c) := rfl

-- the values' own types

theorem shl_u64_range (x y : Int) : 0 ≤ shl .u64 x y ∧ shl .u64 x y ≤ 18446744073709551615 := by
  unfold shl
  generalize x * 2 ^ min y.toNat IntKind.u64.bits = n
  simp [IntKind.wrap, IntKind.bits, IntKind.signed]
  omega
end Go.Proofs.Ytempibbfdojfiaa.PExtField
