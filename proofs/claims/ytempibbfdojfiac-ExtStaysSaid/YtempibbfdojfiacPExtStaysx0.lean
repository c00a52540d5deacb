-- printed by a program of this session (wip/tools/mkprint.py)
import Derived.Test.YtempibbfdojfiacProg
import Derived.Below
import Derived.Deep.Draws
import Derived.Deep.AppendLies
import Derived.Maps.AppendAt
import Derived.OwnWalk
import Derived.Laws.BytesArg
import Derived.Laws.MakeOwn
import Derived.Laws.OwnMore
import Derived.Deep.OwnRows
import Derived.Tactics
import Derived.Lib.ConvBytes
import Derived.Laws.Slices
import Derived.WalkKit
import Derived.KernelRfl
import Derived.RowKit3
import Derived.Deep.LoopGhost
import Derived.Deep.QuietTactic
import Derived.BigQuiet
import Derived.WideLaws
import Derived.Deep.DeepCutAuto
import Derived.Deep.CutBlock
import Derived.Deep.RegionHeld3
import Derived.Laws.Rows
import Derived.Lib.AppendStr
import Derived.ArgAppend
import Derived.Laws.IdiomCopy
import Derived.OrdersHeld
import Derived.Laws.BitsLemmas
import Derived.RowKit
import Derived.Test.YtempibbfdojfiacWWords
import Derived.Test.YtempibbfdojfiacWLast
import Derived.Test.YtempibbfdojfiacWTab
import Derived.Test.YtempibbfdojfiacWFour
import Derived.Test.YtempibbfdojfiacWQPut
import Derived.Test.YtempibbfdojfiacWApart
import Derived.Test.YtempibbfdojfiacWArr
import Derived.Test.YtempibbfdojfiacWZeros
import Derived.Test.YtempibbfdojfiacWFoot
import Derived.Test.YtempibbfdojfiacWKept
import Derived.Test.YtempibbfdojfiacWShare
import Derived.Test.YtempibbfdojfiacWN
import Derived.Test.YtempibbfdojfiacWFootNe
import Derived.Test.YtempibbfdojfiacWAt
import Derived.Test.YtempibbfdojfiacWEqStruct
import Derived.Test.YtempibbfdojfiacWRepsOne
import Derived.Test.YtempibbfdojfiacWInv
import Derived.Test.YtempibbfdojfiacWInvWords
import Derived.Test.YtempibbfdojfiacWGuard
import Derived.Test.YtempibbfdojfiacWNEv
import Derived.Test.YtempibbfdojfiacWMore
import Derived.Test.YtempibbfdojfiacMine
namespace Go.Proofs.Ytempibbfdojfiac.PExtStays
open Go.RowKit Go.Proofs.YtempibbfdojfiacW.PrintWords Go.Proofs.YtempibbfdojfiacW.PrintLast Go.Proofs.YtempibbfdojfiacW.PrintMore
attribute [local go_sem] max2_int min2_int max_two min_two max_three min_three max_four min_four   -- for this text's walks alone
set_option linter.unusedVariables false
set_option linter.unusedSimpArgs false



def errW : Option Int → Value
  | none => .nilIface
  | some c => .iface 28 (.int .i64 c)
theorem errW_none : errW none = .nilIface := rfl
theorem errW_some (c : Int) : errW (some c) = .iface 28 (.int .i64 c) := rfl

theorem info5 : (Try.prog.info? 5).map (fun i => (i.zero, i.size, i.bytes)) = some (some (.int .u8 0), 1, 1) := by kernel_rfl
-- the values' own types

theorem shl_u64_range (x y : Int) : 0 ≤ shl .u64 x y ∧ shl .u64 x y ≤ 18446744073709551615 := by
  unfold shl
  generalize x * 2 ^ min y.toNat IntKind.u64.bits = n
  simp [IntKind.wrap, IntKind.bits, IntKind.signed]
  omega
end Go.Proofs.Ytempibbfdojfiac.PExtStays
