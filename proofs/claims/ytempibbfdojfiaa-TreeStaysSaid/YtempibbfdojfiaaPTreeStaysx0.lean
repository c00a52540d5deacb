-- printed by a program of this session (wip/tools/mkprint.py)
import Derived.Test.YtempibbfdojfiaaProg
import Derived.Below
import Derived.Deep.Draws
import Derived.Deep.AppendLies
import Derived.Maps.AppendAt
import Derived.OwnWalk
import Derived.Laws.BytesArg
import Derived.Laws.MakeOwn
import Derived.Laws.OwnMore
import Derived.Deep.OwnRows
import Derived.Tactics
import Derived.Lib.ConvBytes
import Derived.Laws.Slices
import Derived.WalkKit
import Derived.KernelRfl
import Derived.RowKit3
import Derived.Deep.LoopGhost
import Derived.Deep.QuietTactic
import Derived.BigQuiet
import Derived.WideLaws
import Derived.Deep.DeepCutAuto
import Derived.Deep.CutBlock
import Derived.Deep.RegionHeld3
import Derived.Laws.Rows
import Derived.Lib.AppendStr
import Derived.ArgAppend
import Derived.Laws.IdiomCopy
import Derived.OrdersHeld
import Derived.Laws.BitsLemmas
import Derived.RowKit
import Derived.Test.YtempibbfdojfiaaWWords
import Derived.Test.YtempibbfdojfiaaWLast
import Derived.Test.YtempibbfdojfiaaWTab
import Derived.Test.YtempibbfdojfiaaWFour
import Derived.Test.YtempibbfdojfiaaWQPut
import Derived.Test.YtempibbfdojfiaaWApart
import Derived.Test.YtempibbfdojfiaaWArr
import Derived.Test.YtempibbfdojfiaaWZeros
import Derived.Test.YtempibbfdojfiaaWFoot
import Derived.Test.YtempibbfdojfiaaWKept
import Derived.Test.YtempibbfdojfiaaWShare
import Derived.Test.YtempibbfdojfiaaWN
import Derived.Test.YtempibbfdojfiaaWFootNe
import Derived.Test.YtempibbfdojfiaaWAt
import Derived.Test.YtempibbfdojfiaaWEqStruct
import Derived.Test.YtempibbfdojfiaaWRepsOne
import Derived.Test.YtempibbfdojfiaaWInv
import Derived.Test.YtempibbfdojfiaaWInvWords
import Derived.Test.YtempibbfdojfiaaWGuard
import Derived.Test.YtempibbfdojfiaaWNEv
import Derived.Test.YtempibbfdojfiaaWMore
import Derived.Test.YtempibbfdojfiaaMine
import Derived.Test.YtempibbfdojfiaaFun
namespace Go.Proofs.Ytempibbfdojfiaa.PTreeStays
open Go.RowKit Go.Proofs.YtempibbfdojfiaaW.PrintWords Go.Proofs.YtempibbfdojfiaaW.PrintLast Go.Proofs.YtempibbfdojfiaaW.PrintMore
attribute [local go_sem] max2_int min2_int max_two min_two max_three min_three max_four min_four   -- for this text's walks alone
set_option linter.unusedVariables false
set_option linter.unusedSimpArgs false



def errW : Option Int → Value
  | none => .nilIface
  | some c => .iface 31 (.int .i64 c)
theorem errW_none : errW none = .nilIface := rfl
theorem errW_some (c : Int) : errW (some c) = .iface 31 (.int .i64 c) := rfl

theorem info22 : (Try.prog.info? 22).map (fun i => (i.zero, i.size, i.bytes)) = some (some (.slice none 0 0), 1, 24) := by kernel_rfl
theorem info23 : (Try.prog.info? 23).map (fun i => (i.zero, i.size, i.bytes)) = some (some (.int .u64 0), 1, 8) := by kernel_rfl
-- the values' own types
def rd_L1 (xs : List (List Int)) (i : Int) : (List Int) := xs.getD i.toNat ([] : List Int)
theorem at_L1 {w : World} {A : Option Addr} {n : Nat} {xs : List (List Int)} (h : Kd.C (Kd.slice 23 (Kd.int .u64)) w A n xs) (i : Int) (h0 : 0 ≤ i) (h1 : i < n) : ∃ ad A0 c0, A = some ad ∧ w.cell? (ad.add i.toNat) = some (.slice A0 (rd_L1 xs i).length c0) ∧ (rd_L1 xs i).length ≤ c0 ∧ (Kd.int .u64).C w A0 (rd_L1 xs i).length (rd_L1 xs i) := by
  obtain ⟨ad, c, e, _, hK, hc0⟩ := Kd.C_get h ([] : List Int) i h0 h1
  have hc : ∀ j u, c[j]? = some u → w.cell? (ad.add (i.toNat * 1 + j)) = some u := hc0
  obtain ⟨A0, c0, rfl, l0, g0⟩ := hK
  exact ⟨ad, A0, c0, e, by have hq := hc 0 _ rfl; rwa [Nat.mul_one, Nat.add_zero] at hq, l0, g0⟩

theorem errInfo : ∃ i, Try.prog.info? 31 = some i ∧ i.comparable = true := ⟨_, rfl, rfl⟩
theorem errIn (w : World) (d : Nat) (a b : Int) : (Op.equalIn (d + 2) 28 (.iface 31 (.int .i64 a)) (.iface 31 (.int .i64 b))).run Try.prog w = .ok (a == b) w := by
  obtain ⟨i, hi, hc⟩ := errInfo
  simp [Op.equalIn, run_underlying Try.underlying28, run_underlying (show Try.prog.underlying 31 = some (.int .i64) by kernel_rfl), typeInfo, hi, hc]
theorem errInL (w : World) (d : Nat) (a : Int) : (Op.equalIn (d + 1) 28 .nilIface (.iface 31 (.int .i64 a))).run Try.prog w = .ok false w := by
  simp [Op.equalIn, run_underlying Try.underlying28]
theorem errCmp_eql (w : World) (a b : Int) : (binOp .eql 28 (.iface 31 (.int .i64 a)) (.iface 31 (.int .i64 b))).run Try.prog w = .ok (.bool (a == b)) w := by
  simp only [binOp]
  simp [Op.equal, Op.maxDepth, errIn w 9998 a b, bne]
theorem errCmpL_eql (w : World) (a : Int) : (binOp .eql 28 .nilIface (.iface 31 (.int .i64 a))).run Try.prog w = .ok (.bool false) w := by
  simp only [binOp]
  simp [Op.equal, Op.maxDepth, errInL w 9999 a]
theorem errCmp_neq (w : World) (a b : Int) : (binOp .neq 28 (.iface 31 (.int .i64 a)) (.iface 31 (.int .i64 b))).run Try.prog w = .ok (.bool (a != b)) w := by
  simp only [binOp]
  simp [Op.equal, Op.maxDepth, errIn w 9998 a b, bne]
theorem errCmpL_neq (w : World) (a : Int) : (binOp .neq 28 .nilIface (.iface 31 (.int .i64 a))).run Try.prog w = .ok (.bool true) w := by
  simp only [binOp]
  simp [Op.equal, Op.maxDepth, errInL w 9999 a]
theorem shl_u64_range (x y : Int) : 0 ≤ shl .u64 x y ∧ shl .u64 x y ≤ 18446744073709551615 := by
  unfold shl
  generalize x * 2 ^ min y.toNat IntKind.u64.bits = n
  simp [IntKind.wrap, IntKind.bits, IntKind.signed]
  omega
end Go.Proofs.Ytempibbfdojfiaa.PTreeStays
