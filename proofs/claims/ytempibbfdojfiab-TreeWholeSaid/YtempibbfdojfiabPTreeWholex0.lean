-- printed by a program of this session (wip/tools/mkprint.py)
import Derived.Test.YtempibbfdojfiabProg
import Derived.Below
import Derived.Deep.Draws
import Derived.Deep.AppendLies
import Derived.Maps.AppendAt
import Derived.OwnWalk
import Derived.Laws.BytesArg
import Derived.Laws.MakeOwn
import Derived.Laws.OwnMore
import Derived.Deep.OwnRows
import Derived.Tactics
import Derived.Lib.ConvBytes
import Derived.Laws.Slices
import Derived.WalkKit
import Derived.KernelRfl
import Derived.RowKit3
import Derived.Deep.LoopGhost
import Derived.Deep.QuietTactic
import Derived.BigQuiet
import Derived.WideLaws
import Derived.Deep.DeepCutAuto
import Derived.Deep.CutBlock
import Derived.Deep.RegionHeld3
import Derived.Laws.Rows
import Derived.Lib.AppendStr
import Derived.ArgAppend
import Derived.Laws.IdiomCopy
import Derived.OrdersHeld
import Derived.Laws.BitsLemmas
import Derived.RowKit
import Derived.Test.YtempibbfdojfiabWWords
import Derived.Test.YtempibbfdojfiabWLast
import Derived.Test.YtempibbfdojfiabWTab
import Derived.Test.YtempibbfdojfiabWFour
import Derived.Test.YtempibbfdojfiabWQPut
import Derived.Test.YtempibbfdojfiabWApart
import Derived.Test.YtempibbfdojfiabWArr
import Derived.Test.YtempibbfdojfiabWZeros
import Derived.Test.YtempibbfdojfiabWFoot
import Derived.Test.YtempibbfdojfiabWKept
import Derived.Test.YtempibbfdojfiabWShare
import Derived.Test.YtempibbfdojfiabWN
import Derived.Test.YtempibbfdojfiabWFootNe
import Derived.Test.YtempibbfdojfiabWAt
import Derived.Test.YtempibbfdojfiabWEqStruct
import Derived.Test.YtempibbfdojfiabWRepsOne
import Derived.Test.YtempibbfdojfiabWInv
import Derived.Test.YtempibbfdojfiabWInvWords
import Derived.Test.YtempibbfdojfiabWGuard
import Derived.Test.YtempibbfdojfiabWNEv
import Derived.Test.YtempibbfdojfiabWMore
import Derived.Test.YtempibbfdojfiabMine
import Derived.Test.YtempibbfdojfiabFun
namespace Go.Proofs.Ytempibbfdojfiab.PTreeWhole
open Go.RowKit Go.Proofs.YtempibbfdojfiabW.PrintWords Go.Proofs.YtempibbfdojfiabW.PrintLast Go.Proofs.YtempibbfdojfiabW.PrintMore
attribute [local go_sem] max2_int min2_int max_two min_two max_three min_three max_four min_four   -- for this text's walks alone
set_option linter.unusedVariables false
set_option linter.unusedSimpArgs false



def errW : Option Int → Value
  | none => .nilIface
  | some c => .iface 46 (.int .i64 c)
theorem errW_none : errW none = .nilIface := rfl
theorem errW_some (c : Int) : errW (some c) = .iface 46 (.int .i64 c) := rfl

theorem info22 : (Try.prog.info? 22).map (fun i => (i.zero, i.size, i.bytes)) = some (some (.int .u64 0), 1, 8) := by kernel_rfl
theorem info30 : (Try.prog.info? 30).map (fun i => (i.zero, i.size, i.bytes)) = some (some (.slice none 0 0), 1, 24) := by kernel_rfl
-- the values' own types
def rd_L1 (xs : List (List Int)) (i : Int) : (List Int) := xs.getD i.toNat ([] : List Int)
theorem at_L1 {w : World} {A : Option Addr} {n : Nat} {xs : List (List Int)} (h : Kd.C (Kd.slice 22 (Kd.int .u64)) w A n xs) (i : Int) (h0 : 0 ≤ i) (h1 : i < n) : ∃ ad A0 c0, A = some ad ∧ w.cell? (ad.add i.toNat) = some (.slice A0 (rd_L1 xs i).length c0) ∧ (rd_L1 xs i).length ≤ c0 ∧ (Kd.int .u64).C w A0 (rd_L1 xs i).length (rd_L1 xs i) := by
  obtain ⟨ad, c, e, _, hK, hc0⟩ := Kd.C_get h ([] : List Int) i h0 h1
  have hc : ∀ j u, c[j]? = some u → w.cell? (ad.add (i.toNat * 1 + j)) = some u := hc0
  obtain ⟨A0, c0, rfl, l0, g0⟩ := hK
  exact ⟨ad, A0, c0, e, by have hq := hc 0 _ rfl; rwa [Nat.mul_one, Nat.add_zero] at hq, l0, g0⟩

theorem errInfo : ∃ i, Try.prog.info? 46 = some i ∧ i.comparable = true := ⟨_, rfl, rfl⟩
theorem errIn (w : World) (d : Nat) (a b : Int) : (Op.equalIn (d + 2) 32 (.iface 46 (.int .i64 a)) (.iface 46 (.int .i64 b))).run Try.prog w = .ok (a == b) w := by
  obtain ⟨i, hi, hc⟩ := errInfo
  simp [Op.equalIn, run_underlying Try.underlying32, run_underlying (show Try.prog.underlying 46 = some (.int .i64) by kernel_rfl), typeInfo, hi, hc]
theorem errInL (w : World) (d : Nat) (a : Int) : (Op.equalIn (d + 1) 32 .nilIface (.iface 46 (.int .i64 a))).run Try.prog w = .ok false w := by
  simp [Op.equalIn, run_underlying Try.underlying32]
theorem errCmp_eql (w : World) (a b : Int) : (binOp .eql 32 (.iface 46 (.int .i64 a)) (.iface 46 (.int .i64 b))).run Try.prog w = .ok (.bool (a == b)) w := by
  simp only [binOp]
  simp [Op.equal, Op.maxDepth, errIn w 9998 a b, bne]
theorem errCmpL_eql (w : World) (a : Int) : (binOp .eql 32 .nilIface (.iface 46 (.int .i64 a))).run Try.prog w = .ok (.bool false) w := by
  simp only [binOp]
  simp [Op.equal, Op.maxDepth, errInL w 9999 a]
theorem errCmp_neq (w : World) (a b : Int) : (binOp .neq 32 (.iface 46 (.int .i64 a)) (.iface 46 (.int .i64 b))).run Try.prog w = .ok (.bool (a != b)) w := by
  simp only [binOp]
  simp [Op.equal, Op.maxDepth, errIn w 9998 a b, bne]
theorem errCmpL_neq (w : World) (a : Int) : (binOp .neq 32 .nilIface (.iface 46 (.int .i64 a))).run Try.prog w = .ok (.bool true) w := by
  simp only [binOp]
  simp [Op.equal, Op.maxDepth, errInL w 9999 a]
theorem shl_u64_range (x y : Int) : 0 ≤ shl .u64 x y ∧ shl .u64 x y ≤ 18446744073709551615 := by
  unfold shl
  generalize x * 2 ^ min y.toNat IntKind.u64.bits = n
  simp [IntKind.wrap, IntKind.bits, IntKind.signed]
  omega
end Go.Proofs.Ytempibbfdojfiab.PTreeWhole
