/- What the empty places of a tree are (for the law TreeStays). -/
import Derived.Test.YtempibbfdojfiaaLTreeTreeStays
set_option linter.unusedVariables false
set_option linter.unusedSimpArgs false
namespace Go.Proofs.Ytempibbfdojfiaa.ModTreeStays
open Go.RowKit Go.Proofs.Ytempibbfdojfiaa.PTreeStays Go.Proofs.YtempibbfdojfiaaW.PrintWords Go.Proofs.YtempibbfdojfiaaW.PrintLast Go.Proofs.YtempibbfdojfiaaW.PrintMore Go.Proofs.Ytempibbfdojfiaa.Nm

/-- What an empty place of a level is. -/
def emp : Nat → F
  | 0 => 0
  | n + 1 => twoF (emp n) (emp n)
theorem shl_nat (x n : Nat) (hn : n ≤ 63) (h : x * 2 ^ n < 9223372036854775808) : shl .i64 (x : Int) (n : Int) = ((x * 2 ^ n : Nat) : Int) := by
  unfold shl
  have e : min (n : Int).toNat IntKind.i64.bits = n := by
    show min (n : Int).toNat 64 = n
    omega
  rw [e]
  have h2 : (2 : Int) ^ n = ((2 ^ n : Nat) : Int) := by rw [Int.natCast_pow]; rfl
  rw [h2, ← Int.natCast_mul]
  generalize x * 2 ^ n = q at *
  rw [IntKind.wrap_i64]
  omega
end Go.Proofs.Ytempibbfdojfiaa.ModTreeStays
