/- What the empty places of a tree are (for the law TreePaths). -/
import Derived.Test.YtempibbfdojfiacLTreeTreePaths
set_option linter.unusedVariables false
set_option linter.unusedSimpArgs false
namespace Go.Proofs.Ytempibbfdojfiac.ModTreePaths
open Go.RowKit Go.Proofs.Ytempibbfdojfiac.PTreePaths Go.Proofs.YtempibbfdojfiacW.PrintWords Go.Proofs.YtempibbfdojfiacW.PrintLast Go.Proofs.YtempibbfdojfiacW.PrintMore Go.Proofs.Ytempibbfdojfiac.Nm

/-- What an empty place of a level is. -/
def emp : Nat → F
  | 0 => 0
  | n + 1 => twoF (emp n) (emp n)
theorem shl_nat (x n : Nat) (hn : n ≤ 63) (h : x * 2 ^ n < 9223372036854775808) : shl .i64 (x : Int) (n : Int) = ((x * 2 ^ n : Nat) : Int) := by
  unfold shl
  have e : min (n : Int).toNat IntKind.i64.bits = n := by
    show min (n : Int).toNat 64 = n
    omega
  rw [e]
  have h2 : (2 : Int) ^ n = ((2 ^ n : Nat) : Int) := by rw [Int.natCast_pow]; rfl
  rw [h2, ← Int.natCast_mul]
  generalize x * 2 ^ n = q at *
  rw [IntKind.wrap_i64]
  omega
theorem empty_loop (L : Nat) (hL : L ≤ 16) (m : Nat) : ∀ (i : Nat) (ii : Int), i + m = L → ii = i → Ev (fun k => obolref16_empty.l0 k (L : Int) (u (emp i)) ii) (u (emp L)) := by
  induction m with
  | zero =>
    intro i ii hi hii
    refine Ev.step (fun k => by rw [obolref16_empty.l0]) ?_
    refine Ev.neg (by omega) (Ev.val ?_)
    rw [show i = L by omega]
  | succ m ih =>
    intro i ii hi hii
    have he := rtwo_val (u (emp i)) (u (emp i)) (uF0 _) (uF0 _)
    rw [z_u] at he
    refine Ev.step (fun k => by rw [obolref16_empty.l0]) ?_
    rw [show wrap64 (ii + 1) = ii + 1 from wi _ (by omega) (by omega), hii]
    exact Ev.pos (by omega) (he.bind (ih (i + 1) _ (by omega) (by omega)))
theorem empty_val (L : Nat) (hL : L ≤ 16) : Ev (fun k => obolref16_empty.f k (L : Int)) (u (emp L)) := by
  unfold obolref16_empty.f
  have h := empty_loop L hL L 0 0 (by omega) rfl
  have e2 : u (emp 0) = 0 := u_zero
  rw [e2] at h
  exact h
end Go.Proofs.Ytempibbfdojfiac.ModTreePaths
