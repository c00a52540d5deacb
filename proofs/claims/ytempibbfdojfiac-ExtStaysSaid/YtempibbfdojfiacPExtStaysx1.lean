-- printed by a program of this session (wip/tools/mkprint.py)
import Derived.Test.YtempibbfdojfiacPExtStaysx0
namespace Go.Proofs.Ytempibbfdojfiac.PExtStays
open Go.RowKit Go.Proofs.YtempibbfdojfiacW.PrintWords Go.Proofs.YtempibbfdojfiacW.PrintLast Go.Proofs.YtempibbfdojfiacW.PrintMore
attribute [local go_sem] max2_int min2_int max_two min_two max_three min_three max_four min_four   -- for this text's walks alone
set_option linter.unusedVariables false
set_option linter.unusedSimpArgs false

theorem eqI30_33 (d : Nat) (w : World) (x y : Int) : (Op.equalIn (d + 1) 30 (.int .u64 x) (.int .u64 y)).run Try.prog w = .ok (x == y) w := by go_simp
theorem eqS33 (w : World) : (sizeOf 30).run Try.prog w = .ok 1 w := by go_simp
theorem eqP33_0 (w : World) (x y : Value) : (part 30 #[x, y] 0).run Try.prog w = .ok x w := by go_simp
theorem eqP33_1 (w : World) (x y : Value) : (part 30 #[x, y] 1).run Try.prog w = .ok y w := by go_simp
theorem eqA33 (d : Nat) (w : World) (x0 x1 y0 y1 : Int) :
    (Op.equalIn (d + 2) 33 (.agg #[.int .u64 x0, .int .u64 x1]) (.agg #[.int .u64 y0, .int .u64 y1])).run Try.prog w = .ok (x0 == y0 && (x1 == y1)) w := by
  have h0 := eqI30_33 d w x0 y0
  have h1 := eqI30_33 d w x1 y1
  rw [Op.equalIn]
  simp only [Sem.run_bind, run_underlying Try.underlying33, Result.andThen_ok, eqS33, Std.Legacy.Range.forIn_eq_forIn_range', Nat.mul_one]
  have hr : List.range' 0 2 = [0, 1] := rfl
  generalize (x0 == y0) = c0 at *
  generalize (x1 == y1) = c1 at *
  cases c0 <;> cases c1 <;> simp [hr, eqP33_0, eqP33_1, h0, h1]
end Go.Proofs.Ytempibbfdojfiac.PExtStays
