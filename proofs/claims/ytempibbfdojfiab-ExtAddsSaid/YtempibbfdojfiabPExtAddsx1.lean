-- printed by a program of this session (wip/tools/mkprint.py)
import Derived.Test.YtempibbfdojfiabPExtAddsx0
namespace Go.Proofs.Ytempibbfdojfiab.PExtAdds
open Go.RowKit Go.Proofs.YtempibbfdojfiabW.PrintWords Go.Proofs.YtempibbfdojfiabW.PrintLast Go.Proofs.YtempibbfdojfiabW.PrintMore
attribute [local go_sem] max2_int min2_int max_two min_two max_three min_three max_four min_four   -- for this text's walks alone
set_option linter.unusedVariables false
set_option linter.unusedSimpArgs false

theorem eqI22_24 (d : Nat) (w : World) (x y : Int) : (Op.equalIn (d + 1) 22 (.int .u64 x) (.int .u64 y)).run Try.prog w = .ok (x == y) w := by go_simp
theorem eqS24 (w : World) : (sizeOf 22).run Try.prog w = .ok 1 w := by go_simp
theorem eqP24_0 (w : World) (x y : Value) : (part 22 #[x, y] 0).run Try.prog w = .ok x w := by go_simp
theorem eqP24_1 (w : World) (x y : Value) : (part 22 #[x, y] 1).run Try.prog w = .ok y w := by go_simp
theorem eqA24 (d : Nat) (w : World) (x0 x1 y0 y1 : Int) :
    (Op.equalIn (d + 2) 24 (.agg #[.int .u64 x0, .int .u64 x1]) (.agg #[.int .u64 y0, .int .u64 y1])).run Try.prog w = .ok (x0 == y0 && (x1 == y1)) w := by
  have h0 := eqI22_24 d w x0 y0
  have h1 := eqI22_24 d w x1 y1
  rw [Op.equalIn]
  simp only [Sem.run_bind, run_underlying Try.underlying24, Result.andThen_ok, eqS24, Std.Legacy.Range.forIn_eq_forIn_range', Nat.mul_one]
  have hr : List.range' 0 2 = [0, 1] := rfl
  generalize (x0 == y0) = c0 at *
  generalize (x1 == y1) = c1 at *
  cases c0 <;> cases c1 <;> simp [hr, eqP24_0, eqP24_1, h0, h1]
end Go.Proofs.Ytempibbfdojfiab.PExtAdds
