/- For every modulus and two numbers, obollaw01.ModularMuls returns true: Mul is the rest of the product (0 by no modulus). No conditions. -/
import Derived.Test.YtempibbfdojfiabLRootModularMuls
set_option linter.unusedVariables false
namespace Go.Proofs.Ytempibbfdojfiab.Pure
open Go.RowKit Go.Proofs.Ytempibbfdojfiab.PModularMuls Go.Proofs.YtempibbfdojfiabW.PrintWords Go.Proofs.YtempibbfdojfiabW.PrintLast Go.Proofs.YtempibbfdojfiabW.PrintMore Go.Proofs.Ytempibbfdojfiab.Nm Go.Proofs.Ytempibbfdojfiab.ModModularMuls

theorem mul_bad {m : Int} (h : m < 2 ∨ 4611686018427387904 < m) (a b : Int) : Ev (fun k => modular_Mul.f k m a b) 0 := by
  unfold modular_Mul.f
  rw [no_bad h]
  exact ModModularMuls.Ev.bindc rfl (ModModularMuls.Ev.pos rfl (ModModularMuls.Ev.val rfl))
theorem ModularMuls : obollaw01_ModularMuls.Pure := by
  intro m a b hm ha hb
  apply Ev.rounds
  have ha' := (bd64 ha).1
  have hb' := (bd64 hb).1
  unfold obollaw01_ModularMuls.f
  refine up_val.bind (ModModularMuls.Ev.bindc (is_val m) ?_)
  by_cases h : 2 ≤ m ∧ m ≤ 4611686018427387904
  · have mo : Mo m := ⟨h.1, h.2⟩
    refine ModModularMuls.Ev.pos (decide_eq_true h) (ModModularMuls.Ev.pos rfl ((mul_val mo a b ha' hb').bind ((rmul_val mo a b ha' hb').bind (ModModularMuls.Ev.val ?_))))
    exact beq_self_eq_true _
  · refine ModModularMuls.Ev.neg (by rw [decide_eq_false h]; simp) (ModModularMuls.Ev.pos rfl ((mul_bad (by omega) a b).bind (ModModularMuls.Ev.val rfl)))
end Go.Proofs.Ytempibbfdojfiab.Pure
