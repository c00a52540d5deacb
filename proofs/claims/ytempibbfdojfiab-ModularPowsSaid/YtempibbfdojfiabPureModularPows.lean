/- For every modulus, number and exponent, obollaw01.ModularPows returns true: Pow is the rest of the power (0 by no modulus). No conditions. -/
import Derived.Test.YtempibbfdojfiabLRootModularPows
set_option linter.unusedVariables false
namespace Go.Proofs.Ytempibbfdojfiab.Pure
open Go.RowKit Go.Proofs.Ytempibbfdojfiab.PModularPows Go.Proofs.YtempibbfdojfiabW.PrintWords Go.Proofs.YtempibbfdojfiabW.PrintLast Go.Proofs.YtempibbfdojfiabW.PrintMore Go.Proofs.Ytempibbfdojfiab.Nm Go.Proofs.Ytempibbfdojfiab.ModModularPows

theorem pow_bad {m : Int} (h : m < 2 ∨ 4611686018427387904 < m) (a b : Int) : Ev (fun k => modular_Pow.f k m a b) 0 := by
  unfold modular_Pow.f
  rw [no_bad h]
  exact ModModularPows.Ev.bindc rfl (ModModularPows.Ev.pos rfl (ModModularPows.Ev.val rfl))
theorem ModularPows : obollaw01_ModularPows.Pure := by
  intro m a e hm ha he
  apply Ev.rounds
  have ha' := (bd64 ha).1
  have he' := bd64 he
  unfold obollaw01_ModularPows.f
  refine up_val.bind (ModModularPows.Ev.bindc (is_val m) ?_)
  by_cases h : 2 ≤ m ∧ m ≤ 4611686018427387904
  · have mo : Mo m := ⟨h.1, h.2⟩
    have h1 := pow_val mo a e.toNat ha' (by omega)
    rw [Int.toNat_of_nonneg he'.1] at h1
    refine ModModularPows.Ev.pos (decide_eq_true h) (ModModularPows.Ev.pos rfl (h1.bind ((rpow_val mo a e ha' he'.1 (by omega)).bind (ModModularPows.Ev.val ?_))))
    exact beq_self_eq_true _
  · refine ModModularPows.Ev.neg (by rw [decide_eq_false h]; simp) (ModModularPows.Ev.pos rfl ((pow_bad (by omega) a e).bind (ModModularPows.Ev.val rfl)))
end Go.Proofs.Ytempibbfdojfiab.Pure
