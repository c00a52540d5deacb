/- For every modulus and two numbers, obollaw01.ModularAdds returns true: Add and Sub are the rests of the sum and of the difference (0 by no modulus). No conditions. -/
import Derived.Test.YtempibbfdojfiabLRootModularAdds
set_option linter.unusedVariables false
namespace Go.Proofs.Ytempibbfdojfiab.Pure
open Go.RowKit Go.Proofs.Ytempibbfdojfiab.PModularAdds Go.Proofs.YtempibbfdojfiabW.PrintWords Go.Proofs.YtempibbfdojfiabW.PrintLast Go.Proofs.YtempibbfdojfiabW.PrintMore Go.Proofs.Ytempibbfdojfiab.Nm Go.Proofs.Ytempibbfdojfiab.ModModularAdds

theorem ModularAdds : obollaw01_ModularAdds.Pure := by
  intro m a b hm ha hb
  apply Ev.rounds
  have ha' := (bd64 ha).1
  have hb' := (bd64 hb).1
  unfold obollaw01_ModularAdds.f
  refine up_val.bind (ModModularAdds.Ev.bindc (is_val m) ?_)
  by_cases h : 2 ≤ m ∧ m ≤ 4611686018427387904
  · have mo : Mo m := ⟨h.1, h.2⟩
    have r := mr mo (a - b)
    refine ModModularAdds.Ev.pos (decide_eq_true h) (ModModularAdds.Ev.bindc (sub_val mo a b ha' hb') (ModModularAdds.Ev.pos rfl ?_))
    refine ModModularAdds.Ev.bindc (add_val mo a b ha' hb') (ModModularAdds.Ev.bindc (radd_val mo a b ha' hb') (ModModularAdds.Ev.pos rfl (ModModularAdds.Ev.pos r.2 ?_)))
    refine ModModularAdds.Ev.bindc (radd_val mo _ b r.1 hb') (ModModularAdds.Ev.neg (by omega) (ModModularAdds.Ev.val ?_))
    rw [tmod_pos ha', beq_iff_eq, Int.emod_add_emod]
    congr 1
    omega
  · have hbad : m < 2 ∨ 4611686018427387904 < m := by omega
    refine ModModularAdds.Ev.neg (by rw [decide_eq_false h]; simp) (ModModularAdds.Ev.pos rfl (ModModularAdds.Ev.bindc (show modular_Add.f m a b = some 0 by unfold modular_Add.f; rw [no_bad hbad]; rfl) (ModModularAdds.Ev.pos rfl ?_)))
    exact ModModularAdds.Ev.bindc (show modular_Sub.f m a b = some 0 by unfold modular_Sub.f; rw [no_bad hbad]; rfl) (ModModularAdds.Ev.val rfl)
end Go.Proofs.Ytempibbfdojfiab.Pure
