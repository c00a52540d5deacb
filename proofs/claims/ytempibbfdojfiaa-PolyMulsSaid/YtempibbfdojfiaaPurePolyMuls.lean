/- For every two polynomials, obollaw13.PolyMuls returns true: the product is the document's, short. No conditions. -/
import Derived.Test.YtempibbfdojfiaaLMulPolyMuls
set_option linter.unusedVariables false
namespace Go.Proofs.Ytempibbfdojfiaa.Pure
open Go.RowKit Go.Proofs.Ytempibbfdojfiaa.PPolyMuls Go.Proofs.YtempibbfdojfiaaW.PrintWords Go.Proofs.YtempibbfdojfiaaW.PrintLast Go.Proofs.YtempibbfdojfiaaW.PrintMore Go.Proofs.Ytempibbfdojfiaa.Nm Go.Proofs.Ytempibbfdojfiaa.ModPolyMuls

theorem sh_le (l : List Int) (n : Nat) : (sh l n).length ≤ n := by
  induction n with
  | zero => exact Nat.le_refl _
  | succ n ih =>
    simp only [sh]
    by_cases h : rd l (n : Int) = 0
    · rw [if_pos h]; omega
    · rw [if_neg h, List.length_take]; omega
theorem PolyMuls : obollaw13_PolyMuls.Pure := by
  intro p q hplen _ hp hqlen _ hq
  apply Ev.rounds
  have hp' := zn hp
  have hq' := zn hq
  unfold obollaw13_PolyMuls.f
  refine up_val.bind ?_
  have skip : Ev (fun k => obollaw13_PolyMuls.j0 k p q true true) true := by
    refine Ev.step (fun k => by rw [obollaw13_PolyMuls.j0]) ?_
    exact ModPolyMuls.Ev.pos rfl (ModPolyMuls.Ev.val rfl)
  by_cases h : (p.length : Int) > 60
  · exact ModPolyMuls.Ev.pos h skip
  · refine ModPolyMuls.Ev.neg h ?_
    by_cases h2 : (q.length : Int) > 60
    · rw [decide_eq_true h2]; exact skip
    · rw [decide_eq_false h2]
      refine Ev.step (fun k => by rw [obollaw13_PolyMuls.j0]) ?_
      refine ModPolyMuls.Ev.neg (by simp) (ModPolyMuls.Ev.pos rfl ?_)
      refine (pmul_val p q hp' hq' (by omega) (by omega)).bind ((rpmul_val p q hp' hq' (by omega) (by omega)).bind ?_)
      have hle := sh_le (ml (p.length + q.length) (cf p q)) (p.length + q.length)
      exact ModPolyMuls.Ev.tail (same_val _ _ (by omega) rfl)
end Go.Proofs.Ytempibbfdojfiaa.Pure
