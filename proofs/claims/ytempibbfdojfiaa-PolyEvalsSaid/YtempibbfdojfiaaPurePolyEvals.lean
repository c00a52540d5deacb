/- For every polynomial and every number, obollaw13.PolyEvals returns true: Horner's way and the sum of powers come to one value in the field of R elements. No conditions. -/
import Derived.Test.YtempibbfdojfiaaLPolyPolyEvals
set_option linter.unusedVariables false
namespace Go.Proofs.Ytempibbfdojfiaa.Pure
open Go.RowKit Go.Proofs.Ytempibbfdojfiaa.PPolyEvals Go.Proofs.YtempibbfdojfiaaW.PrintWords Go.Proofs.YtempibbfdojfiaaW.PrintLast Go.Proofs.YtempibbfdojfiaaW.PrintMore Go.Proofs.Ytempibbfdojfiaa.Nm Go.Proofs.Ytempibbfdojfiaa.ModPolyEvals

theorem PolyEvals : obollaw13_PolyEvals.Pure := by
  intro l x hlen _ hl hx
  apply Ev.rounds
  have hl' := zn hl
  have hx' := (bd64 hx).1
  unfold obollaw13_PolyEvals.f
  refine up_val.bind ?_
  by_cases h : (l.length : Int) > 300
  · exact ModPolyEvals.Ev.pos h (ModPolyEvals.Ev.val rfl)
  · refine ModPolyEvals.Ev.neg h (ModPolyEvals.Ev.pos rfl ?_)
    refine (eval_val l x hl' (by omega) hx').bind ((reval_val l x hl' (by omega) hx').bind (ModPolyEvals.Ev.val ?_))
    exact beq_self_eq_true _
end Go.Proofs.Ytempibbfdojfiaa.Pure
