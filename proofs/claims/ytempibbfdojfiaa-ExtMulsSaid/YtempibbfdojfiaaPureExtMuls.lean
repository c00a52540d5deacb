/- For every two elements, obollaw02.ExtMuls returns true: Mul is the product in the field of P^2 elements. No conditions. -/
import Derived.Test.YtempibbfdojfiaaLExtExtMuls
set_option linter.unusedVariables false
namespace Go.Proofs.Ytempibbfdojfiaa.Pure
open Go.RowKit Go.Proofs.Ytempibbfdojfiaa.PExtMuls Go.Proofs.YtempibbfdojfiaaW.PrintWords Go.Proofs.YtempibbfdojfiaaW.PrintLast Go.Proofs.YtempibbfdojfiaaW.PrintMore Go.Proofs.Ytempibbfdojfiaa.Nm Go.Proofs.Ytempibbfdojfiaa.ModExtMuls

theorem ExtMuls : obollaw02_ExtMuls.Pure := by
  intro a b c d ha hb hc hd
  apply Ev.rounds
  have ha' := (bd64 ha).1
  have hb' := (bd64 hb).1
  have hc' := (bd64 hc).1
  have hd' := (bd64 hd).1
  unfold obollaw02_ExtMuls.f
  refine up_val.bind (ModExtMuls.Ev.pos rfl ((emul a b c d ha' hb' hc' hd').bind ((remul a b c d ha' hb' hc' hd').bind (ModExtMuls.Ev.val ?_))))
  rw [beq_self_eq_true, beq_self_eq_true]; rfl
end Go.Proofs.Ytempibbfdojfiaa.Pure
