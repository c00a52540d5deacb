/- For every element and exponent, obollaw02.ExtPows returns true: Pow is the power in the field of P^2 elements. No conditions. -/
import Derived.Test.YtempibbfdojfiaaLExtExtPows
set_option linter.unusedVariables false
namespace Go.Proofs.Ytempibbfdojfiaa.Pure
open Go.RowKit Go.Proofs.Ytempibbfdojfiaa.PExtPows Go.Proofs.YtempibbfdojfiaaW.PrintWords Go.Proofs.YtempibbfdojfiaaW.PrintLast Go.Proofs.YtempibbfdojfiaaW.PrintMore Go.Proofs.Ytempibbfdojfiaa.Nm Go.Proofs.Ytempibbfdojfiaa.ModExtPows

theorem ExtPows : obollaw02_ExtPows.Pure := by
  intro a b e ha hb he
  apply Ev.rounds
  have ha' := (bd64 ha).1
  have hb' := (bd64 hb).1
  have he' := bd64 he
  unfold obollaw02_ExtPows.f
  have h1 := epow_open a b ha' hb' e.toNat (by omega)
  rw [Int.toNat_of_nonneg he'.1] at h1
  refine up_val.bind (ModExtPows.Ev.pos rfl (h1.bind ((repow a b e ha' hb' he'.1 (by omega)).bind (ModExtPows.Ev.val ?_))))
  rw [beq_self_eq_true, beq_self_eq_true]; rfl
end Go.Proofs.Ytempibbfdojfiaa.Pure
