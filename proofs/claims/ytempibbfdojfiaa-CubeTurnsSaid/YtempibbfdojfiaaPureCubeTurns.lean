/- For every key and number, obollaw10.CubeTurns returns true: turned as the document defines, and turned back it is the number's rest. No conditions. -/
import Derived.Test.YtempibbfdojfiaaLCubeCubeTurns
set_option linter.unusedVariables false
namespace Go.Proofs.Ytempibbfdojfiaa.Pure
open Go.RowKit Go.Proofs.Ytempibbfdojfiaa.PCubeTurns Go.Proofs.YtempibbfdojfiaaW.PrintWords Go.Proofs.YtempibbfdojfiaaW.PrintLast Go.Proofs.YtempibbfdojfiaaW.PrintMore Go.Proofs.Ytempibbfdojfiaa.Nm Go.Proofs.Ytempibbfdojfiaa.ModCubeTurns

theorem CubeTurns : obollaw10_CubeTurns.Pure := by
  intro a x ha hx
  apply Ev.rounds
  have ha' := (bd64 ha).1
  have hx' := (bd64 hx).1
  unfold obollaw10_CubeTurns.f
  have hb := back_val a (u (turnF (z a) (z x))) ha' (uF0 _)
  rw [z_u, back_turn, uz] at hb
  refine up_val.bind ((turn_val a x ha' hx').bind (ModCubeTurns.Ev.pos rfl ((rturn_val a x ha' hx').bind (ModCubeTurns.Ev.pos rfl (Ev.bind hb (ModCubeTurns.Ev.val ?_))))))
  rw [tmod_pos hx']
  exact beq_self_eq_true _
end Go.Proofs.Ytempibbfdojfiaa.Pure
