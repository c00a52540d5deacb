/- For every key and number, obollaw10.CubeBacks returns true: what is turned back is below R, and turned it is the number's rest. No conditions. -/
import Derived.Test.YtempibbfdojfiaaLCubeCubeBacks
set_option linter.unusedVariables false
namespace Go.Proofs.Ytempibbfdojfiaa.Pure
open Go.RowKit Go.Proofs.Ytempibbfdojfiaa.PCubeBacks Go.Proofs.YtempibbfdojfiaaW.PrintWords Go.Proofs.YtempibbfdojfiaaW.PrintLast Go.Proofs.YtempibbfdojfiaaW.PrintMore Go.Proofs.Ytempibbfdojfiaa.Nm Go.Proofs.Ytempibbfdojfiaa.ModCubeBacks

theorem CubeBacks : obollaw10_CubeBacks.Pure := by
  intro a y ha hy
  apply Ev.rounds
  have ha' := (bd64 ha).1
  have hy' := (bd64 hy).1
  unfold obollaw10_CubeBacks.f
  have hb := rturn_val a (u (backF (z a) (z y))) ha' (uF0 _)
  rw [z_u, turn_back, uz] at hb
  refine up_val.bind ((back_val a y ha' hy').bind (ModCubeBacks.Ev.pos rfl (ModCubeBacks.Ev.pos (uF1 _) (Ev.bind hb (ModCubeBacks.Ev.val ?_)))))
  rw [tmod_pos hy']
  exact beq_self_eq_true _
end Go.Proofs.Ytempibbfdojfiaa.Pure
