/- For every leaf, place and path, obollaw16.TreeClimbs returns true. No conditions. -/
import Derived.Test.YtempibbfdojfiacLTreeTreeClimbs
set_option linter.unusedVariables false
namespace Go.Proofs.Ytempibbfdojfiac.Pure
open Go.RowKit Go.Proofs.Ytempibbfdojfiac.PTreeClimbs Go.Proofs.YtempibbfdojfiacW.PrintWords Go.Proofs.YtempibbfdojfiacW.PrintLast Go.Proofs.YtempibbfdojfiacW.PrintMore Go.Proofs.Ytempibbfdojfiac.Nm Go.Proofs.Ytempibbfdojfiac.ModTreeClimbs

theorem TreeClimbs : obollaw16_TreeClimbs.Pure := by
  intro h i l hh hi hlen hsz hl
  apply Ev.rounds
  have hl' := zn hl
  have hh' := (bd64 hh).1
  have hi' := ModTreeClimbs.bdi hi
  unfold obollaw16_TreeClimbs.f
  refine up_val.bind ?_
  by_cases h100 : (l.length : Int) > 100
  · exact ModTreeClimbs.Ev.pos h100 (ModTreeClimbs.Ev.val rfl)
  · refine ModTreeClimbs.Ev.neg h100 (ModTreeClimbs.Ev.pos rfl ?_)
    refine (climb_val h i l hl' (by omega) hh' (by omega)).bind ((rclimb_val h i l hl' (by omega) hh' (by omega)).bind (ModTreeClimbs.Ev.val ?_))
    rw [beq_self_eq_true]
end Go.Proofs.Ytempibbfdojfiac.Pure
