/- For every two numbers and every list, obollaw10.CubeHashes returns true: the hashes are the document's. No conditions. -/
import Derived.Test.YtempibbfdojfiaaLCubeCubeHashes
set_option linter.unusedVariables false
namespace Go.Proofs.Ytempibbfdojfiaa.Pure
open Go.RowKit Go.Proofs.Ytempibbfdojfiaa.PCubeHashes Go.Proofs.YtempibbfdojfiaaW.PrintWords Go.Proofs.YtempibbfdojfiaaW.PrintLast Go.Proofs.YtempibbfdojfiaaW.PrintMore Go.Proofs.Ytempibbfdojfiaa.Nm Go.Proofs.Ytempibbfdojfiaa.ModCubeHashes

theorem CubeHashes : obollaw10_CubeHashes.Pure := by
  intro a b l ha hb hlen hsz hl
  apply Ev.rounds
  have ha' := (bd64 ha).1
  have hb' := (bd64 hb).1
  have hl' := zn hl
  unfold obollaw10_CubeHashes.f
  refine up_val.bind ?_
  by_cases h : (l.length : Int) > 200
  · exact ModCubeHashes.Ev.pos h (ModCubeHashes.Ev.val rfl)
  · refine ModCubeHashes.Ev.neg h (ModCubeHashes.Ev.pos rfl ((two_val a b ha' hb').bind ((rtwo_val a b ha' hb').bind (ModCubeHashes.Ev.pos rfl ((many_val l hl' (by omega)).bind ((rmany_val l hl' (by omega)).bind (ModCubeHashes.Ev.val ?_)))))))
    exact beq_self_eq_true _
end Go.Proofs.Ytempibbfdojfiaa.Pure
