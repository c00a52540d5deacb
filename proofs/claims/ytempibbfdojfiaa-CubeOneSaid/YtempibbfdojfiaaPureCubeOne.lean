/- For every key and two numbers, obollaw10.CubeOne returns true: by one key no two numbers are turned to one; each number is the cube of just one. No conditions. -/
import Derived.Test.YtempibbfdojfiaaLCubeCubeOne
set_option linter.unusedVariables false
namespace Go.Proofs.Ytempibbfdojfiaa.Pure
open Go.RowKit Go.Proofs.Ytempibbfdojfiaa.PCubeOne Go.Proofs.YtempibbfdojfiaaW.PrintWords Go.Proofs.YtempibbfdojfiaaW.PrintLast Go.Proofs.YtempibbfdojfiaaW.PrintMore Go.Proofs.Ytempibbfdojfiaa.Nm Go.Proofs.Ytempibbfdojfiaa.ModCubeOne

theorem CubeOne : obollaw10_CubeOne.Pure := by
  intro a x y ha hx hy
  apply Ev.rounds
  have ha' := (bd64 ha).1
  have hx' := (bd64 hx).1
  have hy' := (bd64 hy).1
  unfold obollaw10_CubeOne.f
  have h3 : Ev (fun k => obolref10_Third.f k x) (u (rt (z x))) := by
    unfold obolref10_Third.f rt
    have h := rpow_val moR x 192153584191842987 hx' (by omega) (by omega)
    rw [powF] at h
    exact ModCubeOne.Ev.tail h
  refine up_val.bind (h3.bind (ModCubeOne.Ev.pos rfl ((turn_val a x ha' hx').bind ((turn_val a y ha' hy').bind ?_))))
  have h1 := rmul (u (rt (z x))) (u (rt (z x))) (uF0 _) (uF0 _)
  have h2 := rmul (u (rt (z x))) (u ((z (u (rt (z x))) : F) * z (u (rt (z x))))) (uF0 _) (uF0 _)
  refine ModCubeOne.Ev.pos ?_ (h1.bind (h2.bind (ModCubeOne.Ev.val ?_)))
  · rw [tmod_pos hx', tmod_pos hy', beq_iff_eq, Bool.eq_iff_iff, beq_iff_eq, beq_iff_eq]
    rw [← uz, ← uz]
    constructor
    · intro h; rw [turn_inj (u_inj h)]
    · intro h; rw [u_inj h]
  · rw [tmod_pos hx', ← uz, beq_iff_eq]
    refine congrArg u ?_
    rw [z_u, z_u]
    have e : rt (z x) * (rt (z x) * rt (z x)) = rt (z x) ^ 3 := by
      generalize rt (z x) = s
      grind
    rw [e, cube_root]
end Go.Proofs.Ytempibbfdojfiaa.Pure
