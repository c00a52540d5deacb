/- For every modulus and number, obollaw01.ModularInverts returns true: Inv is the inverse, or tells that there is none. No conditions. -/
import Derived.Test.YtempibbfdojfiabLRootModularInverts
set_option linter.unusedVariables false
namespace Go.Proofs.Ytempibbfdojfiab.Pure
open Go.RowKit Go.Proofs.Ytempibbfdojfiab.PModularInverts Go.Proofs.YtempibbfdojfiabW.PrintWords Go.Proofs.YtempibbfdojfiabW.PrintLast Go.Proofs.YtempibbfdojfiabW.PrintMore Go.Proofs.Ytempibbfdojfiab.Nm Go.Proofs.Ytempibbfdojfiab.ModModularInverts

theorem ModularInverts : obollaw01_ModularInverts.Pure := by
  intro m a hm ha
  apply Ev.rounds
  have ha' := (bd64 ha).1
  unfold obollaw01_ModularInverts.f
  refine up_val.bind ?_
  by_cases h : 2 ≤ m ∧ m ≤ 4611686018427387904
  · have mo : Mo m := ⟨h.1, h.2⟩
    have ra := mr mo a
    obtain ⟨r, hr, hev⟩ := inv_val mo a ha'
    refine hev.bind (ModModularInverts.Ev.bindc (is_val m) (ModModularInverts.Ev.pos (decide_eq_true h) (ModModularInverts.Ev.neg (by omega) ?_)))
    rw [tmod_pos ha']
    refine (gcd_val m (a % m) (by omega) ra.1).bind ?_
    rcases hr with ⟨hg, v, rfl, hv0, hv1, hv2⟩ | ⟨hg, rfl⟩
    · refine ModModularInverts.Ev.pos (by omega) (ModModularInverts.Ev.pos rfl (ModModularInverts.Ev.pos rfl (ModModularInverts.Ev.pos hv1 ((rmul_val mo v a hv0 ha').bind (ModModularInverts.Ev.val ?_)))))
      rw [hv2, Int.emod_eq_of_lt (by omega) (by omega)]
      rfl
    · exact ModModularInverts.Ev.neg (by omega) (ModModularInverts.Ev.pos rfl (ModModularInverts.Ev.neg (by simp) (ModModularInverts.Ev.pos rfl (ModModularInverts.Ev.val rfl))))
  · refine (inv_bad (by omega) a).bind (ModModularInverts.Ev.bindc (is_val m) (ModModularInverts.Ev.neg (by rw [decide_eq_false h]; simp) ?_))
    exact ModModularInverts.Ev.pos rfl (ModModularInverts.Ev.neg (by simp) (ModModularInverts.Ev.pos rfl (ModModularInverts.Ev.val rfl)))
end Go.Proofs.Ytempibbfdojfiab.Pure
