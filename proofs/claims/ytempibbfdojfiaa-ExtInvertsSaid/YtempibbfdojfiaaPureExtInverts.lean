/- For every element, obollaw02.ExtInverts returns true: Inv is the inverse, of 0 it is 0. No conditions. -/
import Derived.Test.YtempibbfdojfiaaLExtExtInverts
set_option linter.unusedVariables false
namespace Go.Proofs.Ytempibbfdojfiaa.Pure
open Go.RowKit Go.Proofs.Ytempibbfdojfiaa.PExtInverts Go.Proofs.YtempibbfdojfiaaW.PrintWords Go.Proofs.YtempibbfdojfiaaW.PrintLast Go.Proofs.YtempibbfdojfiaaW.PrintMore Go.Proofs.Ytempibbfdojfiaa.Nm Go.Proofs.Ytempibbfdojfiaa.ModExtInverts

theorem ug_zero_iff (x : G PP) : ((ug x).1 == 0 && ((ug x).2 == 0)) = true ↔ x = G.zero := by
  rw [Bool.and_eq_true, beq_iff_eq, beq_iff_eq]
  constructor
  · rintro ⟨h1, h2⟩
    apply G.ext
    · exact u_inj h1
    · exact u_inj h2
  · rintro rfl
    exact ⟨rfl, rfl⟩
theorem ExtInverts : obollaw02_ExtInverts.Pure := by
  intro a b ha hb
  apply Ev.rounds
  have ha' := (bd64 ha).1
  have hb' := (bd64 hb).1
  unfold obollaw02_ExtInverts.f
  refine up_val.bind ((einv a b ha' hb').bind (ModExtInverts.Ev.bindc (rof a b ha' hb') ?_))
  by_cases h : ge a b = G.zero
  · refine ModExtInverts.Ev.pos ((ug_zero_iff _).2 h) (ModExtInverts.Ev.pos rfl (ModExtInverts.Ev.val ?_))
    rw [h, inv_zero]
    exact (ug_zero_iff _).2 rfl
  · refine ModExtInverts.Ev.neg (fun hc => h ((ug_zero_iff _).1 hc)) (ModExtInverts.Ev.pos rfl (ModExtInverts.Ev.bindc (rof _ _ (uE0 _) (uE0 _)) ?_))
    rw [ge_ug]
    have hm := remul (ug (invG (ge a b))).1 (ug (invG (ge a b))).2 a b (uE0 _) (uE0 _) ha' hb'
    rw [ge_ug, inv_law _ h, ug_one] at hm
    refine ModExtInverts.Ev.pos ?_ (Ev.bind hm (ModExtInverts.Ev.val rfl))
    rw [beq_self_eq_true, beq_self_eq_true]; rfl
end Go.Proofs.Ytempibbfdojfiaa.Pure
