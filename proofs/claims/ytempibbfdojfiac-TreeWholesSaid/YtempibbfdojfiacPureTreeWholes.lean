/- For every list of leaves and every depth, obollaw16.TreeWholes returns true. No conditions. -/
import Derived.Test.YtempibbfdojfiacLRowsTreeWholes
set_option linter.unusedVariables false
namespace Go.Proofs.Ytempibbfdojfiac.Pure
open Go.RowKit Go.Proofs.Ytempibbfdojfiac.PTreeWholes Go.Proofs.YtempibbfdojfiacW.PrintWords Go.Proofs.YtempibbfdojfiacW.PrintLast Go.Proofs.YtempibbfdojfiacW.PrintMore Go.Proofs.Ytempibbfdojfiac.Nm Go.Proofs.Ytempibbfdojfiac.ModTreeWholes

theorem TreeWholes : obollaw16_TreeWholes.Pure := by
  intro l d hlen hsz hl hd
  apply Ev.rounds
  have hl' := zn hl
  have hn : l.length ≤ 17592186044416 := by omega
  unfold obollaw16_TreeWholes.f
  refine up_val.bind ?_
  by_cases h60 : (l.length : Int) > 60
  · exact ModTreeWholes.Ev.pos h60 (ModTreeWholes.Ev.val rfl)
  refine ModTreeWholes.Ev.neg h60 ?_
  rcases good_or l d with hg | ⟨c, hc⟩
  · obtain ⟨d', rfl⟩ := Int.eq_ofNat_of_zero_le (show 0 ≤ d by have := hg.1; omega)
    have hm := may_good l hn _ hg
    have hw := whole_good l d' hn hl' hg
    have hr := rat_val l (okl_of hl' hg.2.2.1) hn d' 0 0 (by have := hg.2.1; omega) rfl (by omega)
    refine hw.bind (hm.bind (ModTreeWholes.Ev.pos rfl (ModTreeWholes.Ev.pos rfl (ModTreeWholes.Ev.pos rfl (hr.bind (ModTreeWholes.Ev.val ?_))))))
    exact beq_self_eq_true _
  · have hm := may_amiss l hn d c hc
    have hw := whole_bad l d c hn hc
    have hcc : c = 1 ∨ c = 11 := by rcases hc with h | h <;> omega
    refine hw.bind (hm.bind ?_)
    rcases hcc with rfl | rfl
    · exact ModTreeWholes.Ev.neg (by omega) (ModTreeWholes.Ev.pos rfl ((code_val 1 (by omega) (by omega)).bind (ModTreeWholes.Ev.pos rfl (ModTreeWholes.Ev.val rfl))))
    · exact ModTreeWholes.Ev.neg (by omega) (ModTreeWholes.Ev.pos rfl ((code_val 11 (by omega) (by omega)).bind (ModTreeWholes.Ev.pos rfl (ModTreeWholes.Ev.val rfl))))
end Go.Proofs.Ytempibbfdojfiac.Pure
