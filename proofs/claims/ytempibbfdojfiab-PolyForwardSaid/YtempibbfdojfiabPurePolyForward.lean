/- For every polynomial and exponent, obollaw13.PolyForward returns true. No conditions. -/
import Derived.Test.YtempibbfdojfiabLForPolyForward
set_option linter.unusedVariables false
namespace Go.Proofs.Ytempibbfdojfiab.Pure
open Go.RowKit Go.Proofs.Ytempibbfdojfiab.PPolyForward Go.Proofs.YtempibbfdojfiabW.PrintWords Go.Proofs.YtempibbfdojfiabW.PrintLast Go.Proofs.YtempibbfdojfiabW.PrintMore Go.Proofs.Ytempibbfdojfiab.Nm Go.Proofs.Ytempibbfdojfiab.ModPolyForward

theorem PolyForward : obollaw13_PolyForward.Pure := by
  intro l k hlen hsz hl hk
  apply Ev.rounds
  have hl' := zn hl
  unfold obollaw13_PolyForward.f
  refine up_val.bind ?_
  have skip : Ev (fun n => obollaw13_PolyForward.j0 n l k true true) true := by
    refine Ev.step (fun k => by rw [obollaw13_PolyForward.j0]) ?_
    exact ModPolyForward.Ev.pos rfl (ModPolyForward.Ev.val rfl)
  have main : l.length ≤ 100 → Ev (fun n => obollaw13_PolyForward.j0 n l k true false) true := by
    intro h100
    refine Ev.step (fun k => by rw [obollaw13_PolyForward.j0]) ?_
    refine ModPolyForward.Ev.neg (by simp) ?_
    have hbad : Ev (fun n => obollaw13_PolyForward.j1 n l k true [] (some 1) true) true := by
      refine Ev.step (fun k => by rw [obollaw13_PolyForward.j1]) ?_
      exact ModPolyForward.Ev.pos rfl (ModPolyForward.Ev.pos rfl (ModPolyForward.Ev.neg (by simp) (ModPolyForward.Ev.pos rfl (ModPolyForward.Ev.val rfl))))
    by_cases h0 : k < 0
    · exact (forward_bad k l (.inl h0)).bind (ModPolyForward.Ev.pos h0 hbad)
    by_cases h12 : k > 12
    · exact (forward_bad k l (.inr (.inl h12))).bind (ModPolyForward.Ev.neg h0 (ModPolyForward.Ev.pos h12 hbad))
    obtain ⟨n, rfl⟩ := Int.eq_ofNat_of_zero_le (show 0 ≤ k by omega)
    have hn : n ≤ 12 := by omega
    have hle := pow_le n hn
    by_cases hln : l.length ≤ 2 ^ n
    · refine (forward_val n hn l hln hl').bind (ModPolyForward.Ev.neg h0 (ModPolyForward.Ev.neg h12 (ModPolyForward.Ev.pos (by omega) ?_)))
      rw [shl_i n hn, decide_eq_false (by omega)]
      refine Ev.step (fun k => by rw [obollaw13_PolyForward.j1]) ?_
      refine ModPolyForward.Ev.neg (by simp) (ModPolyForward.Ev.pos rfl (ModPolyForward.Ev.pos rfl ((rfor_val n hn l hl' (by omega)).bind ?_)))
      exact ModPolyForward.Ev.tail (same_val _ _ (by rw [ml_len]; omega) rfl)
    · refine (forward_bad (n : Int) l (.inr (.inr ⟨n, rfl, hn, by omega⟩))).bind (ModPolyForward.Ev.neg h0 (ModPolyForward.Ev.neg h12 (ModPolyForward.Ev.pos (by omega) ?_)))
      rw [shl_i n hn, decide_eq_true (by omega)]
      exact hbad
  by_cases h6 : k > 6
  · refine ModPolyForward.Ev.pos h6 ?_
    by_cases h12 : k ≤ 12
    · exact ModPolyForward.Ev.pos h12 skip
    · refine ModPolyForward.Ev.neg h12 ?_
      by_cases h100 : (l.length : Int) > 100
      · rw [decide_eq_true h100]; exact skip
      · rw [decide_eq_false h100]; exact main (by omega)
  · refine ModPolyForward.Ev.neg h6 ?_
    by_cases h100 : (l.length : Int) > 100
    · rw [decide_eq_true h100]; exact skip
    · rw [decide_eq_false h100]; exact main (by omega)
end Go.Proofs.Ytempibbfdojfiab.Pure
