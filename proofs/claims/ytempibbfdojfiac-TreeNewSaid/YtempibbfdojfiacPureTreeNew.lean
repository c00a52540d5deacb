/- For every depth and tree, obollaw16.TreeNew returns true. No conditions. -/
import Derived.Test.YtempibbfdojfiacLSndTreeNew
set_option linter.unusedVariables false
namespace Go.Proofs.Ytempibbfdojfiac.Pure
open Go.RowKit Go.Proofs.Ytempibbfdojfiac.PTreeNew Go.Proofs.YtempibbfdojfiacW.PrintWords Go.Proofs.YtempibbfdojfiacW.PrintLast Go.Proofs.YtempibbfdojfiacW.PrintMore Go.Proofs.Ytempibbfdojfiac.Nm Go.Proofs.Ytempibbfdojfiac.ModTreeNew

theorem j1_val (x : Int) (a b : Int) (f : List Int) (e : Option Int) (h : tree_New.f x = some (a, b, f, e)) : Ev (fun k => obollaw16_TreeNew.j1 k x true e false a b f) true := by
  refine Ev.step (fun k => by rw [obollaw16_TreeNew.j1]) ?_
  refine ModTreeNew.Ev.neg (by simp) ?_
  by_cases hbad : x < 1 ∨ 16 < x
  · rw [new_bad x hbad] at h
    simp only [Option.some.injEq, Prod.mk.injEq] at h
    obtain ⟨rfl, rfl, rfl, rfl⟩ := h
    have hj : Ev (fun k => obollaw16_TreeNew.j2 k x true (some 1) true 0 0 []) true := by
      refine Ev.step (fun k => by rw [obollaw16_TreeNew.j2]) ?_
      exact ModTreeNew.Ev.pos rfl (ModTreeNew.Ev.pos rfl (ModTreeNew.Ev.neg (by simp) (ModTreeNew.Ev.pos rfl (ModTreeNew.Ev.tail (tsame_val 0 0 [] [] (by simp) rfl)))))
    by_cases h1 : x < 1
    · exact ModTreeNew.Ev.pos h1 hj
    · refine ModTreeNew.Ev.neg h1 ?_
      rw [decide_eq_true (by omega)]
      exact hj
  · rw [new_ok x (by omega) (by omega)] at h
    simp only [Option.some.injEq, Prod.mk.injEq] at h
    obtain ⟨rfl, rfl, rfl, rfl⟩ := h
    refine ModTreeNew.Ev.neg (by omega) ?_
    rw [decide_eq_false (by omega)]
    refine Ev.step (fun k => by rw [obollaw16_TreeNew.j2]) ?_
    rw [show wrap64 (x + 1) = x + 1 from wi _ (by omega) (by omega)]
    refine ModTreeNew.Ev.neg (by simp) (ModTreeNew.Ev.pos rfl (ModTreeNew.Ev.pos rfl (ModTreeNew.Ev.pos (by omega) (ModTreeNew.Ev.pos (by omega) ?_))))
    exact ModTreeNew.Ev.tail (tsame_val x 0 _ _ (by rw [List.length_replicate]; omega) rfl)
theorem TreeNew : obollaw16_TreeNew.Pure := by
  intro x d c f hx hd hc hlen hsz hf
  apply Ev.rounds
  unfold obollaw16_TreeNew.f
  refine up_val.bind ?_
  obtain ⟨a, b, g, e, hnew⟩ : ∃ a b g e, tree_New.f x = some (a, b, g, e) := by
    by_cases hbad : x < 1 ∨ 16 < x
    · exact ⟨_, _, _, _, new_bad x hbad⟩
    · exact ⟨_, _, _, _, new_ok x (by omega) (by omega)⟩
  refine ModTreeNew.Ev.bindc hnew ?_
  have hj1 := j1_val x a b g e hnew
  by_cases hs : Sound d c f
  · refine (check_sound d c f hs).bind (ModTreeNew.Ev.pos (by have := hs.2.2.2.2.1; have := hs.2.1; omega) ?_)
    refine (rcheck_val d c f true ⟨fun _ => hs, fun _ => rfl⟩).bind ?_
    refine Ev.step (fun k => by rw [obollaw16_TreeNew.j0]) ?_
    exact ModTreeNew.Ev.pos rfl (ModTreeNew.Ev.neg (by simp) (ModTreeNew.Ev.pos rfl hj1))
  · have hj0 : Ev (fun k => obollaw16_TreeNew.j0 k x true e (some 3) false a b g) true := by
      refine Ev.step (fun k => by rw [obollaw16_TreeNew.j0]) ?_
      exact ModTreeNew.Ev.neg (by simp) (ModTreeNew.Ev.neg (by simp) (ModTreeNew.Ev.neg (by simp) hj1))
    refine (check_bad d c f hs).bind ?_
    by_cases h100 : (f.length : Int) ≤ 100
    · exact ModTreeNew.Ev.pos h100 ((rcheck_val d c f false ⟨fun h => (by cases h), fun h => absurd h hs⟩).bind hj0)
    · exact ModTreeNew.Ev.neg h100 hj0
end Go.Proofs.Ytempibbfdojfiac.Pure
