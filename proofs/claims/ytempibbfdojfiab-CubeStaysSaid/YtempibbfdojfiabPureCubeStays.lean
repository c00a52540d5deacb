/- For every list, obollaw10.CubeStays returns true: a list that is handed in stays as it is. No conditions. -/
import Derived.Test.YtempibbfdojfiabLCubeCubeStays
set_option linter.unusedVariables false
namespace Go.Proofs.Ytempibbfdojfiab.Pure
open Go.RowKit Go.Proofs.Ytempibbfdojfiab.PCubeStays Go.Proofs.YtempibbfdojfiabW.PrintWords Go.Proofs.YtempibbfdojfiabW.PrintLast Go.Proofs.YtempibbfdojfiabW.PrintMore Go.Proofs.Ytempibbfdojfiab.Nm Go.Proofs.Ytempibbfdojfiab.ModCubeStays

theorem clash_loop (l h : List Int) (hl : l.length ≤ 100) (hh : h.length = l.length + 1) (n : Nat) : ∀ i : Int, i = n - 1 → n ≤ l.length →
    Ev (fun k => cube_Clash.l0 k l l h h i) (0, 0, 0, 0, some 1) := by
  induction n with
  | zero =>
    intro i hi hn
    refine Ev.step (fun k => by rw [cube_Clash.l0]) ?_
    refine ModCubeStays.Ev.neg (by omega) ?_
    refine Ev.step (fun k => by rw [cube_Clash.j1]) ?_
    exact ModCubeStays.Ev.neg (by simp) (ModCubeStays.Ev.val rfl)
  | succ n ih =>
    intro i hi hn
    refine Ev.step (fun k => by rw [cube_Clash.l0]) ?_
    refine ModCubeStays.Ev.pos (by omega) (ModCubeStays.Ev.pos (by omega) (ModCubeStays.Ev.pos (by omega) (ModCubeStays.Ev.pos (by omega) (ModCubeStays.Ev.pos (by omega) ?_))))
    rw [beq_self_eq_true]
    refine Ev.step (fun k => by rw [cube_Clash.j1]) ?_
    refine ModCubeStays.Ev.pos rfl (ModCubeStays.Ev.pos (by omega) (ModCubeStays.Ev.pos (by omega) (ModCubeStays.Ev.pos (by omega) (ModCubeStays.Ev.pos (by omega) (ModCubeStays.Ev.pos (by omega) (ModCubeStays.Ev.pos rfl (ModCubeStays.Ev.pos rfl ?_)))))))
    rw [show wrap64 (i - 1) = i - 1 from wi _ (by omega) (by omega)]
    exact ih (i - 1) (by omega) (by omega)
theorem stays_loop (l : List Int) (hl : l.length ≤ 100) (r : Int) (hm : Ev (fun k => cube_Many.f k l) r) (d : Nat) : ∀ (n : Nat) (i : Int), n + d = l.length → i = n →
    Ev (fun k => obollaw10_CubeStays.l0 k l true l r i) true := by
  induction d with
  | zero =>
    intro n i hn hi
    refine Ev.step (fun k => by rw [obollaw10_CubeStays.l0]) ?_
    refine ModCubeStays.Ev.neg (by omega) (ModCubeStays.Ev.pos rfl (Ev.bind hm (ModCubeStays.Ev.val ?_)))
    exact beq_self_eq_true _
  | succ d ih =>
    intro n i hn hi
    refine Ev.step (fun k => by rw [obollaw10_CubeStays.l0]) ?_
    refine ModCubeStays.Ev.pos (by omega) (ModCubeStays.Ev.pos (by omega) (ModCubeStays.Ev.pos (by omega) (ModCubeStays.Ev.pos rfl ?_)))
    rw [show wrap64 (i + 1) = i + 1 from wi _ (by omega) (by omega)]
    exact ih (n + 1) (i + 1) (by omega) (by omega)
theorem CubeStays : obollaw10_CubeStays.Pure := by
  intro l hlen hsz hl
  apply Ev.rounds
  have hl' := zn hl
  unfold obollaw10_CubeStays.f
  refine up_val.bind ?_
  by_cases h : (l.length : Int) > 100
  · exact ModCubeStays.Ev.pos h (ModCubeStays.Ev.val rfl)
  · refine ModCubeStays.Ev.neg h (ModCubeStays.Ev.bindc rfl ?_)
    have e : ([] : List Int) ++ l = l := rfl
    have hz : ([] : List Int).length = 0 := rfl
    refine ModCubeStays.Ev.pos (by omega) (ModCubeStays.Ev.bindc rfl ?_)
    rw [e]
    have hm := many_val l hl' (by omega)
    have hc : Ev (fun k => cube_Clash.f k l l) (0, 0, 0, 0, some 1) := by
      unfold cube_Clash.f
      have hh := heads_val l hl' (by omega)
      refine ModCubeStays.Ev.pos rfl (hh.bind (hh.bind ?_))
      exact clash_loop l _ (by omega) (hdl_len _ l _) l.length _ (wi _ (by omega) (by omega)) (Nat.le_refl _)
    exact hm.bind (hc.bind (stays_loop l (by omega) _ hm l.length 0 0 (by omega) rfl))
end Go.Proofs.Ytempibbfdojfiab.Pure
