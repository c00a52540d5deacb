/- For every number, obollaw01.ModularRoots returns true: Root is a root modulo R that isn't above R / 2, or tells that there is none. No conditions. -/
import Derived.Test.YtempibbfdojfiabLRootModularRoots
set_option linter.unusedVariables false
namespace Go.Proofs.Ytempibbfdojfiab.Pure
open Go.RowKit Go.Proofs.Ytempibbfdojfiab.PModularRoots Go.Proofs.YtempibbfdojfiabW.PrintWords Go.Proofs.YtempibbfdojfiabW.PrintLast Go.Proofs.YtempibbfdojfiabW.PrintMore Go.Proofs.Ytempibbfdojfiab.Nm Go.Proofs.Ytempibbfdojfiab.ModModularRoots

theorem ModularRoots : obollaw01_ModularRoots.Pure := by
  intro a ha
  apply Ev.rounds
  have ha' := (bd64 ha).1
  unfold obollaw01_ModularRoots.f
  obtain ⟨r, hr, hev⟩ := rootm_val a ha'
  refine up_val.bind (hev.bind ?_)
  have hsq : ∀ b : Bool, ((z a : F) = 0 → b = true) → ((z a : F) ≠ 0 → b = decide ((z a : F) ^ 144115188143882240 = 1)) → Ev (fun k => obolref01_Square.f k a) b := by
    intro b h1 h2
    unfold obolref01_Square.f
    rw [tmod_pos ha', ← uz]
    by_cases h0 : (z a : F) = 0
    · exact ModModularRoots.Ev.pos (by rw [h0]; rfl) (ModModularRoots.Ev.val (h1 h0).symm)
    · have hn0 : ¬ u (z a : F) = 0 := fun h => h0 (u_inj (by rw [h]; rfl))
      have hp := rpow_val moR a ((144115188143882240 : Nat) : Int) ha' (by omega) (by omega)
      rw [powF, Int.toNat_natCast] at hp
      refine ModModularRoots.Ev.neg hn0 (Ev.bind hp (ModModularRoots.Ev.val ?_))
      rw [h2 h0]
      generalize (z a : F) ^ 144115188143882240 = s
      by_cases hs : s = 1
      · rw [decide_eq_true hs, beq_iff_eq]; exact uF_eq_one.2 hs
      · rw [decide_eq_false hs, beq_eq_false_iff_ne]; exact fun h => hs (uF_eq_one.1 h)
  have hfin : ∀ v : F, v * v = z a → ∀ w : Int × Option Int, w = (u v, none) → u v ≤ 144115188143882240 →
      Ev (fun k => if w.2.isNone = true then (if w.1 ≤ 144115188143882240 then ((obolref01_Mul.f k 288230376287764481 w.1 w.1).bind fun t144 => (some (t144 == (Int.tmod a 288230376287764481)))) else (some false)) else (some false)) true := by
    intro v hv w hw hle
    subst hw
    have hm := rmul_val moR (u v) (u v) (uF0 _) (uF0 _)
    rw [mulF, z_u] at hm
    refine ModModularRoots.Ev.pos rfl (ModModularRoots.Ev.pos hle (Ev.bind hm (ModModularRoots.Ev.val ?_)))
    rw [tmod_pos ha', ← uz, hv]
    exact beq_self_eq_true _
  rcases hr with ⟨h0, rfl⟩ | ⟨h0, h1, y, hy, rfl⟩ | ⟨h0, h1, rfl⟩
  · refine (hsq true (fun _ => rfl) (fun h => absurd h0 h)).bind (ModModularRoots.Ev.pos rfl (ModModularRoots.Ev.pos rfl ?_))
    exact hfin 0 (by rw [h0]; exact fmul_zero _) (0, none) rfl (by rw [u_zero]; omega)
  · refine (hsq true (fun _ => rfl) (fun _ => (decide_eq_true h1).symm)).bind (ModModularRoots.Ev.pos rfl (ModModularRoots.Ev.pos rfl ?_))
    have hyn : y ≠ 0 := by
      rintro rfl
      exact h0 (by rw [← hy]; exact fmul_zero _)
    obtain ⟨v, hv, he, hle⟩ := ends_spec y hyn
    exact hfin v (by rw [sq_of v y hv, hy]) _ he hle
  · refine (hsq false (fun h => absurd h h0) (fun _ => (decide_eq_false h1).symm)).bind (ModModularRoots.Ev.neg (by simp) (ModModularRoots.Ev.pos rfl ?_))
    exact ModModularRoots.Ev.neg (by simp) (ModModularRoots.Ev.pos rfl (ModModularRoots.Ev.val rfl))
end Go.Proofs.Ytempibbfdojfiab.Pure
