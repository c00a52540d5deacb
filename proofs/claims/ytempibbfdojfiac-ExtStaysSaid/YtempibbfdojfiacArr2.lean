/- An array of two whole numbers that comes in: opened, and shut again. -/
import Derived.WalkKit
import Derived.ProofKit
import Derived.OpenShut
import Derived.ChangeSame
namespace Go.Proofs.Ytempibbfdojfiac.Arr2
open Go.ChangeShapes Go.WideShapes
variable {H : Type} {enc : TypeId × Value → H} {P : Program} {w : World} {base : Nat} {spare : Nat → Bool} {held : Bool}

theorem trod_array2 {t e : TypeId} {fuel : Nat} {c0 c1 : Value} {x : DataW H × List MemPlace} (ht : P.underlying t = some (.array 2 e)) (hce : P.cellsOf e = 1)
    (h : DataW.trod enc P w base spare held fuel t [c0, c1] = some x) :
    ∃ y0 y1 n, x = (.agg [y0.1, y1.1], y0.2 ++ y1.2) ∧ DataW.trod enc P w base spare held n e [c0] = some y0 ∧ DataW.trod enc P w base spare held n e [c1] = some y1 := by
  cases fuel with
  | zero => simp [DataW.trod] at h
  | succ n =>
    unfold DataW.trod at h
    rw [ht] at h
    have r2 : List.range 2 = [0, 1] := rfl
    simp [r2, hce] at h
    obtain ⟨_, h⟩ := h
    cases h0 : DataW.trod enc P w base spare held n e [c0] with
    | none => simp [h0] at h
    | some y0 =>
      cases h1 : DataW.trod enc P w base spare held n e [c1] with
      | none => simp [h0, h1] at h
      | some y1 =>
        simp [h0, h1] at h
        exact ⟨y0, y1, n, h.symm, h0, h1⟩
theorem okWide_array {n : Nat} {e t : TypeId} {r : Reach} {b0 : Nat} {v : Value} (ht : P.underlying t = some (.array n e)) (h : Value.okWide P w r b0 t v) : ∃ cs, v = .agg cs ∧ cs.size = P.cellsOf t := by
  simp only [Value.okWide, ht] at h
  obtain ⟨cs, h1, h2, _⟩ := h
  exact ⟨cs, h1, h2⟩
theorem open_arr2 {r : Reach} {b0 : Nat} {t e : TypeId} {k : IntKind} {v : Value} {d : DataW H} {ps : List MemPlace} (ht : P.underlying t = some (.array 2 e)) (he : P.underlying e = some (.int k))
    (hce : P.cellsOf e = 1) (hct : P.cellsOf t = 2) (hval : Value.okWide P w r b0 t v) (hd : DataW.Trod enc P w base spare held t v d ps) :
    ∃ x0 x1, v = .agg #[.int k x0, .int k x1] ∧ d = .agg [.lit (.int k x0), .lit (.int k x1)] ∧ ps = [] ∧ (Lit.int k x0).wf = true ∧ (Lit.int k x1).wf = true := by
  obtain ⟨cs, rfl, hsz⟩ := okWide_array ht hval
  rw [hct] at hsz
  obtain ⟨l⟩ := cs
  match l, hsz with
  | [c0, c1], _ =>
    obtain ⟨fuel, hf⟩ := hd
    obtain ⟨y0, y1, m, hx, hy0, hy1⟩ := trod_array2 ht hce hf
    obtain ⟨x0, e0, rfl, w0⟩ := DataW.trod_int he hy0
    obtain ⟨x1, e1, rfl, w1⟩ := DataW.trod_int he hy1
    simp at e0 e1
    subst e0 e1
    simp only [Prod.mk.injEq] at hx
    exact ⟨x0, x1, rfl, hx.1, hx.2, w0, w1⟩
theorem shut_arr2 {t e : TypeId} {k : IntKind} {x0 x1 : Int} (ht : P.underlying t = some (.array 2 e)) (he : P.underlying e = some (.int k))
    (hce : P.cellsOf e = 1) (hct : P.cellsOf t = 2) (w0 : (Lit.int k x0).wf = true) (w1 : (Lit.int k x1).wf = true) :
    DataW.Trod enc P w base spare held t (.agg #[.int k x0, .int k x1]) (.agg [.lit (.int k x0), .lit (.int k x1)]) [] :=
  ⟨2, by simp [DataW.trod, Value.cells, ht, he, hct, hce, w0, w1, show List.range 2 = [0, 1] from rfl]⟩
end Go.Proofs.Ytempibbfdojfiac.Arr2
