/- A struct of two whole numbers and a slice of whole numbers that comes in: opened. -/
import Derived.WalkKit
import Derived.ProofKit
import Derived.OpenShut
import Derived.ChangeSame
import Derived.SizedLaws
import Derived.Test.YtempibbfdojfiaaWSized
namespace Go.Proofs.Ytempibbfdojfiaa.Tree3
open Go.ChangeShapes Go.WideShapes
variable {H : Type} {enc : TypeId × Value → H} {P : Program} {w : World} {base : Nat} {held : Bool}

theorem okWide_struct {fs : Array Field} {t : TypeId} {r : Reach} {b0 : Nat} {v : Value} (ht : P.underlying t = some (.struct fs)) (h : Value.okWide P w r b0 t v) : ∃ cs, v = .agg cs ∧ cs.size = P.cellsOf t := by
  simp only [Value.okWide, ht] at h
  obtain ⟨cs, h1, h2, _⟩ := h
  exact ⟨cs, h1, h2⟩
theorem open_tree {r : Reach} {b0 : Nat} {t e : TypeId} {f0 f1 f2 : Field} {k : IntKind} {v : Value} {d : DataW H} {ps : List MemPlace} {ts : List TypeId} {ds : List (DataW H)} {j B : Nat}
    (ht : P.underlying t = some (.struct #[f0, f1, f2])) (h0 : P.underlying f0.type = some (.int .i64)) (h1 : P.underlying f1.type = some (.int .i64)) (h2 : P.underlying f2.type = some (.slice e)) (he : P.underlying e = some (.int k)) (hce : P.cellsOf e = 1)
    (hct : P.cellsOf t = 3) (o0 : f0.offset = 0) (o1 : f1.offset = 1) (o2 : f2.offset = 2) (c0 : P.cellsOf f0.type = 1) (c1 : P.cellsOf f1.type = 1) (c2 : P.cellsOf f2.type = 1)
    (hval : Value.okWide P w r b0 t v) (hd : DataW.Trod enc P w base (fun _ => true) held t v d ps)
    (hsz : (DataW.weightsEach P ts ds).all (· ≤ reachBytes) = true) (hts : ts[j]? = some t) (hds : ds[j]? = some d) (hB : P.bytesOf e = B) :
    ∃ x0 x1 A len cap zs, v = .agg #[.int .i64 x0, .int .i64 x1, .slice A len cap] ∧ (Lit.int .i64 x0).wf = true ∧ (Lit.int .i64 x1).wf = true ∧
      ((A = none ∧ len = 0 ∧ cap = 0 ∧ zs = []) ∨ ∃ x, A = some x ∧ len ≤ cap ∧ cap ≤ maxLen ∧ zs.length = cap ∧ (∀ i, i < zs.length → w.cell? (x.add i) = some (.int k (zs.getD i 0))) ∧ ∀ n ∈ zs, (Lit.int k n).wf = true) ∧ len * B ≤ 140737488351232 := by
  obtain ⟨cs, rfl, hs0⟩ := okWide_struct ht hval
  rw [hct] at hs0
  obtain ⟨l⟩ := cs
  match l, hs0 with
  | [u0, u1, u2], _ =>
    obtain ⟨fuel, hf⟩ := hd
    obtain ⟨xs, n, _, hx, _, hlen, hff⟩ := DataW.trod_struct ht hf
    match xs, hlen with
    | [y0, y1, y2], _ =>
      have g0 := hff 0 f0 rfl
      have g1 := hff 1 f1 rfl
      have g2 := hff 2 f2 rfl
      rw [o0, c0] at g0
      rw [o1, c1] at g1
      rw [o2, c2] at g2
      simp [Value.cells] at g0 g1 g2
      obtain ⟨x0, e0, _, w0⟩ := DataW.trod_int h0 g0
      obtain ⟨x1, e1, _, w1⟩ := DataW.trod_int h1 g1
      simp at e0 e1
      subst e0 e1
      simp only [Prod.mk.injEq] at hx
      obtain ⟨rfl, -⟩ := hx
      have hw : (DataW.weightsEach P [f0.type, f1.type, f2.type] [y0.1, y1.1, y2.1]).all (· ≤ reachBytes) = true :=
        List.all_eq_true.2 (fun x hx => List.all_eq_true.1 hsz x (DataW.weights_mem_each hts hds x (by
          simp only [DataW.weights, ht]
          exact hx)))
      rcases open_ints h2 he hce g2 with ⟨hcs, hy⟩ | ⟨x, l, c, zs, hcs, _, hl, hm, hz, _, hcell, hwz⟩
      · simp at hcs
        subst hcs
        exact ⟨x0, x1, none, 0, 0, [], rfl, w0, w1, .inl ⟨rfl, rfl, rfl, rfl⟩, by omega⟩
      · simp at hcs
        subst hcs
        have hT : DataW.Trod enc P w base (fun _ => true) held f2.type (.slice (some x) l c) y2.1 y2.2 := ⟨n, by simpa [Value.cells] using g2⟩
        exact ⟨x0, x1, _, l, c, zs, rfl, w0, w1, .inr ⟨_, rfl, hl, hm, by simpa using hz, hcell, hwz⟩, Go.Proofs.YtempibbfdojfiaaW.PrintWords.sized_ints hw (j := 2) (t := f2.type) rfl rfl h2 he hce hB hT⟩
end Go.Proofs.Ytempibbfdojfiaa.Tree3
