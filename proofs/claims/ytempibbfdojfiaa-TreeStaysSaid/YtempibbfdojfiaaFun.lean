/- A call of a function value that captures nothing, as one step of a walk. -/
import Derived.Test.YtempibbfdojfiaaMine
import Derived.Test.YtempibbfdojfiaaWMore
import Derived.Test.YtempibbfdojfiaaWLast
namespace Go.Proofs.YtempibbfdojfiaaW.PrintMore
open Go.RowKit Go.Proofs.YtempibbfdojfiaaW.PrintWords Go.Proofs.YtempibbfdojfiaaW.PrintLast
variable {P : Program} {ops : Array Oper} {Q : Exit → Act → World → Prop}
theorem gate_calleeV {rest : List Oper} {o : Oper} {a : Act} {W : World} {t : Tmp} {as : Array Operand} {ts : Array TypeId} (_ho : o.op = .call { callee := .value (.tmp t), args := as, argTypes := ts }) (h : wpList P ops Q (o :: rest) a W) : wpList P ops Q (o :: rest) a W := h
theorem goesVL_ {rest : List Oper} {oi : Oper} {a : Act} {w : World} {f : FuncId} (N : Option Tmp) (hd : oi.dst = N) (hg : oi.guard = none) {fn : Func} {t : Tmp} {as : Array Operand} {ts : Array TypeId} (hf : P.funcs[f]? = some fn) (hname : (fn.name == "runtime.NumGoroutine") = false) (hb : fn.body.isSome = true) (args : Array Value)
    (hop : oi.op = .call { callee := .value (.tmp t), args := as, argTypes := ts }) (hargs : as.map a.eval = args)
    (h : Calls P f args w fun e w' => ∃ v, e = .returned v ∧ wpList P ops Q rest (a.put N v) w')
    (hv : a.eval (.tmp t) = .func (.func f) #[] #[] := by rfl) : wpList P ops Q (oi :: rest) a w := by
  refine wpList_plain hg fun K hK => ?_
  have he := enters_ hf hname hb args w
  have hrun : (execOp a.eval oi).run P w = .ok (.enter f args) w := by
    unfold execOp
    simp [hop, resolve, Deferred.ofValue, invoke, hv, hargs, he]
  unfold Oper.wp
  rw [hrun, Oper.upon_enter]
  refine h.mono fun e w'' hh => ?_
  obtain ⟨v, rfl, hk⟩ := hh
  subst hd
  exact hK _ _ hk
/-- Rows of elements of two types lie in two blocks. -/
theorem typed_ne {W : World} {u v : Value} {e e' : Nat} (hu : ∀ k, u.ownBlock = some k → ∃ cells, W.heap[k]? = some (.cells cells e (0, 0))) (hv : ∀ k, v.ownBlock = some k → ∃ cells, W.heap[k]? = some (.cells cells e' (0, 0))) (hne : e ≠ e') {b : Nat} (hb : u.ownBlock = some b) : some b ≠ v.ownBlock := by
  intro h
  obtain ⟨c, h1⟩ := hu b hb
  obtain ⟨c', h2⟩ := hv b h.symm
  rw [h1] at h2
  injection h2 with h2
  injection h2 with _ h3
  exact hne h3
end Go.Proofs.YtempibbfdojfiaaW.PrintMore
