/- For every three elements, obollaw02.ExtField returns true: products may be taken in any order and are distributed over sums; to the power of P an element is its conjugate. No conditions. -/
import Derived.Test.YtempibbfdojfiaaLExtExtField
set_option linter.unusedVariables false
namespace Go.Proofs.Ytempibbfdojfiaa.Pure
open Go.RowKit Go.Proofs.Ytempibbfdojfiaa.PExtField Go.Proofs.YtempibbfdojfiaaW.PrintWords Go.Proofs.YtempibbfdojfiaaW.PrintLast Go.Proofs.YtempibbfdojfiaaW.PrintMore Go.Proofs.Ytempibbfdojfiaa.Nm Go.Proofs.Ytempibbfdojfiaa.ModExtField

theorem eq_same (x y : G PP) (h : x = y) : ((ug x).1 == (ug y).1 && ((ug x).2 == (ug y).2)) = true := by
  rw [h, beq_self_eq_true, beq_self_eq_true]; rfl
theorem ExtField : obollaw02_ExtField.Pure := by
  intro a0 a1 b0 b1 c0 c1 wa0 wa1 wb0 wb1 wc0 wc1
  apply Ev.rounds
  have ha0 := (bd64 wa0).1
  have ha1 := (bd64 wa1).1
  have hb0 := (bd64 wb0).1
  have hb1 := (bd64 wb1).1
  have hc0 := (bd64 wc0).1
  have hc1 := (bd64 wc1).1
  unfold obollaw02_ExtField.f
  obtain ⟨a, ha⟩ : ∃ a, a = ge a0 a1 := ⟨_, rfl⟩
  obtain ⟨b, hb⟩ : ∃ b, b = ge b0 b1 := ⟨_, rfl⟩
  obtain ⟨c, hc⟩ : ∃ c, c = ge c0 c1 := ⟨_, rfl⟩
  have m1 := emul a0 a1 b0 b1 ha0 ha1 hb0 hb1
  have m2 := emul (ug (G.mul a b)).1 (ug (G.mul a b)).2 c0 c1 (uE0 _) (uE0 _) hc0 hc1
  have m3 := emul c0 c1 a0 a1 hc0 hc1 ha0 ha1
  have m4 := emul b0 b1 (ug (G.mul c a)).1 (ug (G.mul c a)).2 hb0 hb1 (uE0 _) (uE0 _)
  have s1 := eadd b0 b1 c0 c1 hb0 hb1 hc0 hc1
  have m5 := emul a0 a1 (ug (G.add b c)).1 (ug (G.add b c)).2 ha0 ha1 (uE0 _) (uE0 _)
  have m6 := emul b0 b1 a0 a1 hb0 hb1 ha0 ha1
  have s2 := eadd (ug (G.mul c a)).1 (ug (G.mul c a)).2 (ug (G.mul b a)).1 (ug (G.mul b a)).2 (uE0 _) (uE0 _) (uE0 _) (uE0 _)
  have p1 := epow_open a0 a1 ha0 ha1 PP (by decide)
  have k1 := econj a0 a1 ha0 ha1
  rw [ge_ug] at m2 m4 m5
  rw [ge_ug, ge_ug] at s2
  rw [← ha, ← hb] at m1
  rw [← hc] at m2
  rw [← hc, ← ha] at m3
  rw [← hb] at m4
  rw [← hb, ← hc] at s1
  rw [← ha] at m5
  rw [← hb, ← ha] at m6
  rw [← ha, frobG] at p1
  rw [← ha] at k1
  refine up_val.bind (m1.bind (m2.bind (m3.bind (m4.bind (ModExtField.Ev.bindc s1 (m5.bind (m3.bind (m6.bind (ModExtField.Ev.bindc s2 (ModExtField.Ev.pos rfl ?_))))))))))
  refine ModExtField.Ev.pos (eq_same _ _ ?_) (ModExtField.Ev.pos (eq_same _ _ ?_) (Ev.bind p1 (ModExtField.Ev.bindc k1 (ModExtField.Ev.val (eq_same _ _ rfl)))))
  · rw [G.mul_assoc, G.mul_comm c a, ← G.mul_assoc, ← G.mul_assoc, G.mul_comm a b]
  · rw [G.mul_add, G.add_comm, G.mul_comm a c, G.mul_comm a b]
end Go.Proofs.Ytempibbfdojfiaa.Pure
