/- For every two elements, obollaw02.ExtAdds returns true: Add, Sub and Conj are the sum, the difference and the conjugate. No conditions. -/
import Derived.Test.YtempibbfdojfiabLExtExtAdds
set_option linter.unusedVariables false
namespace Go.Proofs.Ytempibbfdojfiab.Pure
open Go.RowKit Go.Proofs.Ytempibbfdojfiab.PExtAdds Go.Proofs.YtempibbfdojfiabW.PrintWords Go.Proofs.YtempibbfdojfiabW.PrintLast Go.Proofs.YtempibbfdojfiabW.PrintMore Go.Proofs.Ytempibbfdojfiab.Nm Go.Proofs.Ytempibbfdojfiab.ModExtAdds

theorem eq_same (x y : G PP) (h : x = y) : ((ug x).1 == (ug y).1 && ((ug x).2 == (ug y).2)) = true := by
  rw [h, beq_self_eq_true, beq_self_eq_true]; rfl
theorem fsub_add (x y : E) : x - y + y = x := by grind
theorem ExtAdds : obollaw02_ExtAdds.Pure := by
  intro a0 a1 b0 b1 wa0 wa1 wb0 wb1
  apply Ev.rounds
  have ha0 := (bd64 wa0).1
  have ha1 := (bd64 wa1).1
  have hb0 := (bd64 wb0).1
  have hb1 := (bd64 wb1).1
  unfold obollaw02_ExtAdds.f
  obtain ⟨d, hd⟩ : ∃ d : G PP, d = ⟨z a0 - z b0, z a1 - z b1⟩ := ⟨_, rfl⟩
  have s1 := esub a0 a1 b0 b1 ha0 ha1 hb0 hb1
  have e1 : (u (z a0 - z b0 : E), u (z a1 - z b1 : E)) = ug d := by rw [hd]; rfl
  rw [e1] at s1
  have k1 := econj a0 a1 ha0 ha1
  have p1 := eadd a0 a1 b0 b1 ha0 ha1 hb0 hb1
  have p2 := readd a0 a1 b0 b1 ha0 ha1 hb0 hb1
  have o1 := rof (ug d).1 (ug d).2 (uE0 _) (uE0 _)
  have p3 := readd (ug d).1 (ug d).2 b0 b1 (uE0 _) (uE0 _) hb0 hb1
  have o2 := rof a0 a1 ha0 ha1
  rw [ge_ug] at o1 p3
  refine up_val.bind (ModExtAdds.Ev.bindc s1 (ModExtAdds.Ev.bindc k1 (ModExtAdds.Ev.pos rfl (ModExtAdds.Ev.bindc p1 (ModExtAdds.Ev.bindc p2 (ModExtAdds.Ev.pos (eq_same _ _ rfl) (ModExtAdds.Ev.bindc o1 (ModExtAdds.Ev.pos (eq_same _ _ rfl) ?_))))))))
  refine ModExtAdds.Ev.bindc p3 (ModExtAdds.Ev.bindc o2 (ModExtAdds.Ev.pos (eq_same _ _ ?_) (ModExtAdds.Ev.pos ?_ (ModExtAdds.Ev.bindc (rneg a1 ha1) (ModExtAdds.Ev.val ?_)))))
  · rw [hd]
    apply G.ext
    · exact fsub_add _ _
    · exact fsub_add _ _
  · rw [tmod_pos ha0, ← uz]; rfl
  · exact beq_self_eq_true _
end Go.Proofs.Ytempibbfdojfiab.Pure
