/- For every element and all bytes, obollaw02.ExtCodes returns true. No conditions. -/
import Derived.Test.YtempibbfdojfiacLCodeExtCodes
set_option linter.unusedVariables false
namespace Go.Proofs.Ytempibbfdojfiac.Pure
open Go.RowKit Go.Proofs.Ytempibbfdojfiac.PExtCodes Go.Proofs.YtempibbfdojfiacW.PrintWords Go.Proofs.YtempibbfdojfiacW.PrintLast Go.Proofs.YtempibbfdojfiacW.PrintMore Go.Proofs.Ytempibbfdojfiac.Nm Go.Proofs.Ytempibbfdojfiac.ModExtCodes

theorem rest (l : List Int) (hl : ∀ x ∈ l, 0 ≤ x ∧ x < 256) : Ev (fun k => obollaw02_ExtCodes.j0 k l true (readI l).2.2 (readI l).1 (readI l).2.1) true := by
  refine Ev.step (fun k => by rw [obollaw02_ExtCodes.j0]) ?_
  have bad : ∀ h : ¬ (l.length = 16 ∧ numL (l.take 8) < 1152921505151057923 ∧ numL ((l.drop 8).take 8) < 1152921505151057923), Ev (fun k => obollaw02_ExtCodes.j1 k l true (readI l).2.2 false (readI l).1 (readI l).2.1) true := by
    intro h
    have e : readI l = (0, 0, some 3) := if_neg h
    rw [e]
    refine Ev.step (fun k => by rw [obollaw02_ExtCodes.j1]) ?_
    exact ModExtCodes.Ev.neg (by simp) (ModExtCodes.Ev.pos rfl (ModExtCodes.Ev.neg (by simp) (ModExtCodes.Ev.pos rfl (ModExtCodes.Ev.val rfl))))
  by_cases h : l.length = 16
  · have n1 := number_val l hl (by omega)
    have n2 := number_val (l.drop 8) (fun x hx => hl x (List.mem_of_mem_drop hx)) (by rw [List.length_drop]; omega)
    refine ModExtCodes.Ev.pos (by omega) (n1.bind ?_)
    by_cases h1 : numL (l.take 8) < 1152921505151057923
    · refine ModExtCodes.Ev.pos h1 (ModExtCodes.Ev.pos (by omega) (n2.bind ?_))
      by_cases h2 : numL ((l.drop 8).take 8) < 1152921505151057923
      · rw [decide_eq_true h2]
        have e : readI l = (numL (l.take 8), numL ((l.drop 8).take 8), none) := if_pos ⟨h, h1, h2⟩
        rw [e]
        refine Ev.step (fun k => by rw [obollaw02_ExtCodes.j1]) ?_
        exact ModExtCodes.Ev.pos rfl (ModExtCodes.Ev.pos rfl (ModExtCodes.Ev.pos rfl (n1.bind (ModExtCodes.Ev.pos rfl (ModExtCodes.Ev.pos (by omega) (n2.bind (ModExtCodes.Ev.val (beq_self_eq_true _))))))))
      · rw [decide_eq_false h2]
        exact bad (fun hh => h2 hh.2.2)
    · exact ModExtCodes.Ev.neg h1 (bad (fun hh => h1 hh.2.1))
  · exact ModExtCodes.Ev.neg (by omega) (bad (fun hh => h hh.1))
theorem ExtCodes : obollaw02_ExtCodes.Pure := by
  intro a b l wa wb hlen hsz wl
  apply Ev.rounds
  have ha := (bd64 wa).1
  have hb := (bd64 wb).1
  have ha2 := (bd64 wa).2
  have hb2 := (bd64 wb).2
  have hl := z8 wl
  obtain ⟨a', rfl⟩ := Int.eq_ofNat_of_zero_le ha
  obtain ⟨b', rfl⟩ := Int.eq_ofNat_of_zero_le hb
  unfold obollaw02_ExtCodes.f
  refine up_val.bind ?_
  have hof : obolref02_Of.f (a' : Int) (b' : Int) = some ((a' : Int) % 1152921505151057923, (b' : Int) % 1152921505151057923) := by
    unfold obolref02_Of.f
    rw [tmod_pos ha, tmod_pos hb]
  by_cases h : a' < 1152921505151057923 ∧ b' < 1152921505151057923
  · refine (write_good a' b' h.1 h.2).bind ((read_val l hl).bind (ModExtCodes.Ev.bindc hof ?_))
    dsimp only
    rw [show (a' : Int) % 1152921505151057923 = a' by omega, show (b' : Int) % 1152921505151057923 = b' by omega, beq_self_eq_true, beq_self_eq_true]
    refine ModExtCodes.Ev.neg (by simp) (ModExtCodes.Ev.pos rfl ((bytes_val a' (by omega)).bind ((bytes_val b' (by omega)).bind ?_)))
    refine ModExtCodes.Ev.pos (by rw [strOfNums_size, strOfNums_size, digs_len, digs_len]; omega) (ModExtCodes.Ev.pos (by rw [str_append]) (rest l hl))
  · refine (write_bad (a' : Int) (b' : Int) (by omega)).bind ((read_val l hl).bind (ModExtCodes.Ev.bindc hof ?_))
    dsimp only
    refine ModExtCodes.Ev.pos ?_ (ModExtCodes.Ev.neg (by simp) (ModExtCodes.Ev.pos rfl (ModExtCodes.Ev.pos rfl (rest l hl))))
    by_cases h1 : a' < 1152921505151057923
    · rw [show ((b' : Int) == (b' : Int) % 1152921505151057923) = false from beq_eq_false_iff_ne.mpr (by omega), Bool.not_false, Bool.or_true]
    · rw [show ((a' : Int) == (a' : Int) % 1152921505151057923) = false from beq_eq_false_iff_ne.mpr (by omega), Bool.not_false, Bool.true_or]
end Go.Proofs.Ytempibbfdojfiac.Pure
