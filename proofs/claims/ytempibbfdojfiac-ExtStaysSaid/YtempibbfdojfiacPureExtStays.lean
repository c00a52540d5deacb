/- For every element and all bytes, obollaw02.ExtStays returns true. No conditions. -/
import Derived.Test.YtempibbfdojfiacLCodeExtStays
set_option linter.unusedVariables false
namespace Go.Proofs.Ytempibbfdojfiac.Pure
open Go.RowKit Go.Proofs.Ytempibbfdojfiac.PExtStays Go.Proofs.YtempibbfdojfiacW.PrintWords Go.Proofs.YtempibbfdojfiacW.PrintLast Go.Proofs.YtempibbfdojfiacW.PrintMore Go.Proofs.Ytempibbfdojfiac.Nm Go.Proofs.Ytempibbfdojfiac.ModExtStays

theorem digs_lim (j : Nat) : ∀ n, ∀ x ∈ digs j n, 0 ≤ x ∧ x < 256 := by
  induction j with
  | zero => intro n x hx; cases hx
  | succ j ih =>
    intro n x hx
    rcases List.mem_append.1 (show x ∈ digs j (n / 256) ++ [((n % 256 : Nat) : Int)] from hx) with h | h
    · exact ih _ x h
    · obtain rfl := List.mem_singleton.1 h
      omega
theorem numL_digs (j : Nat) : ∀ n, n < 256 ^ j → numL (digs j n) = n := by
  induction j with
  | zero => intro n h; rw [Nat.pow_zero] at h; show (0 : Int) = n; omega
  | succ j ih =>
    intro n h
    rw [Nat.pow_succ] at h
    show numL (digs j (n / 256) ++ [((n % 256 : Nat) : Int)]) = n
    rw [numL_snoc, ih (n / 256) (by omega)]; omega
/-- What is written the second time, looked at. -/
theorem last (a b : Nat) (ha : a < 18446744073709551616) : Ev (fun k => (ext_Write.f k (a : Int) (b : Int)).bind fun bt => (if bt.2.isNone = true then (if (bt.1.length : Int) = 16 then ((obolref02_Number.f k bt.1).bind fun t => (some (t == (a : Int)))) else (none)) else (some true))) true := by
  by_cases h : a < 1152921505151057923 ∧ b < 1152921505151057923
  · refine (write_good a b h.1 h.2).bind (ModExtStays.Ev.pos rfl (ModExtStays.Ev.pos ?_ ((number_val (digs 8 a ++ digs 8 b) ?_ ?_).bind (ModExtStays.Ev.val ?_))))
    · show ((digs 8 a ++ digs 8 b).length : Int) = 16
      rw [List.length_append, digs_len, digs_len]; rfl
    · intro x hx
      rcases List.mem_append.1 hx with h | h
      · exact digs_lim 8 a x h
      · exact digs_lim 8 b x h
    · rw [List.length_append, digs_len, digs_len]; omega
    · rw [List.take_append_of_le_length (by rw [digs_len]; omega), List.take_of_length_le (by rw [digs_len]; omega), numL_digs 8 a (by omega)]
      exact beq_self_eq_true _
  · exact (write_bad (a : Int) (b : Int) (by omega)).bind (ModExtStays.Ev.neg (by simp) (ModExtStays.Ev.val rfl))
theorem loop1 (a b : Nat) (ha : a < 18446744073709551616) (e : Option Int) (p q : Int) (m : Nat) : ∀ (i : Nat) (ii : Int) (w : List Int), w.length ≤ 1000 → i + m = w.length → ii = i →
    Ev (fun k => obollaw02_ExtStays.l1 k true e true e w ii (a : Int) (b : Int) p q p q) true := by
  induction m with
  | zero =>
    intro i ii w hw hi hii
    have hl := last a b ha
    refine Ev.step (fun k => by rw [obollaw02_ExtStays.l1]) ?_
    rw [beq_self_eq_true, beq_self_eq_true]
    refine ModExtStays.Ev.neg (by omega) ?_
    cases e with
    | none =>
      by_cases h : a < 1152921505151057923 ∧ b < 1152921505151057923
      · have hg := write_good a b h.1 h.2
        refine Ev.congr (fun k => ?_) hl
        simp
      · refine Ev.congr (fun k => ?_) hl
        simp
    | some c =>
      refine Ev.congr (fun k => ?_) hl
      simp
  | succ m ih =>
    intro i ii w hw hi hii
    have hn := ih (i + 1) ((i : Int) + 1) (w.set i ((rd w (i : Int) + 1) % 256)) (by rw [List.length_set]; omega) (by rw [List.length_set]; omega) (by omega)
    refine Ev.step (fun k => by rw [obollaw02_ExtStays.l1]) ?_
    rw [hii, Int.toNat_natCast, show wrap64 ((i : Int) + 1) = (i : Int) + 1 from ModExtStays.wi _ (by omega) (by omega)]
    exact ModExtStays.Ev.pos (by omega) (ModExtStays.Ev.pos (by omega) hn)
theorem loop0 (l : List Int) (hl : ∀ x ∈ l, 0 ≤ x ∧ x < 256) (a b : Nat) (ha : a < 18446744073709551616) (m : Nat) : ∀ (i : Nat) (ii : Int) (w : List Int), w.length ≤ 140737488355328 → i + m = w.length → ii = i →
    Ev (fun k => obollaw02_ExtStays.l0 k l true w (readI l).2.2 true ii (a : Int) (b : Int) (readI l).1 (readI l).2.1) true := by
  induction m with
  | zero =>
    intro i ii w hw hi hii
    refine Ev.step (fun k => by rw [obollaw02_ExtStays.l0]) ?_
    refine ModExtStays.Ev.neg (by omega) ((read_val l hl).bind ?_)
    by_cases h : a < 1152921505151057923 ∧ b < 1152921505151057923
    · exact (write_good a b h.1 h.2).bind (loop1 a b ha _ _ _ 16 0 0 _ (by rw [List.length_append, digs_len, digs_len]; omega) (by rw [List.length_append, digs_len, digs_len]) rfl)
    · exact (write_bad (a : Int) (b : Int) (by omega)).bind (loop1 a b ha _ _ _ 0 0 0 _ (by simp) (by simp) rfl)
  | succ m ih =>
    intro i ii w hw hi hii
    have hn := ih (i + 1) ((i : Int) + 1) (w.set i ((rd w (i : Int) + 1) % 256)) (by rw [List.length_set]; omega) (by rw [List.length_set]; omega) (by omega)
    refine Ev.step (fun k => by rw [obollaw02_ExtStays.l0]) ?_
    rw [hii, Int.toNat_natCast, show wrap64 ((i : Int) + 1) = (i : Int) + 1 from ModExtStays.wi _ (by omega) (by omega)]
    exact ModExtStays.Ev.pos (by omega) (ModExtStays.Ev.pos (by omega) hn)
theorem ExtStays : obollaw02_ExtStays.Pure := by
  intro a b l wa wb hlen hsz wl
  apply Ev.rounds
  have ha := (bd64 wa).1
  have hb := (bd64 wb).1
  have ha2 := (bd64 wa).2
  have hl := z8 wl
  obtain ⟨a', rfl⟩ := Int.eq_ofNat_of_zero_le ha
  obtain ⟨b', rfl⟩ := Int.eq_ofNat_of_zero_le hb
  unfold obollaw02_ExtStays.f
  refine up_val.bind (ModExtStays.Ev.bindc rfl (ModExtStays.Ev.pos (by simp only [List.length_nil]; omega) (ModExtStays.Ev.bindc rfl ?_)))
  rw [List.nil_append, beq_self_eq_true]
  exact (read_val l hl).bind (loop0 l hl a' b' (by omega) l.length 0 0 l (by omega) (by omega) rfl)
end Go.Proofs.Ytempibbfdojfiac.Pure
