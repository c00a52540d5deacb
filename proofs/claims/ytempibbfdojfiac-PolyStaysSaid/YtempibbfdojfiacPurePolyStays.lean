/- For every two lists and exponent, obollaw13.PolyStays returns true. No conditions. -/
import Derived.Test.YtempibbfdojfiacLForPolyStays
import Derived.Test.YtempibbfdojfiacLVanPolyStays
set_option linter.unusedVariables false
namespace Go.Proofs.Ytempibbfdojfiac.Pure
open Go.RowKit Go.Proofs.Ytempibbfdojfiac.PPolyStays Go.Proofs.YtempibbfdojfiacW.PrintWords Go.Proofs.YtempibbfdojfiacW.PrintLast Go.Proofs.YtempibbfdojfiacW.PrintMore Go.Proofs.Ytempibbfdojfiac.Nm Go.Proofs.Ytempibbfdojfiac.ModPolyStays

theorem vanish_any (k : Int) (l : List Int) (hl : ∀ x ∈ l, 0 ≤ x ∧ x < 18446744073709551616) (hlen : l.length ≤ 1000000) : ∃ r, Ev (fun n => poly_Vanish.f n l k) r := by
  by_cases h0 : k < 0
  · exact ⟨_, vanish_bad k l (.inl h0)⟩
  by_cases h12 : 12 < k
  · exact ⟨_, vanish_bad k l (.inr h12)⟩
  obtain ⟨n, rfl⟩ := Int.eq_ofNat_of_zero_le (show 0 ≤ k by omega)
  exact ⟨_, vanish_val n (by omega) l hl hlen⟩
theorem law_loop (p q : List Int) (hp : ∀ x ∈ p, 0 ≤ x ∧ x < 18446744073709551616) (hq : ∀ x ∈ q, 0 ≤ x ∧ x < 18446744073709551616) (hpl : p.length ≤ 64) (hql : q.length ≤ 64) (d : Nat) :
    ∀ (m : List Int) (i : Nat) (ii : Int), i + d = m.length → m.length ≤ 1000000 → ii = i → Ev (fun k => obollaw13_PolyStays.l0 k p q true p q m ii) true := by
  induction d with
  | zero =>
    intro m i ii hi hml hii
    refine Ev.step (fun k => by rw [obollaw13_PolyStays.l0]) ?_
    have hle := sh_le (ml (p.length + q.length) (cf p q)) (p.length + q.length)
    refine ModPolyStays.Ev.neg (by omega) (ModPolyStays.Ev.pos rfl ?_)
    refine (same_val p p (by omega) rfl).bind (ModPolyStays.Ev.pos rfl ((same_val q q (by omega) rfl).bind (ModPolyStays.Ev.pos rfl ?_)))
    exact (pmul_val p q hp hq (by omega) (by omega)).bind ((rpmul_val p q hp hq (by omega) (by omega)).bind (ModPolyStays.Ev.tail (same_val _ _ (by omega) rfl)))
  | succ d ih =>
    intro m i ii hi hml hii
    refine Ev.step (fun k => by rw [obollaw13_PolyStays.l0]) ?_
    rw [show wrap64 (ii + 1) = ii + 1 from wi _ (by omega) (by omega)]
    refine ModPolyStays.Ev.pos (by omega) (ModPolyStays.Ev.pos (by omega) ?_)
    exact ih _ (i + 1) _ (by rw [List.length_set]; omega) (by rw [List.length_set]; omega) (by omega)
theorem PolyStays : obollaw13_PolyStays.Pure := by
  intro p q k hplen _ hp hqlen _ hq hk
  apply Ev.rounds
  have hp' := zn hp
  have hq' := zn hq
  unfold obollaw13_PolyStays.f
  refine up_val.bind ?_
  have skip : Ev (fun n => obollaw13_PolyStays.j0 n p q k true true) true := by
    refine Ev.step (fun k => by rw [obollaw13_PolyStays.j0]) ?_
    exact ModPolyStays.Ev.pos rfl (ModPolyStays.Ev.val rfl)
  by_cases h6 : k > 6
  · exact ModPolyStays.Ev.pos h6 skip
  refine ModPolyStays.Ev.neg h6 ?_
  by_cases h64 : (p.length : Int) > 64
  · exact ModPolyStays.Ev.pos h64 skip
  refine ModPolyStays.Ev.neg h64 ?_
  by_cases h65 : (q.length : Int) > 64
  · rw [decide_eq_true h65]; exact skip
  rw [decide_eq_false h65]
  refine Ev.step (fun k => by rw [obollaw13_PolyStays.j0]) ?_
  obtain ⟨r1, h1⟩ := forward_any k p hp'
  obtain ⟨r2, h2⟩ := inverse_any k p hp'
  obtain ⟨r3, h3⟩ := vanish_any k p hp' (by omega)
  have hle := sh_le (ml (p.length + q.length) (cf p q)) (p.length + q.length)
  have e1 : ([] : List Int) ++ p = p := List.nil_append p
  have e2 : ([] : List Int) ++ q = q := List.nil_append q
  refine ModPolyStays.Ev.neg (by simp) (ModPolyStays.Ev.bindc rfl (ModPolyStays.Ev.pos (by simp only [List.length_nil]; omega) (ModPolyStays.Ev.bindc rfl (ModPolyStays.Ev.bindc rfl (ModPolyStays.Ev.pos (by simp only [List.length_nil]; omega) (ModPolyStays.Ev.bindc rfl ?_))))))
  rw [e1, e2]
  refine h1.bind (h2.bind (h3.bind ((pmul_val p q hp' hq' (by omega) (by omega)).bind ?_)))
  exact law_loop p q hp' hq' (by omega) (by omega) _ _ 0 0 (Nat.zero_add _) (by omega) rfl
end Go.Proofs.Ytempibbfdojfiac.Pure
