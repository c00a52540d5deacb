/- For every list of values and exponent, obollaw13.PolyInverse returns true: the polynomial of the values has them, or it is told what is amiss. No conditions. -/
import Derived.Test.YtempibbfdojfiacLFftPolyInverse
set_option linter.unusedVariables false
namespace Go.Proofs.Ytempibbfdojfiac.Pure
open Go.RowKit Go.Proofs.Ytempibbfdojfiac.PPolyInverse Go.Proofs.YtempibbfdojfiacW.PrintWords Go.Proofs.YtempibbfdojfiacW.PrintLast Go.Proofs.YtempibbfdojfiacW.PrintMore Go.Proofs.Ytempibbfdojfiac.Nm Go.Proofs.Ytempibbfdojfiac.ModPolyInverse

theorem law_loop (N : Nat) (l : List Int) (hlen : l.length = N) (hN : N ≤ 4096) (hl : ∀ x ∈ l, 0 ≤ x ∧ x < 18446744073709551616) (c b : Nat → F) (hb : ∀ i, i < N → b i = z (rd l (i : Int))) (d : Nat) :
    ∀ (i : Nat) (ii : Int), i + d = N → ii = i → Ev (fun k => obollaw13_PolyInverse.l0 k l true (ml N c) (ml N b) ii) true := by
  have h1 := ml_len N c
  have h2 := ml_len N b
  induction d with
  | zero =>
    intro i ii hi hii
    refine Ev.step (fun k => by rw [obollaw13_PolyInverse.l0]) ?_
    exact ModPolyInverse.Ev.neg (by omega) (ModPolyInverse.Ev.val rfl)
  | succ d ih =>
    intro i ii hi hii
    have hr := rd_lim hl (i := (i : Int)) (by omega) (by omega)
    refine Ev.step (fun k => by rw [obollaw13_PolyInverse.l0]) ?_
    rw [show wrap64 (ii + 1) = ii + 1 from wi _ (by omega) (by omega), hii, ml_rd _ _ i (by omega), ml_rd _ _ i (by omega), tmod_pos hr.1]
    refine ModPolyInverse.Ev.pos (by omega) (ModPolyInverse.Ev.pos (by omega) (ModPolyInverse.Ev.pos (by omega) (ModPolyInverse.Ev.pos ?_ (ModPolyInverse.Ev.pos (by omega) (ModPolyInverse.Ev.neg ?_ ?_)))))
    · rw [hb i (by omega), uz]
    · have := uF1 (c i); omega
    · exact ih (i + 1) _ (by omega) (by omega)
theorem PolyInverse : obollaw13_PolyInverse.Pure := by
  intro l k hlen hsz hl hk
  apply Ev.rounds
  have hl' := zn hl
  unfold obollaw13_PolyInverse.f
  refine up_val.bind ?_
  have skip : Ev (fun n => obollaw13_PolyInverse.j0 n l k true true) true := by
    refine Ev.step (fun k => by rw [obollaw13_PolyInverse.j0]) ?_
    exact ModPolyInverse.Ev.pos rfl (ModPolyInverse.Ev.val rfl)
  have main : Ev (fun n => obollaw13_PolyInverse.j0 n l k true false) true := by
    refine Ev.step (fun k => by rw [obollaw13_PolyInverse.j0]) ?_
    refine ModPolyInverse.Ev.neg (by simp) ?_
    have hbad : Ev (fun n => obollaw13_PolyInverse.j1 n l k true [] (some 1) true) true := by
      refine Ev.step (fun k => by rw [obollaw13_PolyInverse.j1]) ?_
      exact ModPolyInverse.Ev.pos rfl (ModPolyInverse.Ev.pos rfl (ModPolyInverse.Ev.neg (by simp) (ModPolyInverse.Ev.pos rfl (ModPolyInverse.Ev.val rfl))))
    by_cases h0 : k < 0
    · exact (inverse_bad k l (.inl h0)).bind (ModPolyInverse.Ev.pos h0 hbad)
    by_cases h12 : k > 12
    · exact (inverse_bad k l (.inr (.inl h12))).bind (ModPolyInverse.Ev.neg h0 (ModPolyInverse.Ev.pos h12 hbad))
    obtain ⟨n, rfl⟩ := Int.eq_ofNat_of_zero_le (show 0 ≤ k by omega)
    have hn : n ≤ 12 := by omega
    have hle := pow_le n hn
    by_cases hln : l.length = 2 ^ n
    · refine (inverse_val n hn l hln hl').bind (ModPolyInverse.Ev.neg h0 (ModPolyInverse.Ev.neg h12 (ModPolyInverse.Ev.pos (by omega) ?_)))
      rw [shl_i n hn, hln, show (((2 ^ n : Nat) : Int) != ((2 ^ n : Nat) : Int)) = false from bne_self_eq_false _]
      refine Ev.step (fun k => by rw [obollaw13_PolyInverse.j1]) ?_
      have hr := rfor_val n hn (ml (2 ^ n) (coef n l)) (ml_mem _ _) (by rw [ml_len]; exact Nat.le_trans hle (by decide))
      refine ModPolyInverse.Ev.neg (by simp) (hr.bind (ModPolyInverse.Ev.pos rfl ?_))
      rw [ml_len, hln, show (((2 ^ n : Nat) : Int) != ((2 ^ n : Nat) : Int)) = false from bne_self_eq_false _]
      refine Ev.step (fun k => by rw [obollaw13_PolyInverse.j2]) ?_
      refine ModPolyInverse.Ev.neg (by simp) ?_
      exact law_loop (2 ^ n) l hln hle hl' _ _ (fun i hi => coef_back n hn l hln i hi) (2 ^ n) 0 0 (by omega) rfl
    · refine (inverse_bad (n : Int) l (.inr (.inr ⟨n, rfl, hn, hln⟩))).bind (ModPolyInverse.Ev.neg h0 (ModPolyInverse.Ev.neg h12 (ModPolyInverse.Ev.pos (by omega) ?_)))
      rw [shl_i n hn, show ((l.length : Int) != ((2 ^ n : Nat) : Int)) = true from bne_iff_ne.2 (fun hc => hln (Int.ofNat.inj hc))]
      exact hbad
  by_cases h6 : k > 6
  · refine ModPolyInverse.Ev.pos h6 ?_
    by_cases h12 : k ≤ 12
    · exact ModPolyInverse.Ev.pos h12 skip
    · refine ModPolyInverse.Ev.neg h12 ?_
      by_cases h100 : (l.length : Int) > 100
      · rw [decide_eq_true h100]; exact skip
      · rw [decide_eq_false h100]; exact main
  · refine ModPolyInverse.Ev.neg h6 ?_
    by_cases h100 : (l.length : Int) > 100
    · rw [decide_eq_true h100]; exact skip
    · rw [decide_eq_false h100]; exact main
end Go.Proofs.Ytempibbfdojfiac.Pure
