/- For every two polynomials and exponent, obollaw13.PolyBack returns true. No conditions. -/
import Derived.Test.YtempibbfdojfiacLForPolyBack
set_option linter.unusedVariables false
namespace Go.Proofs.Ytempibbfdojfiac.Pure
open Go.RowKit Go.Proofs.Ytempibbfdojfiac.PPolyBack Go.Proofs.YtempibbfdojfiacW.PrintWords Go.Proofs.YtempibbfdojfiacW.PrintLast Go.Proofs.YtempibbfdojfiacW.PrintMore Go.Proofs.Ytempibbfdojfiac.Nm Go.Proofs.Ytempibbfdojfiac.ModPolyBack

theorem rd_out (l : List Int) (i : Nat) (h : l.length ≤ i) : rd l (i : Int) = 0 := by
  rw [rd_nat, List.getD_eq_getElem?_getD, List.getElem?_eq_none h]; rfl
theorem sh_le (l : List Int) (n : Nat) : (sh l n).length ≤ n := by
  induction n with
  | zero => exact Nat.le_refl _
  | succ n ih =>
    simp only [sh]
    by_cases h : rd l (n : Int) = 0
    · rw [if_pos h]; omega
    · rw [if_neg h, List.length_take]; omega
theorem sh_rd (l : List Int) (n : Nat) (i : Nat) : rd (sh l n) (i : Int) = if i < n then rd l (i : Int) else 0 := by
  induction n with
  | zero => rw [if_neg (by omega)]; exact rd_out _ _ (by simp [sh])
  | succ n ih =>
    simp only [sh]
    by_cases h : rd l (n : Int) = 0
    · rw [if_pos h, ih]
      by_cases h1 : i < n
      · rw [if_pos h1, if_pos (by omega)]
      · rw [if_neg h1]
        by_cases h2 : i < n + 1
        · rw [if_pos h2, show i = n by omega, h]
        · rw [if_neg h2]
    · rw [if_neg h]
      by_cases h2 : i < n + 1
      · rw [if_pos h2]; exact rd_take l (n + 1) i h2
      · rw [if_neg h2]
        exact rd_out _ _ (by rw [List.length_take]; omega)
theorem sh_mem (l : List Int) (n : Nat) (x : Int) (h : x ∈ sh l n) : x ∈ l := by
  induction n with
  | zero => cases h
  | succ n ih =>
    simp only [sh] at h
    by_cases h0 : rd l (n : Int) = 0
    · rw [if_pos h0] at h; exact ih h
    · rw [if_neg h0] at h; exact List.mem_of_mem_take h
theorem ev_list_le (l : List Int) (x : F) (K : Nat) (h : l.length ≤ K) : (ev (l.map z) x : F) = sm (fun i => z (rd l (i : Int)) * x ^ i) K := by
  obtain ⟨d, rfl⟩ : ∃ d, K = l.length + d := ⟨K - l.length, by omega⟩
  rw [ev_list, sm_split, sm_zero (fun i : Nat => (fun i : Nat => z (rd l (i : Int)) * x ^ i) (l.length + i)), fadd_zero]
  intro i _
  show z (rd l ((l.length + i : Nat) : Int)) * x ^ (l.length + i) = 0
  rw [rd_out l _ (by omega), z_zero, fzero_mul]
theorem bk1 (a b c d : F) : a * b * (c * d) = a * c * (b * d) := by grind
theorem bk2 (a b c : F) : a * b * c = c * (a * b) := by grind
theorem inner_val (p q : List Int) (x : F) (j : Nat) (hj : j < p.length) :
    sm (fun i => trm p q j i * x ^ i) (p.length + q.length) = z (rd p (j : Int)) * x ^ j * (ev (q.map z) x : F) := by
  obtain ⟨d, hd⟩ : ∃ d, p.length + q.length = j + (q.length + d) := ⟨p.length - j, by omega⟩
  rw [hd, sm_split, sm_split, sm_zero (fun i => trm p q j i * x ^ i) j, sm_zero (fun i => (fun i => (fun i => trm p q j i * x ^ i) (j + i)) (q.length + i)) d, fadd_zero, ev_list, ← sm_mul]
  · rw [show ∀ a : F, 0 + a = a from fun a => by grind]
    apply sm_congr
    intro i hi
    show trm p q j (j + i) * x ^ (j + i) = _
    unfold trm
    rw [if_pos (by omega), show j + i - j = i by omega, fpow_add]
    exact bk1 _ _ _ _
  · intro i _
    show trm p q j (j + (q.length + i)) * x ^ (j + (q.length + i)) = 0
    unfold trm
    rw [if_neg (by omega), fzero_mul]
  · intro i hi
    show trm p q j i * x ^ i = 0
    unfold trm
    rw [if_neg (by omega), fzero_mul]
theorem ev_prod (p q : List Int) (x : F) : (ev ((sh (ml (p.length + q.length) (cf p q)) (p.length + q.length)).map z) x : F) = ev (p.map z) x * ev (q.map z) x := by
  rw [ev_list_le _ x (p.length + q.length) (sh_le _ _)]
  have e1 : sm (fun i => z (rd (sh (ml (p.length + q.length) (cf p q)) (p.length + q.length)) (i : Int)) * x ^ i) (p.length + q.length) = sm (fun i => sm (fun j => trm p q j i * x ^ i) p.length) (p.length + q.length) := by
    apply sm_congr
    intro i hi
    show z (rd (sh (ml (p.length + q.length) (cf p q)) (p.length + q.length)) (i : Int)) * x ^ i = _
    rw [sh_rd, if_pos hi, ml_rd _ _ i hi, z_u]
    unfold cf
    rw [sm_rmul]
    apply sm_congr
    intro j _
    exact fmul_comm _ _
  rw [e1, sm_swap, ev_list p, sm_rmul]
  apply sm_congr
  intro j hj
  show sm (fun i => trm p q j i * x ^ i) (p.length + q.length) = _
  rw [inner_val p q x j hj]
  exact fmul_comm _ _
theorem law_loop (N : Nat) (hN : N ≤ 4096) (p : List Int) (hp : ∀ x ∈ p, 0 ≤ x ∧ x < 18446744073709551616) (a b c d : Nat → F) (hc : ∀ i, i < N → a i * b i = c i)
    (hd : ∀ i, i < N → d i = if i < p.length then z (rd p (i : Int)) else 0) (m : Nat) : ∀ (i : Nat) (ii : Int), i + m = N → ii = i →
    Ev (fun k => obollaw13_PolyBack.l0 k p true (ml N a) (ml N b) (ml N c) (ml N d) ii) true := by
  have ha := ml_len N a
  have hb := ml_len N b
  have hc2 := ml_len N c
  have hd2 := ml_len N d
  induction m with
  | zero =>
    intro i ii hi hii
    refine Ev.step (fun k => by rw [obollaw13_PolyBack.l0]) ?_
    exact ModPolyBack.Ev.neg (by omega) (ModPolyBack.Ev.val rfl)
  | succ m ih =>
    intro i ii hi hii
    refine Ev.step (fun k => by rw [obollaw13_PolyBack.l0]) ?_
    rw [show wrap64 (ii + 1) = ii + 1 from wi _ (by omega) (by omega), hii, ml_rd _ _ i (by omega), ml_rd _ _ i (by omega), ml_rd _ _ i (by omega), ml_rd _ _ i (by omega)]
    have hm := rmul (u (a i)) (u (b i)) (uF0 _) (uF0 _)
    rw [z_u, z_u, hc i (by omega)] at hm
    refine ModPolyBack.Ev.pos (by omega) (ModPolyBack.Ev.pos (by omega) (ModPolyBack.Ev.pos (by omega) (hm.bind (ModPolyBack.Ev.pos (by omega) (ModPolyBack.Ev.pos rfl ?_)))))
    have hdi := hd i (by omega)
    by_cases h1 : i < p.length
    · have hr := rd_lim hp (i := (i : Int)) (by omega) (by omega)
      rw [if_pos h1] at hdi
      rw [hdi, tmod_pos hr.1]
      exact ModPolyBack.Ev.pos (by omega) (ModPolyBack.Ev.pos (by omega) (ModPolyBack.Ev.pos (uz _) (ih (i + 1) _ (by omega) (by omega))))
    · rw [if_neg h1] at hdi
      rw [hdi]
      exact ModPolyBack.Ev.neg (by omega) (ModPolyBack.Ev.pos (by omega) (ModPolyBack.Ev.pos u_zero (ih (i + 1) _ (by omega) (by omega))))
theorem PolyBack : obollaw13_PolyBack.Pure := by
  intro p q k hplen _ hp hqlen _ hq hk
  apply Ev.rounds
  have hp' := zn hp
  have hq' := zn hq
  unfold obollaw13_PolyBack.f
  refine up_val.bind ?_
  have skip : Ev (fun n => obollaw13_PolyBack.j0 n p q k true true) true := by
    refine Ev.step (fun k => by rw [obollaw13_PolyBack.j0]) ?_
    exact ModPolyBack.Ev.pos rfl (ModPolyBack.Ev.val rfl)
  by_cases h0 : k < 0
  · exact ModPolyBack.Ev.pos h0 skip
  by_cases h6 : k > 6
  · exact ModPolyBack.Ev.neg h0 (ModPolyBack.Ev.pos h6 skip)
  refine ModPolyBack.Ev.neg h0 (ModPolyBack.Ev.neg h6 (ModPolyBack.Ev.pos (by omega) ?_))
  obtain ⟨n, rfl⟩ := Int.eq_ofNat_of_zero_le (show 0 ≤ k by omega)
  have hn : n ≤ 12 := by omega
  have hle := pow_le n hn
  have hpl : p.length ≤ 9223372036854775807 / 2 := by simp only [maxLen] at hplen; omega
  have hql : q.length ≤ 9223372036854775807 / 2 := by simp only [maxLen] at hqlen; omega
  rw [shl_i n hn, show wrap64 ((p.length : Int) + (q.length : Int)) = ((p.length + q.length : Nat) : Int) from by rw [wi _ (by omega) (by omega)]; omega]
  by_cases hln : p.length + q.length ≤ 2 ^ n
  · rw [decide_eq_false (by omega)]
    refine Ev.step (fun k => by rw [obollaw13_PolyBack.j0]) ?_
    have hsl := sh_le (ml (p.length + q.length) (cf p q)) (p.length + q.length)
    refine ModPolyBack.Ev.neg (by simp) ((forward_val n hn p (by omega) hp').bind ((forward_val n hn q (by omega) hq').bind ((pmul_val p q hp' hq' (by omega) (by omega)).bind ?_)))
    refine (forward_val n hn _ (by omega) (fun x hx => ml_mem _ _ x (sh_mem _ _ x hx))).bind ?_
    refine (inverse_val n hn _ (ml_len _ _) (ml_mem _ _)).bind ?_
    refine ModPolyBack.Ev.pos rfl (ModPolyBack.Ev.pos rfl (ModPolyBack.Ev.pos rfl (ModPolyBack.Ev.pos rfl (ModPolyBack.Ev.pos (by omega) ?_))))
    rw [shl_i n hn, ml_len, show (((2 ^ n : Nat) : Int) != ((2 ^ n : Nat) : Int)) = false from bne_self_eq_false _]
    refine Ev.step (fun k => by rw [obollaw13_PolyBack.j1]) ?_
    refine ModPolyBack.Ev.neg (by simp) ?_
    refine law_loop (2 ^ n) hle p hp' _ _ _ _ ?_ ?_ (2 ^ n) 0 0 (by omega) rfl
    · intro i _
      exact (ev_prod p q _).symm
    · intro i hi
      have e : ml (2 ^ n) (fun i => ev (p.map z) (rootW n ^ i)) = ml (2 ^ n) (fun i => ev ((pad (2 ^ n) p).map z) (rootW n ^ i)) := by
        apply ml_congr
        intro i _
        exact (ev_pad _ _ (by omega) _).symm
      show coef n (ml (2 ^ n) (fun i => ev (p.map z) (rootW n ^ i))) i = _
      rw [e, coef_of n hn (pad (2 ^ n) p) (pad_len _ _) i hi, pad_rd _ _ (by omega)]
      by_cases h1 : i < p.length
      · rw [if_pos h1, if_pos h1]
      · rw [if_neg h1, if_neg h1]; exact z_zero
  · rw [decide_eq_true (by omega)]
    exact skip
end Go.Proofs.Ytempibbfdojfiac.Pure
