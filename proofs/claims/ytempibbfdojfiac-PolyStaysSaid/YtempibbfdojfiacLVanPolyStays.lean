/- What x^N - 1 divides a polynomial by (for the law PolyStays). -/
import Derived.Test.YtempibbfdojfiacLFftPolyStays
set_option linter.unusedVariables false
set_option linter.unusedSimpArgs false
namespace Go.Proofs.Ytempibbfdojfiac.ModPolyStays
open Go.RowKit Go.Proofs.Ytempibbfdojfiac.PPolyStays Go.Proofs.YtempibbfdojfiacW.PrintWords Go.Proofs.YtempibbfdojfiacW.PrintLast Go.Proofs.YtempibbfdojfiacW.PrintMore Go.Proofs.Ytempibbfdojfiac.Nm

section
variable {n : Nat} [NeZero n]
theorem v1 (a : Fin n) : a * -1 = 0 + -a := by grind
theorem v2 (a b : Fin n) : a + -b = a - b := by grind
theorem v3 (a b : Fin n) : a + b - b = a := by grind
theorem v4 (a b : Fin n) (h : 0 = a + b) : 0 - b = a := by grind
theorem v5 : (0 : Fin n) + 1 = 1 := by grind
end
/-- The i-th coefficient; 0 behind the last. -/
def co (p : List Int) (i : Nat) : F := if i < p.length then z (rd p (i : Int)) else 0
/-- The sum of every N-th coefficient, from the j-th on. -/
def fo (p : List Int) (N j : Nat) : F := sm (fun m => co p (j + m * N)) p.length
theorem fo_step (p : List Int) (N j : Nat) (hN : 0 < N) : fo p N j = co p j + fo p N (j + N) := by
  have h : sm (fun m => co p (j + m * N)) (p.length + 1) = fo p N j := by
    show sm (fun m => co p (j + m * N)) p.length + co p (j + p.length * N) = fo p N j
    have : co p (j + p.length * N) = 0 := by
      unfold co
      have := Nat.le_mul_of_pos_right p.length hN
      rw [if_neg (by omega)]
    rw [this, fadd_zero]; rfl
  rw [← h, sm_shift]
  have e : co p (j + 0 * N) = co p j := by rw [Nat.zero_mul]; rfl
  rw [e]
  have e2 : sm (fun i => co p (j + (i + 1) * N)) p.length = fo p N (j + N) := by
    unfold fo
    apply sm_congr
    intro i _
    rw [Nat.succ_mul, show j + (i * N + N) = j + N + i * N by omega]
  rw [e2]
theorem fo_out (p : List Int) (N j : Nat) (h : p.length ≤ j) : fo p N j = 0 := by
  unfold fo
  apply sm_zero
  intro i _
  unfold co
  rw [if_neg (by omega)]
theorem sm_block (f : Nat → F) (N a : Nat) : sm f (a * N) = sm (fun m => sm (fun j => f (m * N + j)) N) a := by
  induction a with
  | zero => rw [Nat.zero_mul]; rfl
  | succ a ih => rw [Nat.succ_mul, sm_split, ih]; rfl
theorem ev_fold (p : List Int) (N : Nat) (hN : 0 < N) (x : F) (hx : x ^ N = 1) : ev (p.map z) x = sm (fun j => fo p N j * x ^ j) N := by
  rw [ev_list]
  have e1 : sm (fun i => z (rd p (i : Int)) * x ^ i) p.length = sm (fun i => co p i * x ^ i) (p.length * N) := by
    obtain ⟨d, hd⟩ : ∃ d, p.length * N = p.length + d := ⟨p.length * N - p.length, by have := Nat.le_mul_of_pos_right p.length hN; omega⟩
    rw [hd, sm_split, sm_zero (fun i => (fun i => co p i * x ^ i) (p.length + i)), fadd_zero]
    · apply sm_congr
      intro i hi
      unfold co
      rw [if_pos hi]
    · intro i _
      show co p (p.length + i) * x ^ (p.length + i) = 0
      unfold co
      rw [if_neg (by omega), fzero_mul]
  rw [e1, sm_block, sm_swap]
  apply sm_congr
  intro j _
  show sm (fun i => co p (i * N + j) * x ^ (i * N + j)) p.length = fo p N j * x ^ j
  have e2 : sm (fun i => co p (i * N + j) * x ^ (i * N + j)) p.length = sm (fun i => x ^ j * co p (j + i * N)) p.length := by
    apply sm_congr
    intro i _
    have hp : x ^ (i * N + j) = x ^ j := by rw [fpow_add, Nat.mul_comm i N, fpow_mul, hx, fone_pow, fone_mul]
    rw [hp, Nat.add_comm, fmul_comm]
  rw [e2, sm_mul, fmul_comm]; rfl
theorem fold_zero (n : Nat) (hn : n ≤ 12) (p : List Int) (h : ∀ i, i < 2 ^ n → ev (p.map z) (rootW n ^ i) = (0 : F)) (j : Nat) (hj : j < 2 ^ n) : fo p (2 ^ n) j = 0 := by
  have hN : 0 < 2 ^ n := Nat.pow_pos (by omega)
  have hv : ∀ i : Nat, (ev ((ml (2 ^ n) (fo p (2 ^ n))).map z) (rootW n ^ i) : F) = ev (p.map z) (rootW n ^ i) := by
    intro i
    rw [map_ml, ev_fold p (2 ^ n) hN (rootW n ^ i) (by rw [← fpow_mul, Nat.mul_comm, fpow_mul, rootW_pow n hn, fone_pow])]
  have hc := coef_of n hn (ml (2 ^ n) (fo p (2 ^ n))) (ml_len _ _) j hj
  rw [ml_rd _ _ j hj, z_u] at hc
  rw [← hc]
  unfold coef
  rw [map_ml, sm_zero, fzero_mul]
  intro i hi
  rw [hv i, h i hi, fzero_mul]
theorem fold_val (n : Nat) (hn : n ≤ 12) (p : List Int) (h : ∀ j, j < 2 ^ n → fo p (2 ^ n) j = 0) (i : Nat) : ev (p.map z) (rootW n ^ i) = (0 : F) := by
  have hN : 0 < 2 ^ n := Nat.pow_pos (by omega)
  rw [ev_fold p (2 ^ n) hN (rootW n ^ i) (by rw [← fpow_mul, Nat.mul_comm, fpow_mul, rootW_pow n hn, fone_pow])]
  apply sm_zero
  intro j hj
  rw [h j hj, fzero_mul]
theorem sh_le (l : List Int) (n : Nat) : (sh l n).length ≤ n := by
  induction n with
  | zero => exact Nat.le_refl _
  | succ n ih =>
    simp only [sh]
    by_cases h : rd l (n : Int) = 0
    · rw [if_pos h]; omega
    · rw [if_neg h, List.length_take]; omega
theorem sh_sh (l : List Int) (n : Nat) : n ≤ l.length → sh (sh l n) (sh l n).length = sh l n := by
  induction n with
  | zero => intro _; rfl
  | succ n ih =>
    intro hn
    simp only [sh]
    by_cases h : rd l (n : Int) = 0
    · rw [if_pos h]; exact ih (by omega)
    · rw [if_neg h]
      have hl : (l.take (n + 1)).length = n + 1 := by rw [List.length_take]; omega
      rw [hl]
      simp only [sh]
      rw [rd_take l (n + 1) n (by omega), if_neg h, List.take_take, Nat.min_self]
theorem rd_out (l : List Int) (i : Nat) (h : l.length ≤ i) : rd l (i : Int) = 0 := by
  rw [rd_nat, List.getD_eq_getElem?_getD, List.getElem?_eq_none h]; rfl
theorem sh_rd (l : List Int) (n : Nat) (i : Nat) : rd (sh l n) (i : Int) = if i < n then rd l (i : Int) else 0 := by
  induction n with
  | zero => rw [if_neg (by omega)]; exact rd_out _ _ (by simp [sh])
  | succ n ih =>
    simp only [sh]
    by_cases h : rd l (n : Int) = 0
    · rw [if_pos h, ih]
      by_cases h1 : i < n
      · rw [if_pos h1, if_pos (by omega)]
      · rw [if_neg h1]
        by_cases h2 : i < n + 1
        · rw [if_pos h2, show i = n by omega, h]
        · rw [if_neg h2]
    · rw [if_neg h]
      by_cases h2 : i < n + 1
      · rw [if_pos h2]; exact rd_take l (n + 1) i h2
      · rw [if_neg h2]
        exact rd_out _ _ (by rw [List.length_take]; omega)
theorem sh_more (A : Nat) (f : Nat → F) (d : Nat) (h : ∀ i, A ≤ i → f i = 0) : sh (ml (A + d) f) (A + d) = sh (ml A f) A := by
  induction d with
  | zero => rfl
  | succ d ih =>
    rw [← ih, ← Nat.add_assoc, ml_succ, h (A + d) (by omega), u_zero]
    have := sh_app (ml (A + d) f)
    rw [ml_len] at this
    exact this
theorem sh_ml (A B : Nat) (f g : Nat → F) (hf : ∀ i, A ≤ i → f i = 0) (hg : ∀ i, B ≤ i → g i = 0) (h : ∀ i, f i = g i) : sh (ml A f) A = sh (ml B g) B := by
  rw [← sh_more A f B hf, ← sh_more B g A hg, Nat.add_comm B A]
  rw [ml_congr (A + B) f g (fun i _ => h i)]
theorem sh_nil (l : List Int) (n : Nat) (hn : n ≤ l.length) (h : (sh l n).length = 0) (i : Nat) (hi : i < n) : rd l (i : Int) = 0 := by
  have h1 := sh_rd l n i
  rw [if_pos hi] at h1
  rw [← h1]
  exact rd_out _ _ (by omega)
theorem sh_mem (l : List Int) (n : Nat) (x : Int) (h : x ∈ sh l n) : x ∈ l := by
  induction n with
  | zero => cases h
  | succ n ih =>
    simp only [sh] at h
    by_cases h0 : rd l (n : Int) = 0
    · rw [if_pos h0] at h; exact ih h
    · rw [if_neg h0] at h; exact List.mem_of_mem_take h
/-- The list of x^N - 1. -/
def zl (N : Nat) : List Int := ml (N + 1) (fun j => if j = N then 1 else if j = 0 then -1 else 0)
theorem cf_zl (q : List Int) (N : Nat) (hN : 0 < N) (n : Nat) : cf q (zl N) n = (if N ≤ n then co q (n - N) else 0) - co q n := by
  have hlen : (zl N).length = N + 1 := ml_len _ _
  have ht : ∀ i, trm q (zl N) i n = (if i + N = n then z (rd q (i : Int)) else 0) + (if i = n then -(z (rd q (i : Int))) else (0 : F)) := by
    intro i
    unfold trm
    rw [hlen]
    by_cases h : i ≤ n ∧ n < i + (N + 1)
    · rw [if_pos h]
      have hr : rd (zl N) ((n - i : Nat) : Int) = u (if n - i = N then 1 else if n - i = 0 then -1 else (0 : F)) := ml_rd _ _ _ (by omega)
      rw [hr, z_u]
      by_cases h1 : n - i = N
      · rw [if_pos h1, if_pos (by omega), if_neg (by omega), fmul_one, fadd_zero]
      · rw [if_neg h1, if_neg (show ¬ i + N = n by omega)]
        by_cases h2 : n - i = 0
        · rw [if_pos h2, if_pos (by omega)]; exact v1 _
        · rw [if_neg h2, if_neg (by omega), fmul_zero, fadd_zero]
    · rw [if_neg h, if_neg (by omega), if_neg (by omega), fadd_zero]
  have hcf : cf q (zl N) n = sm (fun i => (if i + N = n then z (rd q (i : Int)) else 0) + (if i = n then -(z (rd q (i : Int))) else (0 : F))) q.length := by
    unfold cf
    apply sm_congr
    intro i _
    exact ht i
  rw [hcf, sm_add]
  have ha : sm (fun i => if i + N = n then z (rd q (i : Int)) else (0 : F)) q.length = if N ≤ n then co q (n - N) else 0 := by
    by_cases h1 : N ≤ n ∧ n - N < q.length
    · rw [sm_one _ _ (n - N) h1.2 (fun i _ hne => by show (if _ then _ else _) = _; rw [if_neg (by omega)]), if_pos h1.1, if_pos (show n - N + N = n by omega)]
      unfold co
      rw [if_pos h1.2]
    · rw [sm_zero _ _ (fun i hi => by show (if _ then _ else _) = _; rw [if_neg (by omega)])]
      by_cases h2 : N ≤ n
      · rw [if_pos h2]; unfold co; rw [if_neg (by omega)]
      · rw [if_neg h2]
  have hb : sm (fun i => if i = n then -(z (rd q (i : Int))) else (0 : F)) q.length = - co q n := by
    unfold co
    by_cases h1 : n < q.length
    · rw [sm_one _ _ n h1 (fun i _ hne => by show (if _ then _ else _) = _; rw [if_neg hne]), if_pos rfl, if_pos h1]
    · rw [sm_zero _ _ (fun i hi => by show (if _ then _ else _) = _; rw [if_neg (by omega)]), if_neg h1, gneg0]
  rw [ha, hb]
  exact v2 _ _
/-- What stands in the rest, behind so many steps. -/
def rs (p : List Int) (N i j : Nat) : F := if j < i then (co p j + if i ≤ j + N then fo p N (j + N) else 0) else 0
/-- What stands in the quotient, behind so many steps. -/
def qs (p : List Int) (N i j : Nat) : F := if i ≤ j + N then fo p N (j + N) else 0
/-- The quotient, before it is cut short. -/
def quo (p : List Int) (N : Nat) : List Int := sh (ml (p.length - N) (fun j => fo p N (j + N))) (p.length - N)
theorem co_quo (p : List Int) (N j : Nat) : co (quo p N) j = fo p N (j + N) := by
  have h := sh_rd (ml (p.length - N) (fun j => fo p N (j + N))) (p.length - N) j
  have hz : z (rd (quo p N) (j : Int)) = fo p N (j + N) := by
    show z (rd (sh _ _) (j : Int)) = _
    rw [h]
    by_cases hj : j < p.length - N
    · rw [if_pos hj, ml_rd _ _ j hj, z_u]
    · rw [if_neg hj, fo_out p N (j + N) (by omega)]; exact z_zero
  unfold co
  by_cases hj : j < (quo p N).length
  · rw [if_pos hj]; exact hz
  · rw [if_neg hj, ← hz, rd_out _ _ (by omega)]; exact z_zero.symm
theorem mul_back (p : List Int) (N : Nat) (hN : 0 < N) (h : ∀ j, j < N → fo p N j = 0) (n : Nat) : cf (quo p N) (zl N) n = co p n := by
  rw [cf_zl _ N hN, co_quo, co_quo]
  have hs := fo_step p N n hN
  by_cases h1 : N ≤ n
  · rw [if_pos h1, show n - N + N = n by omega, hs]; exact v3 _ _
  · rw [if_neg h1]
    rw [h n (by omega)] at hs
    exact v4 _ _ hs
theorem van_l1 (p : List Int) (N : Nat) (hN : 0 < N) (hN2 : N ≤ 4096) (hlen : p.length ≤ 1000000) (r : Option Int) (d : Nat) : ∀ (i : Nat) (ii : Int), i = (if N ≤ p.length then N else p.length) + d → i ≤ p.length → ii = (i : Int) - 1 →
    Ev (fun k => poly_Vanish.l1 k (N : Int) (ml p.length (rs p N i)) (ml (p.length - N) (qs p N i)) ii)
      (if ∀ j, j < N → fo p N j = 0 then (quo p N, none) else ([], some 8)) := by
  induction d with
  | zero =>
    intro i ii hi hip hii
    have hm1 := ml_len p.length (rs p N i)
    refine Ev.step (fun k => by rw [poly_Vanish.l1]) ?_
    refine Ev.neg (by split at hi <;> omega) ?_
    have hr : ∀ j, j < p.length → rs p N i j = if j < N then fo p N j else 0 := by
      intro j hj
      unfold rs
      have hs := fo_step p N j hN
      by_cases h1 : j < N
      · rw [if_pos (by split at hi <;> omega), if_pos h1, hs]
        by_cases h2 : i ≤ j + N
        · rw [if_pos h2]
        · rw [if_neg h2, fo_out p N (j + N) (by split at hi <;> omega)]
      · rw [if_neg (by split at hi <;> omega), if_neg h1]
    have hsh := short_val (ml p.length (rs p N i)) (by omega)
    refine hsh.bind ?_
    rw [ml_len]
    by_cases hz : ∀ j, j < N → fo p N j = 0
    · rw [if_pos hz]
      have : sh (ml p.length (rs p N i)) p.length = [] := by
        apply sh_zeros
        intro m hm
        rw [ml_rd _ _ m hm, hr m hm]
        by_cases h1 : m < N
        · rw [if_pos h1, hz m h1, u_zero]
        · rw [if_neg h1, u_zero]
      rw [this]
      refine Ev.neg (by simp) ?_
      have hq : ml (p.length - N) (qs p N i) = ml (p.length - N) (fun j => fo p N (j + N)) := by
        apply ml_congr
        intro j hj
        unfold qs
        rw [if_pos (by split at hi <;> omega)]
      have h2 := short_val (ml (p.length - N) (qs p N i)) (by rw [ml_len]; omega)
      rw [hq, ml_len] at h2
      rw [hq]
      exact h2.bind (Ev.val rfl)
    · rw [if_neg hz]
      refine Ev.pos ?_ (Ev.val rfl)
      refine Classical.byContradiction fun hc => hz fun j hj => ?_
      have h0 : (sh (ml p.length (rs p N i)) p.length).length = 0 := by omega
      by_cases h1 : j < p.length
      · have := sh_nil _ p.length (by omega) h0 j h1
        rw [ml_rd _ _ j h1, hr j h1, if_pos hj] at this
        rw [← z_u (fo p N j), this]; exact z_zero
      · exact fo_out p N j (by omega)
  | succ d ih =>
    intro i ii hi hip hii
    obtain ⟨m, rfl⟩ : ∃ m, i = m + 1 := ⟨i - 1, by omega⟩
    have hii2 : ii = m := by omega
    have hNm : N ≤ m := by split at hi <;> omega
    have hm1 := ml_len p.length (rs p N (m + 1))
    have hm2 := ml_len (p.length - N) (qs p N (m + 1))
    refine Ev.step (fun k => by rw [poly_Vanish.l1]) ?_
    rw [hii2, show wrap64 ((m : Int) - (N : Int)) = ((m - N : Nat) : Int) from by rw [wi _ (by omega) (by omega)]; omega, show wrap64 ((m : Int) - 1) = (m : Int) - 1 from wi _ (by omega) (by omega)]
    refine Ev.pos (by omega) (Ev.pos (by omega) (Ev.pos (by omega) (Ev.pos (by omega) (Ev.pos (by omega) (Ev.pos (by omega) ?_)))))
    rw [ml_rd _ _ m (by omega), ml_rd _ _ (m - N) (by omega)]
    refine Ev.bindc (add_val moR _ _ (uF0 _) (uF0 _)) ?_
    rw [addF, z_u, z_u, Int.toNat_natCast, Int.toNat_natCast, ml_set, ml_set, show (0 : Int) = u (0 : F) from u_zero.symm, ml_set]
    have hm : rs p N (m + 1) m = fo p N m := by
      unfold rs
      rw [if_pos (by omega), if_pos (by omega), ← fo_step p N m hN]
    have e1 : ml p.length (fun n => if n = m then 0 else if n = m - N then rs p N (m + 1) (m - N) + rs p N (m + 1) m else rs p N (m + 1) n) = ml p.length (rs p N m) := by
      apply ml_congr
      intro j hj
      by_cases h1 : j = m
      · rw [if_pos h1]; unfold rs; rw [if_neg (by omega)]
      · rw [if_neg h1]
        by_cases h2 : j = m - N
        · rw [if_pos h2, hm, h2]
          unfold rs
          rw [if_pos (show m - N < m + 1 by omega), if_neg (show ¬ m + 1 ≤ m - N + N by omega), if_pos (show m - N < m by omega), if_pos (show m ≤ m - N + N by omega), show m - N + N = m by omega, fadd_zero]
        · rw [if_neg h2]
          unfold rs
          by_cases h3 : j < m
          · rw [if_pos h3, if_pos (by omega)]
            by_cases h4 : m ≤ j + N
            · rw [if_pos h4, if_pos (by omega)]
            · rw [if_neg h4, if_neg (by omega)]
          · rw [if_neg h3, if_neg (by omega)]
    have e2 : ml (p.length - N) (fun n => if n = m - N then rs p N (m + 1) m else qs p N (m + 1) n) = ml (p.length - N) (qs p N m) := by
      apply ml_congr
      intro j hj
      by_cases h2 : j = m - N
      · rw [if_pos h2, hm, h2]
        unfold qs
        rw [if_pos (by omega), show m - N + N = m by omega]
      · rw [if_neg h2]
        unfold qs
        by_cases h4 : m ≤ j + N
        · rw [if_pos h4, if_pos (by omega)]
        · rw [if_neg h4, if_neg (by omega)]
    rw [e1, e2]
    exact ih m _ (by omega) (by omega) (by omega)
theorem van_l0 (p : List Int) (N : Nat) (hN : 0 < N) (hN2 : N ≤ 4096) (hp : ∀ x ∈ p, 0 ≤ x ∧ x < 18446744073709551616) (hlen : p.length ≤ 1000000) (d : Nat) : ∀ (i : Nat) (ii : Int), i + d = p.length → ii = i →
    Ev (fun k => poly_Vanish.l0 k p (N : Int) (ml p.length (fun j => if j < i then co p j else 0)) p (p.length : Int) ii)
      (if ∀ j, j < N → fo p N j = 0 then (quo p N, none) else ([], some 8)) := by
  induction d with
  | zero =>
    intro i ii hi hii
    refine Ev.step (fun k => by rw [poly_Vanish.l0]) ?_
    have hmx : mx (wrap64 ((p.length : Int) - (N : Int))) 0 = ((p.length - N : Nat) : Int) := by
      rw [wi _ (by omega) (by omega)]
      unfold mx
      by_cases h : (p.length : Int) - (N : Int) < 0
      · rw [if_pos h]; omega
      · rw [if_neg h]; omega
    rw [hmx, Int.toNat_natCast, ml_zero, show wrap64 ((p.length : Int) - 1) = (p.length : Int) - 1 from wi _ (by omega) (by omega)]
    refine Ev.neg (by omega) (Ev.pos (by omega) (Ev.pos (by omega) ?_))
    have e1 : ml p.length (fun j => if j < i then co p j else 0) = ml p.length (rs p N p.length) := by
      apply ml_congr
      intro j hj
      unfold rs
      rw [if_pos (by omega), if_pos hj]
      by_cases h : p.length ≤ j + N
      · rw [if_pos h, fo_out p N (j + N) h, fadd_zero]
      · rw [if_neg h, fadd_zero]
    have e2 : ml (p.length - N) (fun _ => 0) = ml (p.length - N) (qs p N p.length) := by
      apply ml_congr
      intro j hj
      unfold qs
      rw [if_neg (by omega)]
    rw [e1, e2]
    exact van_l1 p N hN hN2 hlen none (p.length - if N ≤ p.length then N else p.length) p.length _ (by split <;> omega) (Nat.le_refl _) rfl
  | succ d ih =>
    intro i ii hi hii
    have hml := ml_len p.length (fun j => if j < i then co p j else 0)
    have hr := rd_lim hp (i := (i : Int)) (by omega) (by omega)
    refine Ev.step (fun k => by rw [poly_Vanish.l0]) ?_
    rw [show wrap64 (ii + 1) = ii + 1 from wi _ (by omega) (by omega), hii]
    refine Ev.pos (by omega) (Ev.pos (by omega) (Ev.pos (by omega) (Ev.pos (by omega) ?_)))
    have e0 : Int.tmod (rd p (i : Int)) 288230376287764481 = u (co p i) := by
      unfold co
      rw [tmod_pos hr.1, if_pos (by omega), uz]
    rw [e0, Int.toNat_natCast, ml_set]
    have e : ml p.length (fun n => if n = i then co p i else if n < i then co p n else 0) = ml p.length (fun j => if j < i + 1 then co p j else 0) := by
      apply ml_congr
      intro n _
      by_cases h1 : n = i
      · rw [if_pos h1, if_pos (by omega), h1]
      · rw [if_neg h1]
        by_cases h2 : n < i
        · rw [if_pos h2, if_pos (by omega)]
        · rw [if_neg h2, if_neg (by omega)]
    rw [e]
    exact ih (i + 1) _ (by omega) (by omega)
theorem vanish_val (n : Nat) (hn : n ≤ 12) (p : List Int) (hp : ∀ x ∈ p, 0 ≤ x ∧ x < 18446744073709551616) (hlen : p.length ≤ 1000000) :
    Ev (fun k => poly_Vanish.f k p (n : Int)) (if ∀ j, j < 2 ^ n → fo p (2 ^ n) j = 0 then (quo p (2 ^ n), none) else ([], some 8)) := by
  unfold poly_Vanish.f
  have hle := pow_le n hn
  refine (root_val n hn).bind (Ev.pos rfl (Ev.pos (by omega) (Ev.pos (by omega) (Ev.pos (by omega) ?_))))
  rw [shl_i n hn, Int.toNat_natCast, ml_zero]
  have h := van_l0 p (2 ^ n) (Nat.pow_pos (by omega)) hle hp hlen p.length 0 0 (by omega) rfl
  have e : ml p.length (fun j => if j < 0 then co p j else 0) = ml p.length (fun _ => 0) := by
    apply ml_congr
    intro j _
    rw [if_neg (by omega)]
  rw [e] at h
  exact h
theorem vanish_bad (k : Int) (p : List Int) (h : k < 0 ∨ 12 < k) : Ev (fun n => poly_Vanish.f n p k) ([], some 1) := by
  unfold poly_Vanish.f
  exact (root_bad k h).bind (Ev.neg (by simp) (Ev.val rfl))
end Go.Proofs.Ytempibbfdojfiac.ModPolyStays
