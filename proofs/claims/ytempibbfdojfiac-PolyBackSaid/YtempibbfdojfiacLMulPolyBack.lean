/- Short lists, lists held against each other, and the products of polynomials (for the law PolyBack). -/
import Derived.Test.YtempibbfdojfiacLPolyPolyBack
set_option linter.unusedVariables false
set_option linter.unusedSimpArgs false
namespace Go.Proofs.Ytempibbfdojfiac.ModPolyBack
open Go.RowKit Go.Proofs.Ytempibbfdojfiac.PPolyBack Go.Proofs.YtempibbfdojfiacW.PrintWords Go.Proofs.YtempibbfdojfiacW.PrintLast Go.Proofs.YtempibbfdojfiacW.PrintMore Go.Proofs.Ytempibbfdojfiac.Nm

/-- The first n, without 0s at their end. -/
def sh (l : List Int) : Nat → List Int
  | 0 => []
  | n + 1 => if rd l (n : Int) = 0 then sh l n else l.take (n + 1)
theorem sh_congr (l r : List Int) (n : Nat) (h : ∀ m, m ≤ n → l.take m = r.take m) (h2 : ∀ m, m < n → rd l (m : Int) = rd r (m : Int)) : sh l n = sh r n := by
  induction n with
  | zero => rfl
  | succ n ih =>
    simp only [sh]
    rw [h2 n (by omega), ih (fun m hm => h m (by omega)) (fun m hm => h2 m (by omega)), h (n + 1) (Nat.le_refl _)]
theorem rd_nat (l : List Int) (n : Nat) : rd l (n : Int) = l.getD n 0 := by unfold rd; rw [Int.toNat_natCast]
theorem rd_take (l : List Int) (n m : Nat) (h : m < n) : rd (l.take n) (m : Int) = rd l (m : Int) := by
  rw [rd_nat, rd_nat, List.getD_eq_getElem?_getD, List.getD_eq_getElem?_getD, List.getElem?_take_of_lt h]
theorem rd_app (l r : List Int) (m : Nat) (h : m < l.length) : rd (l ++ r) (m : Int) = rd l (m : Int) := by
  rw [rd_nat, rd_nat, List.getD_eq_getElem?_getD, List.getD_eq_getElem?_getD, List.getElem?_append_left h]
theorem sh_app (l : List Int) : sh (l ++ [0]) (l.length + 1) = sh l l.length := by
  have h0 : rd (l ++ [0]) (l.length : Int) = 0 := by
    rw [rd_nat, List.getD_eq_getElem?_getD, List.getElem?_append_right (Nat.le_refl _), Nat.sub_self]; rfl
  simp only [sh]
  rw [if_pos h0]
  apply sh_congr
  · intro m hm; exact List.take_append_of_le_length hm
  · intro m hm; exact rd_app l [0] m hm
theorem sh_zeros (l : List Int) (n : Nat) (h : ∀ m, m < n → rd l (m : Int) = 0) : sh l n = [] := by
  induction n with
  | zero => rfl
  | succ n ih => simp only [sh]; rw [if_pos (h n (by omega)), ih fun m hm => h m (by omega)]
theorem short_loop (l : List Int) (hl : l.length ≤ 9223372036854775807) (n : Nat) : n ≤ l.length → Ev (fun k => poly_short.l0 k (l.take n)) (sh l n) := by
  induction n with
  | zero =>
    intro hn
    refine Ev.step (fun k => by rw [poly_short.l0]) ?_
    exact Ev.neg (by simp) (Ev.val rfl)
  | succ n ih =>
    intro hn
    have hlen : (l.take (n + 1)).length = n + 1 := by rw [List.length_take]; omega
    refine Ev.step (fun k => by rw [poly_short.l0]) ?_
    rw [hlen, show wrap64 (((n + 1 : Nat) : Int) - 1) = n from by rw [wi _ (by omega) (by omega)]; omega, rd_take l (n + 1) n (by omega)]
    refine Ev.pos (by omega) (Ev.pos (by omega) (Ev.pos (by omega) ?_))
    simp only [sh]
    by_cases h0 : rd l (n : Int) = 0
    · rw [if_pos h0]
      refine Ev.pos h0 (Ev.pos (by omega) ?_)
      rw [Int.toNat_natCast, List.take_take, Nat.min_eq_left (by omega)]
      exact ih (by omega)
    · rw [if_neg h0]
      exact Ev.neg h0 (Ev.val rfl)
theorem short_val (l : List Int) (hl : l.length ≤ 9223372036854775807) : Ev (fun k => poly_short.f k l) (sh l l.length) := by
  unfold poly_short.f
  have h := short_loop l hl l.length (Nat.le_refl _)
  rw [List.take_length] at h
  exact h
/-- The list of so many values. -/
def ml (N : Nat) (c : Nat → F) : List Int := (List.range N).map fun n => u (c n)
theorem ml_len (N : Nat) (c : Nat → F) : (ml N c).length = N := by simp [ml]
theorem ml_get (N : Nat) (c : Nat → F) (n : Nat) (h : n < N) : (ml N c)[n]? = some (u (c n)) := by
  unfold ml
  rw [List.getElem?_map, List.getElem?_range h]; rfl
theorem ml_rd (N : Nat) (c : Nat → F) (n : Nat) (h : n < N) : rd (ml N c) (n : Int) = u (c n) := by
  rw [rd_nat, List.getD_eq_getElem?_getD, ml_get N c n h]; rfl
theorem ml_congr (N : Nat) (c d : Nat → F) (h : ∀ n, n < N → c n = d n) : ml N c = ml N d := by
  unfold ml
  apply List.map_congr_left
  intro n hn
  rw [h n (List.mem_range.1 hn)]
theorem ml_set (N : Nat) (c : Nat → F) (j : Nat) (v : F) : (ml N c).set j (u v) = ml N (fun n => if n = j then v else c n) := by
  apply List.ext_getElem?
  intro i
  by_cases hi : i < N
  · rw [ml_get N _ i hi, List.getElem?_set]
    by_cases hij : j = i
    · subst hij
      rw [if_pos rfl, if_pos (by rw [ml_len]; exact hi), if_pos rfl]
    · rw [if_neg hij, ml_get N c i hi, if_neg (fun h => hij h.symm)]
  · rw [List.getElem?_eq_none (by rw [List.length_set, ml_len]; omega), List.getElem?_eq_none (by rw [ml_len]; omega)]
theorem ml_zero (N : Nat) : List.replicate N (0 : Int) = ml N (fun _ => 0) := by
  apply List.ext_getElem?
  intro i
  by_cases hi : i < N
  · rw [ml_get N _ i hi, List.getElem?_replicate, if_pos hi]; rfl
  · rw [List.getElem?_eq_none (by rw [List.length_replicate]; omega), List.getElem?_eq_none (by rw [ml_len]; omega)]
theorem ml_succ (N : Nat) (c : Nat → F) : ml (N + 1) c = ml N c ++ [u (c N)] := by
  unfold ml
  rw [List.range_succ, List.map_append]; rfl
/-- What the i-th coefficient of p adds to the n-th of the product. -/
def trm (p q : List Int) (i n : Nat) : F := if i ≤ n ∧ n < i + q.length then z (rd p (i : Int)) * z (rd q ((n - i : Nat) : Int)) else 0
/-- The n-th coefficient of the product. -/
def cf (p q : List Int) (n : Nat) : F := sm (fun i => trm p q i n) p.length
theorem rd_lim {l : List Int} (hl : ∀ x ∈ l, 0 ≤ x ∧ x < 18446744073709551616) {i : Int} (h0 : 0 ≤ i) (h1 : i < l.length) : 0 ≤ rd l i ∧ rd l i < 18446744073709551616 := by
  obtain ⟨c, hc, hrd, -⟩ := rd_of h0 h1
  rw [hrd]; exact hl c hc
theorem mul_l1 (p q : List Int) (hp : ∀ x ∈ p, 0 ≤ x ∧ x < 18446744073709551616) (hq : ∀ x ∈ q, 0 ≤ x ∧ x < 18446744073709551616) (hpl : p.length ≤ 1000000) (hql : q.length ≤ 1000000)
    (i : Nat) (hi : i < p.length) (c : Nat → F) (r : List Int)
    (go : Ev (fun k => poly_Mul.l0 k q (ml (p.length + q.length) (fun n => c n + trm p q i n)) p (p.length : Int) ((i : Int) + 1)) r) (d : Nat) :
    ∀ (j : Nat) (jj : Int), j + d = q.length → jj = j →
    Ev (fun k => poly_Mul.l1 k q (ml (p.length + q.length) (fun n => c n + if n < i + j then trm p q i n else 0)) (i : Int) (rd p (i : Int)) p (p.length : Int) (i : Int) q (q.length : Int) jj) r := by
  have hpi := rd_lim hp (i := (i : Int)) (by omega) (by omega)
  induction d with
  | zero =>
    intro j jj hj hjj
    refine Ev.step (fun k => by rw [poly_Mul.l1]) ?_
    refine Ev.neg (by omega) ?_
    rw [show wrap64 ((i : Int) + 1) = i + 1 from wi _ (by omega) (by omega)]
    have e : ml (p.length + q.length) (fun n => c n + if n < i + j then trm p q i n else 0) = ml (p.length + q.length) (fun n => c n + trm p q i n) := by
      apply ml_congr
      intro n _
      by_cases hn : n < i + j
      · rw [if_pos hn]
      · rw [if_neg hn]
        unfold trm
        rw [if_neg (by omega)]
    rw [e]
    exact go
  | succ d ih =>
    intro j jj hj hjj
    have hqj := rd_lim hq (i := jj) (by omega) (by omega)
    refine Ev.step (fun k => by rw [poly_Mul.l1]) ?_
    rw [show wrap64 ((i : Int) + jj) = ((i + j : Nat) : Int) from by rw [wi _ (by omega) (by omega)]; omega, show wrap64 (jj + 1) = jj + 1 from wi _ (by omega) (by omega)]
    have hml := ml_len (p.length + q.length) (fun n => c n + if n < i + j then trm p q i n else 0)
    refine Ev.pos (by omega) (Ev.pos (by omega) (Ev.pos (by omega) (Ev.pos (by omega) (Ev.pos (by omega) ((pmul _ _ hpi.1 hqj.1).bind ?_)))))
    rw [ml_rd _ _ (i + j) (by omega)]
    refine Ev.bindc (add_val moR _ _ (uF0 _) (uF0 _)) ?_
    rw [addF, z_u, z_u, Int.toNat_natCast, ml_set]
    have e : ml (p.length + q.length) (fun n => if n = i + j then (c (i + j) + if i + j < i + j then trm p q i (i + j) else 0) + z (rd p (i : Int)) * z (rd q jj) else c n + if n < i + j then trm p q i n else 0)
        = ml (p.length + q.length) (fun n => c n + if n < i + (j + 1) then trm p q i n else 0) := by
      apply ml_congr
      intro n _
      by_cases hn : n = i + j
      · subst hn
        rw [if_pos rfl, if_neg (by omega), if_pos (by omega)]
        unfold trm
        rw [if_pos (by omega), show i + j - i = j by omega, ← hjj, fadd_zero]
      · rw [if_neg hn]
        by_cases hn2 : n < i + j
        · rw [if_pos hn2, if_pos (by omega)]
        · rw [if_neg hn2, if_neg (by omega)]
    rw [e]
    exact ih (j + 1) (jj + 1) (by omega) (by omega)
theorem mul_l0 (p q : List Int) (hp : ∀ x ∈ p, 0 ≤ x ∧ x < 18446744073709551616) (hq : ∀ x ∈ q, 0 ≤ x ∧ x < 18446744073709551616) (hpl : p.length ≤ 1000000) (hql : q.length ≤ 1000000) (d : Nat) :
    ∀ (i : Nat) (ii : Int), i + d = p.length → ii = i →
    Ev (fun k => poly_Mul.l0 k q (ml (p.length + q.length) (fun n => sm (fun i => trm p q i n) i)) p (p.length : Int) ii) (sh (ml (p.length + q.length) (cf p q)) (p.length + q.length)) := by
  induction d with
  | zero =>
    intro i ii hi hii
    refine Ev.step (fun k => by rw [poly_Mul.l0]) ?_
    have : i = p.length := by omega
    subst this
    have h := short_val (ml (p.length + q.length) (cf p q)) (by rw [ml_len]; omega)
    rw [ml_len] at h
    exact Ev.neg (by omega) (Ev.tail h)
  | succ d ih =>
    intro i ii hi hii
    refine Ev.step (fun k => by rw [poly_Mul.l0]) ?_
    refine Ev.pos (by omega) (Ev.pos (by omega) (Ev.pos (by omega) ?_))
    rw [hii]
    have h := mul_l1 p q hp hq hpl hql i (by omega) (fun n => sm (fun i => trm p q i n) i) _ (ih (i + 1) ((i : Int) + 1) (by omega) (by omega)) q.length 0 0 (by omega) rfl
    have e : ml (p.length + q.length) (fun n => sm (fun i => trm p q i n) i + if n < i + 0 then trm p q i n else 0) = ml (p.length + q.length) (fun n => sm (fun i => trm p q i n) i) := by
      apply ml_congr
      intro n _
      by_cases hn : n < i + 0
      · rw [if_pos hn]
        unfold trm
        rw [if_neg (by omega), fadd_zero]
      · rw [if_neg hn, fadd_zero]
    rw [e] at h
    exact h
theorem pmul_val (p q : List Int) (hp : ∀ x ∈ p, 0 ≤ x ∧ x < 18446744073709551616) (hq : ∀ x ∈ q, 0 ≤ x ∧ x < 18446744073709551616) (hpl : p.length ≤ 1000000) (hql : q.length ≤ 1000000) :
    Ev (fun k => poly_Mul.f k p q) (sh (ml (p.length + q.length) (cf p q)) (p.length + q.length)) := by
  unfold poly_Mul.f
  rw [show wrap64 ((p.length : Int) + (q.length : Int)) = ((p.length + q.length : Nat) : Int) from by rw [wi _ (by omega) (by omega)]; omega, Int.toNat_natCast, ml_zero]
  refine Ev.pos (by omega) (Ev.pos (by omega) ?_)
  exact mul_l0 p q hp hq hpl hql p.length 0 0 (by omega) rfl
end Go.Proofs.Ytempibbfdojfiac.ModPolyBack
