/- Short lists, lists held against each other, and the products of polynomials (for the law PolyStays). -/
import Derived.Test.YtempibbfdojfiacLPolyPolyStays
set_option linter.unusedVariables false
set_option linter.unusedSimpArgs false
namespace Go.Proofs.Ytempibbfdojfiac.ModPolyStays
open Go.RowKit Go.Proofs.Ytempibbfdojfiac.PPolyStays Go.Proofs.YtempibbfdojfiacW.PrintWords Go.Proofs.YtempibbfdojfiacW.PrintLast Go.Proofs.YtempibbfdojfiacW.PrintMore Go.Proofs.Ytempibbfdojfiac.Nm

/-- The first n, without 0s at their end. -/
def sh (l : List Int) : Nat → List Int
  | 0 => []
  | n + 1 => if rd l (n : Int) = 0 then sh l n else l.take (n + 1)
theorem sh_congr (l r : List Int) (n : Nat) (h : ∀ m, m ≤ n → l.take m = r.take m) (h2 : ∀ m, m < n → rd l (m : Int) = rd r (m : Int)) : sh l n = sh r n := by
  induction n with
  | zero => rfl
  | succ n ih =>
    simp only [sh]
    rw [h2 n (by omega), ih (fun m hm => h m (by omega)) (fun m hm => h2 m (by omega)), h (n + 1) (Nat.le_refl _)]
theorem rd_nat (l : List Int) (n : Nat) : rd l (n : Int) = l.getD n 0 := by unfold rd; rw [Int.toNat_natCast]
theorem rd_take (l : List Int) (n m : Nat) (h : m < n) : rd (l.take n) (m : Int) = rd l (m : Int) := by
  rw [rd_nat, rd_nat, List.getD_eq_getElem?_getD, List.getD_eq_getElem?_getD, List.getElem?_take_of_lt h]
theorem rd_app (l r : List Int) (m : Nat) (h : m < l.length) : rd (l ++ r) (m : Int) = rd l (m : Int) := by
  rw [rd_nat, rd_nat, List.getD_eq_getElem?_getD, List.getD_eq_getElem?_getD, List.getElem?_append_left h]
theorem sh_app (l : List Int) : sh (l ++ [0]) (l.length + 1) = sh l l.length := by
  have h0 : rd (l ++ [0]) (l.length : Int) = 0 := by
    rw [rd_nat, List.getD_eq_getElem?_getD, List.getElem?_append_right (Nat.le_refl _), Nat.sub_self]; rfl
  simp only [sh]
  rw [if_pos h0]
  apply sh_congr
  · intro m hm; exact List.take_append_of_le_length hm
  · intro m hm; exact rd_app l [0] m hm
theorem sh_zeros (l : List Int) (n : Nat) (h : ∀ m, m < n → rd l (m : Int) = 0) : sh l n = [] := by
  induction n with
  | zero => rfl
  | succ n ih => simp only [sh]; rw [if_pos (h n (by omega)), ih fun m hm => h m (by omega)]
theorem short_loop (l : List Int) (hl : l.length ≤ 9223372036854775807) (n : Nat) : n ≤ l.length → Ev (fun k => poly_short.l0 k (l.take n)) (sh l n) := by
  induction n with
  | zero =>
    intro hn
    refine Ev.step (fun k => by rw [poly_short.l0]) ?_
    exact Ev.neg (by simp) (Ev.val rfl)
  | succ n ih =>
    intro hn
    have hlen : (l.take (n + 1)).length = n + 1 := by rw [List.length_take]; omega
    refine Ev.step (fun k => by rw [poly_short.l0]) ?_
    rw [hlen, show wrap64 (((n + 1 : Nat) : Int) - 1) = n from by rw [wi _ (by omega) (by omega)]; omega, rd_take l (n + 1) n (by omega)]
    refine Ev.pos (by omega) (Ev.pos (by omega) (Ev.pos (by omega) ?_))
    simp only [sh]
    by_cases h0 : rd l (n : Int) = 0
    · rw [if_pos h0]
      refine Ev.pos h0 (Ev.pos (by omega) ?_)
      rw [Int.toNat_natCast, List.take_take, Nat.min_eq_left (by omega)]
      exact ih (by omega)
    · rw [if_neg h0]
      exact Ev.neg h0 (Ev.val rfl)
theorem short_val (l : List Int) (hl : l.length ≤ 9223372036854775807) : Ev (fun k => poly_short.f k l) (sh l l.length) := by
  unfold poly_short.f
  have h := short_loop l hl l.length (Nat.le_refl _)
  rw [List.take_length] at h
  exact h
theorem rshort_loop (l : List Int) (hl : l.length ≤ 9223372036854775807) (n : Nat) : ∀ i : Int, i = n → n ≤ l.length → Ev (fun k => obolref13_Short.l0 k l i) (sh l n) := by
  induction n with
  | zero =>
    intro i hi hn
    refine Ev.step (fun k => by rw [obolref13_Short.l0]) ?_
    refine Ev.neg (by omega) (Ev.pos (by omega) (Ev.pos (by omega) (Ev.val ?_)))
    rw [hi]; rfl
  | succ n ih =>
    intro i hi hn
    have e : wrap64 (i - 1) = n := by rw [wi _ (by omega) (by omega)]; omega
    refine Ev.step (fun k => by rw [obolref13_Short.l0]) ?_
    rw [e]
    refine Ev.pos (by omega) (Ev.pos (by omega) (Ev.pos (by omega) ?_))
    simp only [sh]
    by_cases h0 : rd l (n : Int) = 0
    · rw [if_pos h0]
      exact Ev.pos h0 (ih (n : Int) rfl (by omega))
    · rw [if_neg h0]
      refine Ev.neg h0 (Ev.pos (by omega) (Ev.pos (by omega) (Ev.val ?_)))
      rw [hi, Int.toNat_natCast]
theorem rshort_val (l : List Int) (hl : l.length ≤ 9223372036854775807) : Ev (fun k => obolref13_Short.f k l) (sh l l.length) := by
  unfold obolref13_Short.f
  exact rshort_loop l hl l.length _ rfl (Nat.le_refl _)
theorem same_loop (l : List Int) (hl : l.length ≤ 9223372036854775806) (d : Nat) : ∀ (n : Nat) (i : Int), n + d = l.length → i = n → Ev (fun k => obolref13_Same.l0 k l l i) true := by
  induction d with
  | zero =>
    intro n i hn hi
    refine Ev.step (fun k => by rw [obolref13_Same.l0]) ?_
    exact Ev.neg (by omega) (Ev.val rfl)
  | succ d ih =>
    intro n i hn hi
    refine Ev.step (fun k => by rw [obolref13_Same.l0]) ?_
    refine Ev.pos (by omega) (Ev.pos (by omega) (Ev.pos (by omega) (Ev.pos rfl ?_)))
    rw [show wrap64 (i + 1) = i + 1 from wi _ (by omega) (by omega)]
    exact ih (n + 1) (i + 1) (by omega) (by omega)
theorem same_val (l r : List Int) (hl : l.length ≤ 9223372036854775806) (h : l = r) : Ev (fun k => obolref13_Same.f k l r) true := by
  subst h
  unfold obolref13_Same.f
  exact Ev.pos rfl (same_loop l hl l.length 0 0 (by omega) rfl)
/-- The list of so many values. -/
def ml (N : Nat) (c : Nat → F) : List Int := (List.range N).map fun n => u (c n)
theorem ml_len (N : Nat) (c : Nat → F) : (ml N c).length = N := by simp [ml]
theorem ml_get (N : Nat) (c : Nat → F) (n : Nat) (h : n < N) : (ml N c)[n]? = some (u (c n)) := by
  unfold ml
  rw [List.getElem?_map, List.getElem?_range h]; rfl
theorem ml_rd (N : Nat) (c : Nat → F) (n : Nat) (h : n < N) : rd (ml N c) (n : Int) = u (c n) := by
  rw [rd_nat, List.getD_eq_getElem?_getD, ml_get N c n h]; rfl
theorem ml_congr (N : Nat) (c d : Nat → F) (h : ∀ n, n < N → c n = d n) : ml N c = ml N d := by
  unfold ml
  apply List.map_congr_left
  intro n hn
  rw [h n (List.mem_range.1 hn)]
theorem ml_set (N : Nat) (c : Nat → F) (j : Nat) (v : F) : (ml N c).set j (u v) = ml N (fun n => if n = j then v else c n) := by
  apply List.ext_getElem?
  intro i
  by_cases hi : i < N
  · rw [ml_get N _ i hi, List.getElem?_set]
    by_cases hij : j = i
    · subst hij
      rw [if_pos rfl, if_pos (by rw [ml_len]; exact hi), if_pos rfl]
    · rw [if_neg hij, ml_get N c i hi, if_neg (fun h => hij h.symm)]
  · rw [List.getElem?_eq_none (by rw [List.length_set, ml_len]; omega), List.getElem?_eq_none (by rw [ml_len]; omega)]
theorem ml_zero (N : Nat) : List.replicate N (0 : Int) = ml N (fun _ => 0) := by
  apply List.ext_getElem?
  intro i
  by_cases hi : i < N
  · rw [ml_get N _ i hi, List.getElem?_replicate, if_pos hi]; rfl
  · rw [List.getElem?_eq_none (by rw [List.length_replicate]; omega), List.getElem?_eq_none (by rw [ml_len]; omega)]
theorem ml_succ (N : Nat) (c : Nat → F) : ml (N + 1) c = ml N c ++ [u (c N)] := by
  unfold ml
  rw [List.range_succ, List.map_append]; rfl
/-- What the i-th coefficient of p adds to the n-th of the product. -/
def trm (p q : List Int) (i n : Nat) : F := if i ≤ n ∧ n < i + q.length then z (rd p (i : Int)) * z (rd q ((n - i : Nat) : Int)) else 0
/-- The n-th coefficient of the product. -/
def cf (p q : List Int) (n : Nat) : F := sm (fun i => trm p q i n) p.length
theorem rd_lim {l : List Int} (hl : ∀ x ∈ l, 0 ≤ x ∧ x < 18446744073709551616) {i : Int} (h0 : 0 ≤ i) (h1 : i < l.length) : 0 ≤ rd l i ∧ rd l i < 18446744073709551616 := by
  obtain ⟨c, hc, hrd, -⟩ := rd_of h0 h1
  rw [hrd]; exact hl c hc
theorem mul_l1 (p q : List Int) (hp : ∀ x ∈ p, 0 ≤ x ∧ x < 18446744073709551616) (hq : ∀ x ∈ q, 0 ≤ x ∧ x < 18446744073709551616) (hpl : p.length ≤ 1000000) (hql : q.length ≤ 1000000)
    (i : Nat) (hi : i < p.length) (c : Nat → F) (r : List Int)
    (go : Ev (fun k => poly_Mul.l0 k q (ml (p.length + q.length) (fun n => c n + trm p q i n)) p (p.length : Int) ((i : Int) + 1)) r) (d : Nat) :
    ∀ (j : Nat) (jj : Int), j + d = q.length → jj = j →
    Ev (fun k => poly_Mul.l1 k q (ml (p.length + q.length) (fun n => c n + if n < i + j then trm p q i n else 0)) (i : Int) (rd p (i : Int)) p (p.length : Int) (i : Int) q (q.length : Int) jj) r := by
  have hpi := rd_lim hp (i := (i : Int)) (by omega) (by omega)
  induction d with
  | zero =>
    intro j jj hj hjj
    refine Ev.step (fun k => by rw [poly_Mul.l1]) ?_
    refine Ev.neg (by omega) ?_
    rw [show wrap64 ((i : Int) + 1) = i + 1 from wi _ (by omega) (by omega)]
    have e : ml (p.length + q.length) (fun n => c n + if n < i + j then trm p q i n else 0) = ml (p.length + q.length) (fun n => c n + trm p q i n) := by
      apply ml_congr
      intro n _
      by_cases hn : n < i + j
      · rw [if_pos hn]
      · rw [if_neg hn]
        unfold trm
        rw [if_neg (by omega)]
    rw [e]
    exact go
  | succ d ih =>
    intro j jj hj hjj
    have hqj := rd_lim hq (i := jj) (by omega) (by omega)
    refine Ev.step (fun k => by rw [poly_Mul.l1]) ?_
    rw [show wrap64 ((i : Int) + jj) = ((i + j : Nat) : Int) from by rw [wi _ (by omega) (by omega)]; omega, show wrap64 (jj + 1) = jj + 1 from wi _ (by omega) (by omega)]
    have hml := ml_len (p.length + q.length) (fun n => c n + if n < i + j then trm p q i n else 0)
    refine Ev.pos (by omega) (Ev.pos (by omega) (Ev.pos (by omega) (Ev.pos (by omega) (Ev.pos (by omega) ((pmul _ _ hpi.1 hqj.1).bind ?_)))))
    rw [ml_rd _ _ (i + j) (by omega)]
    refine Ev.bindc (add_val moR _ _ (uF0 _) (uF0 _)) ?_
    rw [addF, z_u, z_u, Int.toNat_natCast, ml_set]
    have e : ml (p.length + q.length) (fun n => if n = i + j then (c (i + j) + if i + j < i + j then trm p q i (i + j) else 0) + z (rd p (i : Int)) * z (rd q jj) else c n + if n < i + j then trm p q i n else 0)
        = ml (p.length + q.length) (fun n => c n + if n < i + (j + 1) then trm p q i n else 0) := by
      apply ml_congr
      intro n _
      by_cases hn : n = i + j
      · subst hn
        rw [if_pos rfl, if_neg (by omega), if_pos (by omega)]
        unfold trm
        rw [if_pos (by omega), show i + j - i = j by omega, ← hjj, fadd_zero]
      · rw [if_neg hn]
        by_cases hn2 : n < i + j
        · rw [if_pos hn2, if_pos (by omega)]
        · rw [if_neg hn2, if_neg (by omega)]
    rw [e]
    exact ih (j + 1) (jj + 1) (by omega) (by omega)
theorem mul_l0 (p q : List Int) (hp : ∀ x ∈ p, 0 ≤ x ∧ x < 18446744073709551616) (hq : ∀ x ∈ q, 0 ≤ x ∧ x < 18446744073709551616) (hpl : p.length ≤ 1000000) (hql : q.length ≤ 1000000) (d : Nat) :
    ∀ (i : Nat) (ii : Int), i + d = p.length → ii = i →
    Ev (fun k => poly_Mul.l0 k q (ml (p.length + q.length) (fun n => sm (fun i => trm p q i n) i)) p (p.length : Int) ii) (sh (ml (p.length + q.length) (cf p q)) (p.length + q.length)) := by
  induction d with
  | zero =>
    intro i ii hi hii
    refine Ev.step (fun k => by rw [poly_Mul.l0]) ?_
    have : i = p.length := by omega
    subst this
    have h := short_val (ml (p.length + q.length) (cf p q)) (by rw [ml_len]; omega)
    rw [ml_len] at h
    exact Ev.neg (by omega) (Ev.tail h)
  | succ d ih =>
    intro i ii hi hii
    refine Ev.step (fun k => by rw [poly_Mul.l0]) ?_
    refine Ev.pos (by omega) (Ev.pos (by omega) (Ev.pos (by omega) ?_))
    rw [hii]
    have h := mul_l1 p q hp hq hpl hql i (by omega) (fun n => sm (fun i => trm p q i n) i) _ (ih (i + 1) ((i : Int) + 1) (by omega) (by omega)) q.length 0 0 (by omega) rfl
    have e : ml (p.length + q.length) (fun n => sm (fun i => trm p q i n) i + if n < i + 0 then trm p q i n else 0) = ml (p.length + q.length) (fun n => sm (fun i => trm p q i n) i) := by
      apply ml_congr
      intro n _
      by_cases hn : n < i + 0
      · rw [if_pos hn]
        unfold trm
        rw [if_neg (by omega), fadd_zero]
      · rw [if_neg hn, fadd_zero]
    rw [e] at h
    exact h
theorem pmul_val (p q : List Int) (hp : ∀ x ∈ p, 0 ≤ x ∧ x < 18446744073709551616) (hq : ∀ x ∈ q, 0 ≤ x ∧ x < 18446744073709551616) (hpl : p.length ≤ 1000000) (hql : q.length ≤ 1000000) :
    Ev (fun k => poly_Mul.f k p q) (sh (ml (p.length + q.length) (cf p q)) (p.length + q.length)) := by
  unfold poly_Mul.f
  rw [show wrap64 ((p.length : Int) + (q.length : Int)) = ((p.length + q.length : Nat) : Int) from by rw [wi _ (by omega) (by omega)]; omega, Int.toNat_natCast, ml_zero]
  refine Ev.pos (by omega) (Ev.pos (by omega) ?_)
  exact mul_l0 p q hp hq hpl hql p.length 0 0 (by omega) rfl
/-- What the reference adds. -/
def trr (p q : List Int) (n i : Nat) : F := if i < p.length ∧ n - i < q.length then z (rd p (i : Int)) * z (rd q ((n - i : Nat) : Int)) else 0
theorem trr_cf (p q : List Int) (n : Nat) : sm (trr p q n) (n + 1) = cf p q n := by
  have h : ∀ K, p.length ≤ K → n + 1 ≤ K → sm (fun i => if i < p.length ∧ i ≤ n ∧ n < i + q.length then z (rd p (i : Int)) * z (rd q ((n - i : Nat) : Int)) else (0 : F)) K = sm (trr p q n) (n + 1)
      ∧ sm (fun i => if i < p.length ∧ i ≤ n ∧ n < i + q.length then z (rd p (i : Int)) * z (rd q ((n - i : Nat) : Int)) else (0 : F)) K = cf p q n := by
    intro K h1 h2
    constructor
    · obtain ⟨d, rfl⟩ : ∃ d, K = n + 1 + d := ⟨K - (n + 1), by omega⟩
      rw [sm_split, sm_zero (fun i => (fun i => if i < p.length ∧ i ≤ n ∧ n < i + q.length then z (rd p (i : Int)) * z (rd q ((n - i : Nat) : Int)) else (0 : F)) (n + 1 + i)), fadd_zero]
      · apply sm_congr
        intro i hi
        unfold trr
        by_cases hc : i < p.length ∧ n - i < q.length
        · rw [if_pos hc, if_pos (by omega)]
        · rw [if_neg hc, if_neg (by omega)]
      · intro i _
        show (if _ then _ else _) = _
        rw [if_neg (by omega)]
    · obtain ⟨d, rfl⟩ : ∃ d, K = p.length + d := ⟨K - p.length, by omega⟩
      rw [sm_split, sm_zero (fun i => (fun i => if i < p.length ∧ i ≤ n ∧ n < i + q.length then z (rd p (i : Int)) * z (rd q ((n - i : Nat) : Int)) else (0 : F)) (p.length + i)), fadd_zero]
      · unfold cf
        apply sm_congr
        intro i hi
        unfold trm
        by_cases hc : i ≤ n ∧ n < i + q.length
        · rw [if_pos hc, if_pos (by omega)]
        · rw [if_neg hc, if_neg (by omega)]
      · intro i _
        show (if _ then _ else _) = _
        rw [if_neg (by omega)]
  obtain ⟨a, b⟩ := h (p.length + (n + 1)) (by omega) (by omega)
  rw [← a, b]
theorem rmul_l1 (p q : List Int) (hp : ∀ x ∈ p, 0 ≤ x ∧ x < 18446744073709551616) (hq : ∀ x ∈ q, 0 ≤ x ∧ x < 18446744073709551616) (hpl : p.length ≤ 1000000) (hql : q.length ≤ 1000000)
    (n : Nat) (hn : n ≤ 3000000) (r : List Int)
    (go : Ev (fun k => obolref13_Mul.l0 k p q (ml (n + 1) (cf p q)) ((n : Int) + 1)) r) (d : Nat) :
    ∀ (i : Nat) (ii : Int), i + d = n + 1 → ii = i → Ev (fun k => obolref13_Mul.l1 k p q (ml n (cf p q)) (n : Int) (u (sm (trr p q n) i)) ii) r := by
  induction d with
  | zero =>
    intro i ii hi hii
    refine Ev.step (fun k => by rw [obolref13_Mul.l1]) ?_
    have hml := ml_len n (cf p q)
    refine Ev.neg (by omega) (Ev.pos (by omega) ?_)
    have : i = n + 1 := by omega
    subst this
    rw [trr_cf, ← ml_succ, show wrap64 ((n : Int) + 1) = n + 1 from wi _ (by omega) (by omega)]
    exact go
  | succ d ih =>
    intro i ii hi hii
    have key : ∀ b : Bool, (b = decide (i < p.length ∧ n - i < q.length)) → Ev (fun k => obolref13_Mul.j3 k p q (ml n (cf p q)) (n : Int) (u (sm (trr p q n) i)) ii b) r := by
      intro b hb
      refine Ev.step (fun k => by rw [obolref13_Mul.j3]) ?_
      rw [show wrap64 ((n : Int) - ii) = ((n - i : Nat) : Int) from by rw [wi _ (by omega) (by omega)]; omega, show wrap64 (ii + 1) = ii + 1 from wi _ (by omega) (by omega)]
      have hnext := ih (i + 1) (ii + 1) (by omega) (by omega)
      by_cases hc : i < p.length ∧ n - i < q.length
      · have hpi := rd_lim hp (i := ii) (by omega) (by omega)
        have hqi := rd_lim hq (i := ((n - i : Nat) : Int)) (by omega) (by omega)
        refine Ev.pos (by rw [hb, decide_eq_true hc]) (Ev.pos (by omega) (Ev.pos (by omega) (Ev.pos (by omega) (Ev.pos (by omega) ((rmul _ _ hpi.1 hqi.1).bind (Ev.bindc (rplus _ _ (uF0 _) (uF0 _)) ?_))))))
        rw [z_u, z_u]
        have e : sm (trr p q n) i + z (rd p ii) * z (rd q ((n - i : Nat) : Int)) = sm (trr p q n) (i + 1) := by
          show _ = sm (trr p q n) i + trr p q n i
          unfold trr
          rw [if_pos hc, hii]
        rw [e]
        exact hnext
      · refine Ev.neg (by rw [hb, decide_eq_false hc]; simp) ?_
        have e : sm (trr p q n) i = sm (trr p q n) (i + 1) := by
          show _ = sm (trr p q n) i + trr p q n i
          unfold trr
          rw [if_neg hc, fadd_zero]
        rw [e]
        exact hnext
    refine Ev.step (fun k => by rw [obolref13_Mul.l1]) ?_
    rw [show wrap64 ((n : Int) - ii) = ((n - i : Nat) : Int) from by rw [wi _ (by omega) (by omega)]; omega]
    refine Ev.pos (by omega) ?_
    by_cases h1 : ii < (p.length : Int)
    · refine Ev.pos h1 (key _ ?_)
      rw [decide_eq_decide]; omega
    · refine Ev.neg h1 (key _ ?_)
      exact (decide_eq_false (by omega)).symm
theorem rmul_end (p q : List Int) (l : List Int) (hl : l.length ≤ 9223372036854775807) (i : Int) : Ev (fun k => obolref13_Mul.j1 k p q l i false) (sh l l.length) := by
  refine Ev.step (fun k => by rw [obolref13_Mul.j1]) ?_
  exact Ev.neg (by simp) (Ev.tail (rshort_val l hl))
theorem rmul_l0 (p q : List Int) (hp : ∀ x ∈ p, 0 ≤ x ∧ x < 18446744073709551616) (hq : ∀ x ∈ q, 0 ≤ x ∧ x < 18446744073709551616) (hpl : p.length ≤ 1000000) (hql : q.length ≤ 1000000)
    (hp0 : 0 < p.length) (hq0 : 0 < q.length) (d : Nat) :
    ∀ (n : Nat) (ii : Int), n + d = p.length + q.length - 1 → ii = n →
    Ev (fun k => obolref13_Mul.l0 k p q (ml n (cf p q)) ii) (sh (ml (p.length + q.length - 1) (cf p q)) (p.length + q.length - 1)) := by
  have e : wrap64 (wrap64 ((p.length : Int) + (q.length : Int)) - 1) = ((p.length + q.length - 1 : Nat) : Int) := by
    rw [wi ((p.length : Int) + (q.length : Int)) (by omega) (by omega), wi _ (by omega) (by omega)]; omega
  induction d with
  | zero =>
    intro n ii hn hii
    have : n = p.length + q.length - 1 := by omega
    subst this
    refine Ev.step (fun k => by rw [obolref13_Mul.l0]) ?_
    rw [e]
    refine Ev.neg (by omega) ?_
    have h := rmul_end p q (ml (p.length + q.length - 1) (cf p q)) (by rw [ml_len]; omega) ii
    rw [ml_len] at h
    exact h
  | succ d ih =>
    intro n ii hn hii
    refine Ev.step (fun k => by rw [obolref13_Mul.l0]) ?_
    rw [e, show decide ((q.length : Int) > 0) = true from decide_eq_true (by omega)]
    refine Ev.pos (by omega) (Ev.pos (by omega) ?_)
    refine Ev.step (fun k => by rw [obolref13_Mul.j1]) ?_
    refine Ev.pos rfl ?_
    rw [hii]
    exact rmul_l1 p q hp hq hpl hql n (by omega) _ (ih (n + 1) ((n : Int) + 1) (by omega) (by omega)) (n + 1) 0 0 (by omega) rfl
theorem cf_out (p q : List Int) (n : Nat) (h : p.length + q.length ≤ n + 1) : cf p q n = 0 := by
  unfold cf
  apply sm_zero
  intro i hi
  unfold trm
  rw [if_neg (by omega)]
theorem rpmul_val (p q : List Int) (hp : ∀ x ∈ p, 0 ≤ x ∧ x < 18446744073709551616) (hq : ∀ x ∈ q, 0 ≤ x ∧ x < 18446744073709551616) (hpl : p.length ≤ 1000000) (hql : q.length ≤ 1000000) :
    Ev (fun k => obolref13_Mul.f k p q) (sh (ml (p.length + q.length) (cf p q)) (p.length + q.length)) := by
  unfold obolref13_Mul.f
  by_cases h0 : 0 < p.length ∧ 0 < q.length
  · have h := rmul_l0 p q hp hq hpl hql h0.1 h0.2 (p.length + q.length - 1) 0 0 (by omega) rfl
    refine Ev.to h ?_
    obtain ⟨N, hN⟩ : ∃ N, p.length + q.length = N + 1 := ⟨p.length + q.length - 1, by omega⟩
    rw [hN, Nat.add_sub_cancel, ml_succ, cf_out p q N (by omega)]
    have := sh_app (ml N (cf p q))
    rw [ml_len] at this
    exact this.symm
  · have hz : sh (ml (p.length + q.length) (cf p q)) (p.length + q.length) = [] := by
      apply sh_zeros
      intro m hm
      rw [ml_rd _ _ _ hm]
      have : cf p q m = 0 := by
        unfold cf
        apply sm_zero
        intro i hi
        unfold trm
        rw [if_neg (by omega)]
      rw [this]; rfl
    rw [hz]
    have hend := rmul_end p q [] (by simp) 0
    refine Ev.step (fun k => by rw [obolref13_Mul.l0]) ?_
    by_cases hlt : (0 : Int) < wrap64 (wrap64 ((p.length : Int) + (q.length : Int)) - 1)
    · refine Ev.pos hlt ?_
      by_cases hpp : (p.length : Int) > 0
      · refine Ev.pos hpp ?_
        rw [decide_eq_false (by omega)]
        exact hend
      · exact Ev.neg hpp hend
    · exact Ev.neg hlt hend
end Go.Proofs.Ytempibbfdojfiac.ModPolyStays
