/- The fast transform, its inverse, and the reference's values on a domain (for the law PolyBack). -/
import Derived.Test.YtempibbfdojfiacLMulPolyBack
set_option linter.unusedVariables false
set_option linter.unusedSimpArgs false
namespace Go.Proofs.Ytempibbfdojfiac.ModPolyBack
open Go.RowKit Go.Proofs.Ytempibbfdojfiac.PPolyBack Go.Proofs.YtempibbfdojfiacW.PrintWords Go.Proofs.YtempibbfdojfiacW.PrintLast Go.Proofs.YtempibbfdojfiacW.PrintMore Go.Proofs.Ytempibbfdojfiac.Nm

theorem pow_le (k : Nat) (hk : k ≤ 12) : 2 ^ k ≤ 4096 := Nat.pow_le_pow_right (show 0 < 2 by omega) hk
theorem shl_u (k : Nat) (hk : k ≤ 12) : shl .u64 1 (k : Int) = ((2 ^ k : Nat) : Int) := by
  unfold shl
  have e : min (k : Int).toNat IntKind.u64.bits = k := by
    show min (k : Int).toNat 64 = k
    omega
  rw [e, Int.one_mul]
  have h2 : (2 : Int) ^ k = ((2 ^ k : Nat) : Int) := by rw [Int.natCast_pow]; rfl
  rw [h2]
  exact wu _ (Int.natCast_nonneg _) (Int.ofNat_lt.2 (Nat.lt_of_le_of_lt (pow_le k hk) (by decide)))
theorem shl_i (k : Nat) (hk : k ≤ 12) : shl .i64 1 (k : Int) = ((2 ^ k : Nat) : Int) := by
  unfold shl
  have e : min (k : Int).toNat IntKind.i64.bits = k := by
    show min (k : Int).toNat 64 = k
    omega
  rw [e, Int.one_mul]
  have h2 : (2 : Int) ^ k = ((2 ^ k : Nat) : Int) := by rw [Int.natCast_pow]; rfl
  rw [h2]
  have hle := pow_le k hk
  generalize 2 ^ k = q at *
  rw [IntKind.wrap_i64]
  omega
/-- Every other one, from the first on; from the second on. -/
def evs : List Int → List Int
  | [] => []
  | [a] => [a]
  | a :: _ :: t => a :: evs t
def ods : List Int → List Int
  | [] => []
  | [_] => []
  | _ :: b :: t => b :: ods t
theorem snoc_even (x : Int) : ∀ l : List Int, l.length % 2 = 0 → evs (l ++ [x]) = evs l ++ [x] ∧ ods (l ++ [x]) = ods l
  | [], _ => ⟨rfl, rfl⟩
  | [a], h => by simp at h
  | a :: b :: t, h => by
    obtain ⟨h1, h2⟩ := snoc_even x t (by simp only [List.length_cons] at h; omega)
    constructor
    · show a :: evs (t ++ [x]) = a :: (evs t ++ [x])
      rw [h1]
    · show b :: ods (t ++ [x]) = b :: ods t
      rw [h2]
theorem snoc_odd (x : Int) : ∀ l : List Int, l.length % 2 = 1 → evs (l ++ [x]) = evs l ∧ ods (l ++ [x]) = ods l ++ [x]
  | [], h => by simp at h
  | [a], _ => ⟨rfl, rfl⟩
  | a :: b :: t, h => by
    obtain ⟨h1, h2⟩ := snoc_odd x t (by simp only [List.length_cons] at h; omega)
    constructor
    · show a :: evs (t ++ [x]) = a :: evs t
      rw [h1]
    · show b :: ods (t ++ [x]) = b :: (ods t ++ [x])
      rw [h2]
theorem split_len : ∀ l : List Int, (evs l).length = (l.length + 1) / 2 ∧ (ods l).length = l.length / 2
  | [] => ⟨rfl, rfl⟩
  | [a] => by simp [evs, ods]
  | a :: b :: t => by
    obtain ⟨h1, h2⟩ := split_len t
    simp only [evs, ods, List.length_cons, h1, h2]
    omega
theorem evs_mem : ∀ (l : List Int) (x : Int), x ∈ evs l → x ∈ l
  | [], x, h => h
  | [a], x, h => h
  | a :: b :: t, x, h => by
    rcases List.mem_cons.1 h with h | h
    · rw [h]; exact List.mem_cons_self
    · exact List.mem_cons_of_mem _ (List.mem_cons_of_mem _ (evs_mem t x h))
theorem ods_mem : ∀ (l : List Int) (x : Int), x ∈ ods l → x ∈ l
  | [], x, h => h
  | [a], x, h => by cases h
  | a :: b :: t, x, h => by
    rcases List.mem_cons.1 h with h | h
    · rw [h]; exact List.mem_cons_of_mem _ List.mem_cons_self
    · exact List.mem_cons_of_mem _ (List.mem_cons_of_mem _ (ods_mem t x h))
theorem ev_split_step (a b x e o : F) : a + x * (b + x * (e + x * o)) = a + x * x * e + x * (b + x * x * o) := by grind
theorem ev_split (x : F) : ∀ l : List Int, ev (l.map z) x = ev ((evs l).map z) (x * x) + x * ev ((ods l).map z) (x * x)
  | [] => by simp only [evs, ods, List.map_nil, ev]; rw [fmul_zero, fadd_zero]
  | [a] => by simp only [evs, ods, List.map_nil, List.map_cons, ev]; rw [fmul_zero, fmul_zero, fadd_zero, fadd_zero]
  | a :: b :: t => by
    simp only [evs, ods, List.map_cons, ev]
    rw [ev_split x t, ev_split_step]
theorem map_ml (N : Nat) (c : Nat → F) (x : F) : ev ((ml N c).map z) x = sm (fun i => c i * x ^ i) N := by
  induction N with
  | zero => rfl
  | succ N ih =>
    rw [ml_succ, List.map_append, ev_append, ih, List.length_map, ml_len]
    simp only [List.map_cons, List.map_nil, ev, sm]
    rw [z_u, fmul_zero, fadd_zero, fmul_comm (x ^ N)]
theorem list_ml (l : List Int) : l.map (z : Int → F) = (ml l.length (fun i => z (rd l (i : Int)))).map z := by
  apply List.ext_getElem?
  intro i
  by_cases hi : i < l.length
  · rw [List.getElem?_map, List.getElem?_map, ml_get _ _ i hi, List.getElem?_eq_getElem hi]
    show some (z l[i]) = some (z (u (z (rd l (i : Int)))))
    rw [z_u, rd_nat, List.getD_eq_getElem?_getD, List.getElem?_eq_getElem hi]; rfl
  · rw [List.getElem?_eq_none (by rw [List.length_map]; omega), List.getElem?_eq_none (by rw [List.length_map, ml_len]; omega)]
theorem ev_list (l : List Int) (x : F) : ev (l.map z) x = sm (fun i => z (rd l (i : Int)) * x ^ i) l.length := by rw [list_ml, map_ml]
theorem turn_l1 (N : Nat) (hN : N ≤ 4096) (w : F) (E O : Nat → F) (T : Nat → F) (hT1 : ∀ j, j < N → T j = E j + w ^ j * O j) (hT2 : ∀ j, j < N → T (N + j) = E j - w ^ j * O j) (d : Nat) :
    ∀ (i : Nat) (ii : Int), i + d = N → ii = i → Ev (fun k => poly_turn.l1 k (u w) (ml N E) (ml N O) (ml (N + N) (fun j => if j < i then T j else if N ≤ j ∧ j < N + i then T j else 0)) (u (w ^ i)) (N : Int) (N : Int) ii) (ml (N + N) T) := by
  have hE := ml_len N E
  have hO := ml_len N O
  induction d with
  | zero =>
    intro i ii hi hii
    refine Ev.step (fun k => by rw [poly_turn.l1]) ?_
    refine Ev.neg (by omega) (Ev.val ?_)
    apply ml_congr
    intro n hn
    by_cases h : n < i
    · rw [if_pos h]
    · rw [if_neg h, if_pos (by omega)]
  | succ d ih =>
    intro i ii hi hii
    have hnext := ih (i + 1) (ii + 1) (by omega) (by omega)
    have hml := ml_len (N + N) (fun j => if j < i then T j else if N ≤ j ∧ j < N + i then T j else 0)
    refine Ev.step (fun k => by rw [poly_turn.l1]) ?_
    rw [show wrap64 ((N : Int) + ii) = ((N + i : Nat) : Int) from by rw [wi _ (by omega) (by omega)]; omega, show wrap64 (ii + 1) = ii + 1 from wi _ (by omega) (by omega), hii, ml_rd _ _ i (by omega), ml_rd _ _ i (by omega)]
    have m1 := pmul (u (w ^ i)) (u (O i)) (uF0 _) (uF0 _)
    have m2 := pmul (u (w ^ i)) (u w) (uF0 _) (uF0 _)
    rw [z_u, z_u] at m1 m2
    rw [← fpow_succ] at m2
    refine Ev.pos (by omega) (Ev.pos (by omega) (Ev.pos (by omega) (m1.bind (Ev.pos (by omega) (Ev.bindc (add_val moR _ _ (uF0 _) (uF0 _)) (Ev.bindc (sub_val moR _ _ (uF0 _) (uF0 _)) ?_))))))
    refine Ev.pos (by omega) (Ev.pos (by omega) (Ev.pos (by omega) (m2.bind ?_)))
    rw [addF, subF, z_u, z_u, Int.toNat_natCast, Int.toNat_natCast, ml_set, ml_set]
    have e : ml (N + N) (fun n => if n = N + i then E i - w ^ i * O i else if n = i then E i + w ^ i * O i else if n < i then T n else if N ≤ n ∧ n < N + i then T n else 0)
        = ml (N + N) (fun j => if j < i + 1 then T j else if N ≤ j ∧ j < N + (i + 1) then T j else 0) := by
      apply ml_congr
      intro n hn
      by_cases h1 : n = N + i
      · subst h1
        rw [if_pos rfl, if_neg (by omega), if_pos (by omega), hT2 i (by omega)]
      · rw [if_neg h1]
        by_cases h2 : n = i
        · subst h2
          rw [if_pos rfl, if_pos (by omega), hT1 n (by omega)]
        · rw [if_neg h2]
          by_cases h3 : n < i
          · rw [if_pos h3, if_pos (by omega)]
          · rw [if_neg h3, if_neg (show ¬ n < i + 1 by omega)]
            by_cases h4 : N ≤ n ∧ n < N + i
            · rw [if_pos h4, if_pos (by omega)]
            · rw [if_neg h4, if_neg (by omega)]
    rw [e, ← hii]
    exact hnext
theorem turn_l0 (l : List Int) (w : F) (hlen : l.length ≤ 8192) (res : List Int)
    (go : Ev (fun k => (poly_mul.f k (u w) (u w)).bind fun t140 => ((poly_turn.f k (evs l) t140).bind fun t141 => ((poly_mul.f k (u w) (u w)).bind fun t144 => ((poly_turn.f k (ods l) t144).bind fun t145 => (if 0 ≤ (l.length : Int) then (if ((l.length : Int) : Int).toNat ≤ 35184372088832 then (poly_turn.l1 k (u w) t141 t145 (List.replicate ((l.length : Int) : Int).toNat 0) 1 (wrap64 ((l.length : Int) / 2)) (wrap64 ((l.length : Int) / 2)) 0) else (none)) else (none)))))) res) (d : Nat) :
    ∀ (i : Nat) (ii : Int), i + d = l.length → ii = i → Ev (fun k => poly_turn.l0 k l (u w) (evs (l.take i)) (ods (l.take i)) l (l.length : Int) ii) res := by
  induction d with
  | zero =>
    intro i ii hi hii
    refine Ev.step (fun k => by rw [poly_turn.l0]) ?_
    refine Ev.neg (by omega) ?_
    rw [List.take_of_length_le (by omega)]
    exact go
  | succ d ih =>
    intro i ii hi hii
    have hlt : i < l.length := by omega
    have hnext := ih (i + 1) (ii + 1) (by omega) (by omega)
    have ht : l.take (i + 1) = l.take i ++ [rd l (i : Int)] := by
      rw [List.take_succ_eq_append_getElem hlt, rd_nat, List.getD_eq_getElem?_getD, List.getElem?_eq_getElem hlt]; rfl
    have hsl := split_len (l.take i)
    have htl : (l.take i).length = i := by rw [List.length_take]; omega
    rw [ht] at hnext
    refine Ev.step (fun k => by rw [poly_turn.l0]) ?_
    refine Ev.pos (by omega) (Ev.pos (by omega) (Ev.pos (by omega) ?_))
    rw [tmod_pos (by omega), show wrap64 (ii + 1) = ii + 1 from wi _ (by omega) (by omega)]
    by_cases he : i % 2 = 0
    · obtain ⟨h1, h2⟩ := snoc_even (rd l (i : Int)) (l.take i) (by omega)
      rw [h1, h2] at hnext
      refine Ev.pos (by omega) (Ev.pos (by omega) ?_)
      rw [hii] at hnext ⊢
      exact hnext
    · obtain ⟨h1, h2⟩ := snoc_odd (rd l (i : Int)) (l.take i) (by omega)
      rw [h1, h2] at hnext
      refine Ev.neg (by omega) (Ev.pos (by omega) ?_)
      rw [hii] at hnext ⊢
      exact hnext
theorem turn_val (k : Nat) : k ≤ 12 → ∀ (l : List Int) (w : F), l.length = 2 ^ k → (∀ x ∈ l, 0 ≤ x ∧ x < 18446744073709551616) → (1 ≤ k → w ^ 2 ^ (k - 1) = -1) →
    Ev (fun n => poly_turn.f n l (u w)) (ml (2 ^ k) (fun i => ev (l.map z) (w ^ i))) := by
  induction k with
  | zero =>
    intro hk l w hlen hl hw
    have hlen1 : l.length = 1 := by simpa using hlen
    obtain ⟨a, rfl⟩ := List.length_eq_one_iff.1 hlen1
    refine Ev.step (fun k => by rw [poly_turn.f]) ?_
    refine Ev.pos rfl (Ev.pos (by simp) (Ev.val ?_))
    have ha := (hl a (by simp)).1
    have e : rd [a] 0 = a := rfl
    rw [e, tmod_pos ha, ← uz]
    show [u (z a : F)] = [u (ev [z a] (w ^ 0))]
    simp only [ev]
    rw [fmul_zero, fadd_zero]
  | succ k ih =>
    intro hk l w hlen hl hw
    have hle := pow_le k (by omega)
    have hp : 0 < 2 ^ k := Nat.pow_pos (by omega)
    have hpk : 2 ^ (k + 1) = 2 ^ k + 2 ^ k := by rw [Nat.pow_succ]; omega
    have hwk := hw (by omega)
    rw [Nat.add_sub_cancel] at hwk
    have hsl := split_len l
    have hwk2 : 1 ≤ k → (w * w) ^ 2 ^ (k - 1) = -1 := by
      intro h1
      have e2 : w * w = w ^ 2 := (gpow2 w).symm
      rw [e2, ← fpow_mul, ← hwk]
      congr 1
      rw [Nat.mul_comm, ← Nat.pow_succ]
      congr 1
      omega
    have he := ih (by omega) (evs l) (w * w) (by rw [hsl.1, hlen, hpk]; generalize 2 ^ k = N at *; omega) (fun x hx => hl x (evs_mem l x hx)) hwk2
    have ho := ih (by omega) (ods l) (w * w) (by rw [hsl.2, hlen, hpk]; generalize 2 ^ k = N at *; omega) (fun x hx => hl x (ods_mem l x hx)) hwk2
    refine Ev.step (fun k => by rw [poly_turn.f]) ?_
    refine Ev.neg (by rw [hlen, hpk]; generalize 2 ^ k = N at *; omega) ?_
    have hm := pmul (u w) (u w) (uF0 _) (uF0 _)
    rw [z_u] at hm
    have h0 := turn_l0 l w (by rw [hlen, hpk]; generalize 2 ^ k = N at *; omega) (ml (2 ^ (k + 1)) (fun i => ev (l.map z) (w ^ i))) ?_ l.length 0 0 (by omega) rfl
    · exact h0
    · refine hm.bind (he.bind (hm.bind (ho.bind ?_)))
      have hlen2 : (l.length : Int) = ((2 ^ k : Nat) : Int) + ((2 ^ k : Nat) : Int) := by rw [hlen, hpk]; omega
      have hln : (l.length : Int).toNat = 2 ^ k + 2 ^ k := by rw [hlen, hpk]; omega
      have hhalf : wrap64 ((l.length : Int) / 2) = ((2 ^ k : Nat) : Int) := by
        rw [hlen2]
        generalize 2 ^ k = N at *
        rw [wi _ (by omega) (by omega)]; omega
      refine Ev.pos (by omega) (Ev.pos (by rw [hln]; generalize 2 ^ k = N at *; omega) ?_)
      rw [hhalf, hln, ml_zero]
      have hfin := turn_l1 (2 ^ k) (Nat.le_trans hle (by omega)) w (fun i => ev ((evs l).map z) ((w * w) ^ i)) (fun i => ev ((ods l).map z) ((w * w) ^ i)) (fun i => ev (l.map z) (w ^ i))
        (fun j _ => by
          show ev (l.map z) (w ^ j) = _
          rw [ev_split (w ^ j) l, ← fmul_pow])
        (fun j _ => by
          show ev (l.map z) (w ^ (2 ^ k + j)) = _
          have hneg : w ^ (2 ^ k + j) = -(w ^ j) := by rw [fpow_add, hwk]; exact neg_mul_l _
          rw [ev_split (w ^ (2 ^ k + j)) l, hneg, neg_mul_neg_l, ← fmul_pow]
          exact neg_sub_l _ _ _) (2 ^ k) 0 0 (by omega) rfl
      have ez : ml (2 ^ k + 2 ^ k) (fun j => if j < 0 then ev (l.map z) (w ^ j) else if 2 ^ k ≤ j ∧ j < 2 ^ k + 0 then ev (l.map z) (w ^ j) else 0) = ml (2 ^ k + 2 ^ k) (fun _ => 0) := by
        apply ml_congr
        intro n hn
        rw [if_neg (by omega), if_neg (by omega)]
      rw [ez, fpow_zero, show u (1 : F) = 1 by rw [← z_one, uz]; rfl, ← hpk] at hfin
      rw [← hpk]
      exact hfin
/-- The inverse of the domain's first power. -/
theorem root_inv (k : Nat) (hk : k ≤ 12) : rootW k * rootW k ^ (RR - 2) = 1 := by
  apply inv_mul prR
  intro h
  have h1 := rootW_pow k hk
  rw [h, fzero_pow _ (Nat.pow_pos (by omega))] at h1
  exact one_ne_zero prR h1.symm
theorem root_inv_half (k : Nat) (hk : k ≤ 12) (h1 : 1 ≤ k) : (rootW k ^ (RR - 2)) ^ 2 ^ (k - 1) = -1 := by
  have h := root_inv k hk
  have h2 : (rootW k * rootW k ^ (RR - 2)) ^ 2 ^ (k - 1) = 1 := by rw [h, fone_pow]
  rw [fmul_pow, rootW_half k hk h1] at h2
  exact neg_inv_l h2
theorem z_two_pow_ne (k : Nat) (hk : k ≤ 12) : (z ((2 ^ k : Nat) : Int) : F) ≠ 0 := by
  intro h
  have h2 := congrArg u h
  have hle := pow_le k hk
  have hp : 0 < 2 ^ k := Nat.pow_pos (by omega)
  rw [uz, u_zero] at h2
  generalize 2 ^ k = N at *
  omega
/-- What the coefficients are of which the values are told. -/
def coef (k : Nat) (l : List Int) (i : Nat) : F := ev (l.map z) ((rootW k ^ (RR - 2)) ^ i) * z ((2 ^ k : Nat) : Int) ^ (RR - 2)
theorem coef_back (k : Nat) (hk : k ≤ 12) (l : List Int) (hlen : l.length = 2 ^ k) (j : Nat) (hj : j < 2 ^ k) : ev ((ml (2 ^ k) (coef k l)).map z) (rootW k ^ j) = z (rd l (j : Int)) := by
  have hNi := inv_mul prR (z_two_pow_ne k hk)
  rw [map_ml]
  have e1 : sm (fun i => coef k l i * (rootW k ^ j) ^ i) (2 ^ k) = z ((2 ^ k : Nat) : Int) ^ (RR - 2) * sm (fun i => sm (fun m => z (rd l (m : Int)) * ((rootW k ^ (RR - 2)) ^ i) ^ m) (2 ^ k) * (rootW k ^ j) ^ i) (2 ^ k) := by
    rw [← sm_mul]
    apply sm_congr
    intro i _
    unfold coef
    rw [ev_list, hlen]
    exact arr4 _ _ _
  rw [e1]
  cases k with
  | zero =>
    have : j = 0 := by simp at hj; omega
    subst this
    simp only [Nat.pow_zero, sm]
    have hz1 : (z ((1 : Nat) : Int) : F) = 1 := z_one
    rw [hz1, fone_pow, fone_mul, fpow_zero, fpow_zero]
    have : (rd l ((0 : Nat) : Int)) = rd l 0 := rfl
    exact zadd3 _
  | succ m =>
    have hh := root_inv_half (m + 1) hk (by omega)
    rw [Nat.add_sub_cancel] at hh
    have ho := ortho prR (by decide) m (rootW (m + 1) ^ (RR - 2)) (rootW (m + 1)) (by rw [fmul_comm]; exact root_inv (m + 1) hk) hh (fun i => z (rd l (i : Int))) j hj
    rw [ho]
    exact arr5 hNi _
theorem coef_of (k : Nat) (hk : k ≤ 12) (p : List Int) (hlen : p.length = 2 ^ k) (j : Nat) (hj : j < 2 ^ k) :
    coef k (ml (2 ^ k) (fun i => ev (p.map z) (rootW k ^ i))) j = z (rd p (j : Int)) := by
  have hNi := inv_mul prR (z_two_pow_ne k hk)
  unfold coef
  rw [map_ml]
  have e1 : sm (fun i => ev (p.map z) (rootW k ^ i) * ((rootW k ^ (RR - 2)) ^ j) ^ i) (2 ^ k) = sm (fun i => sm (fun m => z (rd p (m : Int)) * (rootW k ^ i) ^ m) (2 ^ k) * ((rootW k ^ (RR - 2)) ^ j) ^ i) (2 ^ k) := by
    apply sm_congr
    intro i _
    rw [ev_list, hlen]
  rw [e1]
  cases k with
  | zero =>
    have : j = 0 := by simp at hj; omega
    subst this
    simp only [Nat.pow_zero, sm]
    have hz1 : (z ((1 : Nat) : Int) : F) = 1 := z_one
    rw [hz1, fone_pow, fpow_zero, fpow_zero]
    exact zadd4 _
  | succ m =>
    have hh := rootW_half (m + 1) hk (by omega)
    rw [Nat.add_sub_cancel] at hh
    have ho := ortho prR (by decide) m (rootW (m + 1)) (rootW (m + 1) ^ (RR - 2)) (root_inv (m + 1) hk) hh (fun i => z (rd p (i : Int))) j hj
    rw [ho]
    exact arr6 hNi _
theorem inv_l0 (N : Nat) (hN : N ≤ 4096) (c : Nat → F) (s : F) (d : Nat) : ∀ (i : Nat) (ii : Int), i + d = N → ii = i →
    Ev (fun k => poly_Inverse.l0 k (ml N (fun j => if j < i then c j * s else c j)) (u s) (N : Int) ii) (ml N (fun j => c j * s), none) := by
  induction d with
  | zero =>
    intro i ii hi hii
    refine Ev.step (fun k => by rw [poly_Inverse.l0]) ?_
    refine Ev.neg (by omega) (Ev.val ?_)
    congr 1
    apply ml_congr
    intro n hn
    rw [if_pos (by omega)]
  | succ d ih =>
    intro i ii hi hii
    have hml := ml_len N (fun j => if j < i then c j * s else c j)
    refine Ev.step (fun k => by rw [poly_Inverse.l0]) ?_
    rw [show wrap64 (ii + 1) = ii + 1 from wi _ (by omega) (by omega), hii, ml_rd _ _ i (by omega), if_neg (by omega)]
    have hm := pmul (u (c i)) (u s) (uF0 _) (uF0 _)
    rw [z_u, z_u] at hm
    refine Ev.pos (by omega) (Ev.pos (by omega) (Ev.pos (by omega) (hm.bind ?_)))
    rw [Int.toNat_natCast, ml_set]
    have e : ml N (fun n => if n = i then c i * s else if n < i then c n * s else c n) = ml N (fun j => if j < i + 1 then c j * s else c j) := by
      apply ml_congr
      intro n hn
      by_cases h1 : n = i
      · subst h1
        rw [if_pos rfl, if_pos (by omega)]
      · rw [if_neg h1]
        by_cases h2 : n < i
        · rw [if_pos h2, if_pos (by omega)]
        · rw [if_neg h2, if_neg (by omega)]
    rw [e]
    exact ih (i + 1) _ (by omega) (by omega)
theorem inverse_val (k : Nat) (hk : k ≤ 12) (l : List Int) (hlen : l.length = 2 ^ k) (hl : ∀ x ∈ l, 0 ≤ x ∧ x < 18446744073709551616) :
    Ev (fun n => poly_Inverse.f n l (k : Int)) (ml (2 ^ k) (coef k l), none) := by
  unfold poly_Inverse.f
  have hle := pow_le k hk
  refine (root_val k hk).bind (Ev.pos rfl (Ev.pos (by omega) ?_))
  rw [shl_i k hk, hlen, show (((2 ^ k : Nat) : Int) != ((2 ^ k : Nat) : Int)) = false from bne_self_eq_false _]
  refine Ev.step (fun k => by rw [poly_Inverse.j0]) ?_
  have h1 := pow_val moR (u (rootW k)) (RR - 2) (uF0 _) (by decide)
  rw [powF, z_u] at h1
  have h2 := pow_val moR ((2 ^ k : Nat) : Int) (RR - 2) (Int.natCast_nonneg _) (by decide)
  rw [powF] at h2
  have ht := turn_val k hk l (rootW k ^ (RR - 2)) hlen hl (root_inv_half k hk)
  refine Ev.neg (by simp) (Ev.bind h1 (ht.bind (Ev.pos (by omega) ?_)))
  rw [shl_u k hk]
  refine Ev.bind h2 ?_
  rw [ml_len]
  have hf := inv_l0 (2 ^ k) hle (fun i => ev (l.map z) ((rootW k ^ (RR - 2)) ^ i)) (z ((2 ^ k : Nat) : Int) ^ (RR - 2)) (2 ^ k) 0 0 (by omega) rfl
  have e : ml (2 ^ k) (fun j => if j < 0 then ev (l.map z) ((rootW k ^ (RR - 2)) ^ j) * z ((2 ^ k : Nat) : Int) ^ (RR - 2) else ev (l.map z) ((rootW k ^ (RR - 2)) ^ j)) = ml (2 ^ k) (fun i => ev (l.map z) ((rootW k ^ (RR - 2)) ^ i)) := by
    apply ml_congr
    intro n _
    rw [if_neg (by omega)]
  rw [e] at hf
  exact hf
theorem inverse_bad (k : Int) (l : List Int) (h : k < 0 ∨ 12 < k ∨ ∃ n : Nat, k = n ∧ n ≤ 12 ∧ l.length ≠ 2 ^ n) : Ev (fun n => poly_Inverse.f n l k) ([], some 1) := by
  unfold poly_Inverse.f
  have hj : ∀ w, Ev (fun n => poly_Inverse.j0 n l k w true) ([], some 1) := by
    intro w
    refine Ev.step (fun k => by rw [poly_Inverse.j0]) ?_
    exact Ev.pos rfl (Ev.val rfl)
  by_cases hb : k < 0 ∨ 12 < k
  · exact (root_bad k hb).bind (Ev.neg (by simp) (hj _))
  · rcases h with h | h | ⟨n, rfl, hn, hne⟩
    · exact absurd (.inl h) hb
    · exact absurd (.inr h) hb
    · refine (root_val n hn).bind (Ev.pos rfl (Ev.pos (by omega) ?_))
      rw [shl_i n hn, show ((l.length : Int) != ((2 ^ n : Nat) : Int)) = true from bne_iff_ne.2 (fun hc => hne (Int.ofNat.inj hc))]
      exact hj _
theorem ml_mem (N : Nat) (c : Nat → F) : ∀ x ∈ ml N c, 0 ≤ x ∧ x < 18446744073709551616 := by
  intro x hx
  unfold ml at hx
  obtain ⟨n, _, rfl⟩ := List.mem_map.1 hx
  have := uF0 (c n)
  have := uF1 (c n)
  omega
end Go.Proofs.Ytempibbfdojfiac.ModPolyBack
