/- Short lists, lists held against each other, and the products of polynomials (for the law PolyForward). -/
import Derived.Test.YtempibbfdojfiabLPolyPolyForward
set_option linter.unusedVariables false
set_option linter.unusedSimpArgs false
namespace Go.Proofs.Ytempibbfdojfiab.ModPolyForward
open Go.RowKit Go.Proofs.Ytempibbfdojfiab.PPolyForward Go.Proofs.YtempibbfdojfiabW.PrintWords Go.Proofs.YtempibbfdojfiabW.PrintLast Go.Proofs.YtempibbfdojfiabW.PrintMore Go.Proofs.Ytempibbfdojfiab.Nm

/-- The first n, without 0s at their end. -/
def sh (l : List Int) : Nat → List Int
  | 0 => []
  | n + 1 => if rd l (n : Int) = 0 then sh l n else l.take (n + 1)
theorem sh_congr (l r : List Int) (n : Nat) (h : ∀ m, m ≤ n → l.take m = r.take m) (h2 : ∀ m, m < n → rd l (m : Int) = rd r (m : Int)) : sh l n = sh r n := by
  induction n with
  | zero => rfl
  | succ n ih =>
    simp only [sh]
    rw [h2 n (by omega), ih (fun m hm => h m (by omega)) (fun m hm => h2 m (by omega)), h (n + 1) (Nat.le_refl _)]
theorem rd_nat (l : List Int) (n : Nat) : rd l (n : Int) = l.getD n 0 := by unfold rd; rw [Int.toNat_natCast]
theorem rd_take (l : List Int) (n m : Nat) (h : m < n) : rd (l.take n) (m : Int) = rd l (m : Int) := by
  rw [rd_nat, rd_nat, List.getD_eq_getElem?_getD, List.getD_eq_getElem?_getD, List.getElem?_take_of_lt h]
theorem rd_app (l r : List Int) (m : Nat) (h : m < l.length) : rd (l ++ r) (m : Int) = rd l (m : Int) := by
  rw [rd_nat, rd_nat, List.getD_eq_getElem?_getD, List.getD_eq_getElem?_getD, List.getElem?_append_left h]
theorem sh_app (l : List Int) : sh (l ++ [0]) (l.length + 1) = sh l l.length := by
  have h0 : rd (l ++ [0]) (l.length : Int) = 0 := by
    rw [rd_nat, List.getD_eq_getElem?_getD, List.getElem?_append_right (Nat.le_refl _), Nat.sub_self]; rfl
  simp only [sh]
  rw [if_pos h0]
  apply sh_congr
  · intro m hm; exact List.take_append_of_le_length hm
  · intro m hm; exact rd_app l [0] m hm
theorem sh_zeros (l : List Int) (n : Nat) (h : ∀ m, m < n → rd l (m : Int) = 0) : sh l n = [] := by
  induction n with
  | zero => rfl
  | succ n ih => simp only [sh]; rw [if_pos (h n (by omega)), ih fun m hm => h m (by omega)]
theorem same_loop (l : List Int) (hl : l.length ≤ 9223372036854775806) (d : Nat) : ∀ (n : Nat) (i : Int), n + d = l.length → i = n → Ev (fun k => obolref13_Same.l0 k l l i) true := by
  induction d with
  | zero =>
    intro n i hn hi
    refine Ev.step (fun k => by rw [obolref13_Same.l0]) ?_
    exact Ev.neg (by omega) (Ev.val rfl)
  | succ d ih =>
    intro n i hn hi
    refine Ev.step (fun k => by rw [obolref13_Same.l0]) ?_
    refine Ev.pos (by omega) (Ev.pos (by omega) (Ev.pos (by omega) (Ev.pos rfl ?_)))
    rw [show wrap64 (i + 1) = i + 1 from wi _ (by omega) (by omega)]
    exact ih (n + 1) (i + 1) (by omega) (by omega)
theorem same_val (l r : List Int) (hl : l.length ≤ 9223372036854775806) (h : l = r) : Ev (fun k => obolref13_Same.f k l r) true := by
  subst h
  unfold obolref13_Same.f
  exact Ev.pos rfl (same_loop l hl l.length 0 0 (by omega) rfl)
/-- The list of so many values. -/
def ml (N : Nat) (c : Nat → F) : List Int := (List.range N).map fun n => u (c n)
theorem ml_len (N : Nat) (c : Nat → F) : (ml N c).length = N := by simp [ml]
theorem ml_get (N : Nat) (c : Nat → F) (n : Nat) (h : n < N) : (ml N c)[n]? = some (u (c n)) := by
  unfold ml
  rw [List.getElem?_map, List.getElem?_range h]; rfl
theorem ml_rd (N : Nat) (c : Nat → F) (n : Nat) (h : n < N) : rd (ml N c) (n : Int) = u (c n) := by
  rw [rd_nat, List.getD_eq_getElem?_getD, ml_get N c n h]; rfl
theorem ml_congr (N : Nat) (c d : Nat → F) (h : ∀ n, n < N → c n = d n) : ml N c = ml N d := by
  unfold ml
  apply List.map_congr_left
  intro n hn
  rw [h n (List.mem_range.1 hn)]
theorem ml_set (N : Nat) (c : Nat → F) (j : Nat) (v : F) : (ml N c).set j (u v) = ml N (fun n => if n = j then v else c n) := by
  apply List.ext_getElem?
  intro i
  by_cases hi : i < N
  · rw [ml_get N _ i hi, List.getElem?_set]
    by_cases hij : j = i
    · subst hij
      rw [if_pos rfl, if_pos (by rw [ml_len]; exact hi), if_pos rfl]
    · rw [if_neg hij, ml_get N c i hi, if_neg (fun h => hij h.symm)]
  · rw [List.getElem?_eq_none (by rw [List.length_set, ml_len]; omega), List.getElem?_eq_none (by rw [ml_len]; omega)]
theorem ml_zero (N : Nat) : List.replicate N (0 : Int) = ml N (fun _ => 0) := by
  apply List.ext_getElem?
  intro i
  by_cases hi : i < N
  · rw [ml_get N _ i hi, List.getElem?_replicate, if_pos hi]; rfl
  · rw [List.getElem?_eq_none (by rw [List.length_replicate]; omega), List.getElem?_eq_none (by rw [ml_len]; omega)]
theorem ml_succ (N : Nat) (c : Nat → F) : ml (N + 1) c = ml N c ++ [u (c N)] := by
  unfold ml
  rw [List.range_succ, List.map_append]; rfl
/-- What the i-th coefficient of p adds to the n-th of the product. -/
def trm (p q : List Int) (i n : Nat) : F := if i ≤ n ∧ n < i + q.length then z (rd p (i : Int)) * z (rd q ((n - i : Nat) : Int)) else 0
/-- The n-th coefficient of the product. -/
def cf (p q : List Int) (n : Nat) : F := sm (fun i => trm p q i n) p.length
theorem rd_lim {l : List Int} (hl : ∀ x ∈ l, 0 ≤ x ∧ x < 18446744073709551616) {i : Int} (h0 : 0 ≤ i) (h1 : i < l.length) : 0 ≤ rd l i ∧ rd l i < 18446744073709551616 := by
  obtain ⟨c, hc, hrd, -⟩ := rd_of h0 h1
  rw [hrd]; exact hl c hc
end Go.Proofs.Ytempibbfdojfiab.ModPolyForward
