/- The fast transform, its inverse, and the reference's values on a domain (for the law PolyVanishes). -/
import Derived.Test.YtempibbfdojfiabLMulPolyVanishes
set_option linter.unusedVariables false
set_option linter.unusedSimpArgs false
namespace Go.Proofs.Ytempibbfdojfiab.ModPolyVanishes
open Go.RowKit Go.Proofs.Ytempibbfdojfiab.PPolyVanishes Go.Proofs.YtempibbfdojfiabW.PrintWords Go.Proofs.YtempibbfdojfiabW.PrintLast Go.Proofs.YtempibbfdojfiabW.PrintMore Go.Proofs.Ytempibbfdojfiab.Nm

theorem pow_le (k : Nat) (hk : k ≤ 12) : 2 ^ k ≤ 4096 := Nat.pow_le_pow_right (show 0 < 2 by omega) hk
theorem shl_u (k : Nat) (hk : k ≤ 12) : shl .u64 1 (k : Int) = ((2 ^ k : Nat) : Int) := by
  unfold shl
  have e : min (k : Int).toNat IntKind.u64.bits = k := by
    show min (k : Int).toNat 64 = k
    omega
  rw [e, Int.one_mul]
  have h2 : (2 : Int) ^ k = ((2 ^ k : Nat) : Int) := by rw [Int.natCast_pow]; rfl
  rw [h2]
  exact wu _ (Int.natCast_nonneg _) (Int.ofNat_lt.2 (Nat.lt_of_le_of_lt (pow_le k hk) (by decide)))
theorem shl_i (k : Nat) (hk : k ≤ 12) : shl .i64 1 (k : Int) = ((2 ^ k : Nat) : Int) := by
  unfold shl
  have e : min (k : Int).toNat IntKind.i64.bits = k := by
    show min (k : Int).toNat 64 = k
    omega
  rw [e, Int.one_mul]
  have h2 : (2 : Int) ^ k = ((2 ^ k : Nat) : Int) := by rw [Int.natCast_pow]; rfl
  rw [h2]
  have hle := pow_le k hk
  generalize 2 ^ k = q at *
  rw [IntKind.wrap_i64]
  omega
theorem points_loop (k : Nat) (hk : k ≤ 12) (d : Nat) : ∀ (i : Nat) (ii : Int), 1 ≤ i → i + d = 2 ^ k → ii = i →
    Ev (fun n => obolref13_Points.l0 n (k : Int) (ml i (fun j => rootW k ^ j)) (u (rootW k)) ii) (ml (2 ^ k) (fun j => rootW k ^ j)) := by
  have hle := pow_le k hk
  have hsh := shl_i k hk
  generalize 2 ^ k = N at *
  induction d with
  | zero =>
    intro i ii h1 hi hii
    refine Ev.step (fun k => by rw [obolref13_Points.l0]) ?_
    rw [hsh]
    refine Ev.pos (by omega) (Ev.neg (by omega) (Ev.val ?_))
    rw [show i = N by omega]
  | succ d ih =>
    intro i ii h1 hi hii
    refine Ev.step (fun k => by rw [obolref13_Points.l0]) ?_
    rw [hsh, show wrap64 (ii - 1) = ((i - 1 : Nat) : Int) from by rw [wi _ (by omega) (by omega)]; omega, show wrap64 (ii + 1) = ii + 1 from wi _ (by omega) (by omega)]
    have hml := ml_len i (fun j => rootW k ^ j)
    rw [ml_rd _ _ (i - 1) (by omega)]
    have hw := rmul (u (rootW k ^ (i - 1))) (u (rootW k)) (uF0 _) (uF0 _)
    rw [z_u, z_u, ← fpow_succ, show i - 1 + 1 = i by omega] at hw
    refine Ev.pos (by omega) (Ev.pos (by omega) (Ev.pos (by omega) (Ev.pos (by omega) (hw.bind (Ev.pos (by omega) ?_)))))
    have e := ml_succ i (fun j => rootW k ^ j)
    rw [← e]
    exact ih (i + 1) (ii + 1) (by omega) (by omega) (by omega)
theorem points_val (k : Nat) (hk : k ≤ 12) : Ev (fun n => obolref13_Points.f n (k : Int)) (ml (2 ^ k) (fun j => rootW k ^ j)) := by
  unfold obolref13_Points.f
  have hp : 0 < 2 ^ k := Nat.pow_pos (by omega)
  have h := points_loop k hk (2 ^ k - 1) 1 1 (Nat.le_refl _) (by omega) rfl
  have e : ml 1 (fun j => rootW k ^ j) = [1] := by
    show [u (rootW k ^ 0)] = [1]
    rw [fpow_zero, ← z_one, uz]; rfl
  rw [e] at h
  exact (rroot_val k hk).bind h
/-- Every other one, from the first on; from the second on. -/
def evs : List Int → List Int
  | [] => []
  | [a] => [a]
  | a :: _ :: t => a :: evs t
def ods : List Int → List Int
  | [] => []
  | [_] => []
  | _ :: b :: t => b :: ods t
theorem snoc_even (x : Int) : ∀ l : List Int, l.length % 2 = 0 → evs (l ++ [x]) = evs l ++ [x] ∧ ods (l ++ [x]) = ods l
  | [], _ => ⟨rfl, rfl⟩
  | [a], h => by simp at h
  | a :: b :: t, h => by
    obtain ⟨h1, h2⟩ := snoc_even x t (by simp only [List.length_cons] at h; omega)
    constructor
    · show a :: evs (t ++ [x]) = a :: (evs t ++ [x])
      rw [h1]
    · show b :: ods (t ++ [x]) = b :: ods t
      rw [h2]
theorem snoc_odd (x : Int) : ∀ l : List Int, l.length % 2 = 1 → evs (l ++ [x]) = evs l ∧ ods (l ++ [x]) = ods l ++ [x]
  | [], h => by simp at h
  | [a], _ => ⟨rfl, rfl⟩
  | a :: b :: t, h => by
    obtain ⟨h1, h2⟩ := snoc_odd x t (by simp only [List.length_cons] at h; omega)
    constructor
    · show a :: evs (t ++ [x]) = a :: evs t
      rw [h1]
    · show b :: ods (t ++ [x]) = b :: (ods t ++ [x])
      rw [h2]
theorem split_len : ∀ l : List Int, (evs l).length = (l.length + 1) / 2 ∧ (ods l).length = l.length / 2
  | [] => ⟨rfl, rfl⟩
  | [a] => by simp [evs, ods]
  | a :: b :: t => by
    obtain ⟨h1, h2⟩ := split_len t
    simp only [evs, ods, List.length_cons, h1, h2]
    omega
theorem evs_mem : ∀ (l : List Int) (x : Int), x ∈ evs l → x ∈ l
  | [], x, h => h
  | [a], x, h => h
  | a :: b :: t, x, h => by
    rcases List.mem_cons.1 h with h | h
    · rw [h]; exact List.mem_cons_self
    · exact List.mem_cons_of_mem _ (List.mem_cons_of_mem _ (evs_mem t x h))
theorem ods_mem : ∀ (l : List Int) (x : Int), x ∈ ods l → x ∈ l
  | [], x, h => h
  | [a], x, h => by cases h
  | a :: b :: t, x, h => by
    rcases List.mem_cons.1 h with h | h
    · rw [h]; exact List.mem_cons_of_mem _ List.mem_cons_self
    · exact List.mem_cons_of_mem _ (List.mem_cons_of_mem _ (ods_mem t x h))
theorem ev_split_step (a b x e o : F) : a + x * (b + x * (e + x * o)) = a + x * x * e + x * (b + x * x * o) := by grind
theorem ev_split (x : F) : ∀ l : List Int, ev (l.map z) x = ev ((evs l).map z) (x * x) + x * ev ((ods l).map z) (x * x)
  | [] => by simp only [evs, ods, List.map_nil, ev]; rw [fmul_zero, fadd_zero]
  | [a] => by simp only [evs, ods, List.map_nil, List.map_cons, ev]; rw [fmul_zero, fmul_zero, fadd_zero, fadd_zero]
  | a :: b :: t => by
    simp only [evs, ods, List.map_cons, ev]
    rw [ev_split x t, ev_split_step]
theorem map_ml (N : Nat) (c : Nat → F) (x : F) : ev ((ml N c).map z) x = sm (fun i => c i * x ^ i) N := by
  induction N with
  | zero => rfl
  | succ N ih =>
    rw [ml_succ, List.map_append, ev_append, ih, List.length_map, ml_len]
    simp only [List.map_cons, List.map_nil, ev, sm]
    rw [z_u, fmul_zero, fadd_zero, fmul_comm (x ^ N)]
theorem list_ml (l : List Int) : l.map (z : Int → F) = (ml l.length (fun i => z (rd l (i : Int)))).map z := by
  apply List.ext_getElem?
  intro i
  by_cases hi : i < l.length
  · rw [List.getElem?_map, List.getElem?_map, ml_get _ _ i hi, List.getElem?_eq_getElem hi]
    show some (z l[i]) = some (z (u (z (rd l (i : Int)))))
    rw [z_u, rd_nat, List.getD_eq_getElem?_getD, List.getElem?_eq_getElem hi]; rfl
  · rw [List.getElem?_eq_none (by rw [List.length_map]; omega), List.getElem?_eq_none (by rw [List.length_map, ml_len]; omega)]
theorem ev_list (l : List Int) (x : F) : ev (l.map z) x = sm (fun i => z (rd l (i : Int)) * x ^ i) l.length := by rw [list_ml, map_ml]
/-- The inverse of the domain's first power. -/
theorem root_inv (k : Nat) (hk : k ≤ 12) : rootW k * rootW k ^ (RR - 2) = 1 := by
  apply inv_mul prR
  intro h
  have h1 := rootW_pow k hk
  rw [h, fzero_pow _ (Nat.pow_pos (by omega))] at h1
  exact one_ne_zero prR h1.symm
theorem root_inv_half (k : Nat) (hk : k ≤ 12) (h1 : 1 ≤ k) : (rootW k ^ (RR - 2)) ^ 2 ^ (k - 1) = -1 := by
  have h := root_inv k hk
  have h2 : (rootW k * rootW k ^ (RR - 2)) ^ 2 ^ (k - 1) = 1 := by rw [h, fone_pow]
  rw [fmul_pow, rootW_half k hk h1] at h2
  exact neg_inv_l h2
theorem z_two_pow_ne (k : Nat) (hk : k ≤ 12) : (z ((2 ^ k : Nat) : Int) : F) ≠ 0 := by
  intro h
  have h2 := congrArg u h
  have hle := pow_le k hk
  have hp : 0 < 2 ^ k := Nat.pow_pos (by omega)
  rw [uz, u_zero] at h2
  generalize 2 ^ k = N at *
  omega
/-- What the coefficients are of which the values are told. -/
def coef (k : Nat) (l : List Int) (i : Nat) : F := ev (l.map z) ((rootW k ^ (RR - 2)) ^ i) * z ((2 ^ k : Nat) : Int) ^ (RR - 2)
theorem coef_back (k : Nat) (hk : k ≤ 12) (l : List Int) (hlen : l.length = 2 ^ k) (j : Nat) (hj : j < 2 ^ k) : ev ((ml (2 ^ k) (coef k l)).map z) (rootW k ^ j) = z (rd l (j : Int)) := by
  have hNi := inv_mul prR (z_two_pow_ne k hk)
  rw [map_ml]
  have e1 : sm (fun i => coef k l i * (rootW k ^ j) ^ i) (2 ^ k) = z ((2 ^ k : Nat) : Int) ^ (RR - 2) * sm (fun i => sm (fun m => z (rd l (m : Int)) * ((rootW k ^ (RR - 2)) ^ i) ^ m) (2 ^ k) * (rootW k ^ j) ^ i) (2 ^ k) := by
    rw [← sm_mul]
    apply sm_congr
    intro i _
    unfold coef
    rw [ev_list, hlen]
    exact arr4 _ _ _
  rw [e1]
  cases k with
  | zero =>
    have : j = 0 := by simp at hj; omega
    subst this
    simp only [Nat.pow_zero, sm]
    have hz1 : (z ((1 : Nat) : Int) : F) = 1 := z_one
    rw [hz1, fone_pow, fone_mul, fpow_zero, fpow_zero]
    have : (rd l ((0 : Nat) : Int)) = rd l 0 := rfl
    exact zadd3 _
  | succ m =>
    have hh := root_inv_half (m + 1) hk (by omega)
    rw [Nat.add_sub_cancel] at hh
    have ho := ortho prR (by decide) m (rootW (m + 1) ^ (RR - 2)) (rootW (m + 1)) (by rw [fmul_comm]; exact root_inv (m + 1) hk) hh (fun i => z (rd l (i : Int))) j hj
    rw [ho]
    exact arr5 hNi _
theorem coef_of (k : Nat) (hk : k ≤ 12) (p : List Int) (hlen : p.length = 2 ^ k) (j : Nat) (hj : j < 2 ^ k) :
    coef k (ml (2 ^ k) (fun i => ev (p.map z) (rootW k ^ i))) j = z (rd p (j : Int)) := by
  have hNi := inv_mul prR (z_two_pow_ne k hk)
  unfold coef
  rw [map_ml]
  have e1 : sm (fun i => ev (p.map z) (rootW k ^ i) * ((rootW k ^ (RR - 2)) ^ j) ^ i) (2 ^ k) = sm (fun i => sm (fun m => z (rd p (m : Int)) * (rootW k ^ i) ^ m) (2 ^ k) * ((rootW k ^ (RR - 2)) ^ j) ^ i) (2 ^ k) := by
    apply sm_congr
    intro i _
    rw [ev_list, hlen]
  rw [e1]
  cases k with
  | zero =>
    have : j = 0 := by simp at hj; omega
    subst this
    simp only [Nat.pow_zero, sm]
    have hz1 : (z ((1 : Nat) : Int) : F) = 1 := z_one
    rw [hz1, fone_pow, fpow_zero, fpow_zero]
    exact zadd4 _
  | succ m =>
    have hh := rootW_half (m + 1) hk (by omega)
    rw [Nat.add_sub_cancel] at hh
    have ho := ortho prR (by decide) m (rootW (m + 1)) (rootW (m + 1) ^ (RR - 2)) (root_inv (m + 1) hk) hh (fun i => z (rd p (i : Int))) j hj
    rw [ho]
    exact arr6 hNi _
theorem rfor_loop (k : Nat) (hk : k ≤ 12) (l : List Int) (hl : ∀ x ∈ l, 0 ≤ x ∧ x < 18446744073709551616) (hlen : l.length ≤ 9223372036854775807) (d : Nat) : ∀ (i : Nat) (ii : Int), i + d = 2 ^ k → ii = i →
    Ev (fun n => obolref13_Forward.l0 n l (ml i (fun i => ev (l.map z) (rootW k ^ i))) (ml (2 ^ k) (fun j => rootW k ^ j)) ii) (ml (2 ^ k) (fun i => ev (l.map z) (rootW k ^ i))) := by
  have hle := pow_le k hk
  have hml := ml_len (2 ^ k) (fun j => rootW k ^ j)
  generalize 2 ^ k = N at *
  induction d with
  | zero =>
    intro i ii hi hii
    refine Ev.step (fun k => by rw [obolref13_Forward.l0]) ?_
    refine Ev.neg (by omega) (Ev.val ?_)
    rw [show i = N by omega]
  | succ d ih =>
    intro i ii hi hii
    have hm2 := ml_len i (fun i => ev (l.map z) (rootW k ^ i))
    refine Ev.step (fun k => by rw [obolref13_Forward.l0]) ?_
    rw [show wrap64 (ii + 1) = ii + 1 from wi _ (by omega) (by omega), hii, ml_rd _ _ i (by omega)]
    have he := reval_val l (u (rootW k ^ i)) hl hlen (uF0 _)
    rw [z_u] at he
    refine Ev.pos (by omega) (Ev.pos (by omega) (he.bind (Ev.pos (by omega) ?_)))
    have e := ml_succ i (fun i => ev (l.map z) (rootW k ^ i))
    rw [← e]
    exact ih (i + 1) _ (by omega) (by omega)
theorem rfor_val (k : Nat) (hk : k ≤ 12) (l : List Int) (hl : ∀ x ∈ l, 0 ≤ x ∧ x < 18446744073709551616) (hlen : l.length ≤ 9223372036854775807) :
    Ev (fun n => obolref13_Forward.f n l (k : Int)) (ml (2 ^ k) (fun i => ev (l.map z) (rootW k ^ i))) := by
  unfold obolref13_Forward.f
  exact (points_val k hk).bind (rfor_loop k hk l hl hlen (2 ^ k) 0 0 (by omega) rfl)
theorem ml_mem (N : Nat) (c : Nat → F) : ∀ x ∈ ml N c, 0 ≤ x ∧ x < 18446744073709551616 := by
  intro x hx
  unfold ml at hx
  obtain ⟨n, _, rfl⟩ := List.mem_map.1 hx
  have := uF0 (c n)
  have := uF1 (c n)
  omega
end Go.Proofs.Ytempibbfdojfiab.ModPolyVanishes
