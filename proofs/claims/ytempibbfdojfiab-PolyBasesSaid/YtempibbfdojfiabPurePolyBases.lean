/- For every exponent and number, obollaw13.PolyBases returns true: the values of the domain's base are those of the products over the domain, or the exponent is none. No conditions. -/
import Derived.Test.YtempibbfdojfiabLMulPolyBases
set_option linter.unusedVariables false
namespace Go.Proofs.Ytempibbfdojfiab.Pure
open Go.RowKit Go.Proofs.Ytempibbfdojfiab.PPolyBases Go.Proofs.YtempibbfdojfiabW.PrintWords Go.Proofs.YtempibbfdojfiabW.PrintLast Go.Proofs.YtempibbfdojfiabW.PrintMore Go.Proofs.Ytempibbfdojfiab.Nm Go.Proofs.Ytempibbfdojfiab.ModPolyBases

theorem pow_le (k : Nat) (hk : k ≤ 12) : 2 ^ k ≤ 4096 := Nat.pow_le_pow_right (show 0 < 2 by omega) hk
theorem shl_u (k : Nat) (hk : k ≤ 12) : shl .u64 1 (k : Int) = ((2 ^ k : Nat) : Int) := by
  unfold shl
  have e : min (k : Int).toNat IntKind.u64.bits = k := by
    show min (k : Int).toNat 64 = k
    omega
  rw [e, Int.one_mul]
  have h2 : (2 : Int) ^ k = ((2 ^ k : Nat) : Int) := by rw [Int.natCast_pow]; rfl
  rw [h2]
  exact wu _ (Int.natCast_nonneg _) (Int.ofNat_lt.2 (Nat.lt_of_le_of_lt (pow_le k hk) (by decide)))
theorem shl_i (k : Nat) (hk : k ≤ 12) : shl .i64 1 (k : Int) = ((2 ^ k : Nat) : Int) := by
  unfold shl
  have e : min (k : Int).toNat IntKind.i64.bits = k := by
    show min (k : Int).toNat 64 = k
    omega
  rw [e, Int.one_mul]
  have h2 : (2 : Int) ^ k = ((2 ^ k : Nat) : Int) := by rw [Int.natCast_pow]; rfl
  rw [h2]
  have hle := pow_le k hk
  generalize 2 ^ k = q at *
  rw [IntKind.wrap_i64]
  omega
/-- The value at x of the polynomial that is 1 at the i-th place and 0 at all others. -/
def lag (k : Nat) (x : F) (i : Nat) : F := if x - rootW k ^ i = 0 then 1 else (x ^ 2 ^ k - 1) * z ((2 ^ k : Nat) : Int) ^ (RR - 2) * rootW k ^ i * (x - rootW k ^ i) ^ (RR - 2)
theorem lag_loop (k : Nat) (hk : k ≤ 12) (x : Int) (hx : 0 ≤ x) (d : Nat) : ∀ (i : Nat) (ii : Int), i + d = 2 ^ k → ii = i →
    Ev (fun n => poly_Lagrange.l0 n x (u (rootW k)) (u ((z x ^ 2 ^ k - 1) * z ((2 ^ k : Nat) : Int) ^ (RR - 2) : F)) (ml (2 ^ k) (fun j => if j < i then lag k (z x) j else 0)) (u (rootW k ^ i)) ((2 ^ k : Nat) : Int) ii)
      (ml (2 ^ k) (lag k (z x)), none) := by
  have hle := pow_le k hk
  generalize hN : 2 ^ k = N at *
  induction d with
  | zero =>
    intro i ii hi hii
    refine Ev.step (fun k => by rw [poly_Lagrange.l0]) ?_
    refine ModPolyBases.Ev.neg (by omega) (ModPolyBases.Ev.val ?_)
    congr 1
    apply ml_congr
    intro n hn
    rw [if_pos (by omega)]
  | succ d ih =>
    intro i ii hi hii
    refine Ev.step (fun k => by rw [poly_Lagrange.l0]) ?_
    refine ModPolyBases.Ev.pos (by omega) (ModPolyBases.Ev.bindc (sub_val moR x _ hx (uF0 _)) ?_)
    rw [subF, z_u]
    have hml := ml_len N (fun j => if j < i then lag k (z x) j else 0)
    have hnext := ih (i + 1) (ii + 1) (by omega) (by omega)
    have hw := pmul (u (rootW k ^ i)) (u (rootW k)) (uF0 _) (uF0 _)
    rw [z_u, z_u, ← fpow_succ] at hw
    have hupd : ∀ v : F, v = lag k (z x) i → ml N (fun n => if n = i then v else if n < i then lag k (z x) n else 0) = ml N (fun j => if j < i + 1 then lag k (z x) j else 0) := by
      intro v hv
      apply ml_congr
      intro n hn
      by_cases h1 : n = i
      · subst h1
        rw [if_pos rfl, if_pos (by omega), hv]
      · rw [if_neg h1]
        by_cases h2 : n < i
        · rw [if_pos h2, if_pos (by omega)]
        · rw [if_neg h2, if_neg (by omega)]
    by_cases h0 : z x - rootW k ^ i = 0
    · refine ModPolyBases.Ev.pos (by rw [h0]; rfl) (ModPolyBases.Ev.pos (by omega) (ModPolyBases.Ev.pos (by omega) (hw.bind ?_)))
      rw [show wrap64 (ii + 1) = ii + 1 from wi _ (by omega) (by omega), hii, Int.toNat_natCast, show (1 : Int) = u (1 : F) by rw [← z_one, uz]; rfl, ml_set, hupd 1 (by unfold lag; rw [if_pos h0]), ← hii]
      rw [show u (1 : F) = 1 by rw [← z_one, uz]; rfl]
      exact hnext
    · have hn0 : ¬ u (z x - rootW k ^ i) = 0 := fun h => h0 (u_inj (by rw [h]; rfl))
      have h1 := pmul (u ((z x ^ N - 1) * z (N : Int) ^ (RR - 2) : F)) (u (rootW k ^ i)) (uF0 _) (uF0 _)
      rw [z_u, z_u] at h1
      have h2 := pow_val moR (u (z x - rootW k ^ i)) (RR - 2) (uF0 _) (by decide)
      rw [powF, z_u] at h2
      have h3 := pmul (u ((z x ^ N - 1) * z (N : Int) ^ (RR - 2) * rootW k ^ i : F)) (u ((z x - rootW k ^ i) ^ (RR - 2))) (uF0 _) (uF0 _)
      rw [z_u, z_u] at h3
      refine ModPolyBases.Ev.neg hn0 (h1.bind (Ev.bind h2 (h3.bind (ModPolyBases.Ev.pos (by omega) (ModPolyBases.Ev.pos (by omega) (hw.bind ?_))))))
      rw [show wrap64 (ii + 1) = ii + 1 from wi _ (by omega) (by omega), hii, Int.toNat_natCast, ml_set, hupd _ (by unfold lag; rw [if_neg h0, hN]), ← hii]
      exact hnext
theorem lag_val (k : Nat) (hk : k ≤ 12) (x : Int) (hx : 0 ≤ x) : Ev (fun n => poly_Lagrange.f n (k : Int) x) (ml (2 ^ k) (lag k (z x)), none) := by
  unfold poly_Lagrange.f
  have hle := pow_le k hk
  refine (root_val k hk).bind (ModPolyBases.Ev.pos rfl (ModPolyBases.Ev.pos (by omega) ?_))
  rw [shl_u k hk]
  have h1 := pow_val moR x (2 ^ k) hx (Nat.lt_of_le_of_lt hle (by decide))
  rw [powF] at h1
  refine Ev.bind h1 (ModPolyBases.Ev.bindc (sub_val moR _ 1 (uF0 _) (by omega)) ?_)
  rw [subF, z_u, z_one]
  have h2 := pow_val moR ((2 ^ k : Nat) : Int) (RR - 2) (Int.natCast_nonneg _) (by decide)
  rw [powF] at h2
  have h3 := pmul (u (z x ^ 2 ^ k - 1 : F)) (u (z ((2 ^ k : Nat) : Int) ^ (RR - 2) : F)) (uF0 _) (uF0 _)
  rw [z_u, z_u] at h3
  refine Ev.bind h2 (h3.bind (ModPolyBases.Ev.pos (Int.natCast_nonneg _) ?_))
  rw [Int.toNat_natCast]
  refine ModPolyBases.Ev.pos (Nat.le_trans hle (by decide)) (ModPolyBases.Ev.bindc rfl ?_)
  have hl := lag_loop k hk x hx (2 ^ k) 0 0 (by omega) rfl
  have e : ml (2 ^ k) (fun j => if j < 0 then lag k (z x) j else 0) = List.replicate (2 ^ k) 0 := by
    rw [ml_zero]; apply ml_congr; intro n _; rw [if_neg (by omega)]
  rw [e, fpow_zero, show u (1 : F) = 1 by rw [← z_one, uz]; rfl] at hl
  rw [List.length_replicate]
  exact hl
theorem points_loop (k : Nat) (hk : k ≤ 12) (d : Nat) : ∀ (i : Nat) (ii : Int), 1 ≤ i → i + d = 2 ^ k → ii = i →
    Ev (fun n => obolref13_Points.l0 n (k : Int) (ml i (fun j => rootW k ^ j)) (u (rootW k)) ii) (ml (2 ^ k) (fun j => rootW k ^ j)) := by
  have hle := pow_le k hk
  have hsh := shl_i k hk
  generalize 2 ^ k = N at *
  induction d with
  | zero =>
    intro i ii h1 hi hii
    refine Ev.step (fun k => by rw [obolref13_Points.l0]) ?_
    rw [hsh]
    refine ModPolyBases.Ev.pos (by omega) (ModPolyBases.Ev.neg (by omega) (ModPolyBases.Ev.val ?_))
    rw [show i = N by omega]
  | succ d ih =>
    intro i ii h1 hi hii
    refine Ev.step (fun k => by rw [obolref13_Points.l0]) ?_
    rw [hsh, show wrap64 (ii - 1) = ((i - 1 : Nat) : Int) from by rw [wi _ (by omega) (by omega)]; omega, show wrap64 (ii + 1) = ii + 1 from wi _ (by omega) (by omega)]
    have hml := ml_len i (fun j => rootW k ^ j)
    rw [ml_rd _ _ (i - 1) (by omega)]
    have hw := rmul (u (rootW k ^ (i - 1))) (u (rootW k)) (uF0 _) (uF0 _)
    rw [z_u, z_u, ← fpow_succ, show i - 1 + 1 = i by omega] at hw
    refine ModPolyBases.Ev.pos (by omega) (ModPolyBases.Ev.pos (by omega) (ModPolyBases.Ev.pos (by omega) (ModPolyBases.Ev.pos (by omega) (hw.bind (ModPolyBases.Ev.pos (by omega) ?_)))))
    have e := ml_succ i (fun j => rootW k ^ j)
    rw [← e]
    exact ih (i + 1) (ii + 1) (by omega) (by omega) (by omega)
theorem points_val (k : Nat) (hk : k ≤ 12) : Ev (fun n => obolref13_Points.f n (k : Int)) (ml (2 ^ k) (fun j => rootW k ^ j)) := by
  unfold obolref13_Points.f
  have hp : 0 < 2 ^ k := Nat.pow_pos (by omega)
  have h := points_loop k hk (2 ^ k - 1) 1 1 (Nat.le_refl _) (by omega) rfl
  have e : ml 1 (fun j => rootW k ^ j) = [1] := by
    show [u (rootW k ^ 0)] = [1]
    rw [fpow_zero, ← z_one, uz]; rfl
  rw [e] at h
  exact (rroot_val k hk).bind h
theorem less_u (a : Int) (ha : 0 ≤ a) (b : F) : obolref07_Less.f a (u b) = some (u (z a - b)) := by
  rw [rless a _ ha (uF0 _), z_u]
theorem rlag_l1 (k : Nat) (hk : k ≤ 12) (x : Int) (hx : 0 ≤ x) (i : Nat) (hi : i < 2 ^ k) (l r : List Int) (hlen : l.length ≤ 4096)
    (go : Ev (fun n => obolref13_Lagrange.l0 n x (ml (2 ^ k) (fun j => rootW k ^ j)) (l ++ [u (pw (fun j => z x - rootW k ^ j) i (2 ^ k) * pw (fun j => rootW k ^ i - rootW k ^ j) i (2 ^ k) ^ (RR - 2))]) ((i : Int) + 1)) r) (d : Nat) :
    ∀ (j : Nat) (jj : Int), j + d = 2 ^ k → jj = j →
    Ev (fun n => obolref13_Lagrange.l1 n x (ml (2 ^ k) (fun j => rootW k ^ j)) l (i : Int) (u (pw (fun j => z x - rootW k ^ j) i j)) (u (pw (fun j => rootW k ^ i - rootW k ^ j) i j)) jj) r := by
  have hle := pow_le k hk
  generalize 2 ^ k = N at *
  have hml := ml_len N (fun j => rootW k ^ j)
  induction d with
  | zero =>
    intro j jj hj hjj
    have : j = N := by omega
    subst this
    refine Ev.step (fun k => by rw [obolref13_Lagrange.l1]) ?_
    have ho := rover (u (pw (fun j => z x - rootW k ^ j) i j)) (u (pw (fun j => rootW k ^ i - rootW k ^ j) i j)) (uF0 _) (uF0 _)
    rw [z_u, z_u] at ho
    refine ModPolyBases.Ev.neg (by omega) (ho.bind (ModPolyBases.Ev.pos (by omega) ?_))
    rw [show wrap64 ((i : Int) + 1) = i + 1 from wi _ (by omega) (by omega)]
    exact go
  | succ d ih =>
    intro j jj hj hjj
    have hnext := ih (j + 1) (jj + 1) (by omega) (by omega)
    refine Ev.step (fun k => by rw [obolref13_Lagrange.l1]) ?_
    rw [show wrap64 (jj + 1) = jj + 1 from wi _ (by omega) (by omega)]
    refine ModPolyBases.Ev.pos (by omega) ?_
    by_cases he : j = i
    · refine ModPolyBases.Ev.pos (by omega) ?_
      simp only [pw, if_pos he] at hnext
      exact hnext
    · refine ModPolyBases.Ev.neg (by omega) (ModPolyBases.Ev.pos (by omega) ?_)
      rw [hjj, ml_rd _ _ j (by omega), ml_rd _ _ i (by omega)]
      have m1 := rmul (u (pw (fun j => z x - rootW k ^ j) i j)) (u (z x - rootW k ^ j)) (uF0 _) (uF0 _)
      have m2 := rmul (u (pw (fun j => rootW k ^ i - rootW k ^ j) i j)) (u (rootW k ^ i - rootW k ^ j)) (uF0 _) (uF0 _)
      rw [z_u, z_u] at m1 m2
      have l2 := less_u (u (rootW k ^ i)) (uF0 _) (rootW k ^ j)
      rw [z_u] at l2
      refine ModPolyBases.Ev.bindc (less_u x hx _) (m1.bind (ModPolyBases.Ev.pos (by omega) (ModPolyBases.Ev.pos (by omega) (ModPolyBases.Ev.bindc l2 (m2.bind ?_)))))
      simp only [pw, if_neg he] at hnext
      rw [hjj] at hnext
      exact hnext
theorem rlag_l0 (k : Nat) (hk : k ≤ 12) (x : Int) (hx : 0 ≤ x) (g : Nat → F) (hg : ∀ i, i < 2 ^ k → g i = pw (fun j => z x - rootW k ^ j) i (2 ^ k) * pw (fun j => rootW k ^ i - rootW k ^ j) i (2 ^ k) ^ (RR - 2)) (d : Nat) :
    ∀ (i : Nat) (ii : Int), i + d = 2 ^ k → ii = i → Ev (fun n => obolref13_Lagrange.l0 n x (ml (2 ^ k) (fun j => rootW k ^ j)) (ml i g) ii) (ml (2 ^ k) g) := by
  have hle := pow_le k hk
  have hml := ml_len (2 ^ k) (fun j => rootW k ^ j)
  have hone : u (1 : F) = 1 := by rw [← z_one, uz]; rfl
  induction d with
  | zero =>
    intro i ii hi hii
    refine Ev.step (fun k => by rw [obolref13_Lagrange.l0]) ?_
    refine ModPolyBases.Ev.neg (by rw [hml]; generalize 2 ^ k = N at *; omega) (ModPolyBases.Ev.val ?_)
    rw [show i = 2 ^ k by generalize 2 ^ k = N at *; omega]
  | succ d ih =>
    intro i ii hi hii
    have hlt : i < 2 ^ k := by generalize 2 ^ k = N at *; omega
    refine Ev.step (fun k => by rw [obolref13_Lagrange.l0]) ?_
    refine ModPolyBases.Ev.pos (by rw [hml]; generalize 2 ^ k = N at *; omega) ?_
    have hnext := ih (i + 1) ((i : Int) + 1) (by generalize 2 ^ k = N at *; omega) (by omega)
    rw [ml_succ, hg i hlt] at hnext
    have h1 := rlag_l1 k hk x hx i hlt (ml i g) _ (by rw [ml_len]; generalize 2 ^ k = N at *; omega) hnext (2 ^ k) 0 0 (by omega) rfl
    simp only [pw] at h1
    rw [hone] at h1
    rw [hii]
    exact h1
theorem z_two_pow_ne (k : Nat) (hk : k ≤ 12) : (z ((2 ^ k : Nat) : Int) : F) ≠ 0 := by
  intro h
  have h2 := congrArg u h
  have hle := pow_le k hk
  have hp : 0 < 2 ^ k := Nat.pow_pos (by omega)
  rw [uz, u_zero] at h2
  generalize 2 ^ k = N at *
  omega
theorem lag_eq (k : Nat) (hk : k ≤ 12) (x : F) (i : Nat) (hi : i < 2 ^ k) :
    lag k x i = pw (fun j => x - rootW k ^ j) i (2 ^ k) * pw (fun j => rootW k ^ i - rootW k ^ j) i (2 ^ k) ^ (RR - 2) := by
  have hN := z_two_pow_ne k hk
  have hNi := inv_mul prR hN
  have hD : pw (fun j => rootW k ^ i - rootW k ^ j) i (2 ^ k) * rootW k ^ i = z ((2 ^ k : Nat) : Int) ∧ pw (fun j => x - rootW k ^ j) i (2 ^ k) * (x - rootW k ^ i) = x ^ 2 ^ k - 1 := by
    cases k with
    | zero =>
      have : i = 0 := by simp at hi; omega
      subst this
      constructor
      · show (1 : F) * _ = _
        rw [fpow_zero, fmul_one]; exact z_one.symm
      · show (1 : F) * (x - _) = _
        rw [fone_mul, fpow_zero, Nat.pow_zero, fpow_one]
    | succ m =>
      have hw := rootW_half (m + 1) hk (by omega)
      rw [Nat.add_sub_cancel] at hw
      refine ⟨pw_domain m _ hw i hi, ?_⟩
      rw [pw_pr _ i _ hi]
      exact pr_domain m _ hw x
  obtain ⟨hD1, hD2⟩ := hD
  have hDn : pw (fun j => rootW k ^ i - rootW k ^ j) i (2 ^ k) ≠ 0 := by
    intro h
    rw [h, fzero_mul] at hD1
    exact hN hD1.symm
  have hDi := inv_mul prR hDn
  unfold lag
  by_cases h0 : x - rootW k ^ i = 0
  · rw [if_pos h0, fsub_eq h0]
    exact hDi.symm
  · rw [if_neg h0, ← hD2, lag1 _ _ _ _ _ (inv_mul prR h0)]
    exact congrArg (fun t => pw (fun j => x - rootW k ^ j) i (2 ^ k) * t) (uinv (lag2 _ _ _ _ hD1 hNi) hDi)
theorem PolyBases : obollaw13_PolyBases.Pure := by
  intro k x hk hx
  apply Ev.rounds
  have hx' := (bd64 hx).1
  unfold obollaw13_PolyBases.f
  refine up_val.bind ?_
  have bad : (k < 0 ∨ 12 < k) → Ev (fun n => obollaw13_PolyBases.j0 n k x true false) true := by
    intro hb
    refine Ev.step (fun k => by rw [obollaw13_PolyBases.j0]) ?_
    have hl : Ev (fun n => poly_Lagrange.f n k x) ([], some 1) := by
      unfold poly_Lagrange.f
      exact (root_bad k hb).bind (ModPolyBases.Ev.neg (by simp) (ModPolyBases.Ev.val rfl))
    have hj : Ev (fun n => obollaw13_PolyBases.j1 n k x true [] (some 1) true) true := by
      refine Ev.step (fun k => by rw [obollaw13_PolyBases.j1]) ?_
      exact ModPolyBases.Ev.pos rfl (ModPolyBases.Ev.pos rfl (ModPolyBases.Ev.neg (by simp) (ModPolyBases.Ev.pos rfl (ModPolyBases.Ev.val rfl))))
    refine ModPolyBases.Ev.neg (by simp) (hl.bind ?_)
    by_cases h0 : k < 0
    · exact ModPolyBases.Ev.pos h0 hj
    · refine ModPolyBases.Ev.neg h0 ?_
      rw [decide_eq_true (show k > 12 by omega)]
      exact hj
  by_cases h4 : k > 4
  · refine ModPolyBases.Ev.pos h4 ?_
    by_cases h12 : k ≤ 12
    · rw [decide_eq_true h12]
      refine Ev.step (fun k => by rw [obollaw13_PolyBases.j0]) ?_
      exact ModPolyBases.Ev.pos rfl (ModPolyBases.Ev.val rfl)
    · rw [decide_eq_false h12]
      exact bad (by omega)
  · refine ModPolyBases.Ev.neg h4 ?_
    by_cases h0 : k < 0
    · exact bad (.inl h0)
    · obtain ⟨n, rfl⟩ := Int.eq_ofNat_of_zero_le (show 0 ≤ k by omega)
      have hn : n ≤ 12 := by omega
      refine Ev.step (fun k => by rw [obollaw13_PolyBases.j0]) ?_
      refine ModPolyBases.Ev.neg (by simp) ((lag_val n hn x hx').bind (ModPolyBases.Ev.neg h0 ?_))
      rw [decide_eq_false (show ¬ (n : Int) > 12 by omega)]
      refine Ev.step (fun k => by rw [obollaw13_PolyBases.j1]) ?_
      refine ModPolyBases.Ev.neg (by simp) (ModPolyBases.Ev.pos rfl (ModPolyBases.Ev.pos rfl ?_))
      have hr : Ev (fun m => obolref13_Lagrange.f m (n : Int) x) (ml (2 ^ n) (lag n (z x))) := by
        unfold obolref13_Lagrange.f
        have h := rlag_l0 n hn x hx' (lag n (z x)) (fun i hi => lag_eq n hn (z x) i hi) (2 ^ n) 0 0 (by omega) rfl
        exact (points_val n hn).bind h
      refine hr.bind (ModPolyBases.Ev.tail (same_val _ _ ?_ rfl))
      rw [ml_len]
      exact Nat.le_trans (pow_le n hn) (by decide)
end Go.Proofs.Ytempibbfdojfiab.Pure
