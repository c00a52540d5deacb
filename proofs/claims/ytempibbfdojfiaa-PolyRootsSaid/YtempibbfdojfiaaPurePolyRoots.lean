/- For every exponent, obollaw13.PolyRoots returns true: the domain's first power is of just that order, or there is none. No conditions. -/
import Derived.Test.YtempibbfdojfiaaLPolyPolyRoots
set_option linter.unusedVariables false
namespace Go.Proofs.Ytempibbfdojfiaa.Pure
open Go.RowKit Go.Proofs.Ytempibbfdojfiaa.PPolyRoots Go.Proofs.YtempibbfdojfiaaW.PrintWords Go.Proofs.YtempibbfdojfiaaW.PrintLast Go.Proofs.YtempibbfdojfiaaW.PrintMore Go.Proofs.Ytempibbfdojfiaa.Nm Go.Proofs.Ytempibbfdojfiaa.ModPolyRoots

theorem bad_j0 (k : Int) : Ev (fun n => obollaw13_PolyRoots.j0 n k true 0 (some 1) true) true := by
  refine Ev.step (fun k => by rw [obollaw13_PolyRoots.j0]) ?_
  exact ModPolyRoots.Ev.pos rfl (ModPolyRoots.Ev.pos rfl (ModPolyRoots.Ev.neg (by simp) (ModPolyRoots.Ev.pos rfl (ModPolyRoots.Ev.val rfl))))
theorem shl_1 (k : Nat) (hk : k ≤ 12) : shl .u64 1 (k : Int) = ((2 ^ k : Nat) : Int) ∧ 2 ^ k ≤ 4096 := by
  have hle : 2 ^ k ≤ 2 ^ 12 := Nat.pow_le_pow_right (by omega) hk
  unfold shl
  have e : min (k : Int).toNat IntKind.u64.bits = k := by
    show min (k : Int).toNat 64 = k
    omega
  rw [e, Int.one_mul]
  have h2 : (2 : Int) ^ k = ((2 ^ k : Nat) : Int) := by rw [Int.natCast_pow]; rfl
  rw [h2]
  have h3 : (2 : Nat) ^ 12 = 4096 := rfl
  rw [h3] at hle
  refine ⟨wu _ (Int.natCast_nonneg _) (Int.ofNat_lt.2 (Nat.lt_of_le_of_lt hle (by decide))), hle⟩
theorem PolyRoots : obollaw13_PolyRoots.Pure := by
  intro k hk
  apply Ev.rounds
  unfold obollaw13_PolyRoots.f
  refine up_val.bind ?_
  by_cases h0 : k < 0
  · refine (root_bad k (.inl h0)).bind (ModPolyRoots.Ev.pos h0 ?_)
    exact bad_j0 k
  by_cases h12 : 12 < k
  · refine (root_bad k (.inr h12)).bind (ModPolyRoots.Ev.neg h0 ?_)
    rw [show decide (k > 12) = true from decide_eq_true h12]
    exact bad_j0 k
  obtain ⟨n, rfl⟩ := Int.eq_ofNat_of_zero_le (show 0 ≤ k by omega)
  have hn : n ≤ 12 := by omega
  refine (root_val n hn).bind (ModPolyRoots.Ev.neg h0 ?_)
  rw [show decide ((n : Int) > 12) = false from decide_eq_false h12]
  obtain ⟨hs, hs2⟩ := shl_1 n hn
  refine Ev.step (fun k => by rw [obollaw13_PolyRoots.j0]) ?_
  refine ModPolyRoots.Ev.neg (by simp) (ModPolyRoots.Ev.pos (by omega) (ModPolyRoots.Ev.pos rfl (ModPolyRoots.Ev.pos rfl ?_)))
  refine (rroot_val n hn).bind (ModPolyRoots.Ev.pos rfl ?_)
  rw [hs]
  have hp := rpow_val moR (u (rootW n)) ((2 ^ n : Nat) : Int) (uF0 _) (Int.natCast_nonneg _) (Int.ofNat_lt.2 (Nat.lt_of_le_of_lt hs2 (by decide)))
  rw [powF, z_u, Int.toNat_natCast, rootW_pow n hn, ← z_one, uz] at hp
  refine Ev.bind hp (ModPolyRoots.Ev.pos rfl ?_)
  by_cases hz : (n : Int) = 0
  · exact ModPolyRoots.Ev.pos hz (ModPolyRoots.Ev.val rfl)
  · refine ModPolyRoots.Ev.neg hz ?_
    have e2 : ((2 ^ n : Nat) : Int) / 2 = ((2 ^ (n - 1) : Nat) : Int) := by
      have : 2 ^ n = 2 ^ (n - 1) * 2 := by rw [← Nat.pow_succ]; congr 1; omega
      omega
    rw [e2]
    have hle : 2 ^ (n - 1) ≤ 2 ^ n := Nat.pow_le_pow_right (by omega) (by omega)
    have hp2 := rpow_val moR (u (rootW n)) ((2 ^ (n - 1) : Nat) : Int) (uF0 _) (Int.natCast_nonneg _) (Int.ofNat_lt.2 (Nat.lt_of_le_of_lt (Nat.le_trans hle hs2) (by decide)))
    rw [powF, z_u, Int.toNat_natCast, rootW_half n hn (by omega)] at hp2
    refine Ev.bind hp2 (ModPolyRoots.Ev.val ?_)
    have e1 : (-1 : F) = z (-1) := by rw [z_neg, z_one]
    rw [e1, uz]; rfl
end Go.Proofs.Ytempibbfdojfiaa.Pure
