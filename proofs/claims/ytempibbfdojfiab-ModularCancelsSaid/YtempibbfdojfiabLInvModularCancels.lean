/- What modular.Inv and the reference's Gcd compute (for the law ModularCancels). -/
import Derived.Test.YtempibbfdojfiabLFldModularCancels
set_option linter.unusedVariables false
set_option linter.unusedSimpArgs false
namespace Go.Proofs.Ytempibbfdojfiab.ModModularCancels
open Go.RowKit Go.Proofs.Ytempibbfdojfiab.PModularCancels Go.Proofs.YtempibbfdojfiabW.PrintWords Go.Proofs.YtempibbfdojfiabW.PrintLast Go.Proofs.YtempibbfdojfiabW.PrintMore Go.Proofs.Ytempibbfdojfiab.Nm

theorem gcd_step (x y : Nat) : Nat.gcd y (x % y) = Nat.gcd x y := by
  rw [Nat.gcd_comm y, ← Nat.gcd_rec, Nat.gcd_comm]
theorem tmod_nat (x y : Nat) : Int.tmod (x : Int) (y : Int) = ((x % y : Nat) : Int) := by rw [tmod_pos (Int.natCast_nonneg _), Int.natCast_emod]
theorem tdiv_nat (x y : Nat) : Int.tdiv (x : Int) (y : Int) = ((x / y : Nat) : Int) := by rw [tdiv_pos (Int.natCast_nonneg _), Int.natCast_ediv]
/-- What Inv answers. -/
def InvTells (m a : Int) (g : Nat) (r : Int × Option Int) : Prop := (g = 1 ∧ ∃ u : Int, r = (u, none) ∧ 0 ≤ u ∧ u < m ∧ u * a % m = 1) ∨ (g ≠ 1 ∧ r = (0, some 2))
theorem em_iff {a b m : Int} : a % m = b % m ↔ ∃ k, a = b + m * k := by
  constructor
  · intro h
    refine ⟨a / m - b / m, ?_⟩
    have h1 := Int.mul_ediv_add_emod a m
    have h2 := Int.mul_ediv_add_emod b m
    rw [h] at h1
    generalize a / m = p at *
    generalize b / m = q at *
    generalize b % m = r at *
    grind
  · rintro ⟨k, rfl⟩
    rw [Int.add_mul_emod_self_left]
theorem em_self (a m : Int) : ∃ k, a % m = a + m * k := em_iff.1 (Int.emod_emod _ _)
theorem inv_step {m a s v q x y : Int} (e1 : s * a % m = x % m) (e2 : v * a % m = y % m) : (s - (q * v % m)) % m * a % m = (x - q * y) % m := by
  obtain ⟨k1, e1⟩ := em_iff.1 e1
  obtain ⟨k2, e2⟩ := em_iff.1 e2
  obtain ⟨k3, e3⟩ := em_self (q * v) m
  obtain ⟨k4, e4⟩ := em_self (s - (q * v % m)) m
  rw [e4, e3]
  refine em_iff.2 ⟨k1 - q * k2 - k3 * a + k4 * a, ?_⟩
  grind
theorem inv_loop {m : Int} (h : Mo m) (a : Int) (n : Nat) : ∀ (x y : Nat) (s v : Int), y ≤ n → (x : Int) ≤ m → (y : Int) ≤ m → 0 ≤ s → s < m → 0 ≤ v → v < m →
    s * a % m = (x : Int) % m → v * a % m = (y : Int) % m → ∃ r, InvTells m a (Nat.gcd x y) r ∧ Ev (fun k => modular_Inv.l0 k m (x : Int) (y : Int) s v) r := by
  have h1 := h.lo
  have h2 := h.hi
  induction n with
  | zero =>
    intro x y s v hy hx hym hs hs2 hv hv2 e1 e2
    have : y = 0 := by omega
    subst this
    rw [Nat.gcd_zero_right]
    by_cases hx1 : x = 1
    · refine ⟨(s, none), .inl ⟨hx1, s, rfl, hs, hs2, ?_⟩, ?_⟩
      · rw [e1, hx1]; exact Int.emod_eq_of_lt (by omega) (by omega)
      · refine Ev.step (fun k => by rw [modular_Inv.l0]) ?_
        exact Ev.neg (by omega) (Ev.pos (by omega) (Ev.val rfl))
    · refine ⟨(0, some 2), .inr ⟨hx1, rfl⟩, ?_⟩
      refine Ev.step (fun k => by rw [modular_Inv.l0]) ?_
      exact Ev.neg (by omega) (Ev.neg (by omega) (Ev.val rfl))
  | succ n ih =>
    intro x y s v hy hx hym hs hs2 hv hv2 e1 e2
    by_cases hy0 : y = 0
    · exact ih x y s v (by omega) hx hym hs hs2 hv hv2 e1 e2
    · have hq : x / y ≤ x := Nat.div_le_self _ _
      have hml : x % y < y := Nat.mod_lt _ (by omega)
      have r1 := mr h (((x / y : Nat) : Int) * v)
      have r2 := mr h (s - (((x / y : Nat) : Int) * v % m))
      have e3 : (s - (((x / y : Nat) : Int) * v % m)) % m * a % m = ((x % y : Nat) : Int) % m := by
        rw [inv_step e1 e2]
        congr 1
        have hdm := Nat.div_add_mod x y
        have : (x : Int) = ((y * (x / y) + x % y : Nat) : Int) := by rw [hdm]
        rw [this, Int.natCast_add, Int.natCast_mul, Int.mul_comm ((x / y : Nat) : Int)]
        omega
      obtain ⟨r, hr, hev⟩ := ih y (x % y) v ((s - (((x / y : Nat) : Int) * v % m)) % m) (by omega) hym (by omega) hv hv2 r2.1 r2.2 e2 e3
      refine ⟨r, by rw [← gcd_step x y]; exact hr, ?_⟩
      refine Ev.step (fun k => by rw [modular_Inv.l0]) ?_
      refine Ev.pos (by omega) (Ev.neg (by omega) ?_)
      rw [tdiv_nat, tmod_nat, wu ((x / y : Nat) : Int) (Int.natCast_nonneg _) (by omega)]
      refine (mul_val h _ v (Int.natCast_nonneg _) hv).bind (Ev.bindc (sub_val h s _ hs r1.1) ?_)
      exact hev
theorem inv_val {m : Int} (h : Mo m) (a : Int) (ha : 0 ≤ a) : ∃ r, InvTells m a (Nat.gcd m.toNat (a % m).toNat) r ∧ Ev (fun k => modular_Inv.f k m a) r := by
  have h1 := h.lo
  have ra := mr h a
  obtain ⟨r, hr, hev⟩ := inv_loop h a (a % m).toNat m.toNat (a % m).toNat 0 1 (Nat.le_refl _) (by omega) (by omega) (by omega) (by omega) (by omega) (by omega)
    (by rw [Int.toNat_of_nonneg (by omega), Int.zero_mul, Int.zero_emod, Int.emod_self]) (by rw [Int.toNat_of_nonneg (by omega), Int.one_mul, Int.emod_emod])
  refine ⟨r, hr, ?_⟩
  unfold modular_Inv.f
  rw [no_of h]
  refine Ev.bindc rfl (Ev.neg (by simp) (Ev.neg (by omega) ?_))
  rw [tmod_pos ha]
  rw [Int.toNat_of_nonneg (by omega), Int.toNat_of_nonneg (by omega)] at hev
  exact hev
theorem inv_bad {m : Int} (h : m < 2 ∨ 4611686018427387904 < m) (a : Int) : Ev (fun k => modular_Inv.f k m a) (0, some 1) := by
  unfold modular_Inv.f
  rw [no_bad h]
  exact Ev.bindc rfl (Ev.pos rfl (Ev.val rfl))
end Go.Proofs.Ytempibbfdojfiab.ModModularCancels
