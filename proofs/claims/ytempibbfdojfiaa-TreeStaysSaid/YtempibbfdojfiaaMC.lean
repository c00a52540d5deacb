import Derived.Test.YtempibbfdojfiaaMB
namespace Go.Proofs.Ytempibbfdojfiaa.Nm
section
variable {n : Nat} [NeZero n]
theorem fpow_zero (a : Fin n) : a ^ 0 = 1 := by grind
theorem fpow_succ (a : Fin n) (k : Nat) : a ^ (k + 1) = a ^ k * a := by grind
theorem fpow_one (a : Fin n) : a ^ 1 = a := by grind
theorem fone_pow (k : Nat) : (1 : Fin n) ^ k = 1 := by
  induction k with
  | zero => grind
  | succ k ih => rw [fpow_succ, ih]; grind
theorem fpow_add (a : Fin n) (j k : Nat) : a ^ (j + k) = a ^ j * a ^ k := by
  induction k with
  | zero => rw [fpow_zero]; grind
  | succ k ih => rw [← Nat.add_assoc, fpow_succ, fpow_succ, ih]; grind
theorem fpow_mul (a : Fin n) (j k : Nat) : a ^ (j * k) = (a ^ j) ^ k := by
  induction k with
  | zero => rw [fpow_zero, Nat.mul_zero, fpow_zero]
  | succ k ih => rw [Nat.mul_succ, fpow_add, fpow_succ, ih]
theorem fmul_pow (a b : Fin n) (k : Nat) : (a * b) ^ k = a ^ k * b ^ k := by
  induction k with
  | zero => rw [fpow_zero, fpow_zero, fpow_zero]; grind
  | succ k ih => rw [fpow_succ, fpow_succ, fpow_succ, ih]; grind
theorem fzero_pow (k : Nat) (h : 0 < k) : (0 : Fin n) ^ k = 0 := by
  obtain ⟨q, rfl⟩ : ∃ m, k = m + 1 := ⟨k - 1, by omega⟩
  rw [fpow_succ]; grind

/-- A whole number's rest; and a rest as a whole number. -/
def z (x : Int) : Fin n := ⟨(x % (n : Int)).toNat, by
  have : 0 < n := Nat.pos_of_ne_zero (NeZero.ne n)
  have h1 := Int.emod_lt_of_pos x (show (0 : Int) < n by omega)
  have h0 := Int.emod_nonneg x (show (n : Int) ≠ 0 by omega)
  omega⟩
def u (x : Fin n) : Int := (x.val : Int)
omit [NeZero n] in
theorem u_nonneg (x : Fin n) : 0 ≤ u x := Int.natCast_nonneg _
omit [NeZero n] in
theorem u_lt (x : Fin n) : u x < n := by have := x.isLt; unfold u; omega
omit [NeZero n] in
theorem u_inj {x y : Fin n} (h : u x = u y) : x = y := by apply Fin.ext; unfold u at h; omega
theorem u_z (x : Int) : u (z x : Fin n) = x % (n : Int) := by
  have : 0 < n := Nat.pos_of_ne_zero (NeZero.ne n)
  have h0 := Int.emod_nonneg x (show (n : Int) ≠ 0 by omega)
  simp only [u, z]; omega
theorem z_u (x : Fin n) : z (u x) = x := by
  apply u_inj; rw [u_z, Int.emod_eq_of_lt (u_nonneg x) (u_lt x)]
theorem z_emod (x : Int) : (z (x % (n : Int)) : Fin n) = z x := by
  apply u_inj; rw [u_z, u_z, Int.emod_emod]
theorem z_eq {x y : Int} : (z x : Fin n) = z y ↔ x % (n : Int) = y % (n : Int) := by
  constructor
  · intro h; rw [← u_z (n := n), ← u_z (n := n), h]
  · intro h; apply u_inj; rw [u_z, u_z, h]
omit [NeZero n] in
theorem u_add (a b : Fin n) : u (a + b) = (u a + u b) % (n : Int) := by
  simp only [u, Fin.val_add]; norm_cast
omit [NeZero n] in
theorem u_mul (a b : Fin n) : u (a * b) = (u a * u b) % (n : Int) := by
  simp only [u, Fin.val_mul]; norm_cast
theorem z_add (x y : Int) : (z (x + y) : Fin n) = z x + z y := by
  apply u_inj; rw [u_add, u_z, u_z, u_z, ← Int.add_emod]
theorem z_mul (x y : Int) : (z (x * y) : Fin n) = z x * z y := by
  apply u_inj; rw [u_mul, u_z, u_z, u_z, ← Int.mul_emod]
theorem z_zero : (z 0 : Fin n) = 0 := by
  apply Fin.ext; simp [z]
theorem z_one : (z 1 : Fin n) = 1 := by
  apply u_inj
  rw [u_z]
  show _ = ((1 % n : Nat) : Int)
  norm_cast
theorem z_neg (x : Int) : (z (-x) : Fin n) = - z x := by
  have h : (z (-x) : Fin n) + z x = 0 := by rw [← z_add, ← z_zero]; congr 1; omega
  grind
theorem z_sub (x y : Int) : (z (x - y) : Fin n) = z x - z y := by
  rw [Int.sub_eq_add_neg, z_add, z_neg]; grind
theorem z_n : (z (n : Int) : Fin n) = 0 := by
  rw [← z_zero, z_eq]; simp
theorem u_zero : u (0 : Fin n) = 0 := rfl
theorem z_pow (x : Int) (k : Nat) : (z (x ^ k) : Fin n) = z x ^ k := by
  induction k with
  | zero => rw [fpow_zero, ← z_one, Int.pow_zero]
  | succ k ih => rw [fpow_succ, Int.pow_succ, z_mul, ih]
theorem u_eq_of_lt (x : Int) (h0 : 0 ≤ x) (h : x < n) : u (z x : Fin n) = x := by
  rw [u_z, Int.emod_eq_of_lt h0 h]
end
section
variable {p : Nat} [NeZero p]
theorem one_ne_zero (hp : Pr p) : (1 : Fin p) ≠ 0 := by
  intro h
  have := congrArg u h
  rw [← z_one, u_z, u_zero] at this
  have h2 := hp.1
  rw [Int.emod_eq_of_lt (by omega) (by omega)] at this
  omega
theorem cancel (hp : Pr p) {a b c : Fin p} (ha : a ≠ 0) (h : a * b = a * c) : b = c := by
  have : a * (b - c) = 0 := by grind
  rcases dom hp _ _ this with h1 | h1
  · exact absurd h1 ha
  · grind
theorem mul_ne (hp : Pr p) {a b : Fin p} (ha : a ≠ 0) (hb : b ≠ 0) : a * b ≠ 0 := fun h =>
  (dom hp a b h).elim ha hb
theorem pow_ne (hp : Pr p) {a : Fin p} (ha : a ≠ 0) (k : Nat) : a ^ k ≠ 0 := by
  induction k with
  | zero => rw [fpow_zero]; exact one_ne_zero hp
  | succ k ih => rw [fpow_succ]; exact mul_ne hp ih ha
theorem inv_mul (hp : Pr p) {a : Fin p} (ha : a ≠ 0) : a * a ^ (p - 2) = 1 := by
  have h := fermat1 hp a ha
  have : p - 1 = (p - 2) + 1 := by have := hp.1; omega
  rw [this, fpow_succ] at h
  grind
theorem sqrt_one (hp : Pr p) {a : Fin p} (h : a * a = 1) : a = 1 ∨ a = -1 := by
  have : (a - 1) * (a + 1) = 0 := by grind
  rcases dom hp _ _ this with h1 | h1
  · left; grind
  · right; grind
end
end Go.Proofs.Ytempibbfdojfiaa.Nm
