import Derived.Test.YtempibbfdojfiaaME
namespace Go.Proofs.Ytempibbfdojfiaa.Nm
section
variable {n : Nat} [NeZero n]
/-- The product of f 0 .. f (k - 1). -/
def pr (f : Nat → Fin n) : Nat → Fin n
  | 0 => 1
  | k + 1 => pr f k * f k
theorem pr_congr (f g : Nat → Fin n) (k : Nat) (h : ∀ i, i < k → f i = g i) : pr f k = pr g k := by
  induction k with
  | zero => rfl
  | succ k ih => simp only [pr]; rw [ih fun i hi => h i (by omega), h k (by omega)]
theorem pr_split (f : Nat → Fin n) (a b : Nat) : pr f (a + b) = pr f a * pr (fun i => f (a + i)) b := by
  induction b with
  | zero => simp only [pr, Nat.add_zero]; rw [fmul_one]
  | succ b ih => rw [← Nat.add_assoc]; simp only [pr]; rw [ih, mul_assoc']
theorem pr_mul (f g : Nat → Fin n) (k : Nat) : pr (fun i => f i * g i) k = pr f k * pr g k := by
  induction k with
  | zero => simp only [pr]; rw [fmul_one]
  | succ k ih => simp only [pr]; rw [ih]; generalize pr f k = a; generalize pr g k = b; generalize f k = c; generalize g k = d; grind
theorem diff_sq (x y : Fin n) : (x - y) * (x - -y) = x ^ 2 - y ^ 2 := by grind
/-- The product of what leaves x out of the whole domain. -/
theorem pr_domain (k : Nat) : ∀ (w : Fin n), w ^ (2 ^ k) = -1 → ∀ x, pr (fun j => x - w ^ j) (2 ^ (k + 1)) = x ^ (2 ^ (k + 1)) - 1 := by
  induction k with
  | zero =>
    intro w hw x
    rw [Nat.pow_zero, fpow_one] at hw
    show pr (fun j => x - w ^ j) 2 = x ^ 2 - 1
    simp only [pr]
    rw [fpow_zero, fpow_one, hw]; grind
  | succ k ih =>
    intro w hw x
    have hh : 2 ^ (k + 1 + 1) = 2 ^ (k + 1) + 2 ^ (k + 1) := by rw [Nat.pow_succ 2 (k + 1)]; omega
    rw [hh, pr_split, ← pr_mul]
    have e1 : pr (fun i => (x - w ^ i) * (x - w ^ (2 ^ (k + 1) + i))) (2 ^ (k + 1)) = pr (fun i => x ^ 2 - (w ^ 2) ^ i) (2 ^ (k + 1)) := by
      apply pr_congr; intro i _
      rw [fpow_add w (2 ^ (k + 1)), hw, ← fpow_mul, Nat.mul_comm 2 i, fpow_mul]
      rw [← diff_sq]; generalize w ^ i = y; grind
    rw [e1, ih (w ^ 2) (by rw [← fpow_mul, ← hw]; congr 1; rw [Nat.pow_succ, Nat.mul_comm]), ← fpow_mul, ← hh]
    congr 2; rw [Nat.pow_succ 2 (k + 1)]; omega
/-- The product without the i-th. -/
def pw (f : Nat → Fin n) (i : Nat) : Nat → Fin n
  | 0 => 1
  | k + 1 => if k = i then pw f i k else pw f i k * f k
theorem pw_congr (f g : Nat → Fin n) (j k : Nat) (h : ∀ i, i < k → i ≠ j → f i = g i) : pw f j k = pw g j k := by
  induction k with
  | zero => rfl
  | succ k ih =>
    simp only [pw]; rw [ih fun i hi hne => h i (by omega) hne]
    by_cases e : k = j
    · rw [if_pos e, if_pos e]
    · rw [if_neg e, if_neg e, h k (by omega) e]
theorem pw_out (f : Nat → Fin n) (i k : Nat) (h : k ≤ i) : pw f i k = pr f k := by
  induction k with
  | zero => rfl
  | succ k ih => simp only [pw, pr]; rw [if_neg (by omega), ih (by omega)]
theorem pw_pr (f : Nat → Fin n) (i k : Nat) (h : i < k) : pw f i k * f i = pr f k := by
  induction k with
  | zero => omega
  | succ k ih =>
    simp only [pw, pr]
    by_cases e : k = i
    · rw [if_pos e, e, pw_out _ _ _ (Nat.le_refl _)]
    · rw [if_neg e, ← ih (by omega)]; generalize pw f i k = a; generalize f i = b; generalize f k = c; grind
theorem pw_split (f : Nat → Fin n) (i a b : Nat) (h : i < a) : pw f i (a + b) = pw f i a * pr (fun j => f (a + j)) b := by
  induction b with
  | zero => simp only [pr, Nat.add_zero]; rw [fmul_one]
  | succ b ih => rw [← Nat.add_assoc]; simp only [pr, pw]; rw [if_neg (by omega), ih, mul_assoc']
theorem pw_split2 (f : Nat → Fin n) (i a b : Nat) (h : a ≤ i) : pw f i (a + b) = pr f a * pw (fun j => f (a + j)) (i - a) b := by
  induction b with
  | zero => simp only [pw, Nat.add_zero]; rw [fmul_one, pw_out _ _ _ h]
  | succ b ih =>
    rw [← Nat.add_assoc]; simp only [pw]
    by_cases e : a + b = i
    · rw [if_pos e, if_pos (by omega), ih]
    · rw [if_neg e, if_neg (by omega), ih, mul_assoc']
theorem pw_mul (f g : Nat → Fin n) (i k : Nat) : pw (fun j => f j * g j) i k = pw f i k * pw g i k := by
  induction k with
  | zero => simp only [pw]; rw [fmul_one]
  | succ k ih =>
    simp only [pw]
    by_cases e : k = i
    · rw [if_pos e, if_pos e, if_pos e, ih]
    · rw [if_neg e, if_neg e, if_neg e, ih]; generalize pw f i k = a; generalize pw g i k = b; generalize f k = c; generalize g k = d; grind
theorem neg_sq (y : Fin n) : (-y) ^ 2 = y ^ 2 := by grind
theorem fin1 (a b y : Fin n) : a * (b * (y - -y)) * y = a * b * y ^ 2 + a * b * y ^ 2 := by grind
theorem fin2 (a b y : Fin n) : a * (-y - y) * b * -y = a * b * (-y) ^ 2 + a * b * (-y) ^ 2 := by grind
/-- The product of the differences to all others of the domain, times the place, is how many there are. -/
theorem pw_domain (k : Nat) : ∀ (w : Fin n), w ^ (2 ^ k) = -1 → ∀ i, i < 2 ^ (k + 1) → pw (fun j => w ^ i - w ^ j) i (2 ^ (k + 1)) * w ^ i = z ((2 ^ (k + 1) : Nat) : Int) := by
  induction k with
  | zero =>
    intro w hw i hi
    rw [Nat.pow_zero, fpow_one] at hw
    have h2 : (z ((2 ^ (0 + 1) : Nat) : Int) : Fin n) = 1 + 1 := by rw [← z_one, ← z_add]; rfl
    rw [h2]
    have hi2 : i = 0 ∨ i = 1 := by simp at hi; omega
    show pw (fun j => w ^ i - w ^ j) i 2 * w ^ i = 1 + 1
    rcases hi2 with rfl | rfl
    · simp only [pw]
      simp only [if_true, if_neg (show ¬ 1 = 0 by omega)]
      rw [fpow_zero, fpow_one, hw]; grind
    · simp only [pw]
      simp only [if_true, if_neg (show ¬ 0 = 1 by omega)]
      rw [fpow_zero, fpow_one, hw]; grind
  | succ k ih =>
    intro w hw i hi
    have hh : 2 ^ (k + 1 + 1) = 2 ^ (k + 1) + 2 ^ (k + 1) := by rw [Nat.pow_succ 2 (k + 1)]; omega
    have hw2 : (w ^ 2) ^ (2 ^ k) = -1 := by rw [← fpow_mul, ← hw]; congr 1; rw [Nat.pow_succ, Nat.mul_comm]
    have hsum : (z ((2 ^ (k + 1 + 1) : Nat) : Int) : Fin n) = z ((2 ^ (k + 1) : Nat) : Int) + z ((2 ^ (k + 1) : Nat) : Int) := by
      rw [← z_add]; congr 1; rw [hh]; rfl
    have hneg : ∀ j : Nat, w ^ (2 ^ (k + 1) + j) = - w ^ j := by intro j; rw [fpow_add, hw]; generalize w ^ j = y; grind
    have main : ∀ i, i < 2 ^ (k + 1) → ∀ y : Fin n, y ^ 2 = (w ^ 2) ^ i → 
        pw (fun j => (y - w ^ j) * (y - w ^ (2 ^ (k + 1) + j))) i (2 ^ (k + 1)) * (y ^ 2) = z ((2 ^ (k + 1) : Nat) : Int) := by
      intro i hi y hy
      have e1 : pw (fun j => (y - w ^ j) * (y - w ^ (2 ^ (k + 1) + j))) i (2 ^ (k + 1)) = pw (fun j => (w ^ 2) ^ i - (w ^ 2) ^ j) i (2 ^ (k + 1)) := by
        apply pw_congr; intro j _ _
        rw [hneg, diff_sq, hy, ← fpow_mul w j 2, Nat.mul_comm j 2, fpow_mul]
      rw [e1, hy, ih (w ^ 2) hw2 i hi]
    rw [hsum]
    by_cases hlt : i < 2 ^ (k + 1)
    · have := main i hlt (w ^ i) (by rw [← fpow_mul, ← fpow_mul, Nat.mul_comm])
      rw [pw_mul] at this
      rw [hh, pw_split _ _ _ _ hlt, ← pw_pr _ i _ hlt, hneg i]
      rw [← this]
      generalize pw (fun j => w ^ i - w ^ j) i (2 ^ (k + 1)) = a
      generalize pw (fun j => w ^ i - w ^ (2 ^ (k + 1) + j)) i (2 ^ (k + 1)) = b
      exact fin1 a b (w ^ i)
    · obtain ⟨j, rfl⟩ : ∃ j, i = 2 ^ (k + 1) + j := ⟨i - 2 ^ (k + 1), by omega⟩
      have hj : j < 2 ^ (k + 1) := by omega
      have := main j hj (w ^ (2 ^ (k + 1) + j)) (by rw [hneg, neg_sq, ← fpow_mul, ← fpow_mul, Nat.mul_comm 2 j])
      rw [pw_mul] at this
      rw [hh, pw_split2 _ _ _ _ (by omega), ← pw_pr _ j _ hj]
      rw [← this, show 2 ^ (k + 1) + j - 2 ^ (k + 1) = j by omega]
      generalize pw (fun i => w ^ (2 ^ (k + 1) + j) - w ^ i) j (2 ^ (k + 1)) = a
      generalize pw (fun i => w ^ (2 ^ (k + 1) + j) - w ^ (2 ^ (k + 1) + i)) j (2 ^ (k + 1)) = b
      rw [hneg]
      exact fin2 a b (w ^ j)
end
end Go.Proofs.Ytempibbfdojfiaa.Nm
