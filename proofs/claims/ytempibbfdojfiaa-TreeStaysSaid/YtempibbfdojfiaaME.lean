import Derived.Test.YtempibbfdojfiaaMC
namespace Go.Proofs.Ytempibbfdojfiaa.Nm
section
variable {n : Nat} [NeZero n]
/-- The sum of f 0 .. f (k - 1). -/
def sm (f : Nat → Fin n) : Nat → Fin n
  | 0 => 0
  | k + 1 => sm f k + f k
theorem sm_congr (f g : Nat → Fin n) (k : Nat) (h : ∀ i, i < k → f i = g i) : sm f k = sm g k := by
  induction k with
  | zero => rfl
  | succ k ih => simp only [sm]; rw [ih fun i hi => h i (by omega), h k (by omega)]
theorem sm_add (f g : Nat → Fin n) (k : Nat) : sm (fun i => f i + g i) k = sm f k + sm g k := by
  induction k with
  | zero => simp only [sm]; grind
  | succ k ih => simp only [sm]; rw [ih]; grind
theorem sm_mul (c : Fin n) (f : Nat → Fin n) (k : Nat) : sm (fun i => c * f i) k = c * sm f k := by
  induction k with
  | zero => simp only [sm]; grind
  | succ k ih => simp only [sm]; rw [ih]; grind
theorem sm_zero (f : Nat → Fin n) (k : Nat) (h : ∀ i, i < k → f i = 0) : sm f k = 0 := by
  induction k with
  | zero => rfl
  | succ k ih => simp only [sm]; rw [ih fun i hi => h i (by omega), h k (by omega)]; grind
theorem sm_swap (f : Nat → Nat → Fin n) (a b : Nat) : sm (fun i => sm (fun j => f i j) b) a = sm (fun j => sm (fun i => f i j) a) b := by
  induction a with
  | zero => simp only [sm]; rw [sm_zero]; intros; rfl
  | succ a ih => simp only [sm]; rw [ih, sm_add]
theorem sm_one (f : Nat → Fin n) (k j : Nat) (hj : j < k) (h : ∀ i, i < k → i ≠ j → f i = 0) : sm f k = f j := by
  induction k with
  | zero => omega
  | succ k ih =>
    simp only [sm]
    by_cases e : j = k
    · subst e; rw [sm_zero f j fun i hi => h i (by omega) (by omega)]; grind
    · rw [ih (by omega) fun i hi hne => h i (by omega) hne, h k (by omega) (by omega)]; grind
theorem sm_shift (f : Nat → Fin n) (k : Nat) : sm f (k + 1) = f 0 + sm (fun i => f (i + 1)) k := by
  induction k with
  | zero => simp only [sm]; grind
  | succ k ih => rw [sm, ih]; simp only [sm]; grind
theorem sm_split (f : Nat → Fin n) (a b : Nat) : sm f (a + b) = sm f a + sm (fun i => f (a + i)) b := by
  induction b with
  | zero => simp only [sm, Nat.add_zero]; grind
  | succ b ih => rw [← Nat.add_assoc]; simp only [sm]; rw [ih]; grind
theorem geo (x : Fin n) (k : Nat) : (x - 1) * sm (fun i => x ^ i) k = x ^ k - 1 := by
  induction k with
  | zero => simp only [sm]; rw [fpow_zero]; grind
  | succ k ih => simp only [sm]; rw [fpow_succ]; grind
/-- The sum of k ones. -/
theorem sm_const (c : Fin n) (k : Nat) : sm (fun _ => c) k = z (k : Int) * c := by
  induction k with
  | zero => simp only [sm]; rw [show ((0 : Nat) : Int) = 0 from rfl, z_zero]; grind
  | succ k ih => simp only [sm]; rw [ih, show ((k + 1 : Nat) : Int) = (k : Int) + 1 from rfl, z_add, z_one]; grind

/-- A polynomial's value; the constant coefficient comes first. -/
def ev : List (Fin n) → Fin n → Fin n
  | [], _ => 0
  | c :: l, x => c + x * ev l x
theorem ev_append (l r : List (Fin n)) (x : Fin n) : ev (l ++ r) x = ev l x + x ^ l.length * ev r x := by
  induction l with
  | nil => simp only [List.nil_append, ev, List.length_nil]; rw [fpow_zero]; grind
  | cons c l ih => simp only [List.cons_append, ev, List.length_cons]; rw [ih, fpow_succ]; grind
theorem ev_sm (l : List (Fin n)) (x : Fin n) : ev l x = sm (fun i => l.getD i 0 * x ^ i) l.length := by
  induction l with
  | nil => rfl
  | cons c l ih =>
    rw [List.length_cons, sm_shift]
    simp only [ev, List.getD_cons_zero, List.getD_cons_succ]
    rw [ih, fpow_zero, ← sm_mul]
    congr 1
    · grind
    · apply sm_congr; intro i _; rw [fpow_succ]; grind
/-- With any number of places that is at least the list's length. -/
theorem ev_sm_le (l : List (Fin n)) (x : Fin n) (k : Nat) (h : l.length ≤ k) : ev l x = sm (fun i => l.getD i 0 * x ^ i) k := by
  obtain ⟨d, rfl⟩ : ∃ d, k = l.length + d := ⟨k - l.length, by omega⟩
  rw [sm_split, ← ev_sm, sm_zero (fun i => l.getD (l.length + i) 0 * x ^ (l.length + i))]
  · grind
  · intro i _
    rw [List.getD_eq_getElem?_getD, List.getElem?_eq_none (by omega)]; simp only [Option.getD_none]; grind
theorem neg_one_sq : (-1 : Fin n) ^ 2 = 1 := by grind
theorem fone_mul (a : Fin n) : 1 * a = a := by grind
theorem fmul_one (a : Fin n) : a * 1 = a := by grind
theorem sm_rmul (c : Fin n) (g : Nat → Fin n) (m : Nat) : sm g m * c = sm (fun i => c * g i) m := by rw [sm_mul]; grind
theorem fmul_comm (a b : Fin n) : a * b = b * a := by grind
theorem fmul_zero (a : Fin n) : a * 0 = 0 := by grind
theorem fsub_self (a : Fin n) : a - a = 0 := by grind
theorem fsub_eq {a b : Fin n} (h : a - b = 0) : a = b := by grind
theorem cancel_l {a b c : Fin n} (h1 : a * b = 1) (h2 : a * c * b = 1) : c = 1 := by grind
theorem mul_assoc' (a b c : Fin n) : a * b * c = a * (b * c) := by grind
theorem arr3 (a b c : Fin n) : a * (c * b) = c * (b * a) := by grind
theorem fzero_mul (a : Fin n) : 0 * a = 0 := by grind
theorem fadd_zero (a : Fin n) : a + 0 = a := by grind
theorem gi1 : (0 : Fin n) * 0 - 1 * 1 = -1 := by grind
theorem gi2 : (0 : Fin n) * 1 + 1 * 0 = 0 := by grind
theorem gi3 : (-1 : Fin n) * -1 - 0 * 0 = 1 := by grind
theorem gi4 : (-1 : Fin n) * 0 + 0 * -1 = 0 := by grind
theorem gneg0 : -(0 : Fin n) = 0 := by grind
theorem groot (x y v : Fin n) (h : x * x + y * y = 0) (hi : y * v = 1) : x * v * (x * v) = -1 := by grind
theorem gsq0 (h : (0 : Fin n) = -1) : (1 : Fin n) = 0 := by grind
theorem gpow2 (t : Fin n) : t ^ 2 = t * t := by grind
theorem uinv {d e f : Fin n} (h1 : d * e = 1) (h2 : d * f = 1) : e = f := by grind
theorem lag1 (A d d' M w : Fin n) (h : d * d' = 1) : A * d * M * w * d' = A * (w * M) := by grind
theorem lag2 (D w N M : Fin n) (h : D * w = N) (h2 : N * M = 1) : D * (w * M) = 1 := by grind
theorem neg_mul_l (a : Fin n) : -1 * a = -a := by grind
theorem neg_mul_neg_l (a : Fin n) : -a * -a = a * a := by grind
theorem neg_sub_l (e x o : Fin n) : e + -x * o = e - x * o := by grind
theorem neg_inv_l {a : Fin n} (h : -1 * a = 1) : a = -1 := by grind
theorem arr4 (a b c : Fin n) : a * b * c = b * (a * c) := by grind
theorem arr5 {N M : Fin n} (h : N * M = 1) (a : Fin n) : M * (N * a) = a := by grind
theorem arr6 {N M : Fin n} (h : N * M = 1) (a : Fin n) : N * a * M = a := by grind
theorem zadd3 (a : Fin n) : 0 + (0 + a * 1) * 1 = a := by grind
theorem zadd4 (a : Fin n) : (0 + (0 + a * 1) * 1) * 1 = a := by grind
theorem fneg_pow_even (w : Fin n) (k : Nat) : (-w) ^ (2 * k) = w ^ (2 * k) := by
  rw [fpow_mul, fpow_mul]; congr 1; grind
end
section
variable {p : Nat} [NeZero p]
/-- No power below 2^k of what to the 2^(k-1) is -1 is 1. -/
theorem ord_ne (hp : Pr p) (h2 : p ≠ 2) (k : Nat) : ∀ (w : Fin p), w ^ (2 ^ k) = -1 → ∀ d, 0 < d → d < 2 ^ (k + 1) → w ^ d ≠ 1 := by
  have hne : (-1 : Fin p) ≠ 1 := by
    intro h
    have h1 : (z 2 : Fin p) = z 0 := by rw [show (2 : Int) = 1 + 1 from rfl, z_add, z_one, z_zero]; grind
    have h3 := z_eq.1 h1
    have := hp.1
    rw [Int.emod_eq_of_lt (by omega) (by omega)] at h3
    simp at h3
  induction k with
  | zero =>
    intro w hw d h0 hd
    have : d = 1 := by simp at hd; omega
    subst this
    rw [Nat.pow_zero, fpow_one] at hw
    rw [fpow_one, hw]; exact hne
  | succ k ih =>
    intro w hw d h0 hd hc
    rcases Nat.mod_two_eq_zero_or_one d with he | he
    · obtain ⟨e, rfl⟩ : ∃ e, d = 2 * e := ⟨d / 2, by omega⟩
      refine ih (w ^ 2) ?_ e (by omega) (by rw [Nat.pow_succ] at hd; omega) ?_
      · rw [← fpow_mul, ← hw]; congr 1; rw [Nat.pow_succ, Nat.mul_comm]
      · rw [← fpow_mul]; exact hc
    · obtain ⟨e, rfl⟩ : ∃ e, d = 2 * e + 1 := ⟨d / 2, by omega⟩
      have h1 : (w ^ (2 * e + 1)) ^ (2 ^ (k + 1)) = 1 := by rw [hc, fone_pow]
      rw [← fpow_mul, Nat.mul_comm, fpow_mul, hw, fpow_succ, fpow_mul] at h1
      rw [neg_one_sq, fone_pow] at h1
      rw [fone_mul] at h1; exact hne h1
/-- The values of the values, at the powers of the inverse, are n times the coefficients. -/
theorem ortho (hp : Pr p) (h2 : p ≠ 2) (k : Nat) (w v : Fin p) (hwv : w * v = 1) (hw : w ^ (2 ^ k) = -1) (f : Nat → Fin p) (j : Nat) (hj : j < 2 ^ (k + 1)) :
    sm (fun i => sm (fun l => f l * (w ^ i) ^ l) (2 ^ (k + 1)) * (v ^ j) ^ i) (2 ^ (k + 1)) = z ((2 ^ (k + 1) : Nat) : Int) * f j := by
  have hwn : w ^ (2 ^ (k + 1)) = 1 := by rw [Nat.pow_succ, fpow_mul, hw, neg_one_sq]
  have hvn : v ^ (2 ^ (k + 1)) = 1 := by
    have : (w * v) ^ (2 ^ (k + 1)) = 1 := by rw [hwv, fone_pow]
    rw [fmul_pow, hwn, fone_mul] at this; exact this
  have e1 : sm (fun i => sm (fun l => f l * (w ^ i) ^ l) (2 ^ (k + 1)) * (v ^ j) ^ i) (2 ^ (k + 1))
      = sm (fun l => f l * sm (fun i => (w ^ l * v ^ j) ^ i) (2 ^ (k + 1))) (2 ^ (k + 1)) := by
    rw [← sm_congr (fun i => sm (fun l => f l * (w ^ l * v ^ j) ^ i) (2 ^ (k + 1)))]
    · rw [sm_swap]; apply sm_congr; intro l _; rw [sm_mul]
    · intro i _
      rw [sm_rmul]
      apply sm_congr; intro l _
      rw [fmul_pow, ← fpow_mul w, ← fpow_mul w, Nat.mul_comm l i]
      exact (arr3 ((v ^ j) ^ i) (w ^ (i * l)) (f l)).symm
  rw [e1, sm_one _ _ j hj]
  · have : w ^ j * v ^ j = 1 := by rw [← fmul_pow, hwv, fone_pow]
    rw [this]
    have : sm (fun i => (1 : Fin p) ^ i) (2 ^ (k + 1)) = sm (fun _ => 1) (2 ^ (k + 1)) := sm_congr _ _ _ fun i _ => fone_pow i
    rw [this, sm_const, fmul_one, fmul_comm]
  · intro l hl hne
    have hx : w ^ l * v ^ j ≠ 1 := by
      intro hc
      by_cases hlt : j < l
      · obtain ⟨d, rfl⟩ : ∃ d, l = j + d := ⟨l - j, by omega⟩
        refine ord_ne hp h2 k w hw d (by omega) (by omega) ?_
        have : w ^ j * v ^ j = 1 := by rw [← fmul_pow, hwv, fone_pow]
        rw [fpow_add] at hc; exact cancel_l this hc
      · obtain ⟨d, rfl⟩ : ∃ d, j = l + d := ⟨j - l, by omega⟩
        refine ord_ne hp h2 k w hw d (by omega) (by omega) ?_
        have h3 : w ^ l * v ^ l = 1 := by rw [← fmul_pow, hwv, fone_pow]
        have h4 : w ^ d * v ^ d = 1 := by rw [← fmul_pow, hwv, fone_pow]
        rw [fpow_add, ← mul_assoc', h3, fone_mul] at hc; rw [hc] at h4; rw [fmul_one] at h4; exact h4
    have hg := geo (w ^ l * v ^ j) (2 ^ (k + 1))
    have : (w ^ l * v ^ j) ^ (2 ^ (k + 1)) = 1 := by
      rw [fmul_pow, ← fpow_mul, ← fpow_mul, Nat.mul_comm l, Nat.mul_comm j, fpow_mul, fpow_mul, hwn, hvn, fone_pow, fone_pow, fone_mul]
    rw [this] at hg
    have hz : sm (fun i => (w ^ l * v ^ j) ^ i) (2 ^ (k + 1)) = 0 := by
      rcases dom hp _ _ (hg.trans (fsub_self 1)) with h5 | h5
      · exact absurd (fsub_eq h5) hx
      · exact h5
    rw [hz, fmul_zero]
end
end Go.Proofs.Ytempibbfdojfiaa.Nm
