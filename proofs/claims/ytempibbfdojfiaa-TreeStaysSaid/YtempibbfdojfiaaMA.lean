/- Numbers modulo n: primes, Euclid's lemma, Fermat's little theorem, by the binomial theorem over pairs (a ring with i times i = -1). No program in sight. -/
namespace Go.Proofs.Ytempibbfdojfiaa.Nm

def Pr (p : Nat) : Prop := 2 ≤ p ∧ ∀ d, d ∣ p → d = 1 ∨ d = p

theorem Pr.pos {p : Nat} (h : Pr p) : 0 < p := by have := h.1; omega
theorem Pr.coprime {p a : Nat} (h : Pr p) (ha : ¬ p ∣ a) : Nat.gcd p a = 1 := by
  rcases h.2 _ (Nat.gcd_dvd_left p a) with e | e
  · exact e
  · exact absurd (e ▸ Nat.gcd_dvd_right p a) ha
theorem Pr.euclid {p a b : Nat} (h : Pr p) (hd : p ∣ a * b) : p ∣ a ∨ p ∣ b := by
  by_cases ha : p ∣ a
  · exact .inl ha
  · exact .inr (Nat.Coprime.dvd_of_dvd_mul_left (h.coprime ha) hd)
theorem prime_factor (n : Nat) (h : 2 ≤ n) : ∃ p, Pr p ∧ p ∣ n := by
  induction n using Nat.strongRecOn with
  | ind n ih =>
    by_cases hp : Pr n
    · exact ⟨n, hp, Nat.dvd_refl n⟩
    · have : ∃ d, d ∣ n ∧ d ≠ 1 ∧ d ≠ n := by
        apply Classical.byContradiction
        intro hc
        apply hp
        refine ⟨h, fun d hd => ?_⟩
        by_cases h1 : d = 1
        · exact .inl h1
        · by_cases h2 : d = n
          · exact .inr h2
          · exact absurd ⟨d, hd, h1, h2⟩ hc
      obtain ⟨d, hd, h1, h2⟩ := this
      have hle := Nat.le_of_dvd (by omega) hd
      have hpos : 0 < d := Nat.pos_of_dvd_of_pos hd (by omega)
      obtain ⟨p, pp, pd⟩ := ih d (by omega) (by omega)
      exact ⟨p, pp, Nat.dvd_trans pd hd⟩

/-- C(n, k). -/
def cho : Nat → Nat → Nat
  | _, 0 => 1
  | 0, _ + 1 => 0
  | n + 1, k + 1 => cho n k + cho n (k + 1)
theorem cho_zero_right (n : Nat) : cho n 0 = 1 := by cases n <;> rfl
theorem cho_lt : ∀ n k, n < k → cho n k = 0
  | 0, k + 1, _ => rfl
  | n + 1, k + 1, h => by simp only [cho]; rw [cho_lt n k (by omega), cho_lt n (k + 1) (by omega)]
theorem cho_self : ∀ n, cho n n = 1
  | 0 => rfl
  | n + 1 => by simp only [cho]; rw [cho_self n, cho_lt n (n + 1) (by omega)]
theorem cho_mul : ∀ n k, (k + 1) * cho (n + 1) (k + 1) = (n + 1) * cho n k
  | 0, 0 => rfl
  | 0, k + 1 => by simp [cho]
  | n + 1, 0 => by
    have := cho_mul n 0
    simp only [cho, cho_zero_right] at this ⊢
    omega
  | n + 1, k + 1 => by
    have h1 := cho_mul n k
    have h2 := cho_mul n (k + 1)
    have e1 : cho (n + 1 + 1) (k + 1 + 1) = cho (n + 1) (k + 1) + cho (n + 1) (k + 1 + 1) := rfl
    have e2 : cho (n + 1) (k + 1) = cho n k + cho n (k + 1) := rfl
    rw [e1]
    grind
theorem Pr.dvd_cho {p : Nat} (h : Pr p) (k : Nat) (h0 : 0 < k) (hk : k < p) : p ∣ cho p k := by
  obtain ⟨k, rfl⟩ : ∃ m, k = m + 1 := ⟨k - 1, by omega⟩
  obtain ⟨q, hq⟩ : ∃ m, p = m + 1 := ⟨p - 1, by omega⟩
  have e := cho_mul q k
  rw [← hq] at e
  have hd : p ∣ (k + 1) * cho p (k + 1) := ⟨_, e⟩
  rcases h.euclid hd with h1 | h1
  · have := Nat.le_of_dvd (by omega) h1; omega
  · exact h1

/-- Pairs a + b i of rests, i times i = -1. -/
structure G (n : Nat) where
  re : Fin n
  im : Fin n
namespace G
variable {n : Nat} [NeZero n]
omit [NeZero n] in
theorem ext {x y : G n} (h1 : x.re = y.re) (h2 : x.im = y.im) : x = y := by cases x; cases y; simp_all
def add (x y : G n) : G n := ⟨x.re + y.re, x.im + y.im⟩
def mul (x y : G n) : G n := ⟨x.re * y.re - x.im * y.im, x.re * y.im + x.im * y.re⟩
def zero : G n := ⟨0, 0⟩
def one : G n := ⟨1, 0⟩
def sc (c : Fin n) (x : G n) : G n := ⟨c * x.re, c * x.im⟩
def pow (x : G n) : Nat → G n
  | 0 => one
  | k + 1 => mul (pow x k) x
theorem add_comm (x y : G n) : add x y = add y x := by apply ext <;> simp only [add] <;> grind
theorem add_assoc (x y z : G n) : add (add x y) z = add x (add y z) := by apply ext <;> simp only [add] <;> grind
theorem add_zero (x : G n) : add x zero = x := by apply ext <;> simp only [add, zero] <;> grind
theorem zero_add (x : G n) : add zero x = x := by apply ext <;> simp only [add, zero] <;> grind
theorem mul_comm (x y : G n) : mul x y = mul y x := by apply ext <;> simp only [mul] <;> grind
theorem mul_assoc (x y z : G n) : mul (mul x y) z = mul x (mul y z) := by apply ext <;> simp only [mul] <;> grind
theorem mul_one (x : G n) : mul x one = x := by apply ext <;> simp only [mul, one] <;> grind
theorem one_mul (x : G n) : mul one x = x := by rw [mul_comm, mul_one]
theorem mul_add (x y z : G n) : mul x (add y z) = add (mul x y) (mul x z) := by apply ext <;> simp only [mul, add] <;> grind
theorem add_mul (x y z : G n) : mul (add x y) z = add (mul x z) (mul y z) := by apply ext <;> simp only [mul, add] <;> grind
theorem zero_mul (x : G n) : mul zero x = zero := by apply ext <;> simp only [mul, zero] <;> grind
theorem sc_mul (c : Fin n) (x y : G n) : mul (sc c x) y = sc c (mul x y) := by apply ext <;> simp only [mul, sc] <;> grind
theorem sc_add (c d : Fin n) (x : G n) : add (sc c x) (sc d x) = sc (c + d) x := by apply ext <;> simp only [add, sc] <;> grind
theorem sc_zero (x : G n) : sc 0 x = zero := by apply ext <;> simp only [sc, zero] <;> grind
theorem sc_one (x : G n) : sc 1 x = x := by apply ext <;> simp only [sc] <;> grind
theorem pow_add (x : G n) (a b : Nat) : pow x (a + b) = mul (pow x a) (pow x b) := by
  induction b with
  | zero => rw [Nat.add_zero]; simp only [pow]; rw [mul_one]
  | succ b ih => rw [← Nat.add_assoc]; simp only [pow]; rw [ih, mul_assoc]
theorem one_pow (a : Nat) : pow (one : G n) a = one := by
  induction a with
  | zero => rfl
  | succ a ih => simp only [pow]; rw [ih, mul_one]
theorem mul_pow (x y : G n) (a : Nat) : pow (mul x y) a = mul (pow x a) (pow y a) := by
  induction a with
  | zero => simp only [pow]; rw [mul_one]
  | succ a ih => simp only [pow]; rw [ih]; apply ext <;> simp only [mul] <;> grind
theorem pow_mul (x : G n) (a b : Nat) : pow x (a * b) = pow (pow x a) b := by
  induction b with
  | zero => rfl
  | succ b ih => rw [Nat.mul_succ, pow_add, ih]; rfl
/-- The sum of f 0 .. f (k - 1). -/
def sum (f : Nat → G n) : Nat → G n
  | 0 => zero
  | k + 1 => add (sum f k) (f k)
theorem sum_congr (f g : Nat → G n) (k : Nat) (h : ∀ i, i < k → f i = g i) : sum f k = sum g k := by
  induction k with
  | zero => rfl
  | succ k ih => simp only [sum]; rw [ih fun i hi => h i (by omega), h k (by omega)]
theorem sum_add (f g : Nat → G n) (k : Nat) : sum (fun i => add (f i) (g i)) k = add (sum f k) (sum g k) := by
  induction k with
  | zero => simp only [sum]; rw [add_zero]
  | succ k ih => simp only [sum]; rw [ih]; apply ext <;> simp only [add] <;> grind
theorem sum_mul (f : Nat → G n) (x : G n) (k : Nat) : mul (sum f k) x = sum (fun i => mul (f i) x) k := by
  induction k with
  | zero => simp only [sum]; rw [zero_mul]
  | succ k ih => simp only [sum]; rw [add_mul, ih]
theorem sum_shift (f : Nat → G n) (k : Nat) : sum f (k + 1) = add (f 0) (sum (fun i => f (i + 1)) k) := by
  induction k with
  | zero => simp only [sum]; rw [add_zero, zero_add]
  | succ k ih =>
    rw [sum, ih]
    simp only [sum]
    rw [add_assoc]
theorem sum_zero (f : Nat → G n) (k : Nat) (h : ∀ i, i < k → f i = zero) : sum f k = zero := by
  induction k with
  | zero => rfl
  | succ k ih => simp only [sum]; rw [ih fun i hi => h i (by omega), h k (by omega), add_zero]
def nf (c : Nat) : Fin n := Fin.ofNat n c
theorem nf_add (a b : Nat) : (nf (a + b) : Fin n) = nf a + nf b := by
  apply Fin.ext; simp [nf, Fin.ofNat, Fin.val_add]
/-- The k-th term of (x + y)^m. -/
def term (x y : G n) (m k : Nat) : G n := sc (nf (cho m k)) (mul (pow x k) (pow y (m - k)))
theorem nf_zero : (nf 0 : Fin n) = 0 := rfl
theorem nf_one : (nf 1 : Fin n) = 1 := rfl
theorem binomial (x y : G n) (m : Nat) : pow (add x y) m = sum (term x y m) (m + 1) := by
  induction m with
  | zero =>
    simp only [sum, pow, term, cho, zero_add]
    rw [nf_one, sc_one, one_mul]; rfl
  | succ m ih =>
    have e1 : mul (sum (term x y m) (m + 1)) x = sum (fun k => sc (nf (cho m k)) (mul (pow x (k + 1)) (pow y (m - k)))) (m + 1) := by
      rw [sum_mul]
      apply sum_congr
      intro i hi
      simp only [term]; rw [sc_mul]; congr 1
      simp only [pow]; apply ext <;> simp only [mul] <;> grind
    have e2 : mul (sum (term x y m) (m + 1)) y = sum (fun k => sc (nf (cho m k)) (mul (pow x k) (pow y (m + 1 - k)))) (m + 1) := by
      rw [sum_mul]
      apply sum_congr
      intro i hi
      simp only [term]; rw [sc_mul]; congr 1
      rw [show m + 1 - i = (m - i) + 1 by omega]
      simp only [pow]; apply ext <;> simp only [mul] <;> grind
    have e3 : sum (fun k => sc (nf (cho m k)) (mul (pow x k) (pow y (m + 1 - k)))) (m + 1)
        = add (pow y (m + 1)) (sum (fun k => sc (nf (cho m (k + 1))) (mul (pow x (k + 1)) (pow y (m - k)))) (m + 1)) := by
      rw [sum_shift]
      congr 1
      · rw [cho_zero_right, nf_one, sc_one]; simp only [pow]; rw [one_mul]; rfl
      · rw [sum]
        rw [cho_lt m (m + 1) (by omega), nf_zero, sc_zero, add_zero]
        apply sum_congr
        intro i hi
        rw [show m + 1 - (i + 1) = m - i by omega]
    have e4 : sum (term x y (m + 1)) (m + 1 + 1) = add (pow y (m + 1)) (sum (fun k => add (sc (nf (cho m k)) (mul (pow x (k + 1)) (pow y (m - k)))) (sc (nf (cho m (k + 1))) (mul (pow x (k + 1)) (pow y (m - k))))) (m + 1)) := by
      rw [sum_shift]
      congr 1
      · simp only [term]; rw [cho_zero_right, nf_one, sc_one]; simp only [pow]; rw [one_mul]; rfl
      · apply sum_congr
        intro i hi
        rw [sc_add, ← nf_add]
        simp only [term, cho]
        rw [show m + 1 - (i + 1) = m - i by omega]
    rw [e4, sum_add]
    show mul (pow (add x y) m) (add x y) = _
    rw [ih, mul_add, e1, e2, e3]
    apply ext <;> simp only [add] <;> grind
theorem fresh (hp : Pr n) (x y : G n) : pow (add x y) n = add (pow x n) (pow y n) := by
  rw [binomial]
  obtain ⟨q, hq⟩ : ∃ m, n = m + 1 := ⟨n - 1, by have := hp.pos; omega⟩
  have e : sum (term x y n) (n + 1) = add (sum (term x y n) n) (term x y n n) := rfl
  have e2 : sum (term x y n) n = sum (term x y n) (q + 1) := by rw [← hq]
  rw [e, e2, sum_shift, sum_zero]
  · simp only [term]
    rw [cho_self, cho_zero_right, nf_one, sc_one, sc_one, Nat.sub_self, Nat.sub_zero, add_zero]
    simp only [pow]
    rw [one_mul, mul_one, add_comm]
  · intro i hi
    have hd := hp.dvd_cho (i + 1) (by omega) (by omega)
    have : (nf (cho n (i + 1)) : Fin n) = 0 := by
      apply Fin.ext
      simp only [nf, Fin.ofNat]
      rw [Nat.mod_eq_zero_of_dvd hd]; rfl
    simp only [term]
    rw [this, sc_zero]
def of (a : Fin n) : G n := ⟨a, 0⟩
theorem of_pow (a : Fin n) (k : Nat) : pow (of a) k = of (a ^ k) := by
  induction k with
  | zero => apply ext <;> simp only [of, pow, one] <;> grind
  | succ k ih => simp only [pow]; rw [ih]; apply ext <;> simp only [of, mul] <;> grind
theorem gsplit (x : G n) : x = add (of x.re) (mul (of x.im) ⟨0, 1⟩) := by
  apply ext <;> simp only [of, add, mul] <;> grind
theorem gjoin (a b : Fin n) : add (of a) (mul (of b) ⟨0, -1⟩) = ⟨a, -b⟩ := by
  apply ext <;> simp only [of, add, mul] <;> grind
theorem gi_four : pow (⟨0, 1⟩ : G n) 4 = one := by
  apply ext <;> simp only [pow, mul, one] <;> grind
theorem gi_three : pow (⟨0, 1⟩ : G n) 3 = ⟨0, -1⟩ := by
  apply ext <;> simp only [pow, mul, one] <;> grind
/-- To the power of a prime that leaves 3 by 4 an element is its conjugate. -/
theorem frob_of (hp : Pr n) (fer : ∀ a : Fin n, a ^ n = a) (m : Nat) (hm : n = 4 * m + 3) (x : G n) : pow x n = ⟨x.re, -x.im⟩ := by
  have hi : pow (⟨0, 1⟩ : G n) n = ⟨0, -1⟩ := by
    have : pow (⟨0, 1⟩ : G n) n = pow (⟨0, 1⟩ : G n) (4 * m + 3) := congrArg _ hm
    rw [this, pow_add, pow_mul, gi_four, one_pow, one_mul, gi_three]
  have h := fresh hp (of x.re) (mul (of x.im) ⟨0, 1⟩)
  rw [← gsplit, of_pow, fer, mul_pow, of_pow, fer, hi, gjoin] at h
  exact h
end G

variable {p : Nat} [NeZero p]
theorem fermat_nat (hp : Pr p) (a : Nat) : G.pow (G.of (G.nf a : Fin p)) p = G.of (G.nf a) := by
  induction a with
  | zero =>
    obtain ⟨q, hq⟩ : ∃ m, p = m + 1 := ⟨p - 1, by have := hp.pos; omega⟩
    rw [G.of_pow]
    congr 1
    rw [G.nf_zero]
    have : (0 : Fin p) ^ p = (0 : Fin p) ^ (q + 1) := by rw [← hq]
    rw [this]; grind
  | succ a ih =>
    have : G.of (G.nf (a + 1) : Fin p) = G.add (G.of (G.nf a)) G.one := by
      apply G.ext
      · simp only [G.of, G.add, G.one]; rw [G.nf_add, G.nf_one]
      · simp only [G.of, G.add, G.one]; grind
    rw [this, G.fresh hp, ih, G.one_pow]
theorem fermat (hp : Pr p) (a : Fin p) : a ^ p = a := by
  have h := fermat_nat hp a.val
  have e : (G.nf a.val : Fin p) = a := by
    apply Fin.ext; simp only [G.nf, Fin.ofNat]; exact Nat.mod_eq_of_lt a.isLt
  rw [e, G.of_pow] at h
  exact congrArg G.re h
theorem dom (hp : Pr p) (a b : Fin p) (h : a * b = 0) : a = 0 ∨ b = 0 := by
  have hv : (a.val * b.val) % p = 0 := by
    have := congrArg Fin.val h
    rw [Fin.val_mul] at this
    simpa using this
  rcases hp.euclid (Nat.dvd_of_mod_eq_zero hv) with h1 | h1
  · left; apply Fin.ext; have := Nat.eq_zero_of_dvd_of_lt h1 a.isLt; simpa using this
  · right; apply Fin.ext; have := Nat.eq_zero_of_dvd_of_lt h1 b.isLt; simpa using this
theorem fermat1 (hp : Pr p) (a : Fin p) (h : a ≠ 0) : a ^ (p - 1) = 1 := by
  have h1 := fermat hp a
  obtain ⟨q, hq⟩ : ∃ m, p = m + 1 := ⟨p - 1, by have := hp.pos; omega⟩
  have h2 : a ^ p = a ^ (q + 1) := by rw [← hq]
  have h3 : a * (a ^ q - 1) = 0 := by grind
  rw [show p - 1 = q by omega]
  rcases dom hp _ _ h3 with h4 | h4
  · exact absurd h4 h
  · grind
end Go.Proofs.Ytempibbfdojfiaa.Nm
