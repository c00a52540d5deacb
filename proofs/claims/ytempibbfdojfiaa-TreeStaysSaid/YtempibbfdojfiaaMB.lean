import Derived.Test.YtempibbfdojfiaaMA
namespace Go.Proofs.Ytempibbfdojfiaa.Nm

/-- a^e mod n, by squaring, with e's bits from the lowest on (fuel bounds the bits). -/
def pm (n : Nat) : Nat → Nat → Nat → Nat → Nat
  | 0, _, _, out => out
  | fuel + 1, a, e, out => if e = 0 then out else pm n fuel (a * a % n) (e / 2) (if e % 2 = 1 then out * a % n else out)
theorem pm_eq (n : Nat) (fuel : Nat) : ∀ a e out, e < 2 ^ fuel → pm n fuel a e out % n = out * a ^ e % n := by
  induction fuel with
  | zero => intro a e out h; have : e = 0 := by simpa using h
            subst this; simp [pm]
  | succ fuel ih =>
    intro a e out h
    simp only [pm]
    by_cases he : e = 0
    · subst he; simp
    · rw [if_neg he, ih _ _ _ (by rw [Nat.pow_succ] at h; omega)]
      have e1 : (a * a % n) ^ (e / 2) % n = (a * a) ^ (e / 2) % n := (Nat.pow_mod _ _ _).symm
      have e2 : a ^ e = (a * a) ^ (e / 2) * a ^ (e % 2) := by
        conv => lhs; rw [← Nat.div_add_mod e 2]
        rw [Nat.pow_add, Nat.pow_mul, Nat.pow_two]
      rw [Nat.mul_mod, e1, ← Nat.mul_mod, e2]
      by_cases h2 : e % 2 = 1
      · rw [if_pos h2, h2, Nat.pow_one, Nat.mod_mul_mod]
        congr 1; grind
      · have : e % 2 = 0 := by omega
        rw [if_neg h2, this]; simp
theorem pm_pow (n a e r : Nat) (fuel : Nat) (h : e < 2 ^ fuel) (hr : pm n fuel a e 1 % n = r) : a ^ e % n = r := by
  rw [← hr, pm_eq n fuel a e 1 h, Nat.one_mul]

theorem pow_gcd (n a : Nat) (x y : Nat) (hx : a ^ x % n = 1 % n) (hy : a ^ y % n = 1 % n) : a ^ (Nat.gcd x y) % n = 1 % n := by
  induction x, y using Nat.gcd.induction with
  | H0 y => rw [Nat.gcd_zero_left]; exact hy
  | H1 x y hpos ih =>
    rw [Nat.gcd_rec]
    apply ih _ hx
    have e1 : a ^ y = (a ^ x) ^ (y / x) * a ^ (y % x) := by
      rw [← Nat.pow_mul, ← Nat.pow_add, Nat.div_add_mod]
    have e2 : (a ^ x) ^ (y / x) % n = 1 % n := by
      rw [Nat.pow_mod, hx, ← Nat.pow_mod, Nat.one_pow]
    rw [e1, Nat.mul_mod, e2, ← Nat.mul_mod, Nat.one_mul] at hy
    exact hy

theorem fermat_mod (q : Nat) (hq : Pr q) (a : Nat) (h : ¬ q ∣ a) : a ^ (q - 1) % q = 1 % q := by
  haveI : NeZero q := ⟨by have := hq.1; omega⟩
  have hne : (Fin.ofNat q a) ≠ 0 := by
    intro hc
    apply h
    have := congrArg Fin.val hc
    simp only [Fin.ofNat] at this
    exact Nat.dvd_of_mod_eq_zero (by simpa using this)
  have hp : ∀ k, (Fin.ofNat q a) ^ k = Fin.ofNat q (a ^ k) := by
    intro k
    induction k with
    | zero => rfl
    | succ k ih =>
      have e : (Fin.ofNat q a) ^ (k + 1) = (Fin.ofNat q a) ^ k * Fin.ofNat q a := by grind
      rw [e, ih]
      apply Fin.ext
      simp [Fin.ofNat, Fin.val_mul, Nat.pow_succ]
  have h1 := fermat1 hq _ hne
  rw [hp] at h1
  have := congrArg Fin.val h1
  exact this

def prodL : List Nat → Nat
  | [] => 1
  | f :: l => f * prodL l
theorem cop_prod (c : Nat) : ∀ l : List Nat, (∀ f ∈ l, Nat.gcd c f = 1) → Nat.gcd c (prodL l) = 1
  | [], _ => by simp [prodL]
  | f :: l, h => by
    have h1 := h f (by simp)
    have h2 := cop_prod c l fun g hg => h g (by simp [hg])
    show Nat.gcd c (f * prodL l) = 1
    exact Nat.Coprime.mul_right h1 h2
theorem pock (N U a : Nat) (l : List Nat) (hN : 2 ≤ N) (hl : ∀ f ∈ l, Pr f) (hF : N - 1 = prodL l * U) (hbig : N < prodL l * prodL l)
    (h1 : a ^ (N - 1) % N = 1) (hg : ∀ f ∈ l, Nat.gcd (a ^ ((N - 1) / f) % N + (N - 1)) N = 1) : Pr N := by
  -- each prime that divides N is above the product
  have key : ∀ q, Pr q → q ∣ N → prodL l < q := by
    intro q hq hd
    have ha : ¬ q ∣ a := by
      intro hc
      have : q ∣ a ^ (N - 1) := by
        have : N - 1 = (N - 2) + 1 := by omega
        rw [this, Nat.pow_succ]; exact Nat.dvd_trans hc (Nat.dvd_mul_left _ _)
      have h2 : a ^ (N - 1) % q = 0 := Nat.mod_eq_zero_of_dvd this
      have h3 : a ^ (N - 1) % N % q = a ^ (N - 1) % q := Nat.mod_mod_of_dvd _ hd
      rw [h1, h2] at h3
      have := hq.1
      rw [Nat.mod_eq_of_lt (by omega)] at h3
      omega
    have hq1 : a ^ (N - 1) % q = 1 % q := by
      rw [← Nat.mod_mod_of_dvd _ hd, h1]
    have hg' := pow_gcd q a (N - 1) (q - 1) hq1 (fermat_mod q hq a ha)
    have hdN : Nat.gcd (N - 1) (q - 1) ∣ N - 1 := Nat.gcd_dvd_left _ _
    have hdq : Nat.gcd (N - 1) (q - 1) ∣ q - 1 := Nat.gcd_dvd_right _ _
    generalize Nat.gcd (N - 1) (q - 1) = d at hg' hdN hdq
    obtain ⟨c, hc⟩ := hdN
    have hcop : Nat.gcd c (prodL l) = 1 := by
      apply cop_prod
      intro f hf
      have hfp := hl f hf
      rw [Nat.gcd_comm]
      apply hfp.coprime
      intro hfc
      obtain ⟨e, rfl⟩ := hfc
      have hf0 := hfp.pos
      have e1 : (N - 1) / f = d * e := by
        rw [hc, show d * (f * e) = f * (d * e) by grind, Nat.mul_div_cancel_left _ hf0]
      have e2 : a ^ ((N - 1) / f) % q = 1 % q := by
        rw [e1, Nat.pow_mul, Nat.pow_mod, hg', ← Nat.pow_mod, Nat.one_pow]
      have hgf := hg f hf
      have : q ∣ 1 := by
        rw [← hgf]
        apply Nat.dvd_gcd _ hd
        apply Nat.dvd_of_mod_eq_zero
        rw [Nat.add_mod, Nat.mod_mod_of_dvd _ hd, e2, ← Nat.add_mod, show 1 + (N - 1) = N by omega]
        exact Nat.mod_eq_zero_of_dvd hd
      have := Nat.le_of_dvd (by omega) this
      have := hq.1
      omega
    have hFd : prodL l ∣ d := by
      have : prodL l ∣ d * c := ⟨U, by rw [← hc, hF]⟩
      exact Nat.Coprime.dvd_of_dvd_mul_right (by rw [Nat.coprime_iff_gcd_eq_one, Nat.gcd_comm]; exact hcop) this
    have := Nat.le_of_dvd (by have := hq.1; omega) (Nat.dvd_trans hFd hdq)
    have := hq.1
    omega
  refine ⟨hN, fun d hd => ?_⟩
  by_cases hd1 : d = 1
  · exact .inl hd1
  by_cases hd2 : d = N
  · exact .inr hd2
  exfalso
  obtain ⟨e, he⟩ := hd
  have hd0 : d ≠ 0 := by rintro rfl; omega
  have he0 : e ≠ 0 := by rintro rfl; omega
  have he1 : e ≠ 1 := by rintro rfl; omega
  obtain ⟨q1, hq1, hd1'⟩ := prime_factor d (by omega)
  obtain ⟨q2, hq2, hd2'⟩ := prime_factor e (by omega)
  have k1 := key q1 hq1 (Nat.dvd_trans hd1' ⟨e, he⟩)
  have k2 := key q2 hq2 (Nat.dvd_trans hd2' ⟨d, by rw [he, Nat.mul_comm]⟩)
  have l1 := Nat.le_of_dvd (by omega) hd1'
  have l2 := Nat.le_of_dvd (by omega) hd2'
  have : prodL l * prodL l ≤ d * e := Nat.mul_le_mul (by omega) (by omega)
  omega

/-- No number from k to k + fuel - 1 divides p. -/
def nodiv (p : Nat) : Nat → Nat → Bool
  | _, 0 => true
  | k, fuel + 1 => (p % k != 0) && nodiv p (k + 1) fuel
theorem nodiv_spec (p : Nat) : ∀ fuel k, nodiv p k fuel = true → ∀ d, k ≤ d → d < k + fuel → ¬ d ∣ p
  | 0, k, _, d, h1, h2 => by omega
  | fuel + 1, k, h, d, h1, h2 => by
    simp only [nodiv, Bool.and_eq_true, bne_iff_ne] at h
    by_cases e : d = k
    · subst e; intro hd; exact h.1 (Nat.mod_eq_zero_of_dvd hd)
    · exact nodiv_spec p fuel (k + 1) h.2 d (by omega) (by omega)
theorem small (p b : Nat) (h2 : 2 ≤ p) (hb : p < (b + 2) * (b + 2)) (h : nodiv p 2 b = true) : Pr p := by
  have hs := nodiv_spec p b 2 h
  refine ⟨h2, fun d hd => ?_⟩
  by_cases hd1 : d = 1
  · exact .inl hd1
  by_cases hd2 : d = p
  · exact .inr hd2
  exfalso
  obtain ⟨e, he⟩ := hd
  have hd0 : d ≠ 0 := by rintro rfl; omega
  have he0 : e ≠ 0 := by rintro rfl; omega
  have he1 : e ≠ 1 := by rintro rfl; omega
  have h3 : ¬ d < 2 + b := fun hc => hs d (by omega) hc ⟨e, he⟩
  have h4 : ¬ e < 2 + b := fun hc => hs e (by omega) hc ⟨d, by rw [he, Nat.mul_comm]⟩
  have : (b + 2) * (b + 2) ≤ d * e := Nat.mul_le_mul (by omega) (by omega)
  omega

/-- The numbers of the field of values, and of the field of the curve. -/
def RR : Nat := 288230376287764481
def PP : Nat := 1152921505151057923
instance : NeZero RR := ⟨by decide⟩
instance : NeZero PP := ⟨by decide⟩

theorem pr2 : Pr 2 := small 2 0 (by decide) (by decide) (by decide)
theorem pr5 : Pr 5 := small 5 1 (by decide) (by decide) (by decide)
theorem pr587 : Pr 587 := small 587 23 (by decide) (by decide) (by decide)
theorem pr619 : Pr 619 := small 619 23 (by decide) (by decide) (by decide)
theorem pr769 : Pr 769 := small 769 26 (by decide) (by decide) (by decide)
theorem pr787 : Pr 787 := small 787 27 (by decide) (by decide) (by decide)
theorem pr1879 : Pr 1879 := small 1879 42 (by decide) (by decide) (by decide)
set_option maxRecDepth 100000 in
theorem pr3559253 : Pr 3559253 := small 3559253 1885 (by decide) (by decide) (by decide +kernel)

set_option maxRecDepth 100000 in
theorem prR : Pr RR := by
  refine pock RR (2 ^ 18 * 5) 3 [587, 619, 769, 787] (by decide) ?_ (by decide +kernel) (by decide +kernel) (pm_pow _ _ _ _ 64 (by decide +kernel) (by decide +kernel)) ?_
  · intro f hf
    simp only [List.mem_cons, List.not_mem_nil, or_false] at hf
    rcases hf with rfl | rfl | rfl | rfl
    · exact pr587
    · exact pr619
    · exact pr769
    · exact pr787
  · intro f hf
    simp only [List.mem_cons, List.not_mem_nil, or_false] at hf
    rcases hf with rfl | rfl | rfl | rfl <;> (rw [pm_pow _ _ _ _ 64 (by decide +kernel) rfl]; decide +kernel)
set_option maxRecDepth 100000 in
theorem prP : Pr PP := by
  refine pock PP (2 * 3 * 3 * 7 * 1368181) 2 [1879, 3559253] (by decide) ?_ (by decide +kernel) (by decide +kernel) (pm_pow _ _ _ _ 64 (by decide +kernel) (by decide +kernel)) ?_
  · intro f hf
    simp only [List.mem_cons, List.not_mem_nil, or_false] at hf
    rcases hf with rfl | rfl
    · exact pr1879
    · exact pr3559253
  · intro f hf
    simp only [List.mem_cons, List.not_mem_nil, or_false] at hf
    rcases hf with rfl | rfl <;> (rw [pm_pow _ _ _ _ 64 (by decide +kernel) rfl]; decide +kernel)
end Go.Proofs.Ytempibbfdojfiaa.Nm
