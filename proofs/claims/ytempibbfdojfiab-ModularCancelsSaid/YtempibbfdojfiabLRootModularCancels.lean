/- What modular.Root computes: a root by Tonelli's and Shanks's way; and the head of the statements of layer 1 (for the law ModularCancels). -/
import Derived.Test.YtempibbfdojfiabLInvModularCancels
set_option linter.unusedVariables false
set_option linter.unusedSimpArgs false
namespace Go.Proofs.Ytempibbfdojfiab.ModModularCancels
open Go.RowKit Go.Proofs.Ytempibbfdojfiab.PModularCancels Go.Proofs.YtempibbfdojfiabW.PrintWords Go.Proofs.YtempibbfdojfiabW.PrintLast Go.Proofs.YtempibbfdojfiabW.PrintMore Go.Proofs.Ytempibbfdojfiab.Nm

theorem mulR (a b : F) : Ev (fun k => modular_Mul.f k 288230376287764481 (u a) (u b)) (u (a * b)) := by
  have h := mul_val moR (u a) (u b) (uF0 _) (uF0 _)
  rw [mulF, z_u, z_u] at h
  exact h
theorem powR (a : F) (e : Nat) (he : e < 18446744073709551616) : Ev (fun k => modular_Pow.f k 288230376287764481 (u a) (e : Int)) (u (a ^ e)) := by
  have h := pow_val moR (u a) e (uF0 _) he
  rw [powF, z_u] at h
  exact h
theorem uF_one : u (1 : F) = 1 := by rw [← z_one, uz]; rfl
theorem uF_eq_one {a : F} : u a = 1 ↔ a = 1 := by
  constructor
  · intro h; apply u_inj; rw [h, uF_one]
  · intro h; rw [h, uF_one]
theorem pow_double (a : F) (j : Nat) : a ^ 2 ^ (j + 1) = a ^ 2 ^ j * a ^ 2 ^ j := by
  rw [Nat.pow_succ, fpow_mul]
  generalize a ^ 2 ^ j = s
  grind
/-- What Root answers at the end. -/
def ends (y : F) : Int × Option Int := (mn (u y) (IntKind.u64.wrap (288230376287764481 - u y)), none)
theorem root_l3 (t x c : F) (i m : Nat) (r : Int × Option Int) (hm : m ≤ 18) (hi : 1 ≤ i) (him : i + 1 ≤ m)
    (go : Ev (fun k => modular_Root.l1 k (i : Int) (u (c ^ 2 ^ (m - i - 1) * c ^ 2 ^ (m - i - 1))) (u (t * (c ^ 2 ^ (m - i - 1) * c ^ 2 ^ (m - i - 1)))) (u (x * c ^ 2 ^ (m - i - 1)))) r) (d : Nat) :
    ∀ (j : Nat) (jj : Int), j + d = m - i - 1 → jj = j → Ev (fun k => modular_Root.l3 k (u t) (u x) (i : Int) (u (c ^ 2 ^ j)) ((m : Int) - i - 1) jj) r := by
  induction d with
  | zero =>
    intro j jj hj hjj
    have : j = m - i - 1 := by omega
    refine Ev.step (fun k => by rw [modular_Root.l3]) ?_
    refine Ev.neg (by omega) ?_
    rw [this]
    refine (mulR _ _).bind ((mulR _ _).bind ((mulR _ _).bind ?_))
    exact go
  | succ d ih =>
    intro j jj hj hjj
    refine Ev.step (fun k => by rw [modular_Root.l3]) ?_
    refine Ev.pos (by omega) ((mulR _ _).bind ?_)
    rw [← pow_double, show wrap64 (jj + 1) = jj + 1 from wi _ (by omega) (by omega)]
    exact ih (j + 1) (jj + 1) (by omega) (by omega)
theorem root_l2 (t x c : F) (m : Nat) (hm : m ≤ 18) (h1 : 1 ≤ m) (ht : t ^ 2 ^ (m - 1) = 1) (r : Int × Option Int)
    (go : ∀ i : Nat, 1 ≤ i → i + 1 ≤ m → t ^ 2 ^ i = 1 → t ^ 2 ^ (i - 1) ≠ 1 → Ev (fun k => modular_Root.l3 k (u t) (u x) (i : Int) (u c) ((m : Int) - i - 1) 0) r) (d : Nat) :
    ∀ (i : Nat) (ii : Int), i + d = m - 1 → ii = i → (i = 0 → t ≠ 1) → (1 ≤ i → t ^ 2 ^ (i - 1) ≠ 1) → Ev (fun k => modular_Root.l2 k (m : Int) (u c) (u t) (u x) ii (u (t ^ 2 ^ i))) r := by
  induction d with
  | zero =>
    intro i ii hi hii h0 hne
    have hi' : i = m - 1 := by omega
    have hone : t ^ 2 ^ i = 1 := by rw [hi', ht]
    have hpos : 1 ≤ i := by
      apply Classical.byContradiction
      intro hc
      have : i = 0 := by omega
      subst this
      rw [Nat.pow_zero, fpow_one] at hone
      exact h0 rfl hone
    refine Ev.step (fun k => by rw [modular_Root.l2]) ?_
    refine Ev.pos (uF_eq_one.2 hone) ?_
    rw [hii, show wrap64 ((m : Int) - i) = m - i from wi _ (by omega) (by omega), show wrap64 ((m : Int) - i - 1) = m - i - 1 from wi _ (by omega) (by omega)]
    exact go i hpos (by omega) hone (hne hpos)
  | succ d ih =>
    intro i ii hi hii h0 hne
    refine Ev.step (fun k => by rw [modular_Root.l2]) ?_
    by_cases hone : t ^ 2 ^ i = 1
    · have hpos : 1 ≤ i := by
        apply Classical.byContradiction
        intro hc
        have : i = 0 := by omega
        subst this
        rw [Nat.pow_zero, fpow_one] at hone
        exact h0 rfl hone
      refine Ev.pos (uF_eq_one.2 hone) ?_
      rw [hii, show wrap64 ((m : Int) - i) = m - i from wi _ (by omega) (by omega), show wrap64 ((m : Int) - i - 1) = m - i - 1 from wi _ (by omega) (by omega)]
      exact go i hpos (by omega) hone (hne hpos)
    · refine Ev.neg (fun h => hone (uF_eq_one.1 h)) ((mulR _ _).bind ?_)
      rw [← pow_double, show wrap64 (ii + 1) = ii + 1 from wi _ (by omega) (by omega)]
      exact ih (i + 1) (ii + 1) (by omega) (by omega) (by omega) (fun _ => by rw [Nat.add_sub_cancel]; exact hone)
theorem sq_step (x b t a : F) (h : x * x = a * t) : x * b * (x * b) = a * (t * (b * b)) := by grind
theorem neg_mul_neg_one : (-1 : F) * -1 = 1 := by grind
theorem root_l1 (a : F) (n : Nat) : ∀ (m : Nat) (t x c : F), m ≤ n → m ≤ 18 → 1 ≤ m → c ^ 2 ^ (m - 1) = -1 → t ^ 2 ^ (m - 1) = 1 → x * x = a * t →
    ∃ y : F, y * y = a ∧ Ev (fun k => modular_Root.l1 k (m : Int) (u c) (u t) (u x)) (ends y) := by
  induction n with
  | zero => intro m t x c h; omega
  | succ n ih =>
    intro m t x c hmn hm h1 hc ht hx
    by_cases ht1 : t = 1
    · refine ⟨x, by rw [hx, ht1, fmul_one], ?_⟩
      refine Ev.step (fun k => by rw [modular_Root.l1]) ?_
      exact Ev.pos (uF_eq_one.2 ht1) (Ev.val rfl)
    · -- the least i
      have least : ∀ j : Nat, t ^ 2 ^ j = 1 → ∃ i : Nat, 1 ≤ i ∧ i ≤ j ∧ t ^ 2 ^ i = 1 ∧ t ^ 2 ^ (i - 1) ≠ 1 := by
        intro j
        induction j with
        | zero => intro h; rw [Nat.pow_zero, fpow_one] at h; exact absurd h ht1
        | succ j ihj =>
          intro h
          by_cases hj : t ^ 2 ^ j = 1
          · obtain ⟨i, a1, a2, a3⟩ := ihj hj
            exact ⟨i, a1, by omega, a3⟩
          · exact ⟨j + 1, by omega, Nat.le_refl _, h, by rw [Nat.add_sub_cancel]; exact hj⟩
      obtain ⟨i, hi1, hi2, hi3, hi4⟩ := least (m - 1) ht
      have him : i + 1 ≤ m := by
        apply Classical.byContradiction
        intro hcc
        omega
      have hneg : t ^ 2 ^ (i - 1) = -1 := by
        have hsq : t ^ 2 ^ (i - 1) * t ^ 2 ^ (i - 1) = 1 := by
          rw [← pow_double, show i - 1 + 1 = i by omega, hi3]
        rcases sqrt_one prR hsq with h | h
        · exact absurd h hi4
        · exact h
      have hc' : (c ^ 2 ^ (m - i - 1) * c ^ 2 ^ (m - i - 1)) ^ 2 ^ (i - 1) = -1 := by
        rw [← pow_double, ← fpow_mul, ← Nat.pow_add, show m - i - 1 + 1 + (i - 1) = m - 1 by omega, hc]
      have ht' : (t * (c ^ 2 ^ (m - i - 1) * c ^ 2 ^ (m - i - 1))) ^ 2 ^ (i - 1) = 1 := by
        rw [fmul_pow, hc', hneg, neg_mul_neg_one]
      obtain ⟨y, hy, hev⟩ := ih i _ _ _ (by omega) (by omega) hi1 hc' ht' (sq_step x (c ^ 2 ^ (m - i - 1)) t a hx)
      refine ⟨y, hy, ?_⟩
      refine Ev.step (fun k => by rw [modular_Root.l1]) ?_
      refine Ev.neg (fun h => ht1 (uF_eq_one.1 h)) ?_
      have h2 := root_l2 t x c m hm h1 ht (ends y) (fun i' b1 b2 b3 b4 => by
        have hii : i' = i := by
          rcases Nat.lt_trichotomy i' i with hlt | heq | hgt
          · exfalso
            apply hi4
            have : 2 ^ (i - 1) = 2 ^ i' * 2 ^ (i - 1 - i') := by rw [← Nat.pow_add]; congr 1; omega
            rw [this, fpow_mul, b3, fone_pow]
          · exact heq
          · exfalso
            apply b4
            have : 2 ^ (i' - 1) = 2 ^ i * 2 ^ (i' - 1 - i) := by rw [← Nat.pow_add]; congr 1; omega
            rw [this, fpow_mul, hi3, fone_pow]
        subst hii
        have h3 := root_l3 t x c i' m (ends y) hm b1 b2 hev (m - i' - 1) 0 0 (by omega) rfl
        rw [Nat.pow_zero, fpow_one] at h3
        exact h3) (m - 1) 0 0 (by omega) rfl (fun _ => ht1) (fun h => by omega)
      rw [Nat.pow_zero, fpow_one] at h2
      exact h2
theorem two_pow_18 (d : Nat) (hd : d ≤ 18) : 2 ^ d ≤ 262144 := by
  have := Nat.pow_le_pow_right (show 0 < 2 by omega) hd
  exact this
theorem root_l0 (x0 : F) (r : Int × Option Int) (go : Ev (fun k => modular_Root.l1 k 18 (u (z 3 ^ 1099511628295 : F)) (u (x0 ^ 1099511628295)) (u (x0 ^ 549755814148))) r) (d : Nat) :
    ∀ (i : Int), d ≤ 18 → i = 18 - d → Ev (fun k => modular_Root.l0 k (u x0) ((1099511628295 * 2 ^ d : Nat) : Int) i) r := by
  induction d with
  | zero =>
    intro i hd hi
    have hi' : i = 18 := by omega
    refine Ev.step (fun k => by rw [modular_Root.l0]) ?_
    rw [Nat.pow_zero, Nat.mul_one]
    refine Ev.neg (by decide) ?_
    have h1 := powR (z 3) 1099511628295 (by decide)
    rw [show u (z 3 : F) = 3 by rw [uz]; rfl] at h1
    have h2 := powR x0 1099511628295 (by decide)
    have h3 := powR x0 549755814148 (by decide)
    have e : IntKind.u64.wrap (Int.tdiv (IntKind.u64.wrap (((1099511628295 : Nat) : Int) + 1)) 2) = ((549755814148 : Nat) : Int) := by decide
    rw [e, hi']
    exact h1.bind (h2.bind (h3.bind go))
  | succ d ih =>
    intro i hd hi
    refine Ev.step (fun k => by rw [modular_Root.l0]) ?_
    have hb := two_pow_18 (d + 1) hd
    have hp : 2 ^ (d + 1) = 2 ^ d * 2 := Nat.pow_succ _ _
    have e1 : ((1099511628295 * 2 ^ (d + 1) : Nat) : Int) = 2 * ((1099511628295 * 2 ^ d : Nat) : Int) := by
      rw [hp]
      generalize 2 ^ d = q
      omega
    have hlt : ((1099511628295 * 2 ^ d : Nat) : Int) < 9223372036854775808 := by
      rw [hp] at hb
      generalize 2 ^ d = q at *
      omega
    have hnn : 0 ≤ ((1099511628295 * 2 ^ d : Nat) : Int) := Int.natCast_nonneg _
    rw [e1]
    generalize ((1099511628295 * 2 ^ d : Nat) : Int) = w at *
    rw [tmod_pos (by omega), tdiv_pos (by omega)]
    refine Ev.pos (by omega) ?_
    rw [show IntKind.u64.wrap (2 * w / 2) = w from by rw [wu _ (by omega) (by omega)]; omega, show wrap64 (i + 1) = i + 1 from wi _ (by omega) (by omega)]
    exact ih (i + 1) (by omega) (by omega)
/-- What Root answers. -/
def RootTells (a : Int) (r : Int × Option Int) : Prop :=
  ((z a : F) = 0 ∧ r = (0, none)) ∨ ((z a : F) ≠ 0 ∧ (z a : F) ^ 144115188143882240 = 1 ∧ ∃ y : F, y * y = z a ∧ r = ends y) ∨ ((z a : F) ≠ 0 ∧ (z a : F) ^ 144115188143882240 ≠ 1 ∧ r = (0, some 2))
theorem half_split : (288230376287764480 / 2 : Nat) = 1099511628295 * 2 ^ 17 := rfl
theorem rootm_val (a : Int) (ha : 0 ≤ a) : ∃ r, RootTells a r ∧ Ev (fun k => modular_Root.f k a) r := by
  unfold modular_Root.f
  rw [tmod_pos ha, ← uz]
  by_cases h0 : (z a : F) = 0
  · exact ⟨(0, none), .inl ⟨h0, rfl⟩, Ev.pos (by rw [h0]; rfl) (Ev.val rfl)⟩
  · have hn0 : ¬ u (z a : F) = 0 := fun h => h0 (u_inj (by rw [h]; rfl))
    have hp := powR (z a) 144115188143882240 (by decide)
    by_cases h1 : (z a : F) ^ 144115188143882240 = 1
    · have ht : ((z a : F) ^ 1099511628295) ^ 2 ^ (18 - 1) = 1 := by
        rw [← fpow_mul]; exact h1
      have hc : ((z 3 : F) ^ 1099511628295) ^ 2 ^ (18 - 1) = -1 := by
        rw [← fpow_mul]; exact root_half
      have hx : (z a : F) ^ 549755814148 * (z a) ^ 549755814148 = z a * (z a) ^ 1099511628295 := by
        rw [← fpow_add, show 549755814148 + 549755814148 = 1099511628295 + 1 from rfl, fpow_succ, fmul_comm]
      obtain ⟨y, hy, hev⟩ := root_l1 (z a) 18 18 _ _ _ (Nat.le_refl _) (Nat.le_refl _) (by omega) hc ht hx
      refine ⟨ends y, .inr (.inl ⟨h0, h1, y, hy, rfl⟩), Ev.neg hn0 (hp.bind (Ev.pos (uF_eq_one.2 h1) ?_))⟩
      exact root_l0 (z a) _ hev 18 0 (Nat.le_refl _) (by omega)
    · exact ⟨(0, some 2), .inr (.inr ⟨h0, h1, rfl⟩), Ev.neg hn0 (hp.bind (Ev.neg (fun h => h1 (uF_eq_one.1 h)) (Ev.val rfl)))⟩
/-- The smaller one of both roots. -/
theorem ends_spec (y : F) (hy : y ≠ 0) : ∃ v : F, (v = y ∨ v = -y) ∧ (ends y) = (u v, none) ∧ u v ≤ 144115188143882240 := by
  have h0 := uF0 y
  have h1 := uF1 y
  have hn0 : u y ≠ 0 := fun h => hy (u_inj (by rw [h]; rfl))
  have hneg : u (-y) = 288230376287764481 - u y := by
    have : (-y : F) = z (288230376287764481 - u y) := by
      rw [z_sub, z_u, show (288230376287764481 : Int) = ((RR : Nat) : Int) from rfl, z_n]; grind
    rw [this, uz, Int.emod_eq_of_lt (by omega) (by omega)]
  unfold ends mn
  rw [wu _ (by omega) (by omega)]
  by_cases hc : 288230376287764481 - u y < u y
  · rw [if_pos hc]
    exact ⟨-y, .inr rfl, by rw [hneg], by omega⟩
  · rw [if_neg hc]
    exact ⟨y, .inl rfl, rfl, by omega⟩
theorem sq_of (v y : F) (h : v = y ∨ v = -y) : v * v = y * y := by
  rcases h with rfl | rfl
  · rfl
  · grind
theorem root4 : Ev (fun k => modular_Root.f k 4) (2, none) := by
  obtain ⟨r, hr, hev⟩ := rootm_val 4 (by omega)
  have h4 : (z 4 : F) = z 2 * z 2 := by rw [← z_mul]; rfl
  have h2 : (z 2 : F) ≠ 0 := by
    intro h
    have := congrArg u h
    rw [uz, u_zero] at this
    exact absurd this (by decide)
  have h4n : (z 4 : F) ≠ 0 := by rw [h4]; exact mul_ne prR h2 h2
  rcases hr with ⟨h, _⟩ | ⟨_, _, y, hy, rfl⟩ | ⟨_, h, _⟩
  · exact absurd h h4n
  · have hyn : y ≠ 0 := by
      rintro rfl
      exact h4n (by rw [← hy]; exact fmul_zero _)
    obtain ⟨v, hv, he, hle⟩ := ends_spec y hyn
    have hvv : (v - z 2) * (v + z 2) = 0 := by
      have := sq_of v y hv
      rw [hy, h4] at this
      generalize (z 2 : F) = s at *
      grind
    rcases dom prR _ _ hvv with h | h
    · have hv2 : v = z 2 := fsub_eq h
      rw [he, hv2, uz] at hev
      exact hev
    · exfalso
      have hv2 : v = z (-2) := by rw [z_neg]; generalize (z 2 : F) = s at *; grind
      rw [hv2, uz] at hle
      exact absurd hle (by decide)
  · exfalso
    apply h
    rw [h4]
    have : (z 2 : F) * z 2 = z 2 ^ 2 := by generalize (z 2 : F) = s; grind
    rw [this, ← fpow_mul]
    exact fermat1 prR _ h2
theorem mo10 : Mo 10 := ⟨by omega, by omega⟩
theorem mo7 : Mo 7 := ⟨by omega, by omega⟩
theorem up_val : Ev (fun k => obollaw01_up.f k) true := by
  unfold obollaw01_up.f
  obtain ⟨r1, h1, e1⟩ := inv_val mo10 3 (by omega)
  obtain ⟨r2, h2, e2⟩ := inv_val mo10 4 (by omega)
  have hr1 : r1 = (7, none) := by
    rcases h1 with ⟨_, v, rfl, hv0, hv1, hv2⟩ | ⟨h, _⟩
    · congr 1; omega
    · exact absurd (show Nat.gcd (10 : Int).toNat ((3 : Int) % 10).toNat = 1 by decide) h
  have hr2 : r2 = (0, some 2) := by
    rcases h2 with ⟨h, _⟩ | ⟨_, h⟩
    · exact absurd h (show ¬ Nat.gcd (10 : Int).toNat ((4 : Int) % 10).toNat = 1 by decide)
    · exact h
  subst hr1
  subst hr2
  have h3 := mul_val mo7 5 6 (by omega) (by omega)
  have h4 := pow_val mo7 3 5 (by omega) (by omega)
  refine e1.bind (e2.bind (root4.bind (h3.bind (Ev.pos (by decide) (h4.bind (Ev.pos (by decide) (Ev.pos rfl (Ev.pos rfl (Ev.neg (by simp) (Ev.pos rfl (Ev.pos rfl (Ev.pos rfl (Ev.val rfl)))))))))))))
end Go.Proofs.Ytempibbfdojfiab.ModModularCancels
