/- For every polynomial and exponent, obollaw13.PolyVanishes returns true. No conditions. -/
import Derived.Test.YtempibbfdojfiabLVanPolyVanishes
set_option linter.unusedVariables false
namespace Go.Proofs.Ytempibbfdojfiab.Pure
open Go.RowKit Go.Proofs.Ytempibbfdojfiab.PPolyVanishes Go.Proofs.YtempibbfdojfiabW.PrintWords Go.Proofs.YtempibbfdojfiabW.PrintLast Go.Proofs.YtempibbfdojfiabW.PrintMore Go.Proofs.Ytempibbfdojfiab.Nm Go.Proofs.Ytempibbfdojfiab.ModPolyVanishes

theorem law_l1 (n : Nat) (hn : n ≤ 12) (p : List Int) (hp : ∀ x ∈ p, 0 ≤ x ∧ x < 18446744073709551616) (hlen : p.length ≤ 100) (hz : ∀ j, j < 2 ^ n → fo p (2 ^ n) j = 0) (d : Nat) :
    ∀ (i : Nat) (ii : Int), i + d = p.length → ii = i → Ev (fun k => obollaw13_PolyVanishes.l1 k p true (quo p (2 ^ n)) none (zl (2 ^ n)) (ml i (co p)) ii) true := by
  have hle := pow_le n hn
  have hN : 0 < 2 ^ n := Nat.pow_pos (by omega)
  induction d with
  | zero =>
    intro i ii hi hii
    have hi' : i = p.length := by omega
    subst hi'
    refine Ev.step (fun k => by rw [obollaw13_PolyVanishes.l1]) ?_
    have hql : (quo p (2 ^ n)).length ≤ p.length - 2 ^ n := sh_le _ _
    have hzl : (zl (2 ^ n)).length = 2 ^ n + 1 := ml_len _ _
    have hqm : ∀ x ∈ quo p (2 ^ n), 0 ≤ x ∧ x < 18446744073709551616 := fun x hx => ml_mem _ _ x (sh_mem _ _ x hx)
    have h1 := rpmul_val (quo p (2 ^ n)) (zl (2 ^ n)) hqm (ml_mem _ _) (by omega) (by omega)
    have h2 := rshort_val (ml p.length (co p)) (by rw [ml_len]; omega)
    rw [ml_len] at h2
    have e : sh (ml ((quo p (2 ^ n)).length + (zl (2 ^ n)).length) (cf (quo p (2 ^ n)) (zl (2 ^ n)))) ((quo p (2 ^ n)).length + (zl (2 ^ n)).length) = sh (ml p.length (co p)) p.length := by
      apply sh_ml
      · intro i hi
        exact cf_out _ _ i (by omega)
      · intro i hi
        unfold co
        rw [if_neg (by omega)]
      · intro i
        exact mul_back p (2 ^ n) hN hz i
    have hle2 := sh_le (ml ((quo p (2 ^ n)).length + (zl (2 ^ n)).length) (cf (quo p (2 ^ n)) (zl (2 ^ n)))) ((quo p (2 ^ n)).length + (zl (2 ^ n)).length)
    have h3 := rshort_val (quo p (2 ^ n)) (by omega)
    have e3 : sh (quo p (2 ^ n)) (quo p (2 ^ n)).length = quo p (2 ^ n) := sh_sh _ _ (by rw [ml_len]; exact Nat.le_refl _)
    rw [e3] at h3
    refine ModPolyVanishes.Ev.neg (by omega) (ModPolyVanishes.Ev.pos rfl (ModPolyVanishes.Ev.pos rfl ?_))
    exact h1.bind (h2.bind ((same_val _ _ (by omega) e).bind (ModPolyVanishes.Ev.pos rfl (h3.bind (ModPolyVanishes.Ev.tail (same_val _ _ (by omega) rfl))))))
  | succ d ih =>
    intro i ii hi hii
    have hml := ml_len i (co p)
    have hr := rd_lim hp (i := (i : Int)) (by omega) (by omega)
    refine Ev.step (fun k => by rw [obollaw13_PolyVanishes.l1]) ?_
    rw [show wrap64 (ii + 1) = ii + 1 from wi _ (by omega) (by omega), hii]
    have e0 : Int.tmod (rd p (i : Int)) 288230376287764481 = u (co p i) := by
      unfold co
      rw [tmod_pos hr.1, if_pos (by omega), uz]
    rw [e0, ← ml_succ]
    refine ModPolyVanishes.Ev.pos (by omega) (ModPolyVanishes.Ev.pos (by omega) (ModPolyVanishes.Ev.pos (by omega) ?_))
    exact ih (i + 1) _ (by omega) (by omega)
theorem law_none (N : Nat) (hN : N ≤ 4096) (p : List Int) (k : Int) (n : Nat) (hk : k = n) (hn : n ≤ 12) (q : List Int) (e : Option Int) (v : Nat → F) (r : Bool) (d : Nat) :
    (∀ b : Bool, b = true → (∀ j, j < N → v j = 0) → Ev (fun m => obollaw13_PolyVanishes.l0 m p k true q e (ml N v) true (N : Int)) r) →
    (∀ b : Bool, (¬ ∀ j, j < N → v j = 0) → Ev (fun m => obollaw13_PolyVanishes.l0 m p k true q e (ml N v) false (N : Int)) r) →
    ∀ (i : Nat) (ii : Int) (b : Bool), i + d = N → ii = i → (b = true ↔ ∀ j, j < i → v j = 0) → Ev (fun m => obollaw13_PolyVanishes.l0 m p k true q e (ml N v) b ii) r := by
  intro g1 g2
  have hml := ml_len N v
  induction d with
  | zero =>
    intro i ii b hi hii hb
    have : i = N := by omega
    subst this
    subst hii
    cases b with
    | true => exact g1 true rfl (hb.1 rfl)
    | false => exact g2 false (fun hc => by have := hb.2 hc; cases this)
  | succ d ih =>
    intro i ii b hi hii hb
    refine Ev.step (fun k => by rw [obollaw13_PolyVanishes.l0]) ?_
    rw [show wrap64 (ii + 1) = ii + 1 from wi _ (by omega) (by omega), hii, ml_rd _ _ i (by omega)]
    refine ModPolyVanishes.Ev.pos (by omega) ?_
    cases b with
    | true =>
      refine ModPolyVanishes.Ev.pos rfl (ModPolyVanishes.Ev.pos (by omega) ?_)
      refine ih (i + 1) _ _ (by omega) (by omega) ?_
      constructor
      · intro h j hj
        by_cases h1 : j < i
        · exact hb.1 rfl j h1
        · have hji : j = i := by omega
          subst hji
          have h0 : u (v j) = 0 := by simpa using h
          rw [← z_u (v j), h0]; exact z_zero
      · intro h
        have h0 := h i (by omega)
        rw [h0, u_zero]; rfl
    | false =>
      refine ModPolyVanishes.Ev.neg (by simp) ?_
      refine ih (i + 1) _ _ (by omega) (by omega) ?_
      constructor
      · intro h; cases h
      · intro h
        exact hb.2 fun j hj => h j (by omega)
theorem PolyVanishes : obollaw13_PolyVanishes.Pure := by
  intro l k hlen hsz hl hk
  apply Ev.rounds
  have hl' := zn hl
  unfold obollaw13_PolyVanishes.f
  refine up_val.bind ?_
  have skip : Ev (fun n => obollaw13_PolyVanishes.j0 n l k true true) true := by
    refine Ev.step (fun k => by rw [obollaw13_PolyVanishes.j0]) ?_
    exact ModPolyVanishes.Ev.pos rfl (ModPolyVanishes.Ev.val rfl)
  have main : l.length ≤ 100 → Ev (fun n => obollaw13_PolyVanishes.j0 n l k true false) true := by
    intro h100
    refine Ev.step (fun k => by rw [obollaw13_PolyVanishes.j0]) ?_
    refine ModPolyVanishes.Ev.neg (by simp) ?_
    have hbad : Ev (fun n => obollaw13_PolyVanishes.j1 n l k true [] (some 1) true) true := by
      refine Ev.step (fun k => by rw [obollaw13_PolyVanishes.j1]) ?_
      exact ModPolyVanishes.Ev.pos rfl (ModPolyVanishes.Ev.pos rfl (ModPolyVanishes.Ev.neg (by simp) (ModPolyVanishes.Ev.pos rfl (ModPolyVanishes.Ev.val rfl))))
    by_cases h0 : k < 0
    · exact (vanish_bad k l (.inl h0)).bind (ModPolyVanishes.Ev.pos h0 hbad)
    by_cases h12 : k > 12
    · refine (vanish_bad k l (.inr h12)).bind (ModPolyVanishes.Ev.neg h0 ?_)
      rw [decide_eq_true h12]; exact hbad
    obtain ⟨n, rfl⟩ := Int.eq_ofNat_of_zero_le (show 0 ≤ k by omega)
    have hn : n ≤ 12 := by omega
    have hle := pow_le n hn
    have hN : 0 < 2 ^ n := Nat.pow_pos (by omega)
    refine (vanish_val n hn l hl' (by omega)).bind (ModPolyVanishes.Ev.neg h0 ?_)
    rw [decide_eq_false h12]
    refine Ev.step (fun k => by rw [obollaw13_PolyVanishes.j1]) ?_
    refine ModPolyVanishes.Ev.neg (by simp) ((rfor_val n hn l hl' (by omega)).bind ?_)
    have hml := ml_len (2 ^ n) (fun i => ev (l.map z) (rootW n ^ i))
    refine law_none (2 ^ n) hle l (n : Int) n rfl hn _ _ (fun i => ev (l.map z) (rootW n ^ i)) true (2 ^ n) ?_ ?_ 0 0 true (by omega) rfl ⟨fun _ j hj => by omega, fun _ => rfl⟩
    · intro b _ hz
      have hz2 := fold_zero n hn l hz
      rw [if_pos hz2]
      refine Ev.step (fun k => by rw [obollaw13_PolyVanishes.l0]) ?_
      refine ModPolyVanishes.Ev.neg (by omega) (ModPolyVanishes.Ev.pos rfl (ModPolyVanishes.Ev.pos (by omega) ?_))
      rw [shl_i n hn, show wrap64 (((2 ^ n : Nat) : Int) + 1) = ((2 ^ n + 1 : Nat) : Int) from by rw [wi _ (by omega) (by omega)]; omega, Int.toNat_natCast, ml_zero]
      refine ModPolyVanishes.Ev.pos (by omega) (ModPolyVanishes.Ev.pos (by omega) ?_)
      refine ModPolyVanishes.Ev.bindc rfl ?_
      have hm2 := ml_len (2 ^ n + 1) (fun _ => 0)
      refine ModPolyVanishes.Ev.pos (by omega) (ModPolyVanishes.Ev.bindc rfl ?_)
      have e0 : (288230376287764480 : Int) = u (-1 : F) := by rw [neg1_z, uz]; decide
      rw [show (0 : Int).toNat = 0 from rfl, e0, ml_set]
      refine ModPolyVanishes.Ev.pos (by omega) (ModPolyVanishes.Ev.pos (by omega) ?_)
      rw [ml_rd _ _ (2 ^ n) (by omega), if_neg (by omega)]
      refine ModPolyVanishes.Ev.bindc (rplus _ 1 (uF0 _) (by omega)) ?_
      rw [z_u, z_one, Int.toNat_natCast, ml_set]
      have e1 : ml (2 ^ n + 1) (fun j => if j = 2 ^ n then (0 : F) + 1 else if j = 0 then -1 else 0) = zl (2 ^ n) := by
        apply ml_congr
        intro j _
        by_cases h : j = 2 ^ n
        · rw [if_pos h, if_pos h]; exact v5
        · rw [if_neg h, if_neg h]
      rw [e1]
      exact law_l1 n hn l hl' h100 hz2 l.length 0 0 (by omega) rfl
    · intro b hz
      have hz2 : ¬ ∀ j, j < 2 ^ n → fo l (2 ^ n) j = 0 := fun hc => hz fun i _ => fold_val n hn l hc i
      rw [if_neg hz2]
      refine Ev.step (fun k => by rw [obollaw13_PolyVanishes.l0]) ?_
      refine ModPolyVanishes.Ev.neg (by omega) (ModPolyVanishes.Ev.neg (by simp) (ModPolyVanishes.Ev.pos rfl (ModPolyVanishes.Ev.neg (by simp) (ModPolyVanishes.Ev.pos rfl (ModPolyVanishes.Ev.val rfl)))))
  by_cases h6 : k > 6
  · refine ModPolyVanishes.Ev.pos h6 ?_
    by_cases h12 : k ≤ 12
    · exact ModPolyVanishes.Ev.pos h12 skip
    · refine ModPolyVanishes.Ev.neg h12 ?_
      by_cases h100 : (l.length : Int) > 100
      · rw [decide_eq_true h100]; exact skip
      · rw [decide_eq_false h100]; exact main (by omega)
  · refine ModPolyVanishes.Ev.neg h6 ?_
    by_cases h100 : (l.length : Int) > 100
    · rw [decide_eq_true h100]; exact skip
    · rw [decide_eq_false h100]; exact main (by omega)
end Go.Proofs.Ytempibbfdojfiab.Pure
