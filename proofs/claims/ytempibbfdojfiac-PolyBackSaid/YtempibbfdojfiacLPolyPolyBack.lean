/- What the polynomials' functions compute, told in the field of R elements (for the law PolyBack). -/
import Derived.Test.YtempibbfdojfiacLFldPolyBack
set_option linter.unusedVariables false
set_option linter.unusedSimpArgs false
namespace Go.Proofs.Ytempibbfdojfiac.ModPolyBack
open Go.RowKit Go.Proofs.Ytempibbfdojfiac.PPolyBack Go.Proofs.YtempibbfdojfiacW.PrintWords Go.Proofs.YtempibbfdojfiacW.PrintLast Go.Proofs.YtempibbfdojfiacW.PrintMore Go.Proofs.Ytempibbfdojfiac.Nm

theorem eval_loop (l : List Int) (x : Int) (hl : ∀ x ∈ l, 0 ≤ x ∧ x < 18446744073709551616) (hlen : l.length ≤ 9223372036854775807) (hx : 0 ≤ x) (n : Nat) :
    ∀ i : Int, i = n - 1 → n ≤ l.length → Ev (fun k => poly_Eval.l0 k l x (u (ev ((l.drop n).map z) (z x) : F)) i) (u (ev (l.map z) (z x) : F)) := by
  induction n with
  | zero =>
    intro i hi hn
    refine Ev.step (fun k => by rw [poly_Eval.l0]) ?_
    rw [List.drop_zero]; exact Ev.neg (by omega) (Ev.val rfl)
  | succ n ih =>
    intro i hi hn
    have hi' : i = n := by omega
    have h1 := pmul (u (ev ((l.drop (n + 1)).map z) (z x) : F)) x (uF0 _) hx
    rw [z_u] at h1
    refine Ev.step (fun k => by rw [poly_Eval.l0]) ?_
    refine Ev.pos (by omega) (h1.bind (Ev.pos (by omega) (Ev.pos (by omega) ?_)))
    obtain ⟨c, hc, hrd, hget⟩ := rd_of (l := l) (i := i) (by omega) (by omega)
    rw [hrd]
    have hc0 := (hl c hc).1
    refine Ev.bindc (add_val moR _ c (uF0 _) hc0) ?_
    rw [show wrap64 (i - 1) = i - 1 from wi _ (by omega) (by omega), addF, z_u]
    have e : ev ((l.drop (n + 1)).map z) (z x) * z x + z c = ev ((l.drop n).map z) (z x : F) := by
      have hd : l.drop n = c :: l.drop (n + 1) := by
        have hlt : n < l.length := by omega
        rw [List.drop_eq_getElem_cons hlt]
        congr 1
        have : i.toNat = n := by omega
        rw [this, List.getElem?_eq_getElem hlt] at hget
        exact Option.some.inj hget
      rw [hd, List.map_cons]
      show _ = z c + z x * ev _ _
      generalize ev ((l.drop (n + 1)).map z) (z x : F) = a
      grind
    rw [e]
    exact ih (i - 1) (by omega) (by omega)
theorem eval_val (l : List Int) (x : Int) (hl : ∀ x ∈ l, 0 ≤ x ∧ x < 18446744073709551616) (hlen : l.length ≤ 9223372036854775807) (hx : 0 ≤ x) :
    Ev (fun k => poly_Eval.f k l x) (u (ev (l.map z) (z x) : F)) := by
  unfold poly_Eval.f
  have h := eval_loop l x hl hlen hx l.length (wrap64 ((l.length : Int) - 1)) (wi _ (by omega) (by omega)) (Nat.le_refl _)
  rw [List.drop_length] at h
  exact h
theorem shr_R (k : Nat) (hk : k ≤ 12) : shr .u64 288230376287764480 (k : Int) = ((288230376287764480 / 2 ^ k : Nat) : Int) := by
  unfold shr
  have e : min (k : Int).toNat IntKind.u64.bits = k := by
    show min (k : Int).toNat 64 = k
    omega
  rw [e, Int.natCast_ediv, Int.natCast_pow]; rfl
/-- The first power of the domain of exponent k. -/
def rootW (k : Nat) : F := z 3 ^ (288230376287764480 / 2 ^ k)
theorem root_val (k : Nat) (hk : k ≤ 12) : Ev (fun n => poly_Root.f n (k : Int)) (u (rootW k), none) := by
  unfold poly_Root.f rootW
  refine Ev.neg (by omega) (Ev.neg (by omega) (Ev.pos (by omega) ?_))
  rw [shr_R k hk]
  have hle : 288230376287764480 / 2 ^ k ≤ 288230376287764480 := Nat.div_le_self _ _
  have h := pow_val moR 3 (288230376287764480 / 2 ^ k) (by omega) (by omega)
  rw [powF] at h
  exact h.bind (Ev.now _)
theorem root_bad (k : Int) (hk : k < 0 ∨ 12 < k) : Ev (fun n => poly_Root.f n k) (0, some 1) := by
  unfold poly_Root.f
  by_cases h : k < 0
  · exact Ev.pos h (Ev.now _)
  · exact Ev.neg h (Ev.pos (by omega) (Ev.now _))
theorem root1 : u (rootW 1) = 288230376287764480 := by
  unfold rootW
  rw [show (288230376287764480 / 2 ^ 1 : Nat) = 288230376287764480 / 2 from rfl, root_half, neg1_z, uz]; rfl
theorem root_dvd : ∀ k, k ≤ 12 → 288230376287764480 / 2 ^ k * 2 ^ k = 288230376287764480 := by decide
theorem root_dvd2 : ∀ k, k ≤ 12 → 1 ≤ k → 288230376287764480 / 2 ^ k * 2 ^ (k - 1) = 288230376287764480 / 2 := by decide
theorem rootW_half (k : Nat) (hk : k ≤ 12) (h1 : 1 ≤ k) : rootW k ^ 2 ^ (k - 1) = -1 := by
  unfold rootW
  rw [← fpow_mul, root_dvd2 k hk h1]
  exact root_half
theorem rootW_pow (k : Nat) (hk : k ≤ 12) : rootW k ^ 2 ^ k = 1 := by
  unfold rootW
  rw [← fpow_mul, root_dvd k hk]
  have : (288230376287764480 : Nat) = 288230376287764480 / 2 * 2 := rfl
  rw [this, fpow_mul, root_half, neg_one_sq]
theorem neg_one_ne : (-1 : F) ≠ 1 := by
  intro h
  have h2 := congrArg u h
  have e1 : (-1 : F) = z (-1) := by rw [z_neg, z_one]
  rw [e1, ← z_one, uz, uz] at h2
  exact absurd h2 (by decide)
theorem up_val : Ev (fun k => obollaw13_up.f k) true := by
  unfold obollaw13_up.f
  have h1 := root_val 1 (by omega)
  rw [root1] at h1
  have h3 := eval_val [1, 2, 3] 10 (by intro x hx; simp at hx; omega) (by simp) (by omega)
  have e : u (ev ([1, 2, 3].map z) (z 10) : F) = 321 := by
    have : ev (([1, 2, 3] : List Int).map z) (z 10) = (z 321 : F) := by
      simp only [List.map_cons, List.map_nil, ev]
      rw [show (321 : Int) = 1 + 10 * (2 + 10 * (3 + 10 * 0)) from rfl, z_add, z_mul, z_add, z_mul, z_add, z_mul, z_zero]
    rw [this, uz]; rfl
  rw [e] at h3
  exact h1.bind ((root_bad 13 (by omega)).bind (h3.bind (Ev.pos rfl (Ev.pos rfl (Ev.pos rfl (Ev.neg (by simp) (Ev.val rfl)))))))
end Go.Proofs.Ytempibbfdojfiac.ModPolyBack
