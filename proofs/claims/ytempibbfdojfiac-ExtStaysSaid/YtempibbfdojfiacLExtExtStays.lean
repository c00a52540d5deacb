/- What the functions on the field of P^2 elements compute (for the law ExtStays). -/
import Derived.Test.YtempibbfdojfiacLModExtStays
import Derived.Test.YtempibbfdojfiacMF
set_option linter.unusedVariables false
set_option linter.unusedSimpArgs false
namespace Go.Proofs.Ytempibbfdojfiac.ModExtStays
open Go.RowKit Go.Proofs.Ytempibbfdojfiac.PExtStays Go.Proofs.YtempibbfdojfiacW.PrintWords Go.Proofs.YtempibbfdojfiacW.PrintLast Go.Proofs.YtempibbfdojfiacW.PrintMore Go.Proofs.Ytempibbfdojfiac.Nm

abbrev E := Fin PP
theorem moP : Mo 1152921505151057923 := ⟨by omega, by omega⟩
theorem bd64 {n : Int} (h : (Lit.int .u64 n).wf = true) : 0 ≤ n ∧ n ≤ 18446744073709551615 := by
  simp [Lit.wf, IntKind.min, IntKind.max, IntKind.signed, IntKind.bits] at h
  omega
theorem uz (x : Int) : u (z x : E) = x % 1152921505151057923 := u_z x
theorem uE0 (x : E) : 0 ≤ u x := u_nonneg x
theorem uE1 (x : E) : u x < 1152921505151057923 := u_lt x
theorem addF (a b : Int) : (a + b) % 1152921505151057923 = u (z a + z b : E) := by rw [← z_add, uz]
theorem mulF (a b : Int) : a * b % 1152921505151057923 = u (z a * z b : E) := by rw [← z_mul, uz]
theorem subF (a b : Int) : (a - b) % 1152921505151057923 = u (z a - z b : E) := by rw [← z_sub, uz]
theorem powF (a : Int) (e : Nat) : a ^ e % 1152921505151057923 = u (z a ^ e : E) := by rw [← z_pow, uz]
/-- An element, of two whole numbers; and two whole numbers, of an element. -/
def ge (a b : Int) : G PP := ⟨z a, z b⟩
def ug (g : G PP) : Int × Int := (u g.re, u g.im)
theorem ge_ug (g : G PP) : ge (ug g).1 (ug g).2 = g := by
  apply G.ext
  · exact z_u g.re
  · exact z_u g.im
theorem ge_u (x y : E) : ge (u x) (u y) = ⟨x, y⟩ := by
  apply G.ext
  · exact z_u x
  · exact z_u y
theorem emul (a b c d : Int) (ha : 0 ≤ a) (hb : 0 ≤ b) (hc : 0 ≤ c) (hd : 0 ≤ d) : Ev (fun k => ext_Mul.f k a b c d) (ug (G.mul (ge a b) (ge c d))) := by
  unfold ext_Mul.f
  have h1 := mul_val moP a c ha hc
  have h2 := mul_val moP b d hb hd
  rw [mulF] at h1 h2
  refine Ev.bind h1 (Ev.bind h2 (Ev.bindc (add_val moP a b ha hb) (Ev.bindc (add_val moP c d hc hd) ?_)))
  rw [addF, addF]
  have h3 := mul_val moP (u (z a + z b : E)) (u (z c + z d : E)) (uE0 _) (uE0 _)
  rw [mulF, z_u, z_u] at h3
  refine Ev.bind h3 (Ev.bindc (sub_val moP _ _ (uE0 _) (uE0 _)) (Ev.bindc (add_val moP _ _ (uE0 _) (uE0 _)) ?_))
  rw [subF, addF, z_u, z_u]
  refine Ev.bindc (sub_val moP _ _ (uE0 _) (uE0 _)) (Ev.val ?_)
  rw [subF, z_u, z_u]
  unfold ug ge G.mul
  congr 2
  generalize (z a : E) = x
  generalize (z b : E) = y
  generalize (z c : E) = v
  generalize (z d : E) = w
  grind
theorem emulG (x y : G PP) : Ev (fun k => ext_Mul.f k (ug x).1 (ug x).2 (ug y).1 (ug y).2) (ug (G.mul x y)) := by
  have h := emul (ug x).1 (ug x).2 (ug y).1 (ug y).2 (uE0 _) (uE0 _) (uE0 _) (uE0 _)
  rw [ge_ug, ge_ug] at h
  exact h
def conjG (x : G PP) : G PP := ⟨x.re, -x.im⟩
theorem frobG (x : G PP) : G.pow x PP = conjG x := G.frob_of prP (fermat prP) 288230376287764480 rfl x
theorem fzero_sub (x : E) : 0 - x = -x := by grind
theorem econj (a b : Int) (ha : 0 ≤ a) (hb : 0 ≤ b) : ext_Conj.f a b = some (ug (conjG (ge a b))) := by
  unfold ext_Conj.f
  rw [sub_val moP 0 b (by omega) hb]
  simp only [Option.bind_some]
  rw [subF, tmod_pos ha, ← uz, z_zero, fzero_sub]; rfl
/-- The inverse: of 0 it is 0. -/
def invG (x : G PP) : G PP := ⟨x.re * (x.re * x.re + x.im * x.im) ^ (PP - 2), -x.im * (x.re * x.re + x.im * x.im) ^ (PP - 2)⟩
theorem einv (a b : Int) (ha : 0 ≤ a) (hb : 0 ≤ b) : Ev (fun k => ext_Inv.f k a b) (ug (invG (ge a b))) := by
  unfold ext_Inv.f
  have h1 := mul_val moP a a ha ha
  have h2 := mul_val moP b b hb hb
  rw [mulF] at h1 h2
  refine Ev.bind h1 (Ev.bind h2 (Ev.bindc (add_val moP _ _ (uE0 _) (uE0 _)) ?_))
  rw [addF, z_u, z_u]
  have h3 := pow_val moP (u (z a * z a + z b * z b : E)) (PP - 2) (uE0 _) (by decide)
  rw [powF, z_u] at h3
  refine Ev.bind h3 (Ev.bindc (econj a b ha hb) ?_)
  have h4 := mul_val moP (u (z a : E)) (u ((z a * z a + z b * z b : E) ^ (PP - 2))) (uE0 _) (uE0 _)
  have h5 := mul_val moP (u (-z b : E)) (u ((z a * z a + z b * z b : E) ^ (PP - 2))) (uE0 _) (uE0 _)
  rw [mulF, z_u, z_u] at h4 h5
  exact Ev.bind h4 (Ev.bind h5 (Ev.val rfl))
theorem odd_half : (PP - 1) / 2 = 2 * 288230376287764480 + 1 := rfl
theorem neg_one_ne : (-1 : E) ≠ 1 := by
  intro h
  have h2 := congrArg u h
  have e1 : (-1 : E) = z (-1) := by rw [z_neg, z_one]
  rw [e1, ← z_one, uz, uz] at h2
  exact absurd h2 (by decide)
theorem no_root (t : E) (h : t * t = -1) : False := by
  have ht : t ≠ 0 := by
    rintro rfl
    rw [fmul_zero] at h
    exact absurd (gsq0 h) (one_ne_zero prP)
  have hf := fermat1 prP t ht
  have e : PP - 1 = 2 * ((PP - 1) / 2) := rfl
  have e2 : t ^ 2 = -1 := by rw [← h]; exact gpow2 t
  rw [e, fpow_mul, e2, odd_half, fpow_succ, fpow_mul, neg_one_sq, fone_pow, fone_mul] at hf
  exact neg_one_ne hf
theorem norm_ne (x y : E) (h : x * x + y * y = 0) : x = 0 ∧ y = 0 := by
  by_cases hy : y = 0
  · subst hy
    refine ⟨?_, rfl⟩
    have : x * x = 0 := by rw [fmul_zero, fadd_zero] at h; exact h
    rcases dom prP _ _ this with h | h <;> exact h
  · exfalso
    have hi := inv_mul prP hy
    generalize y ^ (PP - 2) = v at hi
    exact no_root (x * v) (groot x y v h hi)
theorem inv_law (x : G PP) (h : x ≠ G.zero) : G.mul (invG x) x = G.one := by
  have hn : x.re * x.re + x.im * x.im ≠ 0 := by
    intro hc
    obtain ⟨h1, h2⟩ := norm_ne _ _ hc
    exact h (G.ext h1 h2)
  have hi := inv_mul prP hn
  unfold invG
  generalize (x.re * x.re + x.im * x.im) ^ (PP - 2) = v at hi
  apply G.ext
  · show x.re * v * x.re - -x.im * v * x.im = 1
    rw [← hi]
    generalize x.re = a
    generalize x.im = b
    grind
  · show x.re * v * x.im + -x.im * v * x.re = 0
    generalize x.re = a
    generalize x.im = b
    grind
theorem inv_zero : invG G.zero = G.zero := by
  apply G.ext
  · show (0 : E) * _ = 0
    rw [fzero_mul]
  · show -(0 : E) * _ = 0
    rw [gneg0, fzero_mul]
theorem epow_loop (n : Nat) : ∀ (e : Nat) (x y : G PP), e ≤ n → e < 18446744073709551616 → Ev (fun k => ext_Pow.l0 k (e : Int) (ug x).1 (ug x).2 (ug y).1 (ug y).2) (ug (G.mul y (G.pow x e))) := by
  induction n with
  | zero =>
    intro e x y he hb
    have : e = 0 := by omega
    subst this
    refine Ev.step (fun k => by rw [ext_Pow.l0]) ?_
    refine Ev.neg (by omega) (Ev.val ?_)
    show ug y = ug (G.mul y G.one)
    rw [G.mul_one]
  | succ n ih =>
    intro e x y he hb
    by_cases h0 : e = 0
    · exact ih e x y (by omega) hb
    · refine Ev.step (fun k => by rw [ext_Pow.l0]) ?_
      refine Ev.pos (by omega) ?_
      rw [and_one _ (by omega) (by omega)]
      have e2 : (e : Int) / 2 = ((e / 2 : Nat) : Int) := by omega
      rw [e2]
      have hsq : G.pow (G.mul x x) (e / 2) = G.pow x (2 * (e / 2)) := by
        rw [G.pow_mul]
        congr 1
        show _ = G.mul (G.mul G.one x) x
        rw [G.one_mul]
      by_cases hodd : (e : Int) % 2 = 1
      · refine Ev.pos hodd ((emulG y x).bind ((emulG x x).bind ?_))
        refine Ev.to (ih (e / 2) (G.mul x x) (G.mul y x) (by omega) (by omega)) ?_
        rw [hsq, G.mul_assoc]
        congr 2
        have : e = 1 + 2 * (e / 2) := by omega
        conv => rhs; rw [this, G.pow_add]
        congr 1
        show x = G.mul G.one x
        rw [G.one_mul]
      · refine Ev.neg hodd ((emulG x x).bind ?_)
        refine Ev.to (ih (e / 2) (G.mul x x) y (by omega) (by omega)) ?_
        rw [hsq]
        have : e = 2 * (e / 2) := by omega
        conv => rhs; rw [this]
theorem ug_one : ug (G.one : G PP) = (1, 0) := by
  unfold ug
  show (u (1 : E), u (0 : E)) = _
  rw [← z_one, ← z_zero, uz, uz]; rfl
theorem epow_open (a b : Int) (ha : 0 ≤ a) (hb : 0 ≤ b) (e : Nat) (he : e < 18446744073709551616) : Ev (fun k => ext_Pow.f k a b (e : Int)) (ug (G.pow (ge a b) e)) := by
  unfold ext_Pow.f
  by_cases h0 : e = 0
  · subst h0
    refine Ev.step (fun k => by rw [ext_Pow.l0]) ?_
    refine Ev.neg (by omega) (Ev.val ?_)
    exact ug_one.symm
  · refine Ev.step (fun k => by rw [ext_Pow.l0]) ?_
    refine Ev.pos (by omega) ?_
    rw [and_one _ (by omega) (by omega)]
    have e2 : (e : Int) / 2 = ((e / 2 : Nat) : Int) := by omega
    rw [e2]
    have hsq : G.pow (G.mul (ge a b) (ge a b)) (e / 2) = G.pow (ge a b) (2 * (e / 2)) := by
      rw [G.pow_mul]
      congr 1
      show _ = G.mul (G.mul G.one _) _
      rw [G.one_mul]
    by_cases hodd : (e : Int) % 2 = 1
    · have h1 := emul 1 0 a b (by omega) (by omega) ha hb
      have hone : ge 1 0 = G.one := by apply G.ext; exact z_one; exact z_zero
      rw [hone, G.one_mul] at h1
      refine Ev.pos hodd (h1.bind ((emul a b a b ha hb ha hb).bind ?_))
      refine Ev.to (epow_loop (e / 2) (e / 2) (G.mul (ge a b) (ge a b)) (ge a b) (Nat.le_refl _) (by omega)) ?_
      rw [hsq]
      have : e = 1 + 2 * (e / 2) := by omega
      conv => rhs; rw [this, G.pow_add]
      congr 2
      show _ = G.mul G.one _
      rw [G.one_mul]
    · refine Ev.neg hodd ((emul a b a b ha hb ha hb).bind ?_)
      have h2 := epow_loop (e / 2) (e / 2) (G.mul (ge a b) (ge a b)) G.one (Nat.le_refl _) (by omega)
      rw [ug_one, hsq, G.one_mul] at h2
      have : e = 2 * (e / 2) := by omega
      rw [← this] at h2
      exact h2
/-- The Frobenius map: to the power of P an element is its conjugate. -/
def iG : G PP := ⟨0, 1⟩
theorem iG_sq : G.mul iG iG = ⟨-1, 0⟩ := by
  apply G.ext
  · exact gi1
  · exact gi2
theorem iG_four : G.pow iG 4 = G.one := by
  show G.mul (G.mul (G.mul (G.mul G.one iG) iG) iG) iG = G.one
  rw [G.one_mul, iG_sq, G.mul_assoc, iG_sq]
  apply G.ext
  · exact gi3
  · exact gi4
theorem up_val : Ev (fun k => obollaw02_up.f k) true := by
  unfold obollaw02_up.f
  have h1 := emul 0 1 0 1 (by omega) (by omega) (by omega) (by omega)
  have hi : ge 0 1 = iG := by apply G.ext; exact z_zero; exact z_one
  rw [hi, iG_sq] at h1
  have e1 : ug (⟨-1, 0⟩ : G PP) = (1152921505151057922, 0) := by
    unfold ug
    have : (-1 : E) = z (-1) := by rw [z_neg, z_one]
    show (u (-1 : E), u (0 : E)) = _
    rw [this, ← z_zero, uz, uz]; rfl
  rw [e1] at h1
  have h2 := einv 0 0 (by omega) (by omega)
  have h00 : ge 0 0 = G.zero := by apply G.ext; exact z_zero; exact z_zero
  have e2 : ug (G.zero : G PP) = (0, 0) := by
    unfold ug
    show (u (0 : E), u (0 : E)) = _
    rw [← z_zero, uz]; rfl
  rw [h00, inv_zero, e2] at h2
  have h3 := epow_open 0 1 (by omega) (by omega) 4 (by omega)
  rw [hi, iG_four, ug_one] at h3
  exact h1.bind (Ev.pos rfl (h2.bind (Ev.pos rfl (Ev.bind h3 (Ev.val rfl)))))
end Go.Proofs.Ytempibbfdojfiac.ModExtStays
