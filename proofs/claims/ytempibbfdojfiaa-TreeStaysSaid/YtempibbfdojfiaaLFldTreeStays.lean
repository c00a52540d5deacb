/- Sums and products modulo R, told in the field of R elements (for the law TreeStays). -/
import Derived.Test.YtempibbfdojfiaaLModTreeStays
import Derived.Test.YtempibbfdojfiaaMF
set_option linter.unusedVariables false
set_option linter.unusedSimpArgs false
namespace Go.Proofs.Ytempibbfdojfiaa.ModTreeStays
open Go.RowKit Go.Proofs.Ytempibbfdojfiaa.PTreeStays Go.Proofs.YtempibbfdojfiaaW.PrintWords Go.Proofs.YtempibbfdojfiaaW.PrintLast Go.Proofs.YtempibbfdojfiaaW.PrintMore Go.Proofs.Ytempibbfdojfiaa.Nm

abbrev F := Fin RR
theorem cast_pow_mod (a e n r : Nat) (h : a ^ e % n = r) : (a : Int) ^ e % (n : Int) = r := by rw [← h, Int.natCast_emod, Int.natCast_pow]
theorem uz (x : Int) : u (z x : F) = x % 288230376287764481 := u_z x
theorem moR : Mo 288230376287764481 := ⟨by omega, by omega⟩
theorem bd64 {n : Int} (h : (Lit.int .u64 n).wf = true) : 0 ≤ n ∧ n ≤ 18446744073709551615 := by
  simp [Lit.wf, IntKind.min, IntKind.max, IntKind.signed, IntKind.bits] at h
  omega
theorem zn {l : List Int} (h : ∀ x ∈ l, (Lit.int .u64 x).wf = true) : ∀ x ∈ l, 0 ≤ x ∧ x < 18446744073709551616 := fun x hx => by
  have := Go.Proofs.Ytempibbfdojfiaa.ModTreeStays.bd64 (h x hx); omega
theorem rd_of {l : List Int} {i : Int} (h0 : 0 ≤ i) (h1 : i < l.length) : ∃ x, x ∈ l ∧ rd l i = x ∧ l[i.toNat]? = some x := by
  have hlt : i.toNat < l.length := by omega
  refine ⟨l[i.toNat], List.getElem_mem hlt, ?_, List.getElem?_eq_getElem hlt⟩
  unfold rd
  rw [List.getD_eq_getElem?_getD, List.getElem?_eq_getElem hlt]; rfl
theorem uF0 (x : F) : 0 ≤ u x := u_nonneg x
theorem uF1 (x : F) : u x < 288230376287764481 := u_lt x
theorem addF (a b : Int) : (a + b) % 288230376287764481 = u (z a + z b : F) := by rw [← z_add, uz]
theorem mulF (a b : Int) : a * b % 288230376287764481 = u (z a * z b : F) := by rw [← z_mul, uz]
theorem subF (a b : Int) : (a - b) % 288230376287764481 = u (z a - z b : F) := by rw [← z_sub, uz]
theorem powF (a : Int) (e : Nat) : a ^ e % 288230376287764481 = u (z a ^ e : F) := by rw [← z_pow, uz]
theorem neg1_z : (-1 : F) = z (-1) := by rw [z_neg, z_one]
theorem root_half : (z 3 : F) ^ (288230376287764480 / 2) = -1 := by
  apply u_inj
  have h := pm_pow RR 3 (288230376287764480 / 2) 288230376287764480 64 (by decide) (by decide +kernel)
  generalize 288230376287764480 / 2 = e at h ⊢
  have h2 : (3 : Int) ^ e % 288230376287764481 = 288230376287764480 := cast_pow_mod 3 e RR 288230376287764480 h
  rw [← powF, h2, neg1_z, uz]; rfl
end Go.Proofs.Ytempibbfdojfiaa.ModTreeStays
