/- What the modular functions compute: the rests of sums, products, powers (for the law TreeStays). -/
import Derived.Test.YtempibbfdojfiaaPTreeStaysx
import Derived.Test.YtempibbfdojfiaaMC
import Derived.Test.YtempibbfdojfiaaMD
set_option linter.unusedVariables false
set_option linter.unusedSimpArgs false
namespace Go.Proofs.Ytempibbfdojfiaa.ModTreeStays
open Go.RowKit Go.Proofs.Ytempibbfdojfiaa.PTreeStays Go.Proofs.YtempibbfdojfiaaW.PrintWords Go.Proofs.YtempibbfdojfiaaW.PrintLast Go.Proofs.YtempibbfdojfiaaW.PrintMore Go.Proofs.Ytempibbfdojfiaa.Nm

theorem Ev.pos {α : Type} {c : Prop} [Decidable c] {f g : Nat → Option α} {r : α} (h : c) (k : Ev f r) : Ev (fun n => if c then f n else g n) r := Ev.congr (fun _ => if_pos h) k
theorem Ev.neg {α : Type} {c : Prop} [Decidable c] {f g : Nat → Option α} {r : α} (h : ¬ c) (k : Ev g r) : Ev (fun n => if c then f n else g n) r := Ev.congr (fun _ => if_neg h) k
theorem Ev.val {α : Type} {a r : α} (h : a = r) : Ev (fun _ => some a) r := h ▸ Ev.now a
theorem Ev.bindc {α β : Type} {g : Option α} {f : Nat → α → Option β} {a : α} {r : β} (h : g = some a) (k : Ev (fun n => f n a) r) : Ev (fun n => g.bind (f n)) r := by subst h; exact k
theorem Ev.to {α : Type} {g : Nat → Option α} {a r : α} (h : Ev g a) (e : a = r) : Ev g r := e ▸ h
theorem Ev.tail {α : Type} {g : Nat → Option α} {r : α} (h : Ev g r) : Ev (fun n => (g n).bind fun t => some t) r := h.bind (Ev.now r)

theorem wrap_u64 (n : Int) : IntKind.u64.wrap n = n % 18446744073709551616 := by simp [IntKind.wrap, IntKind.bits, IntKind.signed]
theorem wu (n : Int) (h0 : 0 ≤ n) (h1 : n < 18446744073709551616) : IntKind.u64.wrap n = n := by rw [wrap_u64]; omega
theorem wi (n : Int) (h0 : -9223372036854775808 ≤ n) (h1 : n < 9223372036854775808) : wrap64 n = n := by unfold wrap64; omega
theorem u64_64 : ∀ n : Int, 0 ≤ n → n < 2 ^ 64 → IntKind.u64.wrap n = n := fun n h0 h1 => wu n h0 (by omega)
theorem and_low (x : Int) (h0 : 0 ≤ x) (h1 : x < 18446744073709551616) : Go.bits .and .u64 x 4294967295 = x % 4294967296 :=
  bits_mask .u64 64 (by decide) u64_64 32 (by decide) x h0 (by omega)
theorem and_one (x : Int) (h0 : 0 ≤ x) (h1 : x < 18446744073709551616) : Go.bits .and .u64 x 1 = x % 2 :=
  bits_mask .u64 64 (by decide) u64_64 1 (by decide) x h0 (by omega)
theorem tmod_pos {a b : Int} (h : 0 ≤ a) : Int.tmod a b = a % b := Int.tmod_eq_emod_of_nonneg h
theorem tdiv_pos {a b : Int} (h : 0 ≤ a) : Int.tdiv a b = a / b := Int.tdiv_eq_ediv_of_nonneg h

theorem mul64 (x y : Int) (hx : 0 ≤ x) (hx2 : x < 18446744073709551616) (hy : 0 ≤ y) (hy2 : y < 18446744073709551616) :
    bits_Mul64.f x y = some (x * y / 18446744073709551616, x * y % 18446744073709551616) := by
  unfold bits_Mul64.f
  have h := mul_halves x y hx hx2 hy hy2
  simp only at h
  rw [and_low x hx hx2, and_low y hy hy2]
  simp only [wrap_u64]
  rw [and_low _ (Int.emod_nonneg _ (by omega)) (Int.emod_lt_of_pos _ (by omega)), h]

/-- How many bits a word has. -/
def isLen (y n : Int) : Prop := 0 ≤ n ∧ n ≤ 64 ∧ 2 ^ n.toNat ≤ 2 * y ∧ y < 2 ^ n.toNat
def isLenB (y n : Int) : Bool := decide (0 ≤ n) && decide (n ≤ 8) && decide ((2 : Int) ^ n.toNat ≤ 2 * y) && decide (y < 2 ^ n.toNat)
theorem tab8_nat : ∀ i : Nat, i < 256 → i = 0 ∨ isLenB (i : Int) (bt (⟨#[0, 1, 2, 2, 3, 3, 3, 3, 4, 4, 4, 4, 4, 4, 4, 4, 5, 5, 5, 5, 5, 5, 5, 5, 5, 5, 5, 5, 5, 5, 5, 5, 6, 6, 6, 6, 6, 6, 6, 6, 6, 6, 6, 6, 6, 6, 6, 6, 6, 6, 6, 6, 6, 6, 6, 6, 6, 6, 6, 6, 6, 6, 6, 6, 7, 7, 7, 7, 7, 7, 7, 7, 7, 7, 7, 7, 7, 7, 7, 7, 7, 7, 7, 7, 7, 7, 7, 7, 7, 7, 7, 7, 7, 7, 7, 7, 7, 7, 7, 7, 7, 7, 7, 7, 7, 7, 7, 7, 7, 7, 7, 7, 7, 7, 7, 7, 7, 7, 7, 7, 7, 7, 7, 7, 7, 7, 7, 7, 8, 8, 8, 8, 8, 8, 8, 8, 8, 8, 8, 8, 8, 8, 8, 8, 8, 8, 8, 8, 8, 8, 8, 8, 8, 8, 8, 8, 8, 8, 8, 8, 8, 8, 8, 8, 8, 8, 8, 8, 8, 8, 8, 8, 8, 8, 8, 8, 8, 8, 8, 8, 8, 8, 8, 8, 8, 8, 8, 8, 8, 8, 8, 8, 8, 8, 8, 8, 8, 8, 8, 8, 8, 8, 8, 8, 8, 8, 8, 8, 8, 8, 8, 8, 8, 8, 8, 8, 8, 8, 8, 8, 8, 8, 8, 8, 8, 8, 8, 8, 8, 8, 8, 8, 8, 8, 8, 8, 8, 8, 8, 8, 8, 8, 8, 8, 8, 8, 8, 8, 8, 8, 8, 8, 8, 8, 8, 8]⟩ : ByteArray) (i : Int)) = true := by decide +kernel
theorem tab8 (i : Int) (h0 : 1 ≤ i) (h1 : i < 256) : isLen i (bt (⟨#[0, 1, 2, 2, 3, 3, 3, 3, 4, 4, 4, 4, 4, 4, 4, 4, 5, 5, 5, 5, 5, 5, 5, 5, 5, 5, 5, 5, 5, 5, 5, 5, 6, 6, 6, 6, 6, 6, 6, 6, 6, 6, 6, 6, 6, 6, 6, 6, 6, 6, 6, 6, 6, 6, 6, 6, 6, 6, 6, 6, 6, 6, 6, 6, 7, 7, 7, 7, 7, 7, 7, 7, 7, 7, 7, 7, 7, 7, 7, 7, 7, 7, 7, 7, 7, 7, 7, 7, 7, 7, 7, 7, 7, 7, 7, 7, 7, 7, 7, 7, 7, 7, 7, 7, 7, 7, 7, 7, 7, 7, 7, 7, 7, 7, 7, 7, 7, 7, 7, 7, 7, 7, 7, 7, 7, 7, 7, 7, 8, 8, 8, 8, 8, 8, 8, 8, 8, 8, 8, 8, 8, 8, 8, 8, 8, 8, 8, 8, 8, 8, 8, 8, 8, 8, 8, 8, 8, 8, 8, 8, 8, 8, 8, 8, 8, 8, 8, 8, 8, 8, 8, 8, 8, 8, 8, 8, 8, 8, 8, 8, 8, 8, 8, 8, 8, 8, 8, 8, 8, 8, 8, 8, 8, 8, 8, 8, 8, 8, 8, 8, 8, 8, 8, 8, 8, 8, 8, 8, 8, 8, 8, 8, 8, 8, 8, 8, 8, 8, 8, 8, 8, 8, 8, 8, 8, 8, 8, 8, 8, 8, 8, 8, 8, 8, 8, 8, 8, 8, 8, 8, 8, 8, 8, 8, 8, 8, 8, 8, 8, 8, 8, 8, 8, 8, 8, 8]⟩ : ByteArray) i) ∧ bt (⟨#[0, 1, 2, 2, 3, 3, 3, 3, 4, 4, 4, 4, 4, 4, 4, 4, 5, 5, 5, 5, 5, 5, 5, 5, 5, 5, 5, 5, 5, 5, 5, 5, 6, 6, 6, 6, 6, 6, 6, 6, 6, 6, 6, 6, 6, 6, 6, 6, 6, 6, 6, 6, 6, 6, 6, 6, 6, 6, 6, 6, 6, 6, 6, 6, 7, 7, 7, 7, 7, 7, 7, 7, 7, 7, 7, 7, 7, 7, 7, 7, 7, 7, 7, 7, 7, 7, 7, 7, 7, 7, 7, 7, 7, 7, 7, 7, 7, 7, 7, 7, 7, 7, 7, 7, 7, 7, 7, 7, 7, 7, 7, 7, 7, 7, 7, 7, 7, 7, 7, 7, 7, 7, 7, 7, 7, 7, 7, 7, 8, 8, 8, 8, 8, 8, 8, 8, 8, 8, 8, 8, 8, 8, 8, 8, 8, 8, 8, 8, 8, 8, 8, 8, 8, 8, 8, 8, 8, 8, 8, 8, 8, 8, 8, 8, 8, 8, 8, 8, 8, 8, 8, 8, 8, 8, 8, 8, 8, 8, 8, 8, 8, 8, 8, 8, 8, 8, 8, 8, 8, 8, 8, 8, 8, 8, 8, 8, 8, 8, 8, 8, 8, 8, 8, 8, 8, 8, 8, 8, 8, 8, 8, 8, 8, 8, 8, 8, 8, 8, 8, 8, 8, 8, 8, 8, 8, 8, 8, 8, 8, 8, 8, 8, 8, 8, 8, 8, 8, 8, 8, 8, 8, 8, 8, 8, 8, 8, 8, 8, 8, 8, 8, 8, 8, 8, 8, 8]⟩ : ByteArray) i ≤ 8 := by
  obtain ⟨j, rfl⟩ := Int.eq_ofNat_of_zero_le (show 0 ≤ i by omega)
  have h := tab8_nat j (by omega)
  revert h
  generalize bt (⟨#[0, 1, 2, 2, 3, 3, 3, 3, 4, 4, 4, 4, 4, 4, 4, 4, 5, 5, 5, 5, 5, 5, 5, 5, 5, 5, 5, 5, 5, 5, 5, 5, 6, 6, 6, 6, 6, 6, 6, 6, 6, 6, 6, 6, 6, 6, 6, 6, 6, 6, 6, 6, 6, 6, 6, 6, 6, 6, 6, 6, 6, 6, 6, 6, 7, 7, 7, 7, 7, 7, 7, 7, 7, 7, 7, 7, 7, 7, 7, 7, 7, 7, 7, 7, 7, 7, 7, 7, 7, 7, 7, 7, 7, 7, 7, 7, 7, 7, 7, 7, 7, 7, 7, 7, 7, 7, 7, 7, 7, 7, 7, 7, 7, 7, 7, 7, 7, 7, 7, 7, 7, 7, 7, 7, 7, 7, 7, 7, 8, 8, 8, 8, 8, 8, 8, 8, 8, 8, 8, 8, 8, 8, 8, 8, 8, 8, 8, 8, 8, 8, 8, 8, 8, 8, 8, 8, 8, 8, 8, 8, 8, 8, 8, 8, 8, 8, 8, 8, 8, 8, 8, 8, 8, 8, 8, 8, 8, 8, 8, 8, 8, 8, 8, 8, 8, 8, 8, 8, 8, 8, 8, 8, 8, 8, 8, 8, 8, 8, 8, 8, 8, 8, 8, 8, 8, 8, 8, 8, 8, 8, 8, 8, 8, 8, 8, 8, 8, 8, 8, 8, 8, 8, 8, 8, 8, 8, 8, 8, 8, 8, 8, 8, 8, 8, 8, 8, 8, 8, 8, 8, 8, 8, 8, 8, 8, 8, 8, 8, 8, 8, 8, 8, 8, 8, 8, 8]⟩ : ByteArray) (j : Int) = b
  intro h
  simp only [isLenB, Bool.and_eq_true, decide_eq_true_eq] at h
  rcases h with h | ⟨⟨⟨a, b⟩, c⟩, d⟩
  · omega
  · exact ⟨⟨a, by omega, c, d⟩, b⟩
theorem isLen.up {y n : Int} (s : Nat) (hs : n + s ≤ 64) (hy : 0 ≤ y) (h : isLen (y / 2 ^ s) n) : isLen y (n + s) := by
  obtain ⟨a, b, c, d⟩ := h
  have e : (n + s).toNat = n.toNat + s := by omega
  refine ⟨by omega, hs, ?_, ?_⟩
  · rw [e, Int.pow_add]
    have hp : (0 : Int) < 2 ^ s := Int.pow_pos (by omega)
    have h1 := Int.mul_le_mul_of_nonneg_right c (Int.le_of_lt hp)
    have h2 := Int.ediv_mul_le y (show (2 : Int) ^ s ≠ 0 by omega)
    have h3 : 2 * (y / 2 ^ s) * 2 ^ s = 2 * (y / 2 ^ s * 2 ^ s) := Int.mul_assoc _ _ _
    omega
  · rw [e, Int.pow_add]
    have hp : (0 : Int) < 2 ^ s := Int.pow_pos (by omega)
    exact (Int.ediv_lt_iff_lt_mul hp).1 d
theorem len_j0 (y c : Int) (hy : 1 ≤ y) (hy2 : y < 4294967296) (hc : 0 ≤ c) (hc2 : c ≤ 32) : ∃ n, isLen y n ∧ n ≤ 32 ∧ Ev (fun k => bits_Len64.j0 k y c) (c + n) := by
  have main : ∀ g : Nat → Option Int, (∀ k, bits_Len64.j0 (k + 1) y c = g k) → (∃ n, isLen y n ∧ n ≤ 32 ∧ Ev g (c + n)) → ∃ n, isLen y n ∧ n ≤ 32 ∧ Ev (fun k => bits_Len64.j0 k y c) (c + n) :=
    fun g hg ⟨n, h1, h2, h3⟩ => ⟨n, h1, h2, Ev.step hg h3⟩
  refine main _ (fun k => by rw [bits_Len64.j0]) ?_
  by_cases h16 : y ≥ 65536
  · by_cases h8 : y / 65536 ≥ 256
    · have hm : y / 65536 / 256 % 256 = y / 65536 / 256 := by omega
      have ht := tab8 (y / 65536 / 256) (by omega) (by omega)
      have hu := (isLen.up 16 (by have := ht.2; omega) (by omega) (isLen.up 8 (by have := ht.2; omega) (by omega) ht.1 : isLen (y / 2 ^ 16) _) : isLen y _)
      refine ⟨_, hu, by have := ht.2; omega, ?_⟩
      refine Ev.pos h16 (Ev.pos h8 (Ev.pos (by omega) (Ev.pos (by omega) (Ev.val ?_))))
      rw [hm]
      have := ht.1.1
      have := ht.2
      generalize bt (⟨#[0, 1, 2, 2, 3, 3, 3, 3, 4, 4, 4, 4, 4, 4, 4, 4, 5, 5, 5, 5, 5, 5, 5, 5, 5, 5, 5, 5, 5, 5, 5, 5, 6, 6, 6, 6, 6, 6, 6, 6, 6, 6, 6, 6, 6, 6, 6, 6, 6, 6, 6, 6, 6, 6, 6, 6, 6, 6, 6, 6, 6, 6, 6, 6, 7, 7, 7, 7, 7, 7, 7, 7, 7, 7, 7, 7, 7, 7, 7, 7, 7, 7, 7, 7, 7, 7, 7, 7, 7, 7, 7, 7, 7, 7, 7, 7, 7, 7, 7, 7, 7, 7, 7, 7, 7, 7, 7, 7, 7, 7, 7, 7, 7, 7, 7, 7, 7, 7, 7, 7, 7, 7, 7, 7, 7, 7, 7, 7, 8, 8, 8, 8, 8, 8, 8, 8, 8, 8, 8, 8, 8, 8, 8, 8, 8, 8, 8, 8, 8, 8, 8, 8, 8, 8, 8, 8, 8, 8, 8, 8, 8, 8, 8, 8, 8, 8, 8, 8, 8, 8, 8, 8, 8, 8, 8, 8, 8, 8, 8, 8, 8, 8, 8, 8, 8, 8, 8, 8, 8, 8, 8, 8, 8, 8, 8, 8, 8, 8, 8, 8, 8, 8, 8, 8, 8, 8, 8, 8, 8, 8, 8, 8, 8, 8, 8, 8, 8, 8, 8, 8, 8, 8, 8, 8, 8, 8, 8, 8, 8, 8, 8, 8, 8, 8, 8, 8, 8, 8, 8, 8, 8, 8, 8, 8, 8, 8, 8, 8, 8, 8, 8, 8, 8, 8, 8, 8]⟩ : ByteArray) (y / 65536 / 256) = b at *
      rw [wi b (by omega) (by omega), wi (c + 16) (by omega) (by omega), wi (c + 16 + 8) (by omega) (by omega), wi _ (by omega) (by omega)]
      omega
    · have hm : y / 65536 % 256 = y / 65536 := by omega
      have ht := tab8 (y / 65536) (by omega) (by omega)
      have hu := (isLen.up 16 (by have := ht.2; omega) (by omega) ht.1 : isLen y _)
      refine ⟨_, hu, by have := ht.2; omega, ?_⟩
      refine Ev.pos h16 (Ev.neg h8 (Ev.pos (by omega) (Ev.pos (by omega) (Ev.val ?_))))
      rw [hm]
      have := ht.1.1
      have := ht.2
      generalize bt (⟨#[0, 1, 2, 2, 3, 3, 3, 3, 4, 4, 4, 4, 4, 4, 4, 4, 5, 5, 5, 5, 5, 5, 5, 5, 5, 5, 5, 5, 5, 5, 5, 5, 6, 6, 6, 6, 6, 6, 6, 6, 6, 6, 6, 6, 6, 6, 6, 6, 6, 6, 6, 6, 6, 6, 6, 6, 6, 6, 6, 6, 6, 6, 6, 6, 7, 7, 7, 7, 7, 7, 7, 7, 7, 7, 7, 7, 7, 7, 7, 7, 7, 7, 7, 7, 7, 7, 7, 7, 7, 7, 7, 7, 7, 7, 7, 7, 7, 7, 7, 7, 7, 7, 7, 7, 7, 7, 7, 7, 7, 7, 7, 7, 7, 7, 7, 7, 7, 7, 7, 7, 7, 7, 7, 7, 7, 7, 7, 7, 8, 8, 8, 8, 8, 8, 8, 8, 8, 8, 8, 8, 8, 8, 8, 8, 8, 8, 8, 8, 8, 8, 8, 8, 8, 8, 8, 8, 8, 8, 8, 8, 8, 8, 8, 8, 8, 8, 8, 8, 8, 8, 8, 8, 8, 8, 8, 8, 8, 8, 8, 8, 8, 8, 8, 8, 8, 8, 8, 8, 8, 8, 8, 8, 8, 8, 8, 8, 8, 8, 8, 8, 8, 8, 8, 8, 8, 8, 8, 8, 8, 8, 8, 8, 8, 8, 8, 8, 8, 8, 8, 8, 8, 8, 8, 8, 8, 8, 8, 8, 8, 8, 8, 8, 8, 8, 8, 8, 8, 8, 8, 8, 8, 8, 8, 8, 8, 8, 8, 8, 8, 8, 8, 8, 8, 8, 8, 8]⟩ : ByteArray) (y / 65536) = b at *
      rw [wi b (by omega) (by omega), wi (c + 16) (by omega) (by omega), wi _ (by omega) (by omega)]
      omega
  · by_cases h8 : y ≥ 256
    · have hm : y / 256 % 256 = y / 256 := by omega
      have ht := tab8 (y / 256) (by omega) (by omega)
      have hu := (isLen.up 8 (by have := ht.2; omega) (by omega) ht.1 : isLen y _)
      refine ⟨_, hu, by have := ht.2; omega, ?_⟩
      refine Ev.neg h16 (Ev.pos h8 (Ev.pos (by omega) (Ev.pos (by omega) (Ev.val ?_))))
      rw [hm]
      have := ht.1.1
      have := ht.2
      generalize bt (⟨#[0, 1, 2, 2, 3, 3, 3, 3, 4, 4, 4, 4, 4, 4, 4, 4, 5, 5, 5, 5, 5, 5, 5, 5, 5, 5, 5, 5, 5, 5, 5, 5, 6, 6, 6, 6, 6, 6, 6, 6, 6, 6, 6, 6, 6, 6, 6, 6, 6, 6, 6, 6, 6, 6, 6, 6, 6, 6, 6, 6, 6, 6, 6, 6, 7, 7, 7, 7, 7, 7, 7, 7, 7, 7, 7, 7, 7, 7, 7, 7, 7, 7, 7, 7, 7, 7, 7, 7, 7, 7, 7, 7, 7, 7, 7, 7, 7, 7, 7, 7, 7, 7, 7, 7, 7, 7, 7, 7, 7, 7, 7, 7, 7, 7, 7, 7, 7, 7, 7, 7, 7, 7, 7, 7, 7, 7, 7, 7, 8, 8, 8, 8, 8, 8, 8, 8, 8, 8, 8, 8, 8, 8, 8, 8, 8, 8, 8, 8, 8, 8, 8, 8, 8, 8, 8, 8, 8, 8, 8, 8, 8, 8, 8, 8, 8, 8, 8, 8, 8, 8, 8, 8, 8, 8, 8, 8, 8, 8, 8, 8, 8, 8, 8, 8, 8, 8, 8, 8, 8, 8, 8, 8, 8, 8, 8, 8, 8, 8, 8, 8, 8, 8, 8, 8, 8, 8, 8, 8, 8, 8, 8, 8, 8, 8, 8, 8, 8, 8, 8, 8, 8, 8, 8, 8, 8, 8, 8, 8, 8, 8, 8, 8, 8, 8, 8, 8, 8, 8, 8, 8, 8, 8, 8, 8, 8, 8, 8, 8, 8, 8, 8, 8, 8, 8, 8, 8]⟩ : ByteArray) (y / 256) = b at *
      rw [wi b (by omega) (by omega), wi (c + 8) (by omega) (by omega), wi _ (by omega) (by omega)]
      omega
    · have hm : y % 256 = y := by omega
      have ht := tab8 y (by omega) (by omega)
      refine ⟨_, ht.1, by have := ht.2; omega, ?_⟩
      refine Ev.neg h16 (Ev.neg h8 (Ev.pos (by omega) (Ev.pos (by omega) (Ev.val ?_))))
      rw [hm]
      have := ht.1.1
      have := ht.2
      generalize bt (⟨#[0, 1, 2, 2, 3, 3, 3, 3, 4, 4, 4, 4, 4, 4, 4, 4, 5, 5, 5, 5, 5, 5, 5, 5, 5, 5, 5, 5, 5, 5, 5, 5, 6, 6, 6, 6, 6, 6, 6, 6, 6, 6, 6, 6, 6, 6, 6, 6, 6, 6, 6, 6, 6, 6, 6, 6, 6, 6, 6, 6, 6, 6, 6, 6, 7, 7, 7, 7, 7, 7, 7, 7, 7, 7, 7, 7, 7, 7, 7, 7, 7, 7, 7, 7, 7, 7, 7, 7, 7, 7, 7, 7, 7, 7, 7, 7, 7, 7, 7, 7, 7, 7, 7, 7, 7, 7, 7, 7, 7, 7, 7, 7, 7, 7, 7, 7, 7, 7, 7, 7, 7, 7, 7, 7, 7, 7, 7, 7, 8, 8, 8, 8, 8, 8, 8, 8, 8, 8, 8, 8, 8, 8, 8, 8, 8, 8, 8, 8, 8, 8, 8, 8, 8, 8, 8, 8, 8, 8, 8, 8, 8, 8, 8, 8, 8, 8, 8, 8, 8, 8, 8, 8, 8, 8, 8, 8, 8, 8, 8, 8, 8, 8, 8, 8, 8, 8, 8, 8, 8, 8, 8, 8, 8, 8, 8, 8, 8, 8, 8, 8, 8, 8, 8, 8, 8, 8, 8, 8, 8, 8, 8, 8, 8, 8, 8, 8, 8, 8, 8, 8, 8, 8, 8, 8, 8, 8, 8, 8, 8, 8, 8, 8, 8, 8, 8, 8, 8, 8, 8, 8, 8, 8, 8, 8, 8, 8, 8, 8, 8, 8, 8, 8, 8, 8, 8, 8]⟩ : ByteArray) y = b at *
      rw [wi b (by omega) (by omega), wi _ (by omega) (by omega)]
theorem len64 (y : Int) (hy : 1 ≤ y) (hy2 : y < 18446744073709551616) : ∃ n, isLen y n ∧ Ev (fun k => bits_Len64.f k y) n := by
  unfold bits_Len64.f
  by_cases h : y ≥ 4294967296
  · obtain ⟨n, h1, h2, h3⟩ := len_j0 (y / 4294967296) 32 (by omega) (by omega) (by omega) (by omega)
    refine ⟨n + (32 : Nat), isLen.up 32 (by omega) (by omega) h1, Ev.pos h ?_⟩
    exact Ev.to h3 (by omega)
  · obtain ⟨n, h1, h2, h3⟩ := len_j0 y 0 hy (by omega) (by omega) (by omega)
    exact ⟨n, h1, Ev.neg h (Ev.to h3 (by omega))⟩

/-- What stands behind the second loop. -/
theorem fin2 {Y h l U c Q : Int} (f : KFr Y h l U c Q) (q1 s : Int) (hq0 : 0 ≤ q1) (hq1 : q1 < 4294967296) (hs : 0 ≤ s) (hs2 : s ≤ 64) :
    (IntKind.u64.wrap (IntKind.u64.wrap (q1 * 4294967296) + Q), shr .u64 (IntKind.u64.wrap (IntKind.u64.wrap (IntKind.u64.wrap (U * 4294967296) + c) - IntKind.u64.wrap (Q * Y))) s)
      = (q1 * 4294967296 + Q, (U * 4294967296 + c - Q * Y) / 2 ^ s.toNat) := by
  have hQ0 := f.Q0
  have hQB := f.QB
  rw [wu (q1 * 4294967296) (by omega) (by omega), wu _ (by omega) (by omega)]
  simp only [wrap_u64]
  rw [f.rest]
  unfold shr
  have e : min s.toNat IntKind.u64.bits = s.toNat := Nat.min_eq_left (by show s.toNat ≤ 64; omega)
  rw [e]
theorem loop2 {Y h l U c Q : Int} (f : KFr Y h l U c Q) (q1 s : Int) (hq0 : 0 ≤ q1) (hq1 : q1 < 4294967296) (hs : 0 ≤ s) (hs2 : s ≤ 64) (d : Nat) :
    ∀ q r, KInv Y h l U c Q q r → r < 4294967296 → 4294967296 ≤ r + d * 2147483648 →
    Ev (fun k => bits_Div64.l1 k Y s h l c q1 r U q) (q1 * 4294967296 + Q, (U * 4294967296 + c - Q * Y) / 2 ^ s.toNat) := by
  induction d with
  | zero => intro q r i h1 h2; omega
  | succ d ih =>
    intro q r i h1 h2
    have hr0 := i.r0
    have hl0 := f.l0
    have hl1 := f.l1
    have hc0 := f.c0
    have hc1 := f.c1
    have hh1 := f.h1
    have hh2 := f.h2
    have hq0' := i.q0
    have down : Q ≤ q - 1 → Ev (fun k => bits_Div64.j4 k Y s h l c q1 r U q true) (q1 * 4294967296 + Q, (U * 4294967296 + c - Q * Y) / 2 ^ s.toNat) := by
      intro hd
      have i' := i.down f hd
      have hQ0 := f.Q0
      have hqb := i.qB
      refine Ev.step (fun k => by rw [bits_Div64.j4]) ?_
      refine Ev.pos rfl ?_
      have e1 : IntKind.u64.wrap (r + h) = r + h := wu _ (by omega) (by omega)
      have e2 : IntKind.u64.wrap (q - 1) = q - 1 := wu _ (by omega) (by omega)
      rw [e1, e2]
      by_cases hb : r + h ≥ 4294967296
      · refine Ev.pos hb (Ev.pos hs (Ev.val ?_))
        have hq := f.stop i' (by omega) (by omega)
        rw [hq]
        exact fin2 f q1 s hq0 hq1 hs hs2
      · refine Ev.neg hb ?_
        exact ih (q - 1) (r + h) i' (by omega) (by omega)
    by_cases hq : q ≥ 4294967296
    · exact Ev.step (fun k => by rw [bits_Div64.l1]) (Ev.pos hq (down (f.big hq)))
    · have hp0 : 0 ≤ q * l := Int.mul_nonneg hq0' hl0
      have hp1 : q * l ≤ 4294967295 * 4294967295 := Int.mul_le_mul (by omega) (by omega) hl0 (by omega)
      have e1 : IntKind.u64.wrap (q * l) = q * l := wu _ hp0 (by omega)
      have e2 : IntKind.u64.wrap (IntKind.u64.wrap (4294967296 * r) + c) = 4294967296 * r + c := by
        rw [wu (4294967296 * r) (by omega) (by omega), wu _ (by omega) (by omega)]
      refine Ev.step (fun k => by rw [bits_Div64.l1]) ?_
      refine Ev.neg hq ?_
      rw [e1, e2]
      by_cases hgt : q * l > 4294967296 * r + c
      · rw [decide_eq_true hgt]
        exact down (f.over i hgt)
      · rw [decide_eq_false hgt]
        refine Ev.step (fun k => by rw [bits_Div64.j4]) ?_
        refine Ev.neg (by simp) (Ev.pos hs (Ev.val ?_))
        have hqq := f.under i (by omega)
        rw [hqq]
        exact fin2 f q1 s hq0 hq1 hs hs2
theorem loop1 {Y h l U c Q : Int} (f : KFr Y h l U c Q) (x14 s : Int) (res : Int × Int) (go : Ev (fun k => bits_Div64.j2 k Y s h l U c x14 Q) res) (d : Nat) :
    ∀ q r, KInv Y h l U c Q q r → r < 4294967296 → 4294967296 ≤ r + d * 2147483648 →
    Ev (fun k => bits_Div64.l0 k Y s h l U c x14 q r) res := by
  induction d with
  | zero => intro q r i h1 h2; omega
  | succ d ih =>
    intro q r i h1 h2
    have hr0 := i.r0
    have hl0 := f.l0
    have hl1 := f.l1
    have hc0 := f.c0
    have hc1 := f.c1
    have hh1 := f.h1
    have hh2 := f.h2
    have hq0' := i.q0
    have down : Q ≤ q - 1 → Ev (fun k => bits_Div64.j1 k Y s h l U c x14 q r true) res := by
      intro hd
      have i' := i.down f hd
      have hQ0 := f.Q0
      have hqb := i.qB
      refine Ev.step (fun k => by rw [bits_Div64.j1]) ?_
      refine Ev.pos rfl ?_
      have e1 : IntKind.u64.wrap (r + h) = r + h := wu _ (by omega) (by omega)
      have e2 : IntKind.u64.wrap (q - 1) = q - 1 := wu _ (by omega) (by omega)
      rw [e1, e2]
      by_cases hb : r + h ≥ 4294967296
      · refine Ev.pos hb ?_
        have hq := f.stop i' (by omega) (by omega)
        rw [hq]
        exact go
      · refine Ev.neg hb ?_
        exact ih (q - 1) (r + h) i' (by omega) (by omega)
    by_cases hq : q ≥ 4294967296
    · exact Ev.step (fun k => by rw [bits_Div64.l0]) (Ev.pos hq (down (f.big hq)))
    · have hp0 : 0 ≤ q * l := Int.mul_nonneg hq0' hl0
      have hp1 : q * l ≤ 4294967295 * 4294967295 := Int.mul_le_mul (by omega) (by omega) hl0 (by omega)
      have e1 : IntKind.u64.wrap (q * l) = q * l := wu _ hp0 (by omega)
      have e2 : IntKind.u64.wrap (IntKind.u64.wrap (4294967296 * r) + c) = 4294967296 * r + c := by
        rw [wu (4294967296 * r) (by omega) (by omega), wu _ (by omega) (by omega)]
      refine Ev.step (fun k => by rw [bits_Div64.l0]) ?_
      refine Ev.neg hq ?_
      rw [e1, e2]
      by_cases hgt : q * l > 4294967296 * r + c
      · rw [decide_eq_true hgt]
        exact down (f.over i hgt)
      · rw [decide_eq_false hgt]
        refine Ev.step (fun k => by rw [bits_Div64.j1]) ?_
        refine Ev.neg (by simp) ?_
        have hqq := f.under i (by omega)
        rw [hqq]
        exact go
/-- Both loops, from the normal divisor on. -/
theorem divide (Y U c e s : Int) (hY : 9223372036854775808 ≤ Y) (hY2 : Y < 18446744073709551616) (hU : 0 ≤ U) (hU2 : U < Y) (hc : 0 ≤ c) (hc2 : c < 4294967296) (he : 0 ≤ e) (he2 : e < 4294967296)
    (hs : 0 ≤ s) (hs2 : s ≤ 64) :
    Ev (fun k => bits_Div64.l0 k Y s (Y / 4294967296) (Y % 4294967296) U c e (U / (Y / 4294967296)) (U - U / (Y / 4294967296) * (Y / 4294967296)))
      ((U * 18446744073709551616 + c * 4294967296 + e) / Y, (U * 18446744073709551616 + c * 4294967296 + e) % Y / 2 ^ s.toNat) := by
  have f := KFr.of Y U c hY hY2 hU hU2 hc hc2
  have hh1 := f.h1
  have hh2 := f.h2
  have i := f.start
  refine loop1 f e s _ ?_ 2 _ _ i (by have := f.start_r; omega) (by have := i.r0; omega)
  have hR0 := Int.emod_nonneg (U * 4294967296 + c) (show Y ≠ 0 by omega)
  have hR1 := Int.emod_lt_of_pos (U * 4294967296 + c) (show 0 < Y by omega)
  have hdm := Int.mul_ediv_add_emod (U * 4294967296 + c) Y
  have f2 := KFr.of Y ((U * 4294967296 + c) % Y) e hY hY2 hR0 hR1 he he2
  have i2 := f2.start
  have hU21 : IntKind.u64.wrap (IntKind.u64.wrap (IntKind.u64.wrap (U * 4294967296) + c) - IntKind.u64.wrap ((U * 4294967296 + c) / Y * Y)) = (U * 4294967296 + c) % Y := by
    simp only [wrap_u64]
    rw [f.rest, Int.mul_comm ((U * 4294967296 + c) / Y) Y]
    omega
  refine Ev.step (fun k => by rw [bits_Div64.j2]) ?_
  refine Ev.neg (by omega) ?_
  rw [hU21]
  have hq := i2.q0
  have hqB := i2.qB
  rw [tdiv_pos hR0, wu _ hq (by omega)]
  have hr : IntKind.u64.wrap ((U * 4294967296 + c) % Y - IntKind.u64.wrap ((U * 4294967296 + c) % Y / (Y / 4294967296) * (Y / 4294967296))) = (U * 4294967296 + c) % Y - (U * 4294967296 + c) % Y / (Y / 4294967296) * (Y / 4294967296) := by
    have h0 := i2.r0
    have h1 := f2.start_r
    rw [wu ((U * 4294967296 + c) % Y / (Y / 4294967296) * (Y / 4294967296)) (Int.mul_nonneg hq (by omega)) (by omega), wu _ (by omega) (by omega)]
  rw [hr]
  refine Ev.to (loop2 f2 ((U * 4294967296 + c) / Y) s f.Q0 f.QB hs hs2 2 _ _ i2 (by have := f2.start_r; omega) (by have := i2.r0; omega)) ?_
  have hd2 := Int.mul_ediv_add_emod ((U * 4294967296 + c) % Y * 4294967296 + e) Y
  have h20 := Int.emod_nonneg ((U * 4294967296 + c) % Y * 4294967296 + e) (show Y ≠ 0 by omega)
  have h21 := Int.emod_lt_of_pos ((U * 4294967296 + c) % Y * 4294967296 + e) (show 0 < Y by omega)
  have ee : U * 18446744073709551616 + c * 4294967296 + e = ((U * 4294967296 + c) % Y * 4294967296 + e) % Y + Y * ((U * 4294967296 + c) / Y * 4294967296 + ((U * 4294967296 + c) % Y * 4294967296 + e) / Y) := by
    generalize (U * 4294967296 + c) % Y = R at *
    generalize (U * 4294967296 + c) / Y = Q at *
    generalize (R * 4294967296 + e) % Y = R2 at *
    generalize (R * 4294967296 + e) / Y = Q2 at *
    have e1 : Y * (Q * 4294967296 + Q2) = (Y * Q) * 4294967296 + Y * Q2 := by grind
    rw [e1]
    omega
  rw [ee, Int.add_mul_ediv_left _ _ (by omega), Int.add_mul_emod_self_left, Int.ediv_eq_zero_of_lt h20 h21, Int.emod_eq_of_lt h20 h21]
  congr 1
  · omega
  · congr 1
    have := Int.mul_comm (((U * 4294967296 + c) % Y * 4294967296 + e) / Y) Y
    omega

theorem two_pow_le (a b : Nat) (h : a ≤ b) : (2 : Int) ^ a ≤ 2 ^ b := by
  obtain ⟨d, rfl⟩ : ∃ d, b = a + d := ⟨b - a, by omega⟩
  rw [Int.pow_add]
  have h1 : (0 : Int) < 2 ^ a := Int.pow_pos (by omega)
  have h2 : (0 : Int) < 2 ^ d := Int.pow_pos (by omega)
  have h3 : (2 : Int) ^ a * 1 ≤ 2 ^ a * 2 ^ d := Int.mul_le_mul_of_nonneg_left (by omega) (by omega)
  omega
theorem div64 (hi lo y : Int) (h0 : 0 ≤ hi) (h1 : hi < y) (l0 : 0 ≤ lo) (l1 : lo < 18446744073709551616) (hy : y < 18446744073709551616) :
    Ev (fun k => bits_Div64.f k hi lo y) ((hi * 18446744073709551616 + lo) / y, (hi * 18446744073709551616 + lo) % y) := by
  unfold bits_Div64.f
  refine Ev.neg (by omega) (Ev.neg (by omega) ?_)
  by_cases hz : hi = 0
  · refine Ev.pos hz (Ev.val ?_)
    subst hz
    have hd : lo / y ≤ lo := Int.ediv_le_self _ l0
    have hd0 : 0 ≤ lo / y := Int.ediv_nonneg l0 (by omega)
    rw [tdiv_pos l0, tmod_pos l0, wu _ hd0 (by omega)]
    simp
  · refine Ev.neg hz ?_
    obtain ⟨n, ⟨n0, n64, nlo, nhi⟩, hn⟩ := len64 y (by omega) hy
    have hn1 : 1 ≤ n := by
      apply Classical.byContradiction
      intro hc
      have : n = 0 := by omega
      subst this
      simp at nhi
      omega
    have hlz : Ev (fun k => bits_LeadingZeros64.f k y) (64 - n) := by
      unfold bits_LeadingZeros64.f
      exact hn.bind (Ev.val (wi _ (by omega) (by omega)))
    refine hlz.bind ?_
    obtain ⟨s, hs⟩ : ∃ s : Int, s = 64 - n := ⟨_, rfl⟩
    have hs0 : 0 ≤ s := by omega
    have hs1 : s ≤ 63 := by omega
    have e1 : IntKind.u64.wrap (64 - n) = s := by rw [wu _ (by omega) (by omega), hs]
    have e2 : IntKind.u64.wrap (64 - s) = 64 - s := wu _ (by omega) (by omega)
    rw [e1, e2]
    refine Ev.pos hs0 (Ev.pos (by omega) ?_)
    obtain ⟨t, ht⟩ := Int.eq_ofNat_of_zero_le hs0
    have hp : (0 : Int) < 2 ^ t := Int.pow_pos (by omega)
    have hnt : n.toNat = 64 - t := by omega
    have ht63 : t ≤ 63 := by omega
    have e64 : (2 : Int) ^ (64 - t) * 2 ^ t = 18446744073709551616 := by
      rw [← Int.pow_add, show 64 - t + t = 64 by omega]; rfl
    rw [hnt] at nlo nhi
    have hpq : (0 : Int) < 2 ^ (64 - t) := Int.pow_pos (by omega)
    -- the normal divisor
    have hY0 : 9223372036854775808 ≤ y * 2 ^ t := by
      have := Int.mul_le_mul_of_nonneg_right nlo (Int.le_of_lt hp)
      have h3 : 2 * y * 2 ^ t = 2 * (y * 2 ^ t) := Int.mul_assoc _ _ _
      omega
    have hY1 : y * 2 ^ t < 18446744073709551616 := by
      have := Int.mul_lt_mul_of_pos_right nhi hp
      omega
    have hmin : min s.toNat IntKind.u64.bits = t := by
      show min s.toNat 64 = t
      omega
    have hmin2 : min (64 - s).toNat IntKind.u64.bits = 64 - t := by
      show min (64 - s).toNat 64 = 64 - t
      omega
    have hhi : hi * 2 ^ t + 2 ^ t ≤ y * 2 ^ t := by
      have := Int.mul_le_mul_of_nonneg_right (show hi + 1 ≤ y by omega) (Int.le_of_lt hp)
      have h3 : (hi + 1) * 2 ^ t = hi * 2 ^ t + 2 ^ t := by grind
      omega
    have hhi0 : 0 ≤ hi * 2 ^ t := Int.mul_nonneg h0 (by omega)
    have shY : shl .u64 y s = y * 2 ^ t := by unfold shl; rw [hmin]; exact wu _ (by omega) hY1
    have shH : shl .u64 hi s = hi * 2 ^ t := by unfold shl; rw [hmin]; exact wu _ hhi0 (by omega)
    have shL : shl .u64 lo s = lo * 2 ^ t % 18446744073709551616 := by unfold shl; rw [hmin, wrap_u64]
    have shR : shr .u64 lo (64 - s) = lo / 2 ^ (64 - t) := by unfold shr; rw [hmin2]
    have hr0 : 0 ≤ lo / 2 ^ (64 - t) := Int.ediv_nonneg l0 (by omega)
    have hr1 : lo / 2 ^ (64 - t) < 2 ^ t := by
      apply (Int.ediv_lt_iff_lt_mul hpq).2
      have : (2 : Int) ^ t * 2 ^ (64 - t) = 18446744073709551616 := by rw [Int.mul_comm]; exact e64
      omega
    have ht64 : (2 : Int) ^ t ≤ 9223372036854775808 := two_pow_le t 63 ht63
    have hor : Go.bits .or .u64 (shl .u64 hi s) (shr .u64 lo (64 - s)) = hi * 2 ^ t + lo / 2 ^ (64 - t) := by
      rw [shH, shR]
      exact bits_join .u64 64 (by decide) u64_64 t _ _ hhi0 (Int.mul_emod_left _ _) (by omega) hr0 hr1 (by omega)
    rw [hor, shY, shL]
    have hL0 := Int.emod_nonneg (lo * 2 ^ t) (show (18446744073709551616 : Int) ≠ 0 by omega)
    have hL1 := Int.emod_lt_of_pos (lo * 2 ^ t) (show (0 : Int) < 18446744073709551616 by omega)
    rw [and_low _ (by omega) hY1, and_low _ hL0 hL1]
    have hU0 : 0 ≤ hi * 2 ^ t + lo / 2 ^ (64 - t) := by omega
    have hU1 : hi * 2 ^ t + lo / 2 ^ (64 - t) < y * 2 ^ t := by omega
    have f := KFr.of (y * 2 ^ t) (hi * 2 ^ t + lo / 2 ^ (64 - t)) (lo * 2 ^ t % 18446744073709551616 / 4294967296) hY0 hY1 hU0 hU1 (by omega) (by omega)
    have i := f.start
    have hh1 := f.h1
    have hh2 := f.h2
    refine Ev.neg (by omega) ?_
    have hq := i.q0
    have hqB := i.qB
    rw [tdiv_pos hU0, wu _ hq (by omega)]
    have hr : IntKind.u64.wrap (hi * 2 ^ t + lo / 2 ^ (64 - t) - IntKind.u64.wrap ((hi * 2 ^ t + lo / 2 ^ (64 - t)) / (y * 2 ^ t / 4294967296) * (y * 2 ^ t / 4294967296)))
        = hi * 2 ^ t + lo / 2 ^ (64 - t) - (hi * 2 ^ t + lo / 2 ^ (64 - t)) / (y * 2 ^ t / 4294967296) * (y * 2 ^ t / 4294967296) := by
      have h0 := i.r0
      have h1 := f.start_r
      rw [wu ((hi * 2 ^ t + lo / 2 ^ (64 - t)) / (y * 2 ^ t / 4294967296) * (y * 2 ^ t / 4294967296)) (Int.mul_nonneg hq (by omega)) (by omega), wu _ (by omega) (by omega)]
    rw [hr]
    refine Ev.to (divide (y * 2 ^ t) (hi * 2 ^ t + lo / 2 ^ (64 - t)) (lo * 2 ^ t % 18446744073709551616 / 4294967296) (lo * 2 ^ t % 18446744073709551616 % 4294967296) s hY0 hY1 hU0 hU1 (by omega) (by omega) (by omega) (by omega) hs0 (by omega)) ?_
    have hst : s.toNat = t := by omega
    rw [hst]
    -- the whole dividend, moved
    have hw : (hi * 2 ^ t + lo / 2 ^ (64 - t)) * 18446744073709551616 + lo * 2 ^ t % 18446744073709551616 / 4294967296 * 4294967296 + lo * 2 ^ t % 18446744073709551616 % 4294967296
        = (hi * 18446744073709551616 + lo) * 2 ^ t := by
      have hlo : lo = 2 ^ (64 - t) * (lo / 2 ^ (64 - t)) + lo % 2 ^ (64 - t) := (Int.mul_ediv_add_emod lo _).symm
      have hm0 := Int.emod_nonneg lo (show (2 : Int) ^ (64 - t) ≠ 0 by omega)
      have hm1 := Int.emod_lt_of_pos lo hpq
      have hlt : lo * 2 ^ t = lo / 2 ^ (64 - t) * 18446744073709551616 + lo % 2 ^ (64 - t) * 2 ^ t := by
        conv => lhs; rw [hlo]
        rw [Int.add_mul]
        congr 1
        rw [← e64]
        generalize (2 : Int) ^ (64 - t) = a
        generalize (2 : Int) ^ t = b
        generalize lo / a = q
        grind
      have hb : lo % 2 ^ (64 - t) * 2 ^ t < 18446744073709551616 := by
        have := Int.mul_lt_mul_of_pos_right hm1 hp
        omega
      have hb0 : 0 ≤ lo % 2 ^ (64 - t) * 2 ^ t := Int.mul_nonneg hm0 (by omega)
      have hmod : lo * 2 ^ t % 18446744073709551616 = lo % 2 ^ (64 - t) * 2 ^ t := by omega
      have e3 : (hi * 18446744073709551616 + lo) * 2 ^ t = hi * 2 ^ t * 18446744073709551616 + lo * 2 ^ t := by
        generalize (2 : Int) ^ t = b
        grind
      rw [e3]
      omega
    rw [hw, Int.mul_ediv_mul_of_pos_left _ _ hp]
    congr 1
    rw [Int.mul_comm _ (2 ^ t), Int.mul_comm y (2 ^ t), Int.mul_emod_mul_of_pos _ _ hp]
    exact Int.mul_ediv_cancel_left _ (by omega)

/-- A modulus. -/
structure Mo (m : Int) : Prop where
  lo : 2 ≤ m
  hi : m ≤ 4611686018427387904
theorem Mo.pos {m : Int} (h : Mo m) : 0 < m := by have := h.lo; omega
theorem no_of {m : Int} (h : Mo m) : modular_no.f m = some false := by
  have h1 := h.lo
  have h2 := h.hi
  unfold modular_no.f
  rw [if_neg (by omega), decide_eq_false (by omega)]
theorem no_bad {m : Int} (h : m < 2 ∨ 4611686018427387904 < m) : modular_no.f m = some true := by
  unfold modular_no.f
  by_cases h2 : m < 2
  · rw [if_pos h2]
  · rw [if_neg h2, decide_eq_true (by omega)]
theorem mr {m : Int} (h : Mo m) (a : Int) : 0 ≤ a % m ∧ a % m < m := ⟨Int.emod_nonneg _ (by have := h.lo; omega), Int.emod_lt_of_pos _ h.pos⟩
theorem add_val {m : Int} (h : Mo m) (a b : Int) (ha : 0 ≤ a) (hb : 0 ≤ b) : modular_Add.f m a b = some ((a + b) % m) := by
  have h1 := h.lo
  have h2 := h.hi
  have ra := mr h a
  have rb := mr h b
  unfold modular_Add.f
  rw [no_of h]
  simp only [Option.bind_some]
  rw [if_neg (by simp), if_neg (by omega), tmod_pos ha, tmod_pos hb, wu _ (by omega) (by omega), tmod_pos (by omega), ← Int.add_emod]
theorem mul_val {m : Int} (h : Mo m) (a b : Int) (ha : 0 ≤ a) (hb : 0 ≤ b) : Ev (fun k => modular_Mul.f k m a b) (a * b % m) := by
  have h1 := h.lo
  have h2 := h.hi
  have ra := mr h a
  have rb := mr h b
  unfold modular_Mul.f
  rw [no_of h]
  refine Ev.bindc rfl (Ev.neg (by simp) (Ev.neg (by omega) ?_))
  rw [tmod_pos ha, tmod_pos hb, mul64 _ _ (by omega) (by omega) (by omega) (by omega)]
  refine Ev.bindc rfl ?_
  have p0 : 0 ≤ a % m * (b % m) := Int.mul_nonneg ra.1 rb.1
  have p1 : a % m * (b % m) ≤ (m - 1) * (m - 1) := Int.mul_le_mul (by omega) (by omega) rb.1 (by omega)
  have p2 : (m - 1) * (m - 1) ≤ (m - 1) * 4611686018427387903 := Int.mul_le_mul_of_nonneg_left (by omega) (by omega)
  generalize hp : a % m * (b % m) = p at *
  have hd : p / 18446744073709551616 < m := by omega
  refine (div64 (p / 18446744073709551616) (p % 18446744073709551616) m (by omega) hd (by omega) (by omega) (by omega)).bind (Ev.val ?_)
  have : p / 18446744073709551616 * 18446744073709551616 + p % 18446744073709551616 = p := by omega
  show (p / 18446744073709551616 * 18446744073709551616 + p % 18446744073709551616) % m = _
  rw [this, ← hp, ← Int.mul_emod]

theorem sq_mul (a : Int) : a ^ 2 = a * a := by rw [Int.pow_succ, Int.pow_succ, Int.pow_zero, Int.one_mul]
theorem mod_mul_l (a b m : Int) : a % m * b % m = a * b % m := by rw [Int.mul_emod, Int.emod_emod, ← Int.mul_emod]
theorem mod_mul_r (a b m : Int) : a * (b % m) % m = a * b % m := by rw [Int.mul_emod, Int.emod_emod, ← Int.mul_emod]
theorem mod_pow (a m : Int) (e : Nat) : (a % m) ^ e % m = a ^ e % m := by
  induction e with
  | zero => rw [Int.pow_zero, Int.pow_zero]
  | succ e ih => rw [Int.pow_succ, Int.pow_succ, Int.mul_emod, ih, Int.emod_emod, ← Int.mul_emod]
theorem addm (a b m : Int) (ha : 0 ≤ a) (ha2 : a < m) (hb : 0 ≤ b) (hb2 : b < m) : (a + b) % m = if a ≥ m - b then a - (m - b) else a + b := by
  by_cases h : a ≥ m - b
  · rw [if_pos h]
    have : a + b = (a - (m - b)) + m * 1 := by omega
    rw [this, Int.add_mul_emod_self_left, Int.emod_eq_of_lt (by omega) (by omega)]
  · rw [if_neg h, Int.emod_eq_of_lt (by omega) (by omega)]
theorem pow_loop {m : Int} (h : Mo m) (n : Nat) : ∀ (e : Nat) (a out : Int), e ≤ n → 0 ≤ a → 0 ≤ out → out < m → e < 18446744073709551616 →
    Ev (fun k => modular_Pow.l0 k m a (e : Int) out) (out * a ^ e % m) := by
  induction n with
  | zero =>
    intro e a out he ha ho ho2 hb
    have : e = 0 := by omega
    subst this
    refine Ev.step (fun k => by rw [modular_Pow.l0]) ?_
    refine Ev.neg (by omega) (Ev.val ?_)
    rw [Int.pow_zero, Int.mul_one, Int.emod_eq_of_lt ho ho2]
  | succ n ih =>
    intro e a out he ha ho ho2 hb
    by_cases h0 : e = 0
    · subst h0
      refine Ev.step (fun k => by rw [modular_Pow.l0]) ?_
      refine Ev.neg (by omega) (Ev.val ?_)
      rw [Int.pow_zero, Int.mul_one, Int.emod_eq_of_lt ho ho2]
    · refine Ev.step (fun k => by rw [modular_Pow.l0]) (Ev.pos (by omega) ?_)
      rw [and_one _ (by omega) (by omega)]
      have e2 : (e : Int) / 2 = ((e / 2 : Nat) : Int) := by omega
      have hpw : (a * a % m) ^ (e / 2) % m = a ^ (2 * (e / 2)) % m := by rw [mod_pow, Int.pow_mul, sq_mul]
      by_cases hodd : (e : Int) % 2 = 1
      · refine Ev.pos hodd ((mul_val h out a ho ha).bind ((mul_val h a a ha ha).bind ?_))
        rw [e2]
        have r1 := mr h (out * a)
        refine Ev.to (ih (e / 2) (a * a % m) (out * a % m) (by omega) (mr h _).1 r1.1 r1.2 (by omega)) ?_
        rw [mod_mul_l, ← mod_mul_r, hpw, mod_mul_r]
        congr 1
        have : e = 2 * (e / 2) + 1 := by omega
        conv => rhs; rw [this, Int.pow_succ]
        generalize a ^ (2 * (e / 2)) = b
        grind
      · refine Ev.neg hodd ((mul_val h a a ha ha).bind ?_)
        rw [e2]
        refine Ev.to (ih (e / 2) (a * a % m) out (by omega) (mr h _).1 ho ho2 (by omega)) ?_
        rw [← mod_mul_r, hpw, mod_mul_r]
        congr 2
        have : e = 2 * (e / 2) := by omega
        conv => rhs; rw [this]
theorem pow_val {m : Int} (h : Mo m) (a : Int) (e : Nat) (ha : 0 ≤ a) (he : e < 18446744073709551616) : Ev (fun k => modular_Pow.f k m a (e : Int)) (a ^ e % m) := by
  have h1 := h.lo
  unfold modular_Pow.f
  rw [no_of h]
  refine Ev.bindc rfl (Ev.neg (by simp) (Ev.neg (by omega) ?_))
  rw [tmod_pos ha]
  refine Ev.to (pow_loop h e e _ 1 (Nat.le_refl _) (mr h a).1 (by omega) (by omega) he) ?_
  rw [Int.one_mul, mod_pow]
end Go.Proofs.Ytempibbfdojfiaa.ModTreeStays
