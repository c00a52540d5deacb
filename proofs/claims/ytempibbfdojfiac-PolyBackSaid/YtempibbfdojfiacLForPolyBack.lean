/- The values on a domain; the values of a product (for the law PolyBack). -/
import Derived.Test.YtempibbfdojfiacLFftPolyBack
set_option linter.unusedVariables false
set_option linter.unusedSimpArgs false
namespace Go.Proofs.Ytempibbfdojfiac.ModPolyBack
open Go.RowKit Go.Proofs.Ytempibbfdojfiac.PPolyBack Go.Proofs.YtempibbfdojfiacW.PrintWords Go.Proofs.YtempibbfdojfiacW.PrintLast Go.Proofs.YtempibbfdojfiacW.PrintMore Go.Proofs.Ytempibbfdojfiac.Nm

theorem ev_zeros (m : Nat) (x : F) : ev ((List.replicate m (0 : Int)).map z) x = (0 : F) := by
  induction m with
  | zero => rfl
  | succ m ih =>
    rw [List.replicate_succ, List.map_cons]
    show z 0 + x * ev ((List.replicate m (0 : Int)).map z) x = 0
    rw [ih, fmul_zero, fadd_zero]; exact z_zero
/-- The list, with 0s up to so many. -/
def pad (N : Nat) (l : List Int) : List Int := cpy (List.replicate N 0) l
theorem pad_eq (N : Nat) (l : List Int) (h : l.length ≤ N) : pad N l = l ++ List.replicate (N - l.length) 0 := by
  unfold pad cpy
  rw [List.length_replicate, List.take_of_length_le h, List.drop_replicate]
theorem pad_len (N : Nat) (l : List Int) : (pad N l).length = N := by
  unfold pad
  rw [cpy_len, List.length_replicate]
theorem pad_mem (N : Nat) (l : List Int) (h : l.length ≤ N) (hl : ∀ x ∈ l, 0 ≤ x ∧ x < 18446744073709551616) : ∀ x ∈ pad N l, 0 ≤ x ∧ x < 18446744073709551616 := by
  intro x hx
  rw [pad_eq N l h] at hx
  rcases List.mem_append.1 hx with hx | hx
  · exact hl x hx
  · have := List.eq_of_mem_replicate hx
    omega
theorem ev_pad (N : Nat) (l : List Int) (h : l.length ≤ N) (x : F) : ev ((pad N l).map z) x = (ev (l.map z) x : F) := by
  rw [pad_eq N l h, List.map_append, ev_append, ev_zeros, fmul_zero, fadd_zero]
theorem pad_rd (N : Nat) (l : List Int) (h : l.length ≤ N) (i : Nat) : rd (pad N l) (i : Int) = if i < l.length then rd l (i : Int) else 0 := by
  rw [pad_eq N l h]
  by_cases hi : i < l.length
  · rw [if_pos hi]; exact rd_app l _ i hi
  · rw [if_neg hi, rd_nat, List.getD_eq_getElem?_getD, List.getElem?_append_right (by omega), List.getElem?_replicate]
    split <;> rfl
theorem forward_val (k : Nat) (hk : k ≤ 12) (l : List Int) (hlen : l.length ≤ 2 ^ k) (hl : ∀ x ∈ l, 0 ≤ x ∧ x < 18446744073709551616) :
    Ev (fun n => poly_Forward.f n l (k : Int)) (ml (2 ^ k) (fun i => ev (l.map z) (rootW k ^ i)), none) := by
  unfold poly_Forward.f
  have hle := pow_le k hk
  have ht := turn_val k hk (pad (2 ^ k) l) (rootW k) (pad_len _ _) (pad_mem _ _ hlen hl) (rootW_half k hk)
  have e : ml (2 ^ k) (fun i => ev ((pad (2 ^ k) l).map z) (rootW k ^ i)) = ml (2 ^ k) (fun i => ev (l.map z) (rootW k ^ i)) := by
    apply ml_congr
    intro i _
    exact ev_pad _ _ hlen _
  rw [e] at ht
  refine (root_val k hk).bind (Ev.pos rfl (Ev.pos (by omega) ?_))
  rw [shl_i k hk, Int.toNat_natCast]
  refine Ev.neg (by omega) (Ev.pos (by omega) (Ev.pos (by omega) ?_))
  exact ht.bind (Ev.val rfl)
theorem forward_bad (k : Int) (l : List Int) (h : k < 0 ∨ 12 < k ∨ ∃ n : Nat, k = n ∧ n ≤ 12 ∧ 2 ^ n < l.length) : Ev (fun n => poly_Forward.f n l k) ([], some 1) := by
  unfold poly_Forward.f
  by_cases hb : k < 0 ∨ 12 < k
  · exact (root_bad k hb).bind (Ev.neg (by simp) (Ev.val rfl))
  · rcases h with h | h | ⟨n, rfl, hn, hne⟩
    · exact absurd (.inl h) hb
    · exact absurd (.inr h) hb
    · refine (root_val n hn).bind (Ev.pos rfl (Ev.pos (by omega) ?_))
      rw [shl_i n hn]
      exact Ev.pos (by omega) (Ev.val rfl)
theorem forward_any (k : Int) (l : List Int) (hl : ∀ x ∈ l, 0 ≤ x ∧ x < 18446744073709551616) : ∃ r, Ev (fun n => poly_Forward.f n l k) r := by
  by_cases h0 : k < 0
  · exact ⟨_, forward_bad k l (.inl h0)⟩
  by_cases h12 : 12 < k
  · exact ⟨_, forward_bad k l (.inr (.inl h12))⟩
  obtain ⟨n, rfl⟩ := Int.eq_ofNat_of_zero_le (show 0 ≤ k by omega)
  by_cases hln : l.length ≤ 2 ^ n
  · exact ⟨_, forward_val n (by omega) l hln hl⟩
  · exact ⟨_, forward_bad n l (.inr (.inr ⟨n, rfl, by omega, by omega⟩))⟩
theorem inverse_any (k : Int) (l : List Int) (hl : ∀ x ∈ l, 0 ≤ x ∧ x < 18446744073709551616) : ∃ r, Ev (fun n => poly_Inverse.f n l k) r := by
  by_cases h0 : k < 0
  · exact ⟨_, inverse_bad k l (.inl h0)⟩
  by_cases h12 : 12 < k
  · exact ⟨_, inverse_bad k l (.inr (.inl h12))⟩
  obtain ⟨n, rfl⟩ := Int.eq_ofNat_of_zero_le (show 0 ≤ k by omega)
  by_cases hln : l.length = 2 ^ n
  · exact ⟨_, inverse_val n (by omega) l hln hl⟩
  · exact ⟨_, inverse_bad n l (.inr (.inr ⟨n, rfl, by omega, hln⟩))⟩
end Go.Proofs.Ytempibbfdojfiac.ModPolyBack
