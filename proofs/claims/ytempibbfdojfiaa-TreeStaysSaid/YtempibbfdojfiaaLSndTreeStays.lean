/- Sound trees: what the two checks answer (for the law TreeStays). -/
import Derived.Test.YtempibbfdojfiaaLTreeTreeStays
set_option linter.unusedVariables false
set_option linter.unusedSimpArgs false
namespace Go.Proofs.Ytempibbfdojfiaa.ModTreeStays
open Go.RowKit Go.Proofs.Ytempibbfdojfiaa.PTreeStays Go.Proofs.YtempibbfdojfiaaW.PrintWords Go.Proofs.YtempibbfdojfiaaW.PrintLast Go.Proofs.YtempibbfdojfiaaW.PrintMore Go.Proofs.Ytempibbfdojfiaa.Nm

/-- Is a tree sound? -/
def Sound (d c : Int) (f : List Int) : Prop := 1 ≤ d ∧ d ≤ 16 ∧ 0 ≤ c ∧ c ≤ ((2 ^ d.toNat : Nat) : Int) ∧ (f.length : Int) = d + 1 ∧ ∀ k, k < f.length → okAt c.toNat f k
theorem fits_false (d : Int) (h : d < 1 ∨ 16 < d) : tree_fits.f d = some false := by
  unfold tree_fits.f
  by_cases h1 : d ≥ 1
  · rw [if_pos h1, decide_eq_false (by omega)]
  · rw [if_neg h1]
theorem check_badloop (c : Nat) (hc : c ≤ 65536) (dd : Int) (f : List Int) (hlen : f.length ≤ 60) (j : Nat) (hj : j < f.length) (hbad : ¬ okAt c f j) (m : Nat) : ∀ (i : Nat) (ii : Int), i + m = f.length → ii = i → i ≤ j →
    Ev (fun k => tree_Check.l0 k f (f.length : Int) ii dd (c : Int) f) (some 3) := by
  induction m with
  | zero => intro i ii hi hii hij; omega
  | succ m ih =>
    intro i ii hi hii hij
    refine Ev.step (fun k => by rw [tree_Check.l0]) ?_
    rw [show wrap64 (ii + 1) = ii + 1 from wi _ (by omega) (by omega), hii, bit_val c i (by omega) (by omega)]
    refine Ev.pos (by omega) (Ev.pos (by omega) (Ev.pos (by omega) ?_))
    by_cases h1 : rd f (i : Int) ≥ 288230376287764481
    · exact Ev.pos h1 (Ev.val rfl)
    refine Ev.neg h1 ?_
    have next : okAt c f i → Ev (fun k => tree_Check.l0 k f (f.length : Int) ((i : Int) + 1) dd (c : Int) f) (some 3) := by
      intro ho
      refine ih (i + 1) _ (by omega) (by omega) ?_
      rcases Nat.lt_or_ge i j with h | h
      · exact h
      · exact absurd (by rw [show j = i by omega]; exact ho) hbad
    by_cases hb : bit c i = 0
    · refine Ev.pos (by omega) ?_
      by_cases h2 : rd f (i : Int) = 0
      · exact Ev.pos h2 (next ⟨by omega, fun _ => h2⟩)
      · exact Ev.neg h2 (Ev.val rfl)
    · exact Ev.neg (by omega) (next ⟨by omega, fun h => absurd h hb⟩)
theorem check_sound (d c : Int) (f : List Int) (h : Sound d c f) : Ev (fun k => tree_Check.f k d c f) none := by
  obtain ⟨h1, h2, h3, h4, h5, h6⟩ := h
  obtain ⟨d', rfl⟩ := Int.eq_ofNat_of_zero_le (show 0 ≤ d by omega)
  obtain ⟨c', rfl⟩ := Int.eq_ofNat_of_zero_le h3
  rw [Int.toNat_natCast] at h4 h6
  exact check_ok d' c' (by omega) (by omega) (by omega) f (by omega) (fun k hk => h6 k (by omega))
theorem check_bad (d c : Int) (f : List Int) (h : ¬ Sound d c f) : Ev (fun k => tree_Check.f k d c f) (some 3) := by
  unfold tree_Check.f
  have bad : Ev (fun k => tree_Check.j0 k true d c f) (some 3) := by
    refine Ev.step (fun k => by rw [tree_Check.j0]) ?_
    exact Ev.pos rfl (Ev.val rfl)
  by_cases h1 : d < 1 ∨ 16 < d
  · exact Ev.bindc (fits_false d h1) (Ev.neg (by simp) bad)
  obtain ⟨d', rfl⟩ := Int.eq_ofNat_of_zero_le (show 0 ≤ d by omega)
  refine Ev.bindc (fits_true d' (by omega) (by omega)) (Ev.pos rfl ?_)
  by_cases h2 : c < 0
  · exact Ev.pos h2 bad
  obtain ⟨c', rfl⟩ := Int.eq_ofNat_of_zero_le (show 0 ≤ c by omega)
  have h16 := pow16 d' (by omega)
  refine Ev.neg h2 (Ev.pos (by omega) ?_)
  rw [shl16 d' (by omega), show wrap64 ((d' : Int) + 1) = ((d' + 1 : Nat) : Int) from by rw [wi _ (by omega) (by omega)]; omega]
  by_cases h3 : (c' : Int) > ((2 ^ d' : Nat) : Int)
  · exact Ev.pos h3 bad
  refine Ev.neg h3 ?_
  by_cases h4 : f.length = d' + 1
  · rw [h4, show (((d' + 1 : Nat) : Int) != ((d' + 1 : Nat) : Int)) = false from bne_self_eq_false _]
    have hex : ∃ j, j < f.length ∧ ¬ okAt c' f j := by
      refine Classical.byContradiction fun hc => h ⟨by omega, by omega, by omega, by rw [Int.toNat_natCast]; omega, by omega, fun k hk => ?_⟩
      rw [Int.toNat_natCast]
      exact Classical.byContradiction fun h5 => hc ⟨k, hk, h5⟩
    obtain ⟨j, hj, hb⟩ := hex
    refine Ev.step (fun k => by rw [tree_Check.j0]) ?_
    exact Ev.neg (by simp) (check_badloop c' (by omega) (d' : Int) f (by omega) j hj hb f.length 0 0 (by omega) rfl (by omega))
  · rw [show ((f.length : Int) != ((d' + 1 : Nat) : Int)) = true from bne_iff_ne.2 (fun hc => h4 (Int.ofNat.inj hc))]
    exact bad
theorem same_loop (l : List Int) (hl : l.length ≤ 9223372036854775806) (d : Nat) : ∀ (n : Nat) (i : Int), n + d = l.length → i = n → Ev (fun k => obolref13_Same.l0 k l l i) true := by
  induction d with
  | zero =>
    intro n i hn hi
    refine Ev.step (fun k => by rw [obolref13_Same.l0]) ?_
    exact Ev.neg (by omega) (Ev.val rfl)
  | succ d ih =>
    intro n i hn hi
    refine Ev.step (fun k => by rw [obolref13_Same.l0]) ?_
    rw [show wrap64 (i + 1) = i + 1 from wi _ (by omega) (by omega)]
    exact Ev.pos (by omega) (Ev.pos (by omega) (Ev.pos (by omega) (Ev.pos rfl (ih (n + 1) _ (by omega) (by omega)))))
theorem same_val (l r : List Int) (hl : l.length ≤ 9223372036854775806) (h : l = r) : Ev (fun k => obolref13_Same.f k l r) true := by
  subst h
  unfold obolref13_Same.f
  exact Ev.pos rfl (same_loop l hl l.length 0 0 (by omega) rfl)
theorem new_ok (d : Int) (h1 : 1 ≤ d) (h2 : d ≤ 16) : tree_New.f d = some (d, 0, List.replicate (d + 1).toNat 0, none) := by
  unfold tree_New.f
  obtain ⟨d', rfl⟩ := Int.eq_ofNat_of_zero_le (show 0 ≤ d by omega)
  rw [fits_true d' (by omega) (by omega), show wrap64 ((d' : Int) + 1) = (d' : Int) + 1 from wi _ (by omega) (by omega)]
  simp only [Option.bind_some]
  rw [if_pos True.intro, if_pos (by omega), if_pos (by omega)]
theorem new_bad (d : Int) (h : d < 1 ∨ 16 < d) : tree_New.f d = some (0, 0, [], some 1) := by
  unfold tree_New.f
  rw [fits_false d h]; rfl
end Go.Proofs.Ytempibbfdojfiaa.ModTreeStays
