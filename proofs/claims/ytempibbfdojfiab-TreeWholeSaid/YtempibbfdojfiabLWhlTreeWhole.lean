/- A tree that grew leaf by leaf has the root of the whole, and a path climbs to it (for the law TreeWhole). -/
import Derived.Test.YtempibbfdojfiabLGrowTreeWhole
import Derived.Test.YtempibbfdojfiabLRowsTreeWhole
set_option linter.unusedVariables false
set_option linter.unusedSimpArgs false
namespace Go.Proofs.Ytempibbfdojfiab.ModTreeWhole
open Go.RowKit Go.Proofs.Ytempibbfdojfiab.PTreeWhole Go.Proofs.YtempibbfdojfiabW.PrintWords Go.Proofs.YtempibbfdojfiabW.PrintLast Go.Proofs.YtempibbfdojfiabW.PrintMore Go.Proofs.Ytempibbfdojfiab.Nm

/-- What a front has at its k-th place, where q whole blocks of that level are there. -/
def gq (l : List Int) (k q : Nat) : Int := if q % 2 = 1 then u (nd l k (q - 1)) else 0
/-- The front of c leaves, its first i places emptied. -/
def frt (l : List Int) (d c i : Nat) : List Int := (List.range (d + 1)).map fun k => if k < i then 0 else gq l k (c / 2 ^ k)
theorem frt_len (l : List Int) (d c i : Nat) : (frt l d c i).length = d + 1 := by unfold frt; rw [List.length_map, List.length_range]
theorem frt_rd (l : List Int) (d c i k : Nat) (h : k ≤ d) : rd (frt l d c i) (k : Int) = if k < i then 0 else gq l k (c / 2 ^ k) := rd_map _ _ _ (by omega)
theorem gq_lim (l : List Int) (k q : Nat) : 0 ≤ gq l k q ∧ gq l k q < 288230376287764481 := by
  unfold gq
  split
  · exact ⟨uF0 _, uF1 _⟩
  · omega
theorem set_map (g : Nat → Int) (n i : Nat) (v : Int) : ((List.range n).map g).set i v = (List.range n).map (fun k => if k = i then v else g k) := by
  refine List.ext_getElem? (fun j => ?_)
  rw [List.getElem?_set, List.getElem?_map, List.getElem?_map, List.length_map, List.length_range]
  by_cases hj : j < n
  · rw [List.getElem?_range hj]
    by_cases h : i = j
    · subst h
      rw [if_pos rfl, if_pos hj]
      show some v = some (if i = i then v else g i)
      rw [if_pos rfl]
    · rw [if_neg h]
      show some (g j) = some (if j = i then v else g j)
      rw [if_neg (fun e => h e.symm)]
  · rw [List.getElem?_eq_none (show (List.range n).length ≤ j by rw [List.length_range]; omega)]
    by_cases h : i = j
    · rw [if_pos h, if_neg (by omega)]; rfl
    · rw [if_neg h]; rfl
theorem map_same (g g' : Nat → Int) (n : Nat) (h : ∀ k, k < n → g k = g' k) : (List.range n).map g = (List.range n).map g' := List.map_congr_left (fun k hk => h k (List.mem_range.1 hk))
/-- All bits of c below the i-th are 1. -/
def Ones (c i : Nat) : Prop := c + 1 = (c / 2 ^ i + 1) * 2 ^ i
theorem ones_zero (c : Nat) : Ones c 0 := by unfold Ones; simp
theorem div_succ (c i : Nat) : c / 2 ^ (i + 1) = c / 2 ^ i / 2 := by rw [Nat.div_div_eq_div_mul, Nat.pow_succ]
theorem ones_succ (c i : Nat) (h : Ones c i) (hb : c / 2 ^ i % 2 = 1) : Ones c (i + 1) := by
  unfold Ones at h ⊢
  rw [div_succ, Nat.pow_succ]
  generalize c / 2 ^ i = q at *
  have e : (q / 2 + 1) * (2 ^ i * 2) = (q / 2 + 1) * 2 * 2 ^ i := by rw [Nat.mul_comm (2 ^ i) 2, Nat.mul_assoc]
  rw [e, show (q / 2 + 1) * 2 = q + 1 by omega]
  exact h
theorem ones_at (c i : Nat) (h : Ones c i) : (c + 1) / 2 ^ i = c / 2 ^ i + 1 := by
  unfold Ones at h
  rw [h, Nat.mul_div_cancel _ (Nat.pow_pos (by omega))]
theorem ones_low (c i k : Nat) (h : Ones c i) (hk : k < i) : (c + 1) / 2 ^ k % 2 = 0 := by
  unfold Ones at h
  obtain ⟨t, rfl⟩ : ∃ t, i = k + (t + 1) := ⟨i - k - 1, by omega⟩
  have e : 2 ^ (k + (t + 1)) = 2 ^ t * 2 * 2 ^ k := by rw [Nat.pow_add, Nat.pow_succ, Nat.mul_comm]
  generalize c / 2 ^ (k + (t + 1)) = q at h
  rw [h, e, ← Nat.mul_assoc, Nat.mul_div_cancel _ (Nat.pow_pos (by omega)), ← Nat.mul_assoc, Nat.mul_mod_left]
theorem ones_high (c i k : Nat) (h : Ones c i) (hb : c / 2 ^ i % 2 = 0) (hk : i < k) : (c + 1) / 2 ^ k = c / 2 ^ k := by
  have h1 := ones_at c i h
  obtain ⟨t, rfl⟩ : ∃ t, k = i + 1 + t := ⟨k - i - 1, by omega⟩
  rw [Nat.pow_add, ← Nat.div_div_eq_div_mul, ← Nat.div_div_eq_div_mul, div_succ, div_succ, h1]
  generalize c / 2 ^ i = q at *
  rw [show (q + 1) / 2 = q / 2 by omega]
theorem frt_next (l : List Int) (d c i : Nat) (hi : i ≤ d) : (frt l d c i).set i 0 = frt l d c (i + 1) := by
  unfold frt
  rw [set_map]
  refine map_same _ _ _ (fun k hk => ?_)
  by_cases h : k = i
  · rw [if_pos h, if_pos (show k < i + 1 by omega)]
  · rw [if_neg h]
    by_cases h2 : k < i
    · rw [if_pos h2, if_pos (show k < i + 1 by omega)]
    · rw [if_neg h2, if_neg (show ¬ k < i + 1 by omega)]
theorem frt_done (l : List Int) (d c i : Nat) (h : Ones c i) (hb : c / 2 ^ i % 2 = 0) : (frt l d c i).set i (u (nd l i (c / 2 ^ i))) = frt l d (c + 1) 0 := by
  unfold frt
  rw [set_map]
  refine map_same _ _ _ (fun k hk => ?_)
  rw [if_neg (show ¬ k < 0 by omega)]
  by_cases h1 : k = i
  · subst h1
    rw [if_pos rfl, ones_at c k h]
    unfold gq
    generalize c / 2 ^ k = q at *
    rw [if_pos (by omega), show q + 1 - 1 = q by omega]
  · rw [if_neg h1]
    by_cases h2 : k < i
    · rw [if_pos h2]
      unfold gq
      rw [if_neg (by rw [ones_low c i k h h2]; omega)]
    · rw [if_neg h2, ones_high c i k h hb (by omega)]
theorem nd_pair (l : List Int) (k q : Nat) (h : q % 2 = 1) : twoF (nd l k (q - 1)) (nd l k q) = nd l (k + 1) (q / 2) := by
  show _ = twoF (nd l k (2 * (q / 2))) (nd l k (2 * (q / 2) + 1))
  rw [show 2 * (q / 2) = q - 1 by omega, show q - 1 + 1 = q by omega]
theorem grow_loop (l : List Int) (d c : Nat) (hd : d ≤ 16) (hc : c < 2 ^ d) (f0 : List Int) (c1 : Int) (m : Nat) : ∀ (i : Nat) (ii h : Int), i + m = d → ii = i → Ones c i → h = u (nd l i (c / 2 ^ i)) →
    Ev (fun k => tree_Append.l0 k h ii (d : Int) (c : Int) f0 (d : Int) c1 (frt l d c i)) ((d : Int), c1, frt l d (c + 1) 0, none) := by
  have h16 := pow16 d hd
  have stop : ∀ (i : Nat) (ii h : Int), i ≤ d → ii = i → Ones c i → h = u (nd l i (c / 2 ^ i)) → c / 2 ^ i % 2 = 0 →
      Ev (fun k => tree_Append.l0 k h ii (d : Int) (c : Int) f0 (d : Int) c1 (frt l d c i)) ((d : Int), c1, frt l d (c + 1) 0, none) := by
    intro i ii h hi hii ho hh hb
    refine Ev.step (fun k => by rw [tree_Append.l0]) ?_
    rw [hii, bit_val c i (by omega) (by omega), Int.toNat_natCast, hh, frt_done l d c i ho hb, frt_len]
    have hb2 : bit c i = 0 := hb
    exact Ev.pos (by omega) (Ev.neg (by omega) (Ev.pos (by omega) (Ev.val rfl)))
  induction m with
  | zero =>
    intro i ii h hi hii ho hh
    refine stop i ii h (by omega) hii ho hh ?_
    rw [show i = d by omega, Nat.div_eq_of_lt hc]
  | succ m ih =>
    intro i ii h hi hii ho hh
    by_cases hb : c / 2 ^ i % 2 = 1
    · have hb2 : bit c i = 1 := hb
      have hn := ih (i + 1) ((i : Int) + 1) (u (twoF (nd l i (c / 2 ^ i - 1)) (nd l i (c / 2 ^ i)))) (by omega) (by omega) (ones_succ c i ho hb) (by rw [nd_pair l i _ hb, div_succ])
      have h2 := two_val (u (nd l i (c / 2 ^ i - 1))) (u (nd l i (c / 2 ^ i))) (uF0 _) (uF0 _)
      rw [z_u, z_u] at h2
      have hr : rd (frt l d c i) (i : Int) = u (nd l i (c / 2 ^ i - 1)) := by
        rw [frt_rd l d c i i (by omega), if_neg (by omega)]
        unfold gq
        rw [if_pos hb]
      refine Ev.step (fun k => by rw [tree_Append.l0]) ?_
      rw [hii, bit_val c i (by omega) (by omega), Int.toNat_natCast, frt_next l d c i (by omega), frt_len, hr, hh, show wrap64 ((i : Int) + 1) = (i : Int) + 1 from wi _ (by omega) (by omega)]
      exact Ev.pos (by omega) (Ev.pos (by omega) (Ev.pos (by omega) (h2.bind hn)))
    · exact stop i ii h (by omega) hii ho hh (by omega)
theorem frt_sound (l : List Int) (d c : Nat) (h1 : 1 ≤ d) (h2 : d ≤ 16) (hc : c ≤ 2 ^ d) : Sound (d : Int) (c : Int) (frt l d c 0) := by
  refine ⟨by omega, by omega, by omega, by rw [Int.toNat_natCast]; omega, by rw [frt_len]; omega, fun k hk => ?_⟩
  rw [frt_len] at hk
  rw [Int.toNat_natCast]
  unfold okAt
  rw [frt_rd l d c 0 k (by omega), if_neg (by omega)]
  refine ⟨(gq_lim l k _).2, fun hb => ?_⟩
  have hb2 : c / 2 ^ k % 2 = 0 := hb
  unfold gq
  rw [if_neg (by omega)]
theorem clone_all (f : List Int) (h : f.length ≤ 100) : slices_Clone_uint64_uint64.f f = some f := by
  unfold slices_Clone_uint64_uint64.f
  simp only [Option.bind_some]
  rw [if_pos (by simp only [List.length_nil]; omega)]; rfl
theorem append_one (l : List Int) (hl : okl l) (d c : Nat) (h1 : 1 ≤ d) (h2 : d ≤ 16) (hc : c < 2 ^ d) (hcl : c < l.length) : Ev (fun k => tree_Append.f k (d : Int) (c : Int) (frt l d c 0) (rd l (c : Int))) ((d : Int), ((c + 1 : Nat) : Int), frt l d (c + 1) 0, none) := by
  have h16 := pow16 d h2
  have hck := check_sound _ _ _ (frt_sound l d c h1 h2 (by omega))
  have hr := okl_rd hl c hcl
  have hlt := uF1 (z (rd l (c : Int)) : F)
  rw [hr] at hlt
  have hg := grow_loop l d c h2 hc (frt l d c 0) ((c + 1 : Nat) : Int) d 0 0 (rd l (c : Int)) (by omega) rfl (ones_zero c) (by
    rw [Nat.pow_zero, Nat.div_one]
    exact hr.symm)
  unfold tree_Append.f
  rw [shl16 d h2, show wrap64 ((c : Int) + 1) = ((c + 1 : Nat) : Int) from by rw [wi _ (by omega) (by omega)]; omega]
  exact hck.bind (Ev.pos rfl (Ev.neg (by omega) (Ev.pos (by omega) (Ev.neg (by omega) (Ev.bindc (clone_all _ (by rw [frt_len]; omega)) hg)))))
theorem hh_nd (l : List Int) (d : Nat) (k : Nat) : k ≤ d → hh l.length (frt l d l.length 0) k = nd l k (l.length / 2 ^ k) := by
  induction k with
  | zero =>
    intro _
    show (0 : F) = z (rd l ((l.length / 2 ^ 0 : Nat) : Int))
    rw [Nat.pow_zero, Nat.div_one, rd_out l l.length (Nat.le_refl _)]
    exact z_zero.symm
  | succ k ih =>
    intro hk
    have hi := ih (by omega)
    have hmod := Nat.div_add_mod l.length (2 ^ k)
    have hlt := Nat.mod_lt l.length (show 0 < 2 ^ k from Nat.pow_pos (by omega))
    show (if bit l.length k = 1 then twoF (z (rd (frt l d l.length 0) (k : Int))) (hh l.length (frt l d l.length 0) k) else twoF (hh l.length (frt l d l.length 0) k) (emp k)) = _
    rw [hi, frt_rd l d l.length 0 k (by omega), if_neg (show ¬ k < 0 by omega), div_succ]
    unfold bit gq
    by_cases hb : l.length / 2 ^ k % 2 = 1
    · rw [if_pos hb, if_pos hb, z_u]
      exact nd_pair l k _ hb
    · rw [if_neg hb]
      show _ = twoF (nd l k (2 * (l.length / 2 ^ k / 2))) (nd l k (2 * (l.length / 2 ^ k / 2) + 1))
      have he := nd_emp l k (l.length / 2 ^ k + 1) (by rw [Nat.add_mul, Nat.one_mul, Nat.mul_comm]; omega)
      generalize l.length / 2 ^ k = q at *
      rw [show 2 * (q / 2) = q by omega, he]
theorem root_whole (l : List Int) (d : Nat) (h1 : 1 ≤ d) (h2 : d ≤ 16) (hn : l.length ≤ 2 ^ d) : Ev (fun k => tree_Root.f k (d : Int) (l.length : Int) (frt l d l.length 0)) (u (nd l d 0), none) := by
  have hr := root_sound d l.length (frt l d l.length 0) (frt_sound l d l.length h1 h2 hn) (by
    intro x hx
    unfold frt at hx
    obtain ⟨k, _, e⟩ := List.mem_map.1 hx
    rw [if_neg (show ¬ k < 0 by omega)] at e
    have := gq_lim l k (l.length / 2 ^ k)
    omega)
  have e : rootI d l.length (frt l d l.length 0) = u (nd l d 0) := by
    unfold rootI
    by_cases h : l.length = 2 ^ d
    · rw [if_pos h, frt_rd l d l.length 0 d (Nat.le_refl _), if_neg (show ¬ d < 0 by omega), h, Nat.div_self (Nat.pow_pos (by omega))]
      rfl
    · rw [if_neg h, hh_nd l d d (Nat.le_refl _), Nat.div_eq_of_lt (by omega)]
  rw [e] at hr
  exact hr
theorem climb_up (l : List Int) (d i : Nat) (m : Nat) : ∀ k, k + m = d → climb (i / 2 ^ k) (nd l k (i / 2 ^ k)) ((pathL l d i).drop k) = nd l d (i / 2 ^ d) := by
  have hlen : (pathL l d i).length = d := by unfold pathL; rw [List.length_map, List.length_range]
  induction m with
  | zero =>
    intro k hk
    rw [List.drop_eq_nil_of_le (by omega), show k = d by omega]; rfl
  | succ m ih =>
    intro k hk
    have hn := ih (k + 1) (by omega)
    rw [drop_cons _ k (by omega), show rd (pathL l d i) (k : Int) = u (nd l k (bes (i / 2 ^ k))) from rd_map _ _ _ (by omega)]
    rw [div_succ] at hn
    show climb (i / 2 ^ k / 2) (if i / 2 ^ k % 2 = 1 then twoF (z (u (nd l k (bes (i / 2 ^ k))))) (nd l k (i / 2 ^ k)) else twoF (nd l k (i / 2 ^ k)) (z (u (nd l k (bes (i / 2 ^ k)))))) _ = _
    rw [z_u, ← hn]
    generalize i / 2 ^ k = q
    congr 1
    unfold bes
    by_cases hb : q % 2 = 1
    · rw [if_pos hb, if_pos hb]
      exact nd_pair l k q hb
    · rw [if_neg hb, if_neg hb]
      show _ = twoF (nd l k (2 * (q / 2))) (nd l k (2 * (q / 2) + 1))
      rw [show 2 * (q / 2) = q by omega]
theorem climb_whole (l : List Int) (d i : Nat) (h1 : 1 ≤ d) (h2 : d ≤ 16) (hi : i < 2 ^ d) (x : Int) (hx : 0 ≤ x) (he : x = rd l (i : Int)) : Ev (fun k => tree_Climb.f k x (i : Int) (pathL l d i)) (u (nd l d 0)) := by
  have h16 := pow16 d h2
  have hlen : (pathL l d i).length = d := by unfold pathL; rw [List.length_map, List.length_range]
  have hc := climb_val x (i : Int) (pathL l d i) (by
    intro y hy
    unfold pathL at hy
    obtain ⟨k, _, e⟩ := List.mem_map.1 hy
    have h0 := uF0 (nd l k (bes (i / 2 ^ k)))
    have h3 := uF1 (nd l k (bes (i / 2 ^ k)))
    omega) (by omega) hx (by omega)
  have e : climbI x ((i : Int)).toNat (pathL l d i) = u (nd l d 0) := by
    unfold climbI
    rw [if_neg (by omega), Int.toNat_natCast, he]
    have hu := climb_up l d i d 0 (by omega)
    rw [Nat.pow_zero, Nat.div_one, List.drop_zero, Nat.div_eq_of_lt hi] at hu
    show u (climb i (nd l 0 i) _) = _
    rw [hu]
  rw [e] at hc
  exact hc
end Go.Proofs.Ytempibbfdojfiab.ModTreeWhole
