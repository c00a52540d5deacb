/- A tree's root, and a tree that grows: the program's and the reference's (for the law TreeWhole). -/
import Derived.Test.YtempibbfdojfiabLSndTreeWhole
import Derived.Test.YtempibbfdojfiabLEmpTreeWhole
set_option linter.unusedVariables false
set_option linter.unusedSimpArgs false
namespace Go.Proofs.Ytempibbfdojfiab.ModTreeWhole
open Go.RowKit Go.Proofs.Ytempibbfdojfiab.PTreeWhole Go.Proofs.YtempibbfdojfiabW.PrintWords Go.Proofs.YtempibbfdojfiabW.PrintLast Go.Proofs.YtempibbfdojfiabW.PrintMore Go.Proofs.Ytempibbfdojfiab.Nm

/-- The hash of what the count ends in, at a level. -/
def hh (c : Nat) (f : List Int) : Nat → F
  | 0 => 0
  | n + 1 => if bit c n = 1 then twoF (z (rd f (n : Int))) (hh c f n) else twoF (hh c f n) (emp n)
theorem bit01 (c n : Nat) : bit c n = 0 ∨ bit c n = 1 := by unfold bit; omega
theorem rd_of_sound {d c : Int} {f : List Int} (h : Sound d c f) (i : Nat) (hi : i < f.length) (hf : ∀ x ∈ f, 0 ≤ x ∧ x < 18446744073709551616) : 0 ≤ rd f (i : Int) ∧ rd f (i : Int) < 288230376287764481 :=
  ⟨(rd_lim hf (i := (i : Int)) (by omega) (by omega)).1, (h.2.2.2.2.2 i hi).1⟩
theorem u_rd {x : Int} (h : 0 ≤ x ∧ x < 288230376287764481) : u (z x : F) = x := by rw [uz]; omega
/-- The root of a sound tree. -/
def rootI (d c : Nat) (f : List Int) : Int := if c = 2 ^ d then rd f (d : Int) else u (hh c f d)
theorem root_loop (d c : Nat) (hd : d ≤ 16) (hc : c ≤ 65536) (f : List Int) (hlen : f.length = d + 1) (hf : ∀ x ∈ f, 0 ≤ x ∧ x < 18446744073709551616) (m : Nat) : ∀ (i : Nat) (ii : Int), i + m = d → ii = i →
    Ev (fun k => tree_Root.l0 k (u (hh c f i)) (u (emp i)) (d : Int) ii (d : Int) (c : Int) f) (u (hh c f d), none) := by
  induction m with
  | zero =>
    intro i ii hi hii
    refine Ev.step (fun k => by rw [tree_Root.l0]) ?_
    refine Ev.neg (by omega) (Ev.val ?_)
    rw [show i = d by omega]
  | succ m ih =>
    intro i ii hi hii
    have hr := rd_lim hf (i := (i : Int)) (by omega) (by omega)
    have hn := ih (i + 1) ((i : Int) + 1) (by omega) (by omega)
    have he := two_val (u (emp i)) (u (emp i)) (uF0 _) (uF0 _)
    rw [z_u] at he
    refine Ev.step (fun k => by rw [tree_Root.l0]) ?_
    rw [show wrap64 (ii + 1) = ii + 1 from wi _ (by omega) (by omega), hii, bit_val c i (by omega) (by omega)]
    refine Ev.pos (by omega) (Ev.pos (by omega) ?_)
    by_cases hb : bit c i = 1
    · have h2 := two_val (rd f (i : Int)) (u (hh c f i)) hr.1 (uF0 _)
      rw [z_u] at h2
      have e : hh c f (i + 1) = twoF (z (rd f (i : Int))) (hh c f i) := by
        show (if bit c i = 1 then _ else _) = _
        rw [if_pos hb]
      rw [e] at hn
      exact Ev.pos (by omega) (Ev.pos (by omega) (h2.bind (he.bind hn)))
    · have h2 := two_val (u (hh c f i)) (u (emp i)) (uF0 _) (uF0 _)
      rw [z_u, z_u] at h2
      have e : hh c f (i + 1) = twoF (hh c f i) (emp i) := by
        show (if bit c i = 1 then _ else _) = _
        rw [if_neg hb]
      rw [e] at hn
      exact Ev.neg (by omega) (h2.bind (he.bind hn))
theorem root_sound (d c : Nat) (f : List Int) (h : Sound d c f) (hf : ∀ x ∈ f, 0 ≤ x ∧ x < 18446744073709551616) : Ev (fun k => tree_Root.f k (d : Int) (c : Int) f) (rootI d c f, none) := by
  have hck := check_sound d c f h
  obtain ⟨h1, h2, h3, h4, h5, h6⟩ := h
  rw [Int.toNat_natCast] at h4
  have h16 := pow16 d (by omega)
  unfold tree_Root.f rootI
  refine hck.bind (Ev.pos rfl (Ev.pos (by omega) ?_))
  rw [shl16 d (by omega)]
  by_cases hc : c = 2 ^ d
  · rw [if_pos hc]
    exact Ev.pos (by omega) (Ev.pos (by omega) (Ev.val rfl))
  · rw [if_neg hc]
    have hl := root_loop d c (by omega) (by omega) f (by omega) hf d 0 0 (by omega) rfl
    have e1 : u (hh c f 0) = 0 := u_zero
    have e2 : u (emp 0) = 0 := u_zero
    rw [e1, e2] at hl
    exact Ev.neg (by omega) hl
theorem root_bad (d c : Int) (f : List Int) (h : ¬ Sound d c f) : Ev (fun k => tree_Root.f k d c f) (0, some 3) := by
  unfold tree_Root.f
  exact (check_bad d c f h).bind (Ev.neg (by simp) (Ev.val rfl))
end Go.Proofs.Ytempibbfdojfiab.ModTreeWhole
