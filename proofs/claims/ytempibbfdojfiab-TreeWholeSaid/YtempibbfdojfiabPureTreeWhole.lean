/- For every list of leaves, every depth and every place, obollaw16.TreeWhole returns true. No conditions. -/
import Derived.Test.YtempibbfdojfiabLWhlTreeWhole
set_option linter.unusedVariables false
namespace Go.Proofs.Ytempibbfdojfiab.Pure
open Go.RowKit Go.Proofs.Ytempibbfdojfiab.PTreeWhole Go.Proofs.YtempibbfdojfiabW.PrintWords Go.Proofs.YtempibbfdojfiabW.PrintLast Go.Proofs.YtempibbfdojfiabW.PrintMore Go.Proofs.Ytempibbfdojfiab.Nm Go.Proofs.Ytempibbfdojfiab.ModTreeWhole

theorem grown (l : List Int) (hl : okl l) (d i : Nat) (h1 : 1 ≤ d) (h2 : d ≤ 16) (hn : l.length ≤ 2 ^ d) (hi : i < 2 ^ d) (m : Nat) : ∀ (c : Nat) (cc : Int), c + m = l.length → cc = c →
    Ev (fun q => obollaw16_TreeWhole.l0 q l (i : Int) true (u (nd l d 0)) (pathL l d i) cc (d : Int) cc (frt l d c 0)) true := by
  have h16 := pow16 d h2
  induction m with
  | zero =>
    intro c cc hc hcc
    have hr := root_whole l d h1 h2 hn
    refine Ev.step (fun q => by rw [obollaw16_TreeWhole.l0]) ?_
    rw [hcc, show c = l.length by omega]
    refine ModTreeWhole.Ev.neg (by omega) (hr.bind ?_)
    by_cases h : i < l.length
    · have hk := climb_whole l d i h1 h2 hi (rd l (i : Int)) (by have := okl_rd hl i h; rw [← this]; exact uF0 _) rfl
      exact ModTreeWhole.Ev.pos (by omega) (ModTreeWhole.Ev.pos (by omega) (ModTreeWhole.Ev.pos rfl (ModTreeWhole.Ev.pos rfl (ModTreeWhole.Ev.pos rfl (hk.bind (ModTreeWhole.Ev.val (beq_self_eq_true _)))))))
    · have hk := climb_whole l d i h1 h2 hi 0 (by omega) (rd_out l i (by omega)).symm
      exact ModTreeWhole.Ev.neg (by omega) (ModTreeWhole.Ev.pos rfl (ModTreeWhole.Ev.pos rfl (ModTreeWhole.Ev.pos rfl (hk.bind (ModTreeWhole.Ev.val (beq_self_eq_true _))))))
  | succ m ih =>
    intro c cc hc hcc
    have hn' := ih (c + 1) ((c + 1 : Nat) : Int) (by omega) rfl
    have ha := append_one l hl d c h1 h2 (by omega) (by omega)
    refine Ev.step (fun q => by rw [obollaw16_TreeWhole.l0]) ?_
    rw [hcc, show wrap64 ((c : Int) + 1) = ((c + 1 : Nat) : Int) from by rw [ModTreeWhole.wi _ (by omega) (by omega)]; omega]
    exact ModTreeWhole.Ev.pos (by omega) (ModTreeWhole.Ev.pos (by omega) (ha.bind (ModTreeWhole.Ev.pos rfl hn')))
theorem front0 (l : List Int) (d : Nat) : frt l d 0 0 = List.replicate (d + 1) 0 := by
  unfold frt
  rw [List.eq_replicate_iff]
  refine ⟨by rw [List.length_map, List.length_range], fun b hb => ?_⟩
  obtain ⟨k, _, e⟩ := List.mem_map.1 hb
  rw [if_neg (show ¬ k < 0 by omega), Nat.zero_div] at e
  rw [← e]; rfl
theorem TreeWhole : obollaw16_TreeWhole.Pure := by
  intro l d i hlen hsz hl hd hi
  apply Ev.rounds
  have hl' := zn hl
  have hn : l.length ≤ 17592186044416 := by omega
  have out : ∀ (x : Int) (p : List Int), Ev (fun q => obollaw16_TreeWhole.j0 q l d i true x p true) true := fun x p => Ev.step (fun q => by rw [obollaw16_TreeWhole.j0]) (ModTreeWhole.Ev.pos rfl (ModTreeWhole.Ev.val rfl))
  unfold obollaw16_TreeWhole.f
  refine up_val.bind ?_
  rcases good_or l d with hg | ⟨c, hc⟩
  · obtain ⟨d', rfl⟩ := Int.eq_ofNat_of_zero_le (show 0 ≤ d by have := hg.1; omega)
    have h1 : 1 ≤ d' := by have := hg.1; omega
    have hd' : d' ≤ 16 := by have := hg.2.1; omega
    have h16 := pow16 d' hd'
    have h4 : l.length ≤ 2 ^ d' := by have := hg.2.2.2; rw [Int.toNat_natCast] at this; exact this
    refine (whole_good l d' hn hl' hg).bind ?_
    by_cases ho : i < 0 ∨ ((2 ^ d' : Nat) : Int) ≤ i
    · refine (path_out l d' i hn hl' hg ho).bind ?_
      by_cases h60 : (l.length : Int) > 60
      · exact ModTreeWhole.Ev.pos h60 (out _ _)
      · exact ModTreeWhole.Ev.neg h60 (ModTreeWhole.Ev.pos rfl (ModTreeWhole.Ev.neg (by simp) (out _ _)))
    · obtain ⟨i', rfl⟩ := Int.eq_ofNat_of_zero_le (show 0 ≤ i by omega)
      refine (path_good l d' i' hn hl' hg (by omega)).bind ?_
      by_cases h60 : (l.length : Int) > 60
      · exact ModTreeWhole.Ev.pos h60 (out _ _)
      · refine ModTreeWhole.Ev.neg h60 (ModTreeWhole.Ev.pos rfl (ModTreeWhole.Ev.pos rfl ?_))
        have hgr := grown l (okl_of hl' hg.2.2.1) d' i' h1 hd' h4 (by omega) l.length 0 0 (by omega) rfl
        rw [front0] at hgr
        have hnew := new_ok (d' : Int) (by omega) (by omega)
        rw [show ((d' : Int) + 1).toNat = d' + 1 by omega] at hnew
        refine Ev.step (fun q => by rw [obollaw16_TreeWhole.j0]) (ModTreeWhole.Ev.neg (by simp) (ModTreeWhole.Ev.bindc hnew (ModTreeWhole.Ev.pos rfl ?_)))
        exact hgr
  · refine (whole_bad l d c hn hc).bind ((path_bad l d c i hn hc).bind ?_)
    by_cases h60 : (l.length : Int) > 60
    · exact ModTreeWhole.Ev.pos h60 (out _ _)
    · exact ModTreeWhole.Ev.neg h60 (ModTreeWhole.Ev.neg (by simp) (out _ _))
end Go.Proofs.Ytempibbfdojfiab.Pure
