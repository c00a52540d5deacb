/- For every tree and leaf, obollaw16.TreeGrows returns true. No conditions. -/
import Derived.Test.YtempibbfdojfiacLGrowTreeGrows
set_option linter.unusedVariables false
namespace Go.Proofs.Ytempibbfdojfiac.Pure
open Go.RowKit Go.Proofs.Ytempibbfdojfiac.PTreeGrows Go.Proofs.YtempibbfdojfiacW.PrintWords Go.Proofs.YtempibbfdojfiacW.PrintLast Go.Proofs.YtempibbfdojfiacW.PrintMore Go.Proofs.Ytempibbfdojfiac.Nm Go.Proofs.Ytempibbfdojfiac.ModTreeGrows

theorem append_bad (d c : Int) (f : List Int) (leaf : Int) (h : ¬ Sound d c f) : Ev (fun k => tree_Append.f k d c f leaf) (0, 0, [], some 3) := by
  unfold tree_Append.f
  exact (check_bad d c f h).bind (ModTreeGrows.Ev.neg (by simp) (ModTreeGrows.Ev.val rfl))
theorem clone_val (f : List Int) (h : f.length ≤ 100) : slices_Clone_uint64_uint64.f f = some f := by
  unfold slices_Clone_uint64_uint64.f
  simp only [Option.bind_some]
  rw [if_pos (by simp only [List.length_nil]; omega)]; rfl
theorem TreeGrows : obollaw16_TreeGrows.Pure := by
  intro d c f leaf hd hc hlen hsz hf hleaf
  apply Ev.rounds
  have hf' := zn hf
  have hl' := (bd64 hleaf).1
  unfold obollaw16_TreeGrows.f
  refine up_val.bind ?_
  by_cases h100 : (f.length : Int) > 100
  · exact ModTreeGrows.Ev.pos h100 (ModTreeGrows.Ev.val rfl)
  refine ModTreeGrows.Ev.neg h100 ?_
  by_cases hs : ¬ Sound d c f
  · refine (append_bad d c f leaf hs).bind ((root_bad d c f hs).bind ((rcheck_val d c f false ⟨fun h => (by cases h), fun h => absurd h hs⟩).bind ?_))
    refine ModTreeGrows.Ev.neg (by simp) (ModTreeGrows.Ev.pos rfl (ModTreeGrows.Ev.neg (by simp) (ModTreeGrows.Ev.pos rfl (ModTreeGrows.Ev.neg (by simp) (ModTreeGrows.Ev.pos rfl (ModTreeGrows.Ev.pos rfl ?_))))))
    exact ModTreeGrows.Ev.tail (tsame_val 0 0 [] [] (by simp) rfl)
  have hs2 : Sound d c f := Classical.not_not.1 hs
  obtain ⟨d', rfl⟩ := Int.eq_ofNat_of_zero_le (show 0 ≤ d by have := hs2.1; omega)
  obtain ⟨c', rfl⟩ := Int.eq_ofNat_of_zero_le hs2.2.2.1
  have hck := check_sound _ _ f hs2
  have hroot := root_sound d' c' f hs2 hf'
  have hrroot := rroot_sound d' c' f hs2 hf'
  have hrck := rcheck_val (d' : Int) (c' : Int) f true ⟨fun _ => hs2, fun _ => rfl⟩
  obtain ⟨h1, h2, h3, h4, h5, h6⟩ := hs2
  rw [Int.toNat_natCast] at h4
  have h16 := pow16 d' (by omega)
  have hne : (rootI d' c' f != rootI d' c' f) = false := bne_self_eq_false _
  by_cases hR : leaf ≥ 288230376287764481
  · have happ : Ev (fun k => tree_Append.f k (d' : Int) (c' : Int) f leaf) (0, 0, [], some 1) := by
      unfold tree_Append.f
      exact hck.bind (ModTreeGrows.Ev.pos rfl (ModTreeGrows.Ev.pos hR (ModTreeGrows.Ev.val rfl)))
    refine happ.bind (hroot.bind (hrck.bind (ModTreeGrows.Ev.pos rfl (ModTreeGrows.Ev.pos rfl (hrroot.bind ?_)))))
    rw [hne]
    refine Ev.step (fun k => by rw [obollaw16_TreeGrows.j0]) ?_
    exact ModTreeGrows.Ev.neg (by simp) (ModTreeGrows.Ev.pos hR (ModTreeGrows.Ev.pos rfl (ModTreeGrows.Ev.neg (by simp) (ModTreeGrows.Ev.pos rfl (ModTreeGrows.Ev.tail (tsame_val 0 0 [] [] (by simp) rfl))))))
  by_cases hfull : c' = 2 ^ d'
  · have happ : Ev (fun k => tree_Append.f k (d' : Int) (c' : Int) f leaf) (0, 0, [], some 11) := by
      unfold tree_Append.f
      rw [shl16 d' (by omega)]
      exact hck.bind (ModTreeGrows.Ev.pos rfl (ModTreeGrows.Ev.neg hR (ModTreeGrows.Ev.pos (by omega) (ModTreeGrows.Ev.pos (by omega) (ModTreeGrows.Ev.val rfl)))))
    refine happ.bind (hroot.bind (hrck.bind (ModTreeGrows.Ev.pos rfl (ModTreeGrows.Ev.pos rfl (hrroot.bind ?_)))))
    rw [hne]
    refine Ev.step (fun k => by rw [obollaw16_TreeGrows.j0]) ?_
    rw [shl16 d' (by omega)]
    exact ModTreeGrows.Ev.neg (by simp) (ModTreeGrows.Ev.neg hR (ModTreeGrows.Ev.pos (by omega) (ModTreeGrows.Ev.pos (by omega) (ModTreeGrows.Ev.pos rfl (ModTreeGrows.Ev.neg (by simp) (ModTreeGrows.Ev.pos rfl (ModTreeGrows.Ev.tail (tsame_val 0 0 [] [] (by simp) rfl))))))))
  · obtain ⟨G, hG, g1, g2⟩ := app_both d' c' (by omega) (by omega) f (by omega) hf' (wrap64 ((c' : Int) + 1)) d' 0 leaf (by omega) hl'
    rw [List.replicate_zero, List.nil_append, List.drop_zero] at g1
    rw [Nat.pow_zero, Nat.div_one, List.replicate_zero] at g2
    have happ : Ev (fun k => tree_Append.f k (d' : Int) (c' : Int) f leaf) ((d' : Int), wrap64 ((c' : Int) + 1), G, none) := by
      unfold tree_Append.f
      rw [shl16 d' (by omega)]
      exact hck.bind (ModTreeGrows.Ev.pos rfl (ModTreeGrows.Ev.neg hR (ModTreeGrows.Ev.pos (by omega) (ModTreeGrows.Ev.neg (by omega) (ModTreeGrows.Ev.bindc (clone_val f (by omega)) g1)))))
    have hrapp : Ev (fun k => obolref16_Append.f k (d' : Int) (c' : Int) f leaf) ((d' : Int), wrap64 ((c' : Int) + 1), G) := by
      unfold obolref16_Append.f
      exact g2
    refine happ.bind (hroot.bind (hrck.bind (ModTreeGrows.Ev.pos rfl (ModTreeGrows.Ev.pos rfl (hrroot.bind ?_)))))
    rw [hne]
    refine Ev.step (fun k => by rw [obollaw16_TreeGrows.j0]) ?_
    rw [shl16 d' (by omega)]
    refine ModTreeGrows.Ev.neg (by simp) (ModTreeGrows.Ev.neg hR (ModTreeGrows.Ev.pos (by omega) (ModTreeGrows.Ev.neg (by omega) (ModTreeGrows.Ev.pos rfl (ModTreeGrows.Ev.pos rfl (hrapp.bind ?_))))))
    exact ModTreeGrows.Ev.tail (tsame_val _ _ G G (by omega) rfl)
end Go.Proofs.Ytempibbfdojfiac.Pure
