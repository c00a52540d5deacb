/- For every list of leaves, every depth and every place, obollaw16.TreePaths returns true. No conditions. -/
import Derived.Test.YtempibbfdojfiacLRowsTreePaths
set_option linter.unusedVariables false
namespace Go.Proofs.Ytempibbfdojfiac.Pure
open Go.RowKit Go.Proofs.Ytempibbfdojfiac.PTreePaths Go.Proofs.YtempibbfdojfiacW.PrintWords Go.Proofs.YtempibbfdojfiacW.PrintLast Go.Proofs.YtempibbfdojfiacW.PrintMore Go.Proofs.Ytempibbfdojfiac.Nm Go.Proofs.Ytempibbfdojfiac.ModTreePaths

theorem path_len (l : List Int) (d i : Nat) : (pathL l d i).length = d := by unfold pathL; rw [List.length_map, List.length_range]
theorem held (l : List Int) (hl : okl l) (hn : l.length ≤ 17592186044416) (d i : Nat) (hd : d ≤ 16) (hi : i < 65536) (m : Nat) : ∀ (k : Nat) (kk : Int), k + m = d → kk = k →
    Ev (fun q => obollaw16_TreePaths.l0 q l (d : Int) (i : Int) true (pathL l d i) kk) true := by
  induction m with
  | zero =>
    intro k kk hk hkk
    refine Ev.step (fun q => by rw [obollaw16_TreePaths.l0]) ?_
    exact ModTreePaths.Ev.neg (by omega) (ModTreePaths.Ev.val rfl)
  | succ m ih =>
    intro k kk hk hkk
    have hn' := ih (k + 1) ((k : Int) + 1) (by omega) (by omega)
    have hle : i / 2 ^ k ≤ i := Nat.div_le_self _ _
    have hb := bes_le (i / 2 ^ k)
    have hk16 := pow16 k (by omega)
    have hmul : bes (i / 2 ^ k) * 2 ^ k < 4611686018427387904 := by
      have h1 : bes (i / 2 ^ k) * 2 ^ k ≤ 65537 * 65536 := Nat.mul_le_mul (by omega) hk16
      omega
    have hrd : rd (pathL l d i) (k : Int) = u (nd l k (bes (i / 2 ^ k))) := rd_map _ _ _ (by omega)
    have hr := rat_val l hl hn k (bes (i / 2 ^ k)) ((bes (i / 2 ^ k) : Nat) : Int) (by omega) rfl hmul
    refine Ev.step (fun q => by rw [obollaw16_TreePaths.l0]) ?_
    rw [hkk, show wrap64 ((k : Int) + 1) = (k : Int) + 1 from ModTreePaths.wi _ (by omega) (by omega), shr_nat i k (by omega), ModTreePaths.tmod_pos (Int.natCast_nonneg _), path_len, hrd]
    refine ModTreePaths.Ev.pos (by omega) (ModTreePaths.Ev.pos (by omega) ?_)
    clear hmul hrd
    generalize i / 2 ^ k = y at *
    have hbe : bes (y) = if y % 2 = 1 then y - 1 else y + 1 := rfl
    by_cases h : y % 2 = 1
    · rw [if_pos h] at hbe
      rw [show wrap64 (((y : Nat) : Int) - 1) = ((bes (y) : Nat) : Int) from by rw [ModTreePaths.wi _ (by omega) (by omega), hbe]; omega]
      exact ModTreePaths.Ev.pos (by omega) (ModTreePaths.Ev.pos (by omega) (hr.bind (ModTreePaths.Ev.pos rfl hn')))
    · rw [if_neg h] at hbe
      rw [show wrap64 (((y : Nat) : Int) + 1) = ((bes (y) : Nat) : Int) from by rw [ModTreePaths.wi _ (by omega) (by omega), hbe]; omega]
      exact ModTreePaths.Ev.neg (by omega) (ModTreePaths.Ev.pos (by omega) (hr.bind (ModTreePaths.Ev.pos rfl hn')))
theorem told (l : List Int) (d i : Int) (c : Nat) (h1 : 1 ≤ c) (h2 : c ≤ 15) : Ev (fun q => obollaw16_TreePaths.j1 q l d i true [] (some (c : Int)) (c : Int)) true := by
  refine Ev.step (fun q => by rw [obollaw16_TreePaths.j1]) ?_
  exact ModTreePaths.Ev.neg (by omega) (ModTreePaths.Ev.pos rfl ((code_val c h1 h2).bind (ModTreePaths.Ev.pos rfl (ModTreePaths.Ev.val rfl))))
theorem TreePaths : obollaw16_TreePaths.Pure := by
  intro l d i hlen hsz hl hd hi
  apply Ev.rounds
  have hl' := zn hl
  have hn : l.length ≤ 17592186044416 := by omega
  unfold obollaw16_TreePaths.f
  refine up_val.bind ?_
  by_cases h60 : (l.length : Int) > 60
  · exact ModTreePaths.Ev.pos h60 (ModTreePaths.Ev.val rfl)
  refine ModTreePaths.Ev.neg h60 ?_
  rcases good_or l d with hg | ⟨c, hc⟩
  · obtain ⟨d', rfl⟩ := Int.eq_ofNat_of_zero_le (show 0 ≤ d by have := hg.1; omega)
    have hd' : d' ≤ 16 := by have := hg.2.1; omega
    have h16 := pow16 d' hd'
    have hm := may_good l hn _ hg
    by_cases ho : i < 0 ∨ ((2 ^ d' : Nat) : Int) ≤ i
    · have hp := path_out l d' i hn hl' hg ho
      refine hp.bind (hm.bind (ModTreePaths.Ev.pos rfl ?_))
      dsimp only
      have bad : Ev (fun q => obollaw16_TreePaths.j0 q l (d' : Int) i true [] (some 2) 0 true) true := by
        refine Ev.step (fun q => by rw [obollaw16_TreePaths.j0]) (ModTreePaths.Ev.pos rfl ?_)
        exact told l d' i 2 (by omega) (by omega)
      by_cases h1 : i < 0
      · exact ModTreePaths.Ev.pos h1 bad
      · rw [shl16 d' hd', decide_eq_true (show i ≥ ((2 ^ d' : Nat) : Int) by omega)]
        exact ModTreePaths.Ev.neg h1 (ModTreePaths.Ev.pos (by omega) bad)
    · obtain ⟨i', rfl⟩ := Int.eq_ofNat_of_zero_le (show 0 ≤ i by omega)
      have hp := path_good l d' i' hn hl' hg (by omega)
      have hh := held l (okl_of hl' hg.2.2.1) hn d' i' hd' (by omega) d' 0 0 (by omega) rfl
      refine hp.bind (hm.bind (ModTreePaths.Ev.pos rfl ?_))
      dsimp only
      rw [shl16 d' hd', decide_eq_false (show ¬ (i' : Int) ≥ ((2 ^ d' : Nat) : Int) by omega)]
      refine ModTreePaths.Ev.neg (by omega) (ModTreePaths.Ev.pos (by omega) ?_)
      refine Ev.step (fun q => by rw [obollaw16_TreePaths.j0]) (ModTreePaths.Ev.neg (by simp) ?_)
      refine Ev.step (fun q => by rw [obollaw16_TreePaths.j1]) ?_
      rw [path_len, show ((d' : Int) != (d' : Int)) = false from bne_self_eq_false _]
      refine ModTreePaths.Ev.pos rfl (ModTreePaths.Ev.pos rfl ?_)
      refine Ev.step (fun q => by rw [obollaw16_TreePaths.j2]) (ModTreePaths.Ev.neg (by simp) hh)
  · have hm := may_amiss l hn d c hc
    have hp := path_bad l d c i hn hc
    have hcc : c = 1 ∨ c = 11 := by rcases hc with h | h <;> omega
    refine hp.bind (hm.bind ?_)
    dsimp only
    rcases hcc with rfl | rfl
    · refine ModTreePaths.Ev.neg (by omega) (Ev.step (fun q => by rw [obollaw16_TreePaths.j0]) (ModTreePaths.Ev.neg (by simp) ?_))
      exact told l d i 1 (by omega) (by omega)
    · refine ModTreePaths.Ev.neg (by omega) (Ev.step (fun q => by rw [obollaw16_TreePaths.j0]) (ModTreePaths.Ev.neg (by simp) ?_))
      exact told l d i 11 (by omega) (by omega)
end Go.Proofs.Ytempibbfdojfiac.Pure
