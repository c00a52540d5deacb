/- For every tree, list of leaves and depth, obollaw16.TreeStays returns true. No conditions. -/
import Derived.Test.YtempibbfdojfiaaLSndTreeStays
import Derived.Test.YtempibbfdojfiaaLRowsTreeStays
set_option linter.unusedVariables false
namespace Go.Proofs.Ytempibbfdojfiaa.Pure
open Go.RowKit Go.Proofs.Ytempibbfdojfiaa.PTreeStays Go.Proofs.YtempibbfdojfiaaW.PrintWords Go.Proofs.YtempibbfdojfiaaW.PrintLast Go.Proofs.YtempibbfdojfiaaW.PrintMore Go.Proofs.Ytempibbfdojfiaa.Nm Go.Proofs.Ytempibbfdojfiaa.ModTreeStays

theorem app_some (d c : Nat) (hd : d ≤ 16) (hc : c < 2 ^ d) (f : List Int) (c1 : Int) (m : Nat) : ∀ (i : Nat) (ii h : Int) (out : List Int), i + m = d → ii = i → 0 ≤ h → out.length = d + 1 → (∀ x ∈ out, 0 ≤ x ∧ x < 18446744073709551616) →
    ∃ G : List Int, G.length = d + 1 ∧ Ev (fun k => tree_Append.l0 k h ii (d : Int) (c : Int) f (d : Int) c1 out) ((d : Int), c1, G, none) := by
  have h16 := pow16 d hd
  have stop : ∀ (i : Nat) (ii h : Int) (out : List Int), i ≤ d → ii = i → out.length = d + 1 → bit c i = 0 → ∃ G : List Int, G.length = d + 1 ∧ Ev (fun k => tree_Append.l0 k h ii (d : Int) (c : Int) f (d : Int) c1 out) ((d : Int), c1, G, none) := by
    intro i ii h out hi hii ho hb
    refine ⟨out.set i h, by rw [List.length_set]; exact ho, Ev.step (fun k => by rw [tree_Append.l0]) ?_⟩
    rw [hii, bit_val c i (by omega) (by omega), Int.toNat_natCast]
    exact ModTreeStays.Ev.pos (by omega) (ModTreeStays.Ev.neg (by omega) (ModTreeStays.Ev.pos (by omega) (ModTreeStays.Ev.val rfl)))
  induction m with
  | zero =>
    intro i ii h out hi hii hh ho hx
    refine stop i ii h out (by omega) hii ho ?_
    unfold bit
    rw [show i = d by omega, Nat.div_eq_of_lt hc]
  | succ m ih =>
    intro i ii h out hi hii hh ho hx
    by_cases hb : bit c i = 1
    · have hr := rd_lim hx (i := (i : Int)) (by omega) (by omega)
      obtain ⟨G, hG, g⟩ := ih (i + 1) ((i : Int) + 1) (u (twoF (z (rd out (i : Int))) (z h))) (out.set i 0) (by omega) (by omega) (uF0 _) (by rw [List.length_set]; exact ho) (by
        intro x hm
        rcases List.mem_or_eq_of_mem_set hm with h1 | h1
        · exact hx x h1
        · omega)
      refine ⟨G, hG, Ev.step (fun k => by rw [tree_Append.l0]) ?_⟩
      rw [hii, bit_val c i (by omega) (by omega), Int.toNat_natCast, show wrap64 ((i : Int) + 1) = (i : Int) + 1 from ModTreeStays.wi _ (by omega) (by omega)]
      exact ModTreeStays.Ev.pos (by omega) (ModTreeStays.Ev.pos (by omega) (ModTreeStays.Ev.pos (by omega) ((two_val _ _ hr.1 hh).bind g)))
    · exact stop i ii h out (by omega) hii ho (by unfold bit at hb ⊢; omega)
theorem clone_val (f : List Int) (h : f.length ≤ 100) : slices_Clone_uint64_uint64.f f = some f := by
  unfold slices_Clone_uint64_uint64.f
  simp only [Option.bind_some]
  rw [if_pos (by simp only [List.length_nil]; omega)]; rfl
theorem append_any (d c : Int) (f : List Int) (hf : ∀ x ∈ f, 0 ≤ x ∧ x < 18446744073709551616) : ∃ (r1 r2 : Int) (G : List Int) (e : Option Int), G.length ≤ 100 ∧ Ev (fun k => tree_Append.f k d c f 5) (r1, r2, G, e) := by
  by_cases hs : Sound d c f
  · have hck := check_sound d c f hs
    obtain ⟨h1, h2, h3, h4, h5, h6⟩ := hs
    obtain ⟨d', rfl⟩ := Int.eq_ofNat_of_zero_le (show 0 ≤ d by omega)
    obtain ⟨c', rfl⟩ := Int.eq_ofNat_of_zero_le h3
    rw [Int.toNat_natCast] at h4
    have h16 := pow16 d' (by omega)
    by_cases hfull : c' = 2 ^ d'
    · refine ⟨0, 0, [], some 11, by simp, ?_⟩
      unfold tree_Append.f
      rw [shl16 d' (by omega)]
      exact hck.bind (ModTreeStays.Ev.pos rfl (ModTreeStays.Ev.neg (by omega) (ModTreeStays.Ev.pos (by omega) (ModTreeStays.Ev.pos (by omega) (ModTreeStays.Ev.val rfl)))))
    · obtain ⟨G, hG, g⟩ := app_some d' c' (by omega) (by omega) f (wrap64 ((c' : Int) + 1)) d' 0 0 5 f (by omega) rfl (by omega) (by omega) hf
      refine ⟨(d' : Int), wrap64 ((c' : Int) + 1), G, none, by omega, ?_⟩
      unfold tree_Append.f
      rw [shl16 d' (by omega)]
      exact hck.bind (ModTreeStays.Ev.pos rfl (ModTreeStays.Ev.neg (by omega) (ModTreeStays.Ev.pos (by omega) (ModTreeStays.Ev.neg (by omega) (ModTreeStays.Ev.bindc (clone_val f (by omega)) g)))))
  · refine ⟨0, 0, [], some 3, by simp, ?_⟩
    unfold tree_Append.f
    exact (check_bad d c f hs).bind (ModTreeStays.Ev.neg (by simp) (ModTreeStays.Ev.val rfl))
theorem path_any (l : List Int) (d : Int) (hn : l.length ≤ 17592186044416) (hl : ∀ x ∈ l, 0 ≤ x ∧ x < 18446744073709551616) : ∃ (p : List Int) (e : Option Int), p.length ≤ 100 ∧ Ev (fun k => tree_Path.f k l d 0) (p, e) := by
  rcases good_or l d with hg | ⟨c, hc⟩
  · obtain ⟨d', rfl⟩ := Int.eq_ofNat_of_zero_le (show 0 ≤ d by have := hg.1; omega)
    refine ⟨pathL l d' 0, none, ?_, path_good l d' 0 hn hl hg (Nat.pow_pos (by omega))⟩
    have := hg.2.1
    unfold pathL
    rw [List.length_map, List.length_range]; omega
  · exact ⟨[], some c, by simp, path_bad l d c 0 hn hc⟩
theorem loop1 (l f : List Int) (hl : l.length ≤ 9223372036854775806) (hf : f.length ≤ 9223372036854775806) (a b : Int) (m : Nat) : ∀ (i : Nat) (ii : Int) (p : List Int), p.length ≤ 1000 → i + m = p.length → ii = i →
    Ev (fun k => obollaw16_TreeStays.l1 k l true f l p ii a b f) true := by
  induction m with
  | zero =>
    intro i ii p hp hi hii
    refine Ev.step (fun k => by rw [obollaw16_TreeStays.l1]) ?_
    exact ModTreeStays.Ev.neg (by omega) (ModTreeStays.Ev.pos rfl ((same_val f f hf rfl).bind (ModTreeStays.Ev.pos rfl (ModTreeStays.Ev.tail (same_val l l hl rfl)))))
  | succ m ih =>
    intro i ii p hp hi hii
    have hn := ih (i + 1) ((i : Int) + 1) (p.set i 9) (by rw [List.length_set]; omega) (by rw [List.length_set]; omega) (by omega)
    refine Ev.step (fun k => by rw [obollaw16_TreeStays.l1]) ?_
    rw [hii, Int.toNat_natCast, show wrap64 ((i : Int) + 1) = (i : Int) + 1 from ModTreeStays.wi _ (by omega) (by omega)]
    exact ModTreeStays.Ev.pos (by omega) (ModTreeStays.Ev.pos (by omega) hn)
theorem loop0 (l f : List Int) (hn : l.length ≤ 17592186044416) (hf : f.length ≤ 9223372036854775806) (hl : ∀ x ∈ l, 0 ≤ x ∧ x < 18446744073709551616) (d a b r1 r2 : Int) (m : Nat) : ∀ (i : Nat) (ii : Int) (p : List Int), p.length ≤ 1000 → i + m = p.length → ii = i →
    Ev (fun k => obollaw16_TreeStays.l0 k l d true f l ii a b f r1 r2 p) true := by
  obtain ⟨q, e, hq, hp⟩ := path_any l d hn hl
  induction m with
  | zero =>
    intro i ii p hpl hi hii
    refine Ev.step (fun k => by rw [obollaw16_TreeStays.l0]) ?_
    exact ModTreeStays.Ev.neg (by omega) (hp.bind (loop1 l f (by omega) hf a b q.length 0 0 q (by omega) (by omega) rfl))
  | succ m ih =>
    intro i ii p hpl hi hii
    have hn' := ih (i + 1) ((i : Int) + 1) (p.set i 9) (by rw [List.length_set]; omega) (by rw [List.length_set]; omega) (by omega)
    refine Ev.step (fun k => by rw [obollaw16_TreeStays.l0]) ?_
    rw [hii, Int.toNat_natCast, show wrap64 ((i : Int) + 1) = (i : Int) + 1 from ModTreeStays.wi _ (by omega) (by omega)]
    exact ModTreeStays.Ev.pos (by omega) (ModTreeStays.Ev.pos (by omega) hn')
theorem TreeStays : obollaw16_TreeStays.Pure := by
  intro d c f l dep hd hc hlen hsz hf hlen2 hsz2 hl hdep
  apply Ev.rounds
  have hf' := zn hf
  have hl' := zn hl
  have out : Ev (fun k => obollaw16_TreeStays.j0 k l dep true true d c f) true := Ev.step (fun k => by rw [obollaw16_TreeStays.j0]) (ModTreeStays.Ev.pos rfl (ModTreeStays.Ev.val rfl))
  unfold obollaw16_TreeStays.f
  refine up_val.bind ?_
  by_cases h100 : (f.length : Int) > 100
  · exact ModTreeStays.Ev.pos h100 out
  refine ModTreeStays.Ev.neg h100 ?_
  by_cases h60 : (l.length : Int) > 60
  · rw [decide_eq_true h60]; exact out
  rw [decide_eq_false h60]
  obtain ⟨r1, r2, G, e, hG, ha⟩ := append_any d c f hf'
  obtain ⟨q, e2, hq, hp⟩ := path_any l dep (by omega) hl'
  refine Ev.step (fun k => by rw [obollaw16_TreeStays.j0]) (ModTreeStays.Ev.neg (by simp) ?_)
  refine ModTreeStays.Ev.bindc rfl (ModTreeStays.Ev.pos (by simp only [List.length_nil]; omega) (ModTreeStays.Ev.bindc rfl (ModTreeStays.Ev.bindc rfl (ModTreeStays.Ev.pos (by simp only [List.length_nil]; omega) (ModTreeStays.Ev.bindc rfl ?_)))))
  rw [List.nil_append, List.nil_append]
  refine ha.bind ?_
  cases e with
  | none => exact ModTreeStays.Ev.pos rfl (loop0 l f (by omega) (by omega) hl' dep d c r1 r2 G.length 0 0 G (by omega) (by omega) rfl)
  | some x => exact ModTreeStays.Ev.neg (by simp) (hp.bind (loop1 l f (by omega) (by omega) d c q.length 0 0 q (by omega) (by omega) rfl))
end Go.Proofs.Ytempibbfdojfiaa.Pure
