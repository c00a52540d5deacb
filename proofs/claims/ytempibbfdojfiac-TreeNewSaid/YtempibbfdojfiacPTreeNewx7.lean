-- printed by a program of this session (wip/tools/mkprint.py)
import Derived.Test.YtempibbfdojfiacPTreeNewx0
import Derived.Test.YtempibbfdojfiacPTreeNewx1
import Derived.Test.YtempibbfdojfiacPTreeNewx5
import Derived.Test.YtempibbfdojfiacPTreeNewx6
namespace Go.Proofs.Ytempibbfdojfiac.PTreeNew
open Go.RowKit Go.Proofs.YtempibbfdojfiacW.PrintWords Go.Proofs.YtempibbfdojfiacW.PrintLast Go.Proofs.YtempibbfdojfiacW.PrintMore
attribute [local go_sem] max2_int min2_int max_two min_two max_three min_three max_four min_four   -- for this text's walks alone
set_option linter.unusedVariables false
set_option linter.unusedSimpArgs false

attribute [local go_sem high] errCmp_eql errCmp_neq errCmpL_eql errCmpL_neq
/-! ### obollaw16_TreeNew: function 6 -/
mutual
def obollaw16_TreeNew.j0 : Nat → Int → Bool → Option Int → Option Int → Bool → Int → Int → List Int → Option (Bool)
  | 0, _, _, _, _, _, _, _, _ => none
  | k + 1, x0, x5, x7, x8, x9, x208000, x208001, x208002 => if x8.isNone = true then (if (x9 != true) = true then (obollaw16_TreeNew.j1 k x0 x5 x7 true x208000 x208001 x208002) else (if x9 = true then (obollaw16_TreeNew.j1 k x0 x5 x7 false x208000 x208001 x208002) else (obollaw16_TreeNew.j1 k x0 x5 x7 true x208000 x208001 x208002))) else (if (x9 != false) = true then (obollaw16_TreeNew.j1 k x0 x5 x7 true x208000 x208001 x208002) else (if x9 = true then (obollaw16_TreeNew.j1 k x0 x5 x7 false x208000 x208001 x208002) else (obollaw16_TreeNew.j1 k x0 x5 x7 ((x8.getD 0) != 3) x208000 x208001 x208002)))
def obollaw16_TreeNew.j1 : Nat → Int → Bool → Option Int → Bool → Int → Int → List Int → Option (Bool)
  | 0, _, _, _, _, _, _, _ => none
  | k + 1, x0, x5, x7, x38, x208000, x208001, x208002 => if x38 = true then (none) else (if x0 < 1 then (obollaw16_TreeNew.j2 k x0 x5 x7 true x208000 x208001 x208002) else (obollaw16_TreeNew.j2 k x0 x5 x7 (decide (x0 > 16)) x208000 x208001 x208002))
def obollaw16_TreeNew.j2 : Nat → Int → Bool → Option Int → Bool → Int → Int → List Int → Option (Bool)
  | 0, _, _, _, _, _, _, _ => none
  | k + 1, x0, x5, x7, x44, x208000, x208001, x208002 => if x44 = true then (if x5 = true then (if x7.isNone = true then (none) else (if (x7.getD 0) = 1 then ((obollaw16_same.f k x208000 x208001 x208002 0 0 ([] : List Int)).bind fun t212 => (some t212)) else (none))) else (none)) else (if x5 = true then (if x7.isNone = true then (if 0 ≤ (wrap64 (x0 + 1)) then (if (wrap64 (x0 + 1) : Int).toNat ≤ 35184372088832 then ((obollaw16_same.f k x208000 x208001 x208002 x0 0 (List.replicate (wrap64 (x0 + 1) : Int).toNat 0)).bind fun t217 => (some t217)) else (none)) else (none)) else (none)) else (none))
end
def obollaw16_TreeNew.f (k : Nat) (a0 : Int) (a1_0 : Int) (a1_1 : Int) (l1_2 : List Int) : Option (Bool) := (obollaw16_up.f k).bind fun t200 => ((tree_New.f a0).bind fun bt201 => ((tree_Check.f k a1_0 a1_1 l1_2).bind fun t208 => (if (l1_2.length : Int) ≤ 100 then ((obolref16_Check.f k a1_0 a1_1 l1_2).bind fun t209 => (obollaw16_TreeNew.j0 k a0 t200 bt201.2.2.2 t208 t209 bt201.1 bt201.2.1 bt201.2.2.1)) else (obollaw16_TreeNew.j0 k a0 t200 bt201.2.2.2 t208 false bt201.1 bt201.2.1 bt201.2.2.1))))
theorem obollaw16_TreeNew.mono_l : ∀ k, (∀ y0 y1 y2 y3 y4 y5 y6 y7, LeO (obollaw16_TreeNew.j0 k y0 y1 y2 y3 y4 y5 y6 y7) (obollaw16_TreeNew.j0 (k + 1) y0 y1 y2 y3 y4 y5 y6 y7)) ∧ (∀ y0 y1 y2 y3 y4 y5 y6, LeO (obollaw16_TreeNew.j1 k y0 y1 y2 y3 y4 y5 y6) (obollaw16_TreeNew.j1 (k + 1) y0 y1 y2 y3 y4 y5 y6)) ∧ (∀ y0 y1 y2 y3 y4 y5 y6, LeO (obollaw16_TreeNew.j2 k y0 y1 y2 y3 y4 y5 y6) (obollaw16_TreeNew.j2 (k + 1) y0 y1 y2 y3 y4 y5 y6))
  | 0 => ⟨fun _ _ _ _ _ _ _ _ r h => by simp [obollaw16_TreeNew.j0] at h, fun _ _ _ _ _ _ _ r h => by simp [obollaw16_TreeNew.j1] at h, fun _ _ _ _ _ _ _ r h => by simp [obollaw16_TreeNew.j2] at h⟩
  | k + 1 => by
    obtain ⟨ih0, ih1, ih2⟩ := obollaw16_TreeNew.mono_l k
    refine ⟨?_, ?_, ?_⟩
    · intro y0 y1 y2 y3 y4 y5 y6 y7
      unfold obollaw16_TreeNew.j0
      repeat' first
      | (with_reducible exact ih0 _ _ _ _ _ _ _ _)
      | (with_reducible exact ih1 _ _ _ _ _ _ _)
      | (with_reducible exact ih2 _ _ _ _ _ _ _)
      | (with_reducible exact obollaw16_same.mono _ _ _ _ _ _ _)
      | (with_reducible exact obollaw16_up.mono _)
      | (with_reducible exact obolref16_Check.mono _ _ _ _)
      | (with_reducible exact tree_Check.mono _ _ _ _)
      | (with_reducible exact LeO.refl _)
      | (with_reducible exact LeO.none _)
      | (with_reducible refine LeO.ite ?_ ?_)
      | (with_reducible refine LeO.bind ?_ (fun _ => ?_))
      | exact ih0 _ _ _ _ _ _ _ _
      | exact ih1 _ _ _ _ _ _ _
      | exact ih2 _ _ _ _ _ _ _
      | exact obollaw16_same.mono _ _ _ _ _ _ _
      | exact obollaw16_up.mono _
      | exact obolref16_Check.mono _ _ _ _
      | exact tree_Check.mono _ _ _ _
      | exact LeO.none _
      | refine LeO.ite ?_ ?_
      | refine LeO.bind ?_ (fun _ => ?_)
    · intro y0 y1 y2 y3 y4 y5 y6
      unfold obollaw16_TreeNew.j1
      repeat' first
      | (with_reducible exact ih0 _ _ _ _ _ _ _ _)
      | (with_reducible exact ih1 _ _ _ _ _ _ _)
      | (with_reducible exact ih2 _ _ _ _ _ _ _)
      | (with_reducible exact obollaw16_same.mono _ _ _ _ _ _ _)
      | (with_reducible exact obollaw16_up.mono _)
      | (with_reducible exact obolref16_Check.mono _ _ _ _)
      | (with_reducible exact tree_Check.mono _ _ _ _)
      | (with_reducible exact LeO.refl _)
      | (with_reducible exact LeO.none _)
      | (with_reducible refine LeO.ite ?_ ?_)
      | (with_reducible refine LeO.bind ?_ (fun _ => ?_))
      | exact ih0 _ _ _ _ _ _ _ _
      | exact ih1 _ _ _ _ _ _ _
      | exact ih2 _ _ _ _ _ _ _
      | exact obollaw16_same.mono _ _ _ _ _ _ _
      | exact obollaw16_up.mono _
      | exact obolref16_Check.mono _ _ _ _
      | exact tree_Check.mono _ _ _ _
      | exact LeO.none _
      | refine LeO.ite ?_ ?_
      | refine LeO.bind ?_ (fun _ => ?_)
    · intro y0 y1 y2 y3 y4 y5 y6
      unfold obollaw16_TreeNew.j2
      repeat' first
      | (with_reducible exact ih0 _ _ _ _ _ _ _ _)
      | (with_reducible exact ih1 _ _ _ _ _ _ _)
      | (with_reducible exact ih2 _ _ _ _ _ _ _)
      | (with_reducible exact obollaw16_same.mono _ _ _ _ _ _ _)
      | (with_reducible exact obollaw16_up.mono _)
      | (with_reducible exact obolref16_Check.mono _ _ _ _)
      | (with_reducible exact tree_Check.mono _ _ _ _)
      | (with_reducible exact LeO.refl _)
      | (with_reducible exact LeO.none _)
      | (with_reducible refine LeO.ite ?_ ?_)
      | (with_reducible refine LeO.bind ?_ (fun _ => ?_))
      | exact ih0 _ _ _ _ _ _ _ _
      | exact ih1 _ _ _ _ _ _ _
      | exact ih2 _ _ _ _ _ _ _
      | exact obollaw16_same.mono _ _ _ _ _ _ _
      | exact obollaw16_up.mono _
      | exact obolref16_Check.mono _ _ _ _
      | exact tree_Check.mono _ _ _ _
      | exact LeO.none _
      | refine LeO.ite ?_ ?_
      | refine LeO.bind ?_ (fun _ => ?_)
theorem obollaw16_TreeNew.mono : ∀ a0 a1 a2 a3 k, LeO (obollaw16_TreeNew.f k a0 a1 a2 a3) (obollaw16_TreeNew.f (k + 1) a0 a1 a2 a3) := by
  intro a0 a1 a2 a3 k
  obtain ⟨ih0, ih1, ih2⟩ := obollaw16_TreeNew.mono_l k
  unfold obollaw16_TreeNew.f
  repeat' first
      | (with_reducible exact ih0 _ _ _ _ _ _ _ _)
      | (with_reducible exact ih1 _ _ _ _ _ _ _)
      | (with_reducible exact ih2 _ _ _ _ _ _ _)
      | (with_reducible exact obollaw16_same.mono _ _ _ _ _ _ _)
      | (with_reducible exact obollaw16_up.mono _)
      | (with_reducible exact obolref16_Check.mono _ _ _ _)
      | (with_reducible exact tree_Check.mono _ _ _ _)
      | (with_reducible exact LeO.refl _)
      | (with_reducible exact LeO.none _)
      | (with_reducible refine LeO.ite ?_ ?_)
      | (with_reducible refine LeO.bind ?_ (fun _ => ?_))
      | exact ih0 _ _ _ _ _ _ _ _
      | exact ih1 _ _ _ _ _ _ _
      | exact ih2 _ _ _ _ _ _ _
      | exact obollaw16_same.mono _ _ _ _ _ _ _
      | exact obollaw16_up.mono _
      | exact obolref16_Check.mono _ _ _ _
      | exact tree_Check.mono _ _ _ _
      | exact LeO.none _
      | refine LeO.ite ?_ ?_
      | refine LeO.bind ?_ (fun _ => ?_)
def obollaw16_TreeNew.T9 : Bool × List (List Nat × List Nat) := (true, [([], []), ([0], [0]), ([1], [1]), ([2, 1], [1, 2]), ([1, 3], [1, 3]), ([4, 1], [4]), ([5], [5]), ([5], [5]), ([5], [5]), ([8, 5], [5, 8]), ([9, 9, 5], [5, 9]), ([7, 10, 5], [5, 7, 10]), ([6, 11, 5, 5], [5, 6, 11]), ([5, 12], [5, 12]), ([13, 12, 0, 1, 2, 3, 4, 5, 6, 7, 8, 9, 10, 11, 12, 13], [13])])
def obollaw16_TreeNew.B9 : List Nat := [0, 1, 3, 7, 15, 31, 63, 63, 63, 319, 831, 1983, 4095, 8191, 16383]
theorem obollaw16_TreeNew.tab9 : rtab .any (opsOf Try.f6 9) = obollaw16_TreeNew.T9 := by kernel_rfl
theorem obollaw16_TreeNew.bits9 : waitsOk obollaw16_TreeNew.T9.2 obollaw16_TreeNew.B9 = true := by kernel_rfl
set_option maxHeartbeats 8000000 in
set_option maxRecDepth 100000 in
theorem obollaw16_TreeNew.calls (k : Nat) (a0 : Int) (a1_0 : Int) (a1_1 : Int) (A1_2 : Option Addr) (c1_2 : Nat) (l1_2 : List Int) (r : Bool) (w : World) (hr1_2 : Kd.C (Kd.int .u64) w A1_2 l1_2.length l1_2) (hc1_2 : l1_2.length ≤ c1_2) (h : obollaw16_TreeNew.f k a0 a1_0 a1_1 l1_2 = some r) :
    Calls Try.prog 6 #[.int .i64 a0, .agg #[.int .i64 a1_0, .int .i64 a1_1, .slice A1_2 l1_2.length c1_2]] w fun e w' => e = .returned (.bool r) ∧ Below w.heap.size w w' := by
  have hu44 := Try.underlying44
  have hu25 := Try.underlying25
  have hu28 := Try.underlying28
  have HR1_2 := Aside0.mk hr1_2
  have HC1_2 := Aside0.mk hc1_2
  clear hr1_2 hc1_2
  have HB := Aside0.mk (Below.refl w.heap.size w)
  have H : ((obollaw16_up.f k).bind fun t200 => ((tree_New.f a0).bind fun bt201 => ((tree_Check.f k a1_0 a1_1 l1_2).bind fun t208 => (if (l1_2.length : Int) ≤ 100 then ((obolref16_Check.f k a1_0 a1_1 l1_2).bind fun t209 => (obollaw16_TreeNew.j0 k a0 t200 bt201.2.2.2 t208 t209 bt201.1 bt201.2.1 bt201.2.2.1)) else (obollaw16_TreeNew.j0 k a0 t200 bt201.2.2.2 t208 false bt201.1 bt201.2.1 bt201.2.2.1))))) = some r := h
  clear h
  replace H := Option.bind_eq_some_iff.mp H
  obtain ⟨t200, A30, H⟩ := H
  replace H : ((tree_New.f a0).bind fun bt201 => ((tree_Check.f k a1_0 a1_1 l1_2).bind fun t208 => (if (l1_2.length : Int) ≤ 100 then ((obolref16_Check.f k a1_0 a1_1 l1_2).bind fun t209 => (obollaw16_TreeNew.j0 k a0 t200 bt201.2.2.2 t208 t209 bt201.1 bt201.2.1 bt201.2.2.1)) else (obollaw16_TreeNew.j0 k a0 t200 bt201.2.2.2 t208 false bt201.1 bt201.2.1 bt201.2.2.1)))) = some r := H
  have A3 := Aside0.mk A30
  clear A30
  replace H := Option.bind_eq_some_iff.mp H
  obtain ⟨⟨t201, t202, t203, t206⟩, A40, H⟩ := H
  replace H : ((tree_Check.f k a1_0 a1_1 l1_2).bind fun t208 => (if (l1_2.length : Int) ≤ 100 then ((obolref16_Check.f k a1_0 a1_1 l1_2).bind fun t209 => (obollaw16_TreeNew.j0 k a0 t200 t206 t208 t209 t201 t202 t203)) else (obollaw16_TreeNew.j0 k a0 t200 t206 t208 false t201 t202 t203))) = some r := H
  have A4 := Aside0.mk A40
  clear A40
  replace H := Option.bind_eq_some_iff.mp H
  obtain ⟨t208, A50, H⟩ := H
  replace H : (if (l1_2.length : Int) ≤ 100 then ((obolref16_Check.f k a1_0 a1_1 l1_2).bind fun t209 => (obollaw16_TreeNew.j0 k a0 t200 t206 t208 t209 t201 t202 t203)) else (obollaw16_TreeNew.j0 k a0 t200 t206 t208 false t201 t202 t203)) = some r := H
  have A5 := Aside0.mk A50
  clear A50
  have HC6 := Aside0.mk H
  clear H
  go_enter Try.func6, Try.ntmps6
  go_upto_region 4 with (first | ((with_reducible refine gate_dst (N := 3) rfl ?_); (try (refine gate_guard (by rfl) ?_; dsimp only)); refine box_event ?hg (N := 3) ?hd (cs := #[.int .i64 a1_0, .int .i64 a1_1, .slice A1_2 l1_2.length c1_2]) (t := 44) ?hr ?_; (case hd => rfl); (case hg => rfl); (case hr => first | (go_simp; done) | (go_simp; rfl)); intro gb199 hg w7 hbox hb; have n0_ := Aside0.mk (below_step (by repeat (first | (with_reducible first | exact HB.out | apply below_alloc | apply pw_below_drewN | apply below_drew1) | exact HB.out)) hb); have n1_ := Aside0.mk (hbox); have n2_ := Aside0.mk ((by rw [hg]; exact (below_size (by repeat (first | (with_reducible first | exact HB.out | apply below_alloc | apply pw_below_drewN | apply below_drew1) | exact HB.out))) : w.heap.size ≤ gb199)); have n3_ := Aside0.mk ((by rw [hg]; exact (below_size (by repeat (first | (with_reducible first | exact HB.out | apply below_alloc | apply pw_below_drewN | apply below_drew1) | exact HB.out))) : w.heap.size ≤ gb199)); clear HB; have HB := n0_; have BK199 := n1_; have GW199 := n2_; have GE199 := n3_; clear n0_ n1_ n2_ n3_; clear hb hbox hg) | ((with_reducible refine gate_callee (f := 23) rfl ?_); refine goesL_ (some 10) rfl rfl Try.func23 (by kernel_rfl) rfl #[] rfl (by (try simp only [List.map_toArray, List.map_cons, List.map_nil]); first | done | rfl | (simp only [List.length_drop, List.length_take]; rfl)) ?_; (with_reducible refine (obollaw16_up.calls k  t200 _ A3.out).mono ?_); rintro e w8 ⟨rfl, hb⟩; refine ⟨_, rfl, ?_⟩; have n0_ := Aside0.mk (blk_below (g := gb199) (o := .cells #[.int .i64 a1_0, .int .i64 a1_1, .slice A1_2 l1_2.length c1_2] 44 (0, 0)) (by (with_reducible repeat (first | refine blk_drewN ?_ _ | refine blk_drew ?_ | refine blk_alloc ?_ _)); exact BK199.out) hb); have n1_ := Aside0.mk (below_step (by repeat (first | (with_reducible first | exact HB.out | apply below_alloc | apply pw_below_drewN | apply below_drew1 | refine below_set ?_ GE199.out) | exact HB.out)) hb); clear BK199; clear HB; have BK199 := n0_; have HB := n1_; clear n0_ n1_; (try clear hb); (try clear hb2); (try clear hk); (try clear hi)) | ((with_reducible refine gate_callee (f := 24) rfl ?_); refine goesL_ (some 13) rfl rfl Try.func24 (by kernel_rfl) rfl #[.int .i64 a0] rfl (by (try simp only [List.map_toArray, List.map_cons, List.map_nil]); first | done | rfl | (simp only [List.length_drop, List.length_take]; rfl)) ?_; (with_reducible refine (tree_New.calls a0 t201 t202 t203 t206 _ A4.out).mono ?_); rintro e w9 ⟨v204, rfl, ho0, hb⟩; refine ⟨_, rfl, ?_⟩; have n0_ := Aside0.mk (Kd.R_lower ho0 (below_size (by repeat (first | (with_reducible first | exact HB.out | apply below_alloc | apply pw_below_drewN | apply below_drew1 | refine below_set ?_ GE199.out) | exact HB.out)))); have n1_ := Aside0.mk (blk_below (g := gb199) (o := .cells #[.int .i64 a1_0, .int .i64 a1_1, .slice A1_2 l1_2.length c1_2] 44 (0, 0)) (by (with_reducible repeat (first | refine blk_drewN ?_ _ | refine blk_drew ?_ | refine blk_alloc ?_ _)); exact BK199.out) hb); have n2_ := Aside0.mk (below_step (by repeat (first | (with_reducible first | exact HB.out | apply below_alloc | apply pw_below_drewN | apply below_drew1 | refine below_set ?_ GE199.out) | exact HB.out)) hb); clear BK199; clear HB; have HO205 := n0_; have BK199 := n1_; have HB := n2_; clear n0_ n1_ n2_; (try clear hb); (try clear hb2); (try clear hk); (try clear hi); (try clear ho0); (try simp only [errW_none, errW_some])) | ((with_reducible refine gate_dst (N := 6) rfl ?_); (try (refine gate_guard (by rfl) ?_; dsimp only)); refine box_event ?hg (N := 6) ?hd (cs := #[.int .i64 0, .int .i64 0, .slice none 0 0]) (t := 44) ?hr ?_; (case hd => rfl); (case hg => rfl); (case hr => first | (go_simp; done) | (go_simp; rfl)); intro gb207 hg w10 hbox hb; have n0_ := Aside0.mk (Kd.R_below (by (with_reducible repeat (first | apply Kd.R_alloc | apply Kd.R_drewN | apply Kd.R_drew)); exact HO205.out) hb); have n1_ := Aside0.mk (blk_below (g := gb199) (o := .cells #[.int .i64 a1_0, .int .i64 a1_1, .slice A1_2 l1_2.length c1_2] 44 (0, 0)) (by (with_reducible repeat (first | refine blk_drewN ?_ _ | refine blk_drew ?_ | refine blk_alloc ?_ _)); exact BK199.out) hb); have n2_ := Aside0.mk (below_step (by repeat (first | (with_reducible first | exact HB.out | apply below_alloc | apply pw_below_drewN | apply below_drew1 | refine below_set ?_ GE199.out) | exact HB.out)) hb); have n3_ := Aside0.mk (hbox); have n4_ := Aside0.mk ((by rw [hg]; exact (below_size (by repeat (first | (with_reducible first | exact HB.out | apply below_alloc | apply pw_below_drewN | apply below_drew1 | refine below_set ?_ GE199.out) | exact HB.out))) : w.heap.size ≤ gb207)); have n5_ := Aside0.mk ((by rw [hg]; exact (below_size (by repeat (first | (with_reducible first | exact HB.out | apply below_alloc | apply pw_below_drewN | apply below_drew1 | refine below_set ?_ GE199.out) | exact HB.out))) : w.heap.size ≤ gb207)); have n6_ := Aside0.mk ((by rw [hg]; exact Nat.ne_of_lt (blk_lt (g := gb199) (o := .cells #[.int .i64 a1_0, .int .i64 a1_1, .slice A1_2 l1_2.length c1_2] 44 (0, 0)) (by (with_reducible repeat (first | refine blk_drewN ?_ _ | refine blk_drew ?_ | refine blk_alloc ?_ _)); exact BK199.out)) : gb199 ≠ gb207)); have n7_ := Aside0.mk ((by rw [hg]; exact Nat.ne_of_gt (blk_lt (g := gb199) (o := .cells #[.int .i64 a1_0, .int .i64 a1_1, .slice A1_2 l1_2.length c1_2] 44 (0, 0)) (by (with_reducible repeat (first | refine blk_drewN ?_ _ | refine blk_drew ?_ | refine blk_alloc ?_ _)); exact BK199.out)) : gb207 ≠ gb199)); clear HO205; clear BK199; clear HB; have HO205 := n0_; have BK199 := n1_; have HB := n2_; have BK207 := n3_; have GW207 := n4_; have GE207 := n5_; have NB199_207 := n6_; have NB207_199 := n7_; clear n0_ n1_ n2_ n3_ n4_ n5_ n6_ n7_; clear hb hbox hg; have hnb11 := NB207_199.out; have hnc11 := NB199_207.out; have hcz12_0 : w10.cell? ⟨gb207, 0, none⟩ = some (.int .i64 0) := (blk_cell BK207.out 0).trans rfl; have hcz12_1 : w10.cell? ⟨gb207, 1, none⟩ = some (.int .i64 0) := (blk_cell BK207.out 1).trans rfl; have hcz12_2 : w10.cell? ⟨gb207, 2, none⟩ = some (.slice none 0 0) := (blk_cell BK207.out 2).trans rfl; have hfz12_0 := blk_frozen BK207.out 0; have hfz12_1 := blk_frozen BK207.out 1; have hfz12_2 := blk_frozen BK207.out 2; obtain ⟨Ao13, co13, eo13⟩ := Kd.R_slice HO205.out; subst eo13; have hcz14_0 : w10.cell? ⟨gb199, 0, none⟩ = some (.int .i64 a1_0) := (blk_cell BK199.out 0).trans rfl; have hcz14_1 : w10.cell? ⟨gb199, 1, none⟩ = some (.int .i64 a1_1) := (blk_cell BK199.out 1).trans rfl; have hcz14_2 : w10.cell? ⟨gb199, 2, none⟩ = some (.slice A1_2 l1_2.length c1_2) := (blk_cell BK199.out 2).trans rfl; have hfz14_0 := blk_frozen BK199.out 0; have hfz14_1 := blk_frozen BK199.out 1; have hfz14_2 := blk_frozen BK199.out 2) | ((with_reducible refine gate_callee (f := 25) rfl ?_); refine goesL_ (some 17) rfl rfl Try.func25 (by kernel_rfl) rfl #[.agg #[.int .i64 a1_0, .int .i64 a1_1, .slice A1_2 l1_2.length c1_2]] rfl (by (try simp only [List.map_toArray, List.map_cons, List.map_nil]); first | done | rfl | (simp only [List.length_drop, List.length_take]; rfl)) ?_; (with_reducible refine (tree_Check.calls k a1_0 a1_1 _ _ l1_2 t208 _ ?side1 ?side2 A5.out).mono ?_); (case side1 => exact Kd.C_below HR1_2.out (by repeat (first | (with_reducible first | exact HB.out | apply below_alloc | apply pw_below_drewN | apply below_drew1 | refine below_set ?_ GE199.out | refine below_set ?_ GE207.out) | exact HB.out))); (case side2 => exact HC1_2.out); rintro e w15 ⟨rfl, hb⟩; refine ⟨_, rfl, ?_⟩; have n0_ := Aside0.mk (Kd.R_below (by (with_reducible repeat (first | apply Kd.R_alloc | apply Kd.R_drewN | apply Kd.R_drew)); exact (Kd.R_mono (Kd.R_far (p := ⟨gb207, 2, none⟩) (Kd.R_far (p := ⟨gb207, 1, none⟩) (Kd.R_far (p := ⟨gb207, 0, none⟩) (Kd.R_types HO205.out BK207.out (by decide)) (fun _ hk => hk.2) (.int .i64 t201)) (fun _ hk => hk.2) (.int .i64 t202)) (fun _ hk => hk.2) (.slice Ao13 t203.length co13)) (fun _ h_ => h_.1))) hb); have n1_ := Aside0.mk (blk_below (g := gb199) (o := .cells #[.int .i64 a1_0, .int .i64 a1_1, .slice A1_2 l1_2.length c1_2] 44 (0, 0)) (by (with_reducible repeat (first | refine blk_drewN ?_ _ | refine blk_drew ?_ | refine blk_alloc ?_ _)); refine blk_far ?_ NB199_207.out _; (with_reducible repeat (first | refine blk_drewN ?_ _ | refine blk_drew ?_ | refine blk_alloc ?_ _)); refine blk_far ?_ NB199_207.out _; (with_reducible repeat (first | refine blk_drewN ?_ _ | refine blk_drew ?_ | refine blk_alloc ?_ _)); refine blk_far ?_ NB199_207.out _; (with_reducible repeat (first | refine blk_drewN ?_ _ | refine blk_drew ?_ | refine blk_alloc ?_ _)); exact BK199.out) hb); have n2_ := Aside0.mk (blk_below (g := gb207) (o := .cells #[.int .i64 t201, .int .i64 t202, .slice Ao13 t203.length co13] 44 (0, 0)) (by (with_reducible repeat (first | refine blk_drewN ?_ _ | refine blk_drew ?_ | refine blk_alloc ?_ _)); refine blk_put (cs := #[.int .i64 t201, .int .i64 t202, .slice none 0 0]) ?_ 2 _ rfl; (with_reducible repeat (first | refine blk_drewN ?_ _ | refine blk_drew ?_ | refine blk_alloc ?_ _)); refine blk_put (cs := #[.int .i64 t201, .int .i64 0, .slice none 0 0]) ?_ 1 _ rfl; (with_reducible repeat (first | refine blk_drewN ?_ _ | refine blk_drew ?_ | refine blk_alloc ?_ _)); refine blk_put (cs := #[.int .i64 0, .int .i64 0, .slice none 0 0]) ?_ 0 _ rfl; (with_reducible repeat (first | refine blk_drewN ?_ _ | refine blk_drew ?_ | refine blk_alloc ?_ _)); exact BK207.out) hb); have n3_ := Aside0.mk (below_step (by repeat (first | (with_reducible first | exact HB.out | apply below_alloc | apply pw_below_drewN | apply below_drew1 | refine below_set ?_ GE199.out | refine below_set ?_ GE207.out) | exact HB.out)) hb); clear HO205; clear BK199; clear BK207; clear HB; have HO205 := n0_; have BK199 := n1_; have BK207 := n2_; have HB := n3_; clear n0_ n1_ n2_ n3_; (try clear hb); (try clear hb2); (try clear hk); (try clear hi); (try simp only [errW_none, errW_some])))
  (try simp only [Act.put, List.setIfInBounds_toArray, List.set_cons_zero, List.set_cons_succ])
  go_cut [9] (fun v9 wc => ∃ (kq : Nat) (x9_5 : Bool), v9 = .bool x9_5 ∧ Aside0 (obollaw16_TreeNew.j0 kq a0 t200 t206 t208 x9_5 t201 t202 t203 = some r) ∧ Aside0 (kq ≤ k) ∧ Aside0 (Kd.R (Kd.int .u64) 30 wc w.heap.size (fun _ => True) (.slice Ao13 t203.length co13) t203) ∧ Aside0 (wc.heap[gb199]? = some (.cells #[.int .i64 a1_0, .int .i64 a1_1, (.slice A1_2 l1_2.length c1_2)] 44 (0, 0))) ∧ Aside0 (wc.heap[gb207]? = some (.cells #[.int .i64 t201, .int .i64 t202, (.slice Ao13 t203.length co13)] 44 (0, 0))) ∧ Aside0 (Below w.heap.size w wc))
  case first =>
    have H := HC6.out
    clear HC6
    by_cases c16 : (l1_2.length : Int) ≤ 100
    · rw [if_pos c16] at H
      have c16b0 : decide ((l1_2.length : Int) ≤ 100) = true := decide_eq_true c16
      have c16b1 : decide (l1_2.length ≤ 100) = true := decide_eq_true (by omega)
      clear c16
      (first | rw [c16b0] | (simp only [i64_w, i32_w]; rw [c16b0]) | skip)
      replace H := Option.bind_eq_some_iff.mp H
      obtain ⟨t209, A170, H⟩ := H
      replace H : (obollaw16_TreeNew.j0 k a0 t200 t206 t208 t209 t201 t202 t203) = some r := H
      have A17 := Aside0.mk A170
      clear A170
      have H' := Aside0.mk H
      clear H
      have hnb18 := NB199_207.out
      have hnc18 := NB207_199.out
      have hcz19_0 : w15.cell? ⟨gb199, 0, none⟩ = some (.int .i64 a1_0) := (blk_cell BK199.out 0).trans rfl
      have hcz19_1 : w15.cell? ⟨gb199, 1, none⟩ = some (.int .i64 a1_1) := (blk_cell BK199.out 1).trans rfl
      have hcz19_2 : w15.cell? ⟨gb199, 2, none⟩ = some (.slice A1_2 l1_2.length c1_2) := (blk_cell BK199.out 2).trans rfl
      have hfz19_0 := blk_frozen BK199.out 0
      have hfz19_1 := blk_frozen BK199.out 1
      have hfz19_2 := blk_frozen BK199.out 2
      go_wp2_with (first | (go_at_call 26; (with_reducible refine (obolref16_Check.calls k a1_0 a1_1 _ _ l1_2 t209 _ ?side1 ?side2 A17.out).mono ?_); (case side1 => repeat (first | exact (Kd.C_below HR1_2.out HB.out) | (with_reducible refine Kd.C_alloc ?_ _) | (with_reducible refine Kd.C_drewN ?_ _) | (with_reducible refine Kd.C_drew ?_))); (case side2 => exact HC1_2.out); rintro e w20 ⟨rfl, hb⟩; have n0_ := Aside0.mk (Kd.R_below (by (with_reducible repeat (first | apply Kd.R_alloc | apply Kd.R_drewN | apply Kd.R_drew)); exact HO205.out) hb); have n1_ := Aside0.mk (blk_below (g := gb199) (o := .cells #[.int .i64 a1_0, .int .i64 a1_1, .slice A1_2 l1_2.length c1_2] 44 (0, 0)) (by (with_reducible repeat (first | refine blk_drewN ?_ _ | refine blk_drew ?_ | refine blk_alloc ?_ _)); exact BK199.out) hb); have n2_ := Aside0.mk (blk_below (g := gb207) (o := .cells #[.int .i64 t201, .int .i64 t202, .slice Ao13 t203.length co13] 44 (0, 0)) (by (with_reducible repeat (first | refine blk_drewN ?_ _ | refine blk_drew ?_ | refine blk_alloc ?_ _)); exact BK207.out) hb); have n3_ := Aside0.mk (below_step (by repeat (first | (with_reducible first | exact HB.out | apply below_alloc | apply pw_below_drewN | apply below_drew1 | refine below_set ?_ GE199.out | refine below_set ?_ GE207.out) | exact HB.out)) hb); clear HO205; clear BK199; clear BK207; clear HB; have HO205 := n0_; have BK199 := n1_; have BK207 := n2_; have HB := n3_; clear n0_ n1_ n2_ n3_; (try clear hb); (try clear hb2); (try clear hk); (try clear hi)))
      go_meet
      case rel => exact ⟨_, (t209), (by first | rfl | (simp; done) | (simp [*]; done)), H', ⟨by first | omega | exact Nat.le_refl _⟩, ⟨by (with_reducible repeat (first | apply Kd.R_alloc | apply Kd.R_drewN | apply Kd.R_drew)); exact HO205.out⟩, ⟨by (with_reducible repeat (first | refine blk_drewN ?_ _ | refine blk_drew ?_ | refine blk_alloc ?_ _)); exact BK199.out⟩, ⟨by (with_reducible repeat (first | refine blk_drewN ?_ _ | refine blk_drew ?_ | refine blk_alloc ?_ _)); exact BK207.out⟩, ⟨by repeat (first | (with_reducible first | exact HB.out | apply below_alloc | apply pw_below_drewN | apply below_drew1 | refine below_set ?_ GE199.out | refine below_set ?_ GE207.out) | exact HB.out)⟩⟩
    · rw [if_neg c16] at H
      have c16b0 : decide ((l1_2.length : Int) ≤ 100) = false := decide_eq_false c16
      have c16b1 : decide (l1_2.length ≤ 100) = false := decide_eq_false (by omega)
      clear c16
      (first | rw [c16b0] | (simp only [i64_w, i32_w]; rw [c16b0]) | skip)
      have H' := Aside0.mk H
      clear H
      have hnb21 := NB199_207.out
      have hnc21 := NB207_199.out
      have hcz22_0 : w15.cell? ⟨gb199, 0, none⟩ = some (.int .i64 a1_0) := (blk_cell BK199.out 0).trans rfl
      have hcz22_1 : w15.cell? ⟨gb199, 1, none⟩ = some (.int .i64 a1_1) := (blk_cell BK199.out 1).trans rfl
      have hcz22_2 : w15.cell? ⟨gb199, 2, none⟩ = some (.slice A1_2 l1_2.length c1_2) := (blk_cell BK199.out 2).trans rfl
      have hfz22_0 := blk_frozen BK199.out 0
      have hfz22_1 := blk_frozen BK199.out 1
      have hfz22_2 := blk_frozen BK199.out 2
      go_wp2
      go_meet
      case rel => exact ⟨_, (false), (by first | rfl | (simp; done) | (simp [*]; done)), H', ⟨by first | omega | exact Nat.le_refl _⟩, ⟨by (with_reducible repeat (first | apply Kd.R_alloc | apply Kd.R_drewN | apply Kd.R_drew)); exact HO205.out⟩, ⟨by (with_reducible repeat (first | refine blk_drewN ?_ _ | refine blk_drew ?_ | refine blk_alloc ?_ _)); exact BK199.out⟩, ⟨by (with_reducible repeat (first | refine blk_drewN ?_ _ | refine blk_drew ?_ | refine blk_alloc ?_ _)); exact BK207.out⟩, ⟨by repeat (first | (with_reducible first | exact HB.out | apply below_alloc | apply pw_below_drewN | apply below_drew1 | refine below_set ?_ GE199.out | refine below_set ?_ GE207.out) | exact HB.out)⟩⟩
  case rest =>
    clear HC6
    try clear c1
    try clear c2
    try clear p2
    try clear c6
    try clear c11
    try clear c16
    try clear c16b0
    try clear c16b1
    try clear c18
    try clear c21
    try clear hcz12_0
    try clear hcz12_1
    try clear hcz12_2
    try clear hcz14_0
    try clear hcz14_1
    try clear hcz14_2
    try clear hcz19_0
    try clear hcz19_1
    try clear hcz19_2
    try clear hcz22_0
    try clear hcz22_1
    try clear hcz22_2
    try clear hfz12_0
    try clear hfz12_1
    try clear hfz12_2
    try clear hfz14_0
    try clear hfz14_1
    try clear hfz14_2
    try clear hfz19_0
    try clear hfz19_1
    try clear hfz19_2
    try clear hfz22_0
    try clear hfz22_1
    try clear hfz22_2
    obtain ⟨kq, x9_5, rfl, HA, HJ5, HO_208002, BK199, BK207, HB⟩ := hcut
    cases kq with
    | zero => exact absurd HA.out (by simp [obollaw16_TreeNew.j0])
    | succ kj5 =>
      have H := HA.out
      clear HA
      simp only [obollaw16_TreeNew.j0] at H
      have HC23 := Aside0.mk H
      clear H
      go_upto_region 5 with (fail)
      go_cut [38] (fun v38 wc => ∃ (kq : Nat) (x38_22 : Bool), v38 = .bool x38_22 ∧ Aside0 (obollaw16_TreeNew.j1 kq a0 t200 t206 x38_22 t201 t202 t203 = some r) ∧ Aside0 (kq ≤ kj5) ∧ Aside0 (Kd.R (Kd.int .u64) 30 wc w.heap.size (fun _ => True) (.slice Ao13 t203.length co13) t203) ∧ Aside0 (wc.heap[gb199]? = some (.cells #[.int .i64 a1_0, .int .i64 a1_1, (.slice A1_2 l1_2.length c1_2)] 44 (0, 0))) ∧ Aside0 (wc.heap[gb207]? = some (.cells #[.int .i64 t201, .int .i64 t202, (.slice Ao13 t203.length co13)] 44 (0, 0))) ∧ Aside0 (Below w.heap.size w wc))
      case first =>
        have H := HC23.out
        clear HC23
        rcases t208 with _ | q210
        · have H1 : (if (x9_5 != true) = true then (obollaw16_TreeNew.j1 kj5 a0 t200 t206 true t201 t202 t203) else (if x9_5 = true then (obollaw16_TreeNew.j1 kj5 a0 t200 t206 false t201 t202 t203) else (obollaw16_TreeNew.j1 kj5 a0 t200 t206 true t201 t202 t203))) = some r := by rw [if_pos (show (none : Option Int).isNone = true by rfl)] at H; exact H
          clear H
          have H := H1
          clear H1
          try simp only [errW_none, errW_some]
          by_cases c24 : (x9_5 != true) = true
          · rw [if_pos c24] at H
            have c24b0 : (x9_5 != true) = true := c24
            (try (have c24b1 : decide (x9_5 = true) = false := by simpa using c24))
            (try (have c24b2 : (x9_5 == true) = false := by simpa using c24))
            (try (have c24b3 : ¬ (x9_5 = true) := by simpa using c24))
            clear c24
            (first | rw [c24b0] | (simp only [i64_w, i32_w]; rw [c24b0]) | skip)
            have H' := Aside0.mk H
            clear H
            go_wp2
            (first | go_meet | (refine Met.intro ?_; go_step; (repeat apply Exists.intro); refine ⟨?rel, ?eq_⟩; (case eq_ => first | (rw [c24b0]; done) | (rw [c24b0]; rfl))))
            case rel => exact ⟨_, (true), (by first | rfl | (simp; done) | (simp [*]; done)), H', ⟨by have := HJ5.out; first | omega | exact Nat.le_refl _⟩, ⟨by (with_reducible repeat (first | apply Kd.R_alloc | apply Kd.R_drewN | apply Kd.R_drew)); exact HO_208002.out⟩, ⟨by (with_reducible repeat (first | refine blk_drewN ?_ _ | refine blk_drew ?_ | refine blk_alloc ?_ _)); exact BK199.out⟩, ⟨by (with_reducible repeat (first | refine blk_drewN ?_ _ | refine blk_drew ?_ | refine blk_alloc ?_ _)); exact BK207.out⟩, ⟨by repeat (first | (with_reducible first | exact HB.out | apply below_alloc | apply pw_below_drewN | apply below_drew1 | refine below_set ?_ GE199.out | refine below_set ?_ GE207.out) | exact HB.out)⟩⟩
          · rw [if_neg c24] at H
            have c24b0 : (x9_5 != true) = false := by simpa using c24
            (try (have c24b1 : decide (x9_5 = true) = true := by simpa using c24))
            (try (have c24b2 : (x9_5 == true) = true := by simpa using c24))
            clear c24
            (first | rw [c24b0] | (simp only [i64_w, i32_w]; rw [c24b0]) | skip)
            by_cases c25 : x9_5 = true
            · subst c25
              have H1 : (obollaw16_TreeNew.j1 kj5 a0 t200 t206 false t201 t202 t203) = some r := by rw [if_pos rfl] at H; exact H
              clear H
              have H := H1
              clear H1
              have H' := Aside0.mk H
              clear H
              go_wp2
              go_meet
              case rel => exact ⟨_, (false), (by first | rfl | (simp; done) | (simp [*]; done)), H', ⟨by have := HJ5.out; first | omega | exact Nat.le_refl _⟩, ⟨by (with_reducible repeat (first | apply Kd.R_alloc | apply Kd.R_drewN | apply Kd.R_drew)); exact HO_208002.out⟩, ⟨by (with_reducible repeat (first | refine blk_drewN ?_ _ | refine blk_drew ?_ | refine blk_alloc ?_ _)); exact BK199.out⟩, ⟨by (with_reducible repeat (first | refine blk_drewN ?_ _ | refine blk_drew ?_ | refine blk_alloc ?_ _)); exact BK207.out⟩, ⟨by repeat (first | (with_reducible first | exact HB.out | apply below_alloc | apply pw_below_drewN | apply below_drew1 | refine below_set ?_ GE199.out | refine below_set ?_ GE207.out) | exact HB.out)⟩⟩
            · replace c25 := Bool.eq_false_iff.mpr c25
              subst c25
              have H1 : (obollaw16_TreeNew.j1 kj5 a0 t200 t206 true t201 t202 t203) = some r := by rw [if_neg (show ¬ (false = true) by decide)] at H; exact H
              clear H
              have H := H1
              clear H1
              have H' := Aside0.mk H
              clear H
              go_wp2
              go_meet
              case rel => exact ⟨_, (true), (by first | rfl | (simp; done) | (simp [*]; done)), H', ⟨by have := HJ5.out; first | omega | exact Nat.le_refl _⟩, ⟨by (with_reducible repeat (first | apply Kd.R_alloc | apply Kd.R_drewN | apply Kd.R_drew)); exact HO_208002.out⟩, ⟨by (with_reducible repeat (first | refine blk_drewN ?_ _ | refine blk_drew ?_ | refine blk_alloc ?_ _)); exact BK199.out⟩, ⟨by (with_reducible repeat (first | refine blk_drewN ?_ _ | refine blk_drew ?_ | refine blk_alloc ?_ _)); exact BK207.out⟩, ⟨by repeat (first | (with_reducible first | exact HB.out | apply below_alloc | apply pw_below_drewN | apply below_drew1 | refine below_set ?_ GE199.out | refine below_set ?_ GE207.out) | exact HB.out)⟩⟩
        · have H1 : (if (x9_5 != false) = true then (obollaw16_TreeNew.j1 kj5 a0 t200 t206 true t201 t202 t203) else (if x9_5 = true then (obollaw16_TreeNew.j1 kj5 a0 t200 t206 false t201 t202 t203) else (obollaw16_TreeNew.j1 kj5 a0 t200 t206 (q210 != 3) t201 t202 t203))) = some r := by rw [if_neg (show ¬ (some q210).isNone = true by simp)] at H; exact H
          clear H
          have H := H1
          clear H1
          try simp only [errW_none, errW_some]
          by_cases c26 : (x9_5 != false) = true
          · rw [if_pos c26] at H
            have c26b0 : (x9_5 != false) = true := c26
            (try (have c26b1 : decide (x9_5 = false) = false := by simpa using c26))
            (try (have c26b2 : (x9_5 == false) = false := by simpa using c26))
            (try (have c26b3 : ¬ (x9_5 = false) := by simpa using c26))
            clear c26
            have H' := Aside0.mk H
            clear H
            go_wp2
            go_meet
            case rel => exact ⟨_, (true), (by first | rfl | (simp; done) | (simp [*]; done)), H', ⟨by have := HJ5.out; first | omega | exact Nat.le_refl _⟩, ⟨by (with_reducible repeat (first | apply Kd.R_alloc | apply Kd.R_drewN | apply Kd.R_drew)); exact HO_208002.out⟩, ⟨by (with_reducible repeat (first | refine blk_drewN ?_ _ | refine blk_drew ?_ | refine blk_alloc ?_ _)); exact BK199.out⟩, ⟨by (with_reducible repeat (first | refine blk_drewN ?_ _ | refine blk_drew ?_ | refine blk_alloc ?_ _)); exact BK207.out⟩, ⟨by repeat (first | (with_reducible first | exact HB.out | apply below_alloc | apply pw_below_drewN | apply below_drew1 | refine below_set ?_ GE199.out | refine below_set ?_ GE207.out) | exact HB.out)⟩⟩
          · rw [if_neg c26] at H
            have c26b0 : (x9_5 != false) = false := by simpa using c26
            (try (have c26b1 : decide (x9_5 = false) = true := by simpa using c26))
            (try (have c26b2 : (x9_5 == false) = true := by simpa using c26))
            clear c26
            by_cases c27 : x9_5 = true
            · subst c27
              have H1 : (obollaw16_TreeNew.j1 kj5 a0 t200 t206 false t201 t202 t203) = some r := by rw [if_pos rfl] at H; exact H
              clear H
              have H := H1
              clear H1
              have H' := Aside0.mk H
              clear H
              go_wp2
              go_meet
              case rel => exact ⟨_, (false), (by first | rfl | (simp; done) | (simp [*]; done)), H', ⟨by have := HJ5.out; first | omega | exact Nat.le_refl _⟩, ⟨by (with_reducible repeat (first | apply Kd.R_alloc | apply Kd.R_drewN | apply Kd.R_drew)); exact HO_208002.out⟩, ⟨by (with_reducible repeat (first | refine blk_drewN ?_ _ | refine blk_drew ?_ | refine blk_alloc ?_ _)); exact BK199.out⟩, ⟨by (with_reducible repeat (first | refine blk_drewN ?_ _ | refine blk_drew ?_ | refine blk_alloc ?_ _)); exact BK207.out⟩, ⟨by repeat (first | (with_reducible first | exact HB.out | apply below_alloc | apply pw_below_drewN | apply below_drew1 | refine below_set ?_ GE199.out | refine below_set ?_ GE207.out) | exact HB.out)⟩⟩
            · replace c27 := Bool.eq_false_iff.mpr c27
              subst c27
              have H1 : (obollaw16_TreeNew.j1 kj5 a0 t200 t206 (q210 != 3) t201 t202 t203) = some r := by rw [if_neg (show ¬ (false = true) by decide)] at H; exact H
              clear H
              have H := H1
              clear H1
              have H' := Aside0.mk H
              clear H
              go_wp2
              go_meet
              case rel => exact ⟨_, ((q210 != 3)), (by first | rfl | (simp; done) | (simp [*]; done)), H', ⟨by have := HJ5.out; first | omega | exact Nat.le_refl _⟩, ⟨by (with_reducible repeat (first | apply Kd.R_alloc | apply Kd.R_drewN | apply Kd.R_drew)); exact HO_208002.out⟩, ⟨by (with_reducible repeat (first | refine blk_drewN ?_ _ | refine blk_drew ?_ | refine blk_alloc ?_ _)); exact BK199.out⟩, ⟨by (with_reducible repeat (first | refine blk_drewN ?_ _ | refine blk_drew ?_ | refine blk_alloc ?_ _)); exact BK207.out⟩, ⟨by repeat (first | (with_reducible first | exact HB.out | apply below_alloc | apply pw_below_drewN | apply below_drew1 | refine below_set ?_ GE199.out | refine below_set ?_ GE207.out) | exact HB.out)⟩⟩
      case rest =>
        clear HC23
        try clear c1
        try clear c2
        try clear p2
        try clear q2
        try clear c6
        try clear c11
        try clear c16
        try clear c16b0
        try clear c16b1
        try clear c18
        try clear c21
        try clear q21
        try clear c23
        try clear c24
        try clear c24b0
        try clear c24b1
        try clear c24b2
        try clear c25
        try clear c26
        try clear c26b0
        try clear c26b1
        try clear c26b2
        try clear c27
        try clear hcz12_0
        try clear hcz12_1
        try clear hcz12_2
        try clear hcz14_0
        try clear hcz14_1
        try clear hcz14_2
        try clear hcz19_0
        try clear hcz19_1
        try clear hcz19_2
        try clear hcz22_0
        try clear hcz22_1
        try clear hcz22_2
        try clear hfz12_0
        try clear hfz12_1
        try clear hfz12_2
        try clear hfz14_0
        try clear hfz14_1
        try clear hfz14_2
        try clear hfz19_0
        try clear hfz19_1
        try clear hfz19_2
        try clear hfz22_0
        try clear hfz22_1
        try clear hfz22_2
        try clear p2
        try clear q210
        obtain ⟨kq, x38_22, rfl, HA, HJ22, HO_208002, BK199, BK207, HB⟩ := hcut
        cases kq with
        | zero => exact absurd HA.out (by simp [obollaw16_TreeNew.j1])
        | succ kj22 =>
          have H := HA.out
          clear HA
          simp only [obollaw16_TreeNew.j1] at H
          by_cases c28 : x38_22 = true
          · subst c28
            have H1 : (none) = some r := by rw [if_pos rfl] at H; exact H
            clear H
            have H := H1
            clear H1
            exact absurd H (by simp)
          · replace c28 := Bool.eq_false_iff.mpr c28
            subst c28
            have H1 : (if a0 < 1 then (obollaw16_TreeNew.j2 kj22 a0 t200 t206 true t201 t202 t203) else (obollaw16_TreeNew.j2 kj22 a0 t200 t206 (decide (a0 > 16)) t201 t202 t203)) = some r := by rw [if_neg (show ¬ (false = true) by decide)] at H; exact H
            clear H
            have H := H1
            clear H1
            have HC29 := Aside0.mk H
            clear H
            go_upto_region 7 with (fail)
            go_cut [44] (fun v44 wc => ∃ (kq : Nat) (x44_28 : Bool), v44 = .bool x44_28 ∧ Aside0 (obollaw16_TreeNew.j2 kq a0 t200 t206 x44_28 t201 t202 t203 = some r) ∧ Aside0 (kq ≤ kj22) ∧ Aside0 (Kd.R (Kd.int .u64) 30 wc w.heap.size (fun _ => True) (.slice Ao13 t203.length co13) t203) ∧ Aside0 (wc.heap[gb199]? = some (.cells #[.int .i64 a1_0, .int .i64 a1_1, (.slice A1_2 l1_2.length c1_2)] 44 (0, 0))) ∧ Aside0 (wc.heap[gb207]? = some (.cells #[.int .i64 t201, .int .i64 t202, (.slice Ao13 t203.length co13)] 44 (0, 0))) ∧ Aside0 (Below w.heap.size w wc))
            case first =>
              have H := HC29.out
              clear HC29
              by_cases c30 : a0 < 1
              · rw [if_pos c30] at H
                have c30b0 : decide (a0 < 1) = true := decide_eq_true c30
                clear c30
                (first | rw [c30b0] | (simp only [i64_w, i32_w]; rw [c30b0]) | skip)
                have H' := Aside0.mk H
                clear H
                go_wp2
                (first | go_meet | (refine Met.intro ?_; go_step; (repeat apply Exists.intro); refine ⟨?rel, ?eq_⟩; (case eq_ => first | (rw [c30b0]; done) | (rw [c30b0]; rfl))))
                case rel => exact ⟨_, (true), (by first | rfl | (simp; done) | (simp [*]; done)), H', ⟨by have := HJ5.out; have := HJ22.out; first | omega | exact Nat.le_refl _⟩, ⟨by (with_reducible repeat (first | apply Kd.R_alloc | apply Kd.R_drewN | apply Kd.R_drew)); exact HO_208002.out⟩, ⟨by (with_reducible repeat (first | refine blk_drewN ?_ _ | refine blk_drew ?_ | refine blk_alloc ?_ _)); exact BK199.out⟩, ⟨by (with_reducible repeat (first | refine blk_drewN ?_ _ | refine blk_drew ?_ | refine blk_alloc ?_ _)); exact BK207.out⟩, ⟨by repeat (first | (with_reducible first | exact HB.out | apply below_alloc | apply pw_below_drewN | apply below_drew1 | refine below_set ?_ GE199.out | refine below_set ?_ GE207.out) | exact HB.out)⟩⟩
              · rw [if_neg c30] at H
                have c30b0 : decide (a0 < 1) = false := decide_eq_false c30
                clear c30
                (first | rw [c30b0] | (simp only [i64_w, i32_w]; rw [c30b0]) | skip)
                have H' := Aside0.mk H
                clear H
                go_wp2
                (first | go_meet | (refine Met.intro ?_; go_step; (repeat apply Exists.intro); refine ⟨?rel, ?eq_⟩; (case eq_ => first | (rw [c30b0]; done) | (rw [c30b0]; rfl))))
                case rel => exact ⟨_, (decide (a0 > 16)), (by first | rfl | (simp; done) | (simp [*]; done)), H', ⟨by have := HJ5.out; have := HJ22.out; first | omega | exact Nat.le_refl _⟩, ⟨by (with_reducible repeat (first | apply Kd.R_alloc | apply Kd.R_drewN | apply Kd.R_drew)); exact HO_208002.out⟩, ⟨by (with_reducible repeat (first | refine blk_drewN ?_ _ | refine blk_drew ?_ | refine blk_alloc ?_ _)); exact BK199.out⟩, ⟨by (with_reducible repeat (first | refine blk_drewN ?_ _ | refine blk_drew ?_ | refine blk_alloc ?_ _)); exact BK207.out⟩, ⟨by repeat (first | (with_reducible first | exact HB.out | apply below_alloc | apply pw_below_drewN | apply below_drew1 | refine below_set ?_ GE199.out | refine below_set ?_ GE207.out) | exact HB.out)⟩⟩
            case rest =>
              clear HC29
              try clear c1
              try clear c2
              try clear p2
              try clear q2
              try clear c3
              try clear c6
              try clear c11
              try clear c16
              try clear c16b0
              try clear c16b1
              try clear c18
              try clear c21
              try clear q21
              try clear c23
              try clear c24
              try clear c24b0
              try clear c24b1
              try clear c24b2
              try clear c25
              try clear c26
              try clear c26b0
              try clear c26b1
              try clear c26b2
              try clear c27
              try clear c28
              try clear c30
              try clear c30b0
              try clear hcz12_0
              try clear hcz12_1
              try clear hcz12_2
              try clear hcz14_0
              try clear hcz14_1
              try clear hcz14_2
              try clear hcz19_0
              try clear hcz19_1
              try clear hcz19_2
              try clear hcz22_0
              try clear hcz22_1
              try clear hcz22_2
              try clear hfz12_0
              try clear hfz12_1
              try clear hfz12_2
              try clear hfz14_0
              try clear hfz14_1
              try clear hfz14_2
              try clear hfz19_0
              try clear hfz19_1
              try clear hfz19_2
              try clear hfz22_0
              try clear hfz22_1
              try clear hfz22_2
              try clear p2
              try clear q2
              try clear q21
              try clear q210
              obtain ⟨kq, x44_28, rfl, HA, HJ28, HO_208002, BK199, BK207, HB⟩ := hcut
              cases kq with
              | zero => exact absurd HA.out (by simp [obollaw16_TreeNew.j2])
              | succ kj28 =>
                have H := HA.out
                clear HA
                simp only [obollaw16_TreeNew.j2] at H
                by_cases c31 : x44_28 = true
                · subst c31
                  have H1 : (if t200 = true then (if t206.isNone = true then (none) else (if (t206.getD 0) = 1 then ((obollaw16_same.f kj28 t201 t202 t203 0 0 ([] : List Int)).bind fun t212 => (some t212)) else (none))) else (none)) = some r := by rw [if_pos rfl] at H; exact H
                  clear H
                  have H := H1
                  clear H1
                  by_cases c32 : t200 = true
                  · subst c32
                    have H1 : (if t206.isNone = true then (none) else (if (t206.getD 0) = 1 then ((obollaw16_same.f kj28 t201 t202 t203 0 0 ([] : List Int)).bind fun t212 => (some t212)) else (none))) = some r := by rw [if_pos rfl] at H; exact H
                    clear H
                    have H := H1
                    clear H1
                    rcases t206 with _ | q211
                    · have H1 : (none) = some r := by rw [if_pos (show (none : Option Int).isNone = true by rfl)] at H; exact H
                      clear H
                      have H := H1
                      clear H1
                      try simp only [errW_none, errW_some]
                      exact absurd H (by simp)
                    · have H1 : (if q211 = 1 then ((obollaw16_same.f kj28 t201 t202 t203 0 0 ([] : List Int)).bind fun t212 => (some t212)) else (none)) = some r := by rw [if_neg (show ¬ (some q211).isNone = true by simp)] at H; exact H
                      clear H
                      have H := H1
                      clear H1
                      try simp only [errW_none, errW_some]
                      by_cases c33 : q211 = 1
                      · rw [if_pos c33] at H
                        have c33b0 : (q211 == 1) = true := beq_iff_eq.mpr c33
                        have c33b1 : (q211 != 1) = false := bne_eq_false_iff_eq.mpr c33
                        clear c33
                        replace H := Option.bind_eq_some_iff.mp H
                        obtain ⟨t212, A340, H⟩ := H
                        replace H : (some t212) = some r := H
                        have A34 := Aside0.mk A340
                        clear A340
                        obtain rfl := Option.some.inj H
                        have hnb35 := NB207_199.out
                        have hnc35 := NB199_207.out
                        have hcz36_0 : wc.cell? ⟨gb207, 0, none⟩ = some (.int .i64 t201) := (blk_cell BK207.out 0).trans rfl
                        have hcz36_1 : wc.cell? ⟨gb207, 1, none⟩ = some (.int .i64 t202) := (blk_cell BK207.out 1).trans rfl
                        have hcz36_2 : wc.cell? ⟨gb207, 2, none⟩ = some (.slice Ao13 t203.length co13) := (blk_cell BK207.out 2).trans rfl
                        have hfz36_0 := blk_frozen BK207.out 0
                        have hfz36_1 := blk_frozen BK207.out 1
                        have hfz36_2 := blk_frozen BK207.out 2
                        go_wp2_with (first | (go_at_call 27; (refine (obollaw16_same.calls kj28 t201 t202 _ _ t203 0 0 _ _ ([] : List Int) t212 _ ?side1 ?side2 ?side3 ?side4 A34.out).mono ?_); (case side1 => repeat (first | exact (Kd.R_reads' HO_208002.out).2.2 | (with_reducible refine Kd.C_alloc ?_ _) | (with_reducible refine Kd.C_drewN ?_ _) | (with_reducible refine Kd.C_drew ?_))); (case side2 => exact (Kd.R_reads' HO_208002.out).2.1); (case side3 => exact Kd.C_nil _ _); (case side4 => exact Nat.le_refl _); rintro e w37 ⟨rfl, hb⟩; have n0_ := Aside0.mk (Kd.R_below (by (with_reducible repeat (first | apply Kd.R_alloc | apply Kd.R_drewN | apply Kd.R_drew)); exact HO_208002.out) hb); have n1_ := Aside0.mk (blk_below (g := gb199) (o := .cells #[.int .i64 a1_0, .int .i64 a1_1, .slice A1_2 l1_2.length c1_2] 44 (0, 0)) (by (with_reducible repeat (first | refine blk_drewN ?_ _ | refine blk_drew ?_ | refine blk_alloc ?_ _)); exact BK199.out) hb); have n2_ := Aside0.mk (blk_below (g := gb207) (o := .cells #[.int .i64 t201, .int .i64 t202, .slice Ao13 t203.length co13] 44 (0, 0)) (by (with_reducible repeat (first | refine blk_drewN ?_ _ | refine blk_drew ?_ | refine blk_alloc ?_ _)); exact BK207.out) hb); have n3_ := Aside0.mk (below_step (by repeat (first | (with_reducible first | exact HB.out | apply below_alloc | apply pw_below_drewN | apply below_drew1 | refine below_set ?_ GE199.out | refine below_set ?_ GE207.out) | exact HB.out)) hb); clear HO_208002; clear BK199; clear BK207; clear HB; have HO_208002 := n0_; have BK199 := n1_; have BK207 := n2_; have HB := n3_; clear n0_ n1_ n2_ n3_; (try clear hb); (try clear hb2); (try clear hk); (try clear hi)))
                        go_ret
                        exact ⟨by first | rfl | (simp [errW_none, errW_some] <;> rfl) | (simp [*, errW_none, errW_some] <;> rfl), by repeat (first | (with_reducible first | exact HB.out | apply below_alloc | apply pw_below_drewN | apply below_drew1 | refine below_set ?_ GE199.out | refine below_set ?_ GE207.out) | exact HB.out)⟩
                      · rw [if_neg c33] at H
                        exact absurd H (by simp)
                  · replace c32 := Bool.eq_false_iff.mpr c32
                    subst c32
                    have H1 : (none) = some r := by rw [if_neg (show ¬ (false = true) by decide)] at H; exact H
                    clear H
                    have H := H1
                    clear H1
                    exact absurd H (by simp)
                · replace c31 := Bool.eq_false_iff.mpr c31
                  subst c31
                  have H1 : (if t200 = true then (if t206.isNone = true then (if 0 ≤ (wrap64 (a0 + 1)) then (if (wrap64 (a0 + 1) : Int).toNat ≤ 35184372088832 then ((obollaw16_same.f kj28 t201 t202 t203 a0 0 (List.replicate (wrap64 (a0 + 1) : Int).toNat 0)).bind fun t217 => (some t217)) else (none)) else (none)) else (none)) else (none)) = some r := by rw [if_neg (show ¬ (false = true) by decide)] at H; exact H
                  clear H
                  have H := H1
                  clear H1
                  by_cases c38 : t200 = true
                  · subst c38
                    have H1 : (if t206.isNone = true then (if 0 ≤ (wrap64 (a0 + 1)) then (if (wrap64 (a0 + 1) : Int).toNat ≤ 35184372088832 then ((obollaw16_same.f kj28 t201 t202 t203 a0 0 (List.replicate (wrap64 (a0 + 1) : Int).toNat 0)).bind fun t217 => (some t217)) else (none)) else (none)) else (none)) = some r := by rw [if_pos rfl] at H; exact H
                    clear H
                    have H := H1
                    clear H1
                    rcases t206 with _ | q213
                    · have H1 : (if 0 ≤ (wrap64 (a0 + 1)) then (if (wrap64 (a0 + 1) : Int).toNat ≤ 35184372088832 then ((obollaw16_same.f kj28 t201 t202 t203 a0 0 (List.replicate (wrap64 (a0 + 1) : Int).toNat 0)).bind fun t217 => (some t217)) else (none)) else (none)) = some r := by rw [if_pos (show (none : Option Int).isNone = true by rfl)] at H; exact H
                      clear H
                      have H := H1
                      clear H1
                      try simp only [errW_none, errW_some]
                      obtain ⟨ji39, hji39⟩ : ∃ j_ : Int, (wrap64 (a0 + 1)) = j_ := ⟨_, rfl⟩
                      replace H : (if 0 ≤ (ji39) then (if (ji39 : Int).toNat ≤ 35184372088832 then ((obollaw16_same.f kj28 t201 t202 t203 a0 0 (List.replicate (ji39 : Int).toNat 0)).bind fun t217 => (some t217)) else (none)) else (none)) = some r := by first | (rw [hji39] at H; exact H) | (simp only [hji39] at H ⊢; exact H)
                      have hji39w : (IntKind.i64.wrap (a0 + 1)) = ji39 := (i64_w _).trans hji39
                      by_cases c40 : 0 ≤ (ji39)
                      · rw [if_pos c40] at H
                        have c40b0 := eq_true c40
                        have c40b1 : decide (0 ≤ (ji39)) = true := decide_eq_true c40
                        clear c40
                        by_cases c41 : (ji39 : Int).toNat ≤ 35184372088832
                        · rw [if_pos c41] at H
                          have c41b0 := eq_true c41
                          have c41b1 : decide ((ji39 : Int).toNat ≤ 35184372088832) = true := decide_eq_true c41
                          clear c41
                          obtain ⟨y214, hy214⟩ : ∃ y_ : List Int, y_ = (List.replicate (ji39 : Int).toNat 0) := ⟨_, rfl⟩
                          replace H : ((obollaw16_same.f kj28 t201 t202 t203 a0 0 y214).bind fun t217 => (some t217)) = some r := by first | (rw [hy214]; with_reducible exact H) | (have H2_ := (Option.bind_some _ _).symm.trans H; rw [hy214]; with_reducible exact H2_) | (have H2_ := (Option.bind_some _ _).symm.trans H; with_reducible exact H2_) | with_reducible exact H | (rw [hy214]; exact H) | exact H
                          have Ny214 := Aside0.mk hy214
                          clear hy214
                          replace H := Option.bind_eq_some_iff.mp H
                          obtain ⟨t217, A420, H⟩ := H
                          replace H : (some t217) = some r := H
                          have A42 := Aside0.mk A420
                          clear A420
                          obtain rfl := Option.some.inj H
                          try go_wp2
                          have n0_ := Aside0.mk (Kd.R_drew HO_208002.out)
                          have n1_ := Aside0.mk (blk_drew BK199.out)
                          have n2_ := Aside0.mk (blk_drew BK207.out)
                          have n3_ := Aside0.mk (below_drew1 HB.out)
                          clear HO_208002
                          clear BK199
                          clear BK207
                          clear HB
                          have HO_208002 := n0_
                          have BK199 := n1_
                          have BK207 := n2_
                          have HB := n3_
                          clear n0_ n1_ n2_ n3_
                          refine start_ (n := 15) (S := fun w' => w'.cell? ⟨gb207, 0, none⟩ = some (.int .i64 t201) ∧ w'.cell? ⟨gb207, 1, none⟩ = some (.int .i64 t202) ∧ w'.cell? ⟨gb207, 2, none⟩ = some (.slice Ao13 t203.length co13)) (ds := []) #[false, false, false, false, false, false, false, false, false, false, false, false, false, false, false] (by kernel_rfl) rfl rfl ⟨(blk_cell BK207.out 0).trans rfl, (blk_cell BK207.out 1).trans rfl, (blk_cell BK207.out 2).trans rfl⟩ (fun hHeld => ?_); refine with_tabW obollaw16_TreeNew.tab9 obollaw16_TreeNew.bits9 (fun HT_ HW_ => ?_)
                          generalize wc.drew = w43 at HO_208002 BK199 BK207 HB hHeld ⊢
                          refine pure_ (i := 0) (N := some 56) (v := ?_) (a' := ?_) #[true, false, false, false, false, false, false, false, false, false, false, false, false, false, false] rfl rfl (any_of HT_.out (by kernel_rfl)) (fun _ _ _ h => h) (Or.inl ⟨by rfl, ?_⟩) ?_ ?_
                          rotate_left
                          · intro w'
                            go_simp
                            with_reducible rfl
                          rotate_left
                          · simp only [Act.put, List.setIfInBounds_toArray, List.set_cons_zero, List.set_cons_succ, i64_w, i32_w]
                            rfl
                          refine pure_ (i := 1) (N := some 57) (v := ?_) (a' := ?_) #[true, true, false, false, false, false, false, false, false, false, false, false, false, false, false] rfl rfl (any_of HT_.out (by kernel_rfl)) (fun _ _ _ h => h) (Or.inl ⟨by rfl, ?_⟩) ?_ ?_
                          rotate_left
                          · intro w'
                            go_simp
                            with_reducible rfl
                          rotate_left
                          · simp only [Act.put, List.setIfInBounds_toArray, List.set_cons_zero, List.set_cons_succ, i64_w, i32_w]
                            rfl
                          refine pure_ (i := 2) (N := some 58) (v := ?_) (a' := ?_) #[true, true, true, false, false, false, false, false, false, false, false, false, false, false, false] rfl rfl (any_of HT_.out (by kernel_rfl)) (fun _ _ _ h => h) (Or.inl ⟨by rfl, ?_⟩) ?_ ?_
                          rotate_left
                          · intro w'
                            go_simp
                            with_reducible rfl
                          rotate_left
                          · simp only [Act.put, List.setIfInBounds_toArray, List.set_cons_zero, List.set_cons_succ, i64_w, i32_w]
                            rfl
                          refine pure_ (i := 3) (N := some 59) (v := ?_) (a' := ?_) #[true, true, true, true, false, false, false, false, false, false, false, false, false, false, false] rfl rfl (any_of HT_.out (by kernel_rfl)) (fun _ _ _ h => h) (Or.inl ⟨by rfl, ?_⟩) ?_ ?_
                          rotate_left
                          · intro w'
                            go_simp
                            with_reducible rfl
                          rotate_left
                          · simp only [Act.put, List.setIfInBounds_toArray, List.set_cons_zero, List.set_cons_succ, i64_w, i32_w]
                            rfl
                          refine pure_ (i := 4) (N := some 60) (v := ?_) (a' := ?_) #[true, true, true, true, true, false, false, false, false, false, false, false, false, false, false] rfl rfl (any_of HT_.out (by kernel_rfl)) (fun _ _ _ h => h) (Or.inl ⟨by rfl, ?_⟩) ?_ ?_
                          rotate_left
                          · intro w'
                            go_simp
                            with_reducible rfl
                          rotate_left
                          · simp only [Act.put, List.setIfInBounds_toArray, List.set_cons_zero, List.set_cons_succ, i64_w, i32_w]
                            rfl
                          refine pure_ (i := 5) (N := some 61) (v := ?_) (a' := ?_) #[true, true, true, true, true, true, false, false, false, false, false, false, false, false, false] rfl rfl (any_of HT_.out (by kernel_rfl)) (fun _ _ _ h => h) (Or.inl ⟨by rfl, ?_⟩) ?_ ?_
                          rotate_left
                          · intro w'
                            go_simp
                            with_reducible rfl
                          rotate_left
                          · simp only [Act.put, List.setIfInBounds_toArray, List.set_cons_zero, List.set_cons_succ, i64_w, i32_w]
                            rfl
                          refine pure_ (i := 7) (N := some 63) (v := ?_) (a' := ?_) #[true, true, true, true, true, true, false, true, false, false, false, false, false, false, false] rfl rfl (any_of HT_.out (by kernel_rfl)) (fun _ _ _ h => h) (Or.inl ⟨by rfl, ?_⟩) ?_ ?_
                          rotate_left
                          · intro w'
                            go_simp
                            with_reducible rfl
                          rotate_left
                          · simp only [Act.put, List.setIfInBounds_toArray, List.set_cons_zero, List.set_cons_succ, i64_w, i32_w]
                            rfl
                          refine pure_ (i := 8) (N := some 64) (v := ?_) (a' := ?_) #[true, true, true, true, true, true, false, true, true, false, false, false, false, false, false] rfl rfl (any_of HT_.out (by kernel_rfl)) (fun _ _ _ h => h) (Or.inl ⟨by rfl, ?_⟩) ?_ ?_
                          rotate_left
                          · intro w'
                            go_simp
                            with_reducible rfl
                          rotate_left
                          · simp only [Act.put, List.setIfInBounds_toArray, List.set_cons_zero, List.set_cons_succ, i64_w, i32_w]
                            rfl
                          refine pure_ (i := 9) (N := some 65) (v := ?_) (a' := ?_) #[true, true, true, true, true, true, false, true, true, true, false, false, false, false, false] rfl rfl (any_of HT_.out (by kernel_rfl)) (fun _ _ _ h => h) (Or.inl ⟨by rfl, ?_⟩) ?_ ?_
                          rotate_left
                          · intro w'
                            go_simp
                            with_reducible rfl
                          rotate_left
                          · simp only [Act.put, List.setIfInBounds_toArray, List.set_cons_zero, List.set_cons_succ, i64_w, i32_w]
                            rfl
                          refine take_ (i := 6) (N := some 62) (v := ?_) (a' := ?_) #[true, true, true, true, true, true, true, true, true, true, false, false, false, false, false] rfl rfl (take_ofW HT_.out HW_.out (by kernel_rfl)) (fun _ _ _ h => h) (Or.inl ⟨by rfl, ?_⟩) hHeld ?_ ?_
                          rotate_left
                          · rintro w' ⟨s0, s1, s2⟩
                            go_simp
                            with_reducible rfl
                          rotate_left
                          · simp only [Act.put, List.setIfInBounds_toArray, List.set_cons_zero, List.set_cons_succ, i64_w, i32_w]
                            rfl
                          refine one_ (i := 10) (N := some 66) #[true, true, true, true, true, true, true, true, true, true, true, false, false, false, false] rfl rfl (one_of HT_.out (by kernel_rfl)) (by decide) (fun K hK => ?_)
                          refine Kd.R_make_step (Kd.int .u64) _ 30 (by rfl) (N := 66) rfl 22 _ _ rfl ji39 rfl rfl Try.underlying22 (.int .u64 0) 8 info30 rfl (by decide) (by omega) 0 (ok := fun _ => True) (okp := fun _ => True) rfl (fun _ hk => hk) trivial (of_decide_eq_true (by first | (with_reducible assumption) | assumption)) (Nat.le_trans (Nat.mul_le_mul_right _ (of_decide_eq_true (by first | (with_reducible assumption) | assumption) : ji39.toNat ≤ 35184372088832)) (by omega)) (Below.refl _ _) (Nat.le_refl _) ?_
                          intro v215 w44 ho45 hb hg_ hnew_
                          clear hg_ hnew_
                          (first | rw [← Ny214.out] at ho45 | (simp only [Int.reduceToNat] at ho45; rw [← Ny214.out] at ho45))
                          have n0_ := Aside0.mk (Kd.R_elder' (by (with_reducible repeat (first | apply Kd.R_alloc | apply Kd.R_drewN | apply Kd.R_drew)); exact HO_208002.out) (Kd.R_base ho45) hb)
                          have n1_ := Aside0.mk (Kd.R_lower (Kd.R_new' ho45 (Kd.R_lt (by (with_reducible repeat (first | apply Kd.R_alloc | apply Kd.R_drewN | apply Kd.R_drew)); exact HO_208002.out))) (below_size (by repeat (first | (with_reducible first | exact HB.out | apply below_alloc | apply pw_below_drewN | apply below_drew1 | refine below_set ?_ GE199.out | refine below_set ?_ GE207.out) | exact HB.out))))
                          have n2_ := Aside0.mk (blk_below (g := gb199) (o := .cells #[.int .i64 a1_0, .int .i64 a1_1, .slice A1_2 l1_2.length c1_2] 44 (0, 0)) (by (with_reducible repeat (first | refine blk_drewN ?_ _ | refine blk_drew ?_ | refine blk_alloc ?_ _)); exact BK199.out) hb)
                          have n3_ := Aside0.mk (blk_below (g := gb207) (o := .cells #[.int .i64 t201, .int .i64 t202, .slice Ao13 t203.length co13] 44 (0, 0)) (by (with_reducible repeat (first | refine blk_drewN ?_ _ | refine blk_drew ?_ | refine blk_alloc ?_ _)); exact BK207.out) hb)
                          have n4_ := Aside0.mk (below_step (by repeat (first | (with_reducible first | exact HB.out | apply below_alloc | apply pw_below_drewN | apply below_drew1 | refine below_set ?_ GE199.out | refine below_set ?_ GE207.out) | exact HB.out)) hb)
                          clear HO_208002
                          clear BK199
                          clear BK207
                          clear HB
                          have HO_208002 := n0_
                          have HO216 := n1_
                          have BK199 := n2_
                          have BK207 := n3_
                          have HB := n4_
                          clear n0_ n1_ n2_ n3_ n4_
                          clear hb ho45
                          obtain ⟨Ao46, co46, eo46⟩ := Kd.R_slice HO216.out
                          (first | subst eo46 | (injection eo46 with f1_ f2_ f3_; have f4_ := f1_.symm; have f5_ := f3_.symm; clear f1_ f2_ f3_; subst f4_; subst f5_))
                          refine hK.out _ _ ⟨(blk_cell BK207.out 0).trans rfl, (blk_cell BK207.out 1).trans rfl, (blk_cell BK207.out 2).trans rfl⟩ (fun hHeld => ?_)
                          clear hK K
                          refine norm_ (a' := ?_) ?_ ?_
                          rotate_left
                          · show Act.put _ (some 66) _ = _
                            simp only [Act.put, List.setIfInBounds_toArray, List.set_cons_zero, List.set_cons_succ, i64_w, i32_w]
                            rfl
                          refine pure_ (i := 11) (N := some 67) (v := ?_) (a' := ?_) #[true, true, true, true, true, true, true, true, true, true, true, true, false, false, false] rfl rfl (any_of HT_.out (by kernel_rfl)) (fun _ _ _ h => h) (Or.inl ⟨by rfl, ?_⟩) ?_ ?_
                          rotate_left
                          · intro w'
                            go_simp
                            with_reducible rfl
                          rotate_left
                          · simp only [Act.put, List.setIfInBounds_toArray, List.set_cons_zero, List.set_cons_succ, i64_w, i32_w]
                            rfl
                          refine one_ (i := 12) (N := some 68) #[true, true, true, true, true, true, true, true, true, true, true, true, true, false, false] rfl rfl (one_of HT_.out (by kernel_rfl)) (by decide) (fun K hK => ?_)
                          refine goes_ Try.func27 (by kernel_rfl) rfl #[.agg #[.int .i64 t201, .int .i64 t202, .slice Ao13 t203.length co13], .agg #[.int .i64 a0, .int .i64 0, .slice Ao46 y214.length co46]] (by rfl) rfl rfl (by (try simp only [List.map_toArray, List.map_cons, List.map_nil]); first | done | rfl | (simp only [List.length_drop, List.length_take]; rfl)) ?_
                          with_reducible refine (obollaw16_same.calls kj28 t201 t202 _ _ t203 a0 0 _ _ y214 t217 _ ?side1 ?side2 ?side3 ?side4 A42.out).mono ?_
                          (case side1 => repeat (first | exact (Kd.R_reads' HO_208002.out).2.2 | (with_reducible refine Kd.C_alloc ?_ _) | (with_reducible refine Kd.C_drewN ?_ _) | (with_reducible refine Kd.C_drew ?_)))
                          (case side2 => exact (Kd.R_reads' HO_208002.out).2.1)
                          (case side3 => repeat (first | exact (Kd.R_reads' HO216.out).2.2 | (with_reducible refine Kd.C_alloc ?_ _) | (with_reducible refine Kd.C_drewN ?_ _) | (with_reducible refine Kd.C_drew ?_)))
                          (case side4 => exact (Kd.R_reads' HO216.out).2.1)
                          rintro e w47 ⟨rfl, hb⟩
                          refine ⟨_, rfl, ?_⟩
                          have n0_ := Aside0.mk (Kd.R_below (by (with_reducible repeat (first | apply Kd.R_alloc | apply Kd.R_drewN | apply Kd.R_drew)); exact HO_208002.out) hb)
                          have n1_ := Aside0.mk (Kd.R_below (by (with_reducible repeat (first | apply Kd.R_alloc | apply Kd.R_drewN | apply Kd.R_drew)); exact HO216.out) hb)
                          have n2_ := Aside0.mk (blk_below (g := gb199) (o := .cells #[.int .i64 a1_0, .int .i64 a1_1, .slice A1_2 l1_2.length c1_2] 44 (0, 0)) (by (with_reducible repeat (first | refine blk_drewN ?_ _ | refine blk_drew ?_ | refine blk_alloc ?_ _)); exact BK199.out) hb)
                          have n3_ := Aside0.mk (blk_below (g := gb207) (o := .cells #[.int .i64 t201, .int .i64 t202, .slice Ao13 t203.length co13] 44 (0, 0)) (by (with_reducible repeat (first | refine blk_drewN ?_ _ | refine blk_drew ?_ | refine blk_alloc ?_ _)); exact BK207.out) hb)
                          have n4_ := Aside0.mk (below_step (by repeat (first | (with_reducible first | exact HB.out | apply below_alloc | apply pw_below_drewN | apply below_drew1 | refine below_set ?_ GE199.out | refine below_set ?_ GE207.out) | exact HB.out)) hb)
                          clear HO_208002
                          clear HO216
                          clear BK199
                          clear BK207
                          clear HB
                          have HO_208002 := n0_
                          have HO216 := n1_
                          have BK199 := n2_
                          have BK207 := n3_
                          have HB := n4_
                          clear n0_ n1_ n2_ n3_ n4_
                          (try clear hb)
                          (try clear hb2)
                          (try clear hk)
                          (try clear hi)
                          refine hK.out _ _ ⟨(blk_cell BK207.out 0).trans rfl, (blk_cell BK207.out 1).trans rfl, (blk_cell BK207.out 2).trans rfl⟩ (fun hHeld => ?_)
                          clear hK K
                          refine norm_ (a' := ?_) ?_ ?_
                          rotate_left
                          · show Act.put _ (some 68) _ = _
                            simp only [Act.put, List.setIfInBounds_toArray, List.set_cons_zero, List.set_cons_succ, i64_w, i32_w]
                            rfl
                          refine pure_ (i := 13) (N := some 69) (v := ?_) (a' := ?_) #[true, true, true, true, true, true, true, true, true, true, true, true, true, true, false] rfl rfl (any_of HT_.out (by kernel_rfl)) (fun _ _ _ h => h) (Or.inl ⟨by rfl, ?_⟩) ?_ ?_
                          rotate_left
                          · intro w'
                            go_simp
                            with_reducible rfl
                          rotate_left
                          · simp only [Act.put, List.setIfInBounds_toArray, List.set_cons_zero, List.set_cons_succ, i64_w, i32_w]
                            rfl
                          refine pure_ (i := 14) (N := some 4) (v := ?_) (a' := ?_) #[true, true, true, true, true, true, true, true, true, true, true, true, true, true, true] rfl rfl (any_of HT_.out (by kernel_rfl)) (fun _ _ _ h => h) (Or.inl ⟨by rfl, ?_⟩) ?_ ?_
                          rotate_left
                          · intro w'
                            go_simp
                            with_reducible rfl
                          rotate_left
                          · simp only [Act.put, List.setIfInBounds_toArray, List.set_cons_zero, List.set_cons_succ, i64_w, i32_w]
                            rfl
                          refine done_ (done_of HT_.out (by kernel_rfl)) ?_
                          try go_wp2
                          go_ret
                          exact ⟨by first | rfl | (simp [errW_none, errW_some] <;> rfl) | (simp only [← hji39]; first | rfl | (simp [errW_none, errW_some] <;> rfl)) | (simp [*, errW_none, errW_some] <;> rfl), by repeat (first | (with_reducible first | exact HB.out | apply below_alloc | apply pw_below_drewN | apply below_drew1 | refine below_set ?_ GE199.out | refine below_set ?_ GE207.out) | exact HB.out)⟩
                        · rw [if_neg c41] at H
                          exact absurd H (by simp)
                      · rw [if_neg c40] at H
                        exact absurd H (by simp)
                    · have H1 : (none) = some r := by rw [if_neg (show ¬ (some q213).isNone = true by simp)] at H; exact H
                      clear H
                      have H := H1
                      clear H1
                      try simp only [errW_none, errW_some]
                      exact absurd H (by simp)
                  · replace c38 := Bool.eq_false_iff.mpr c38
                    subst c38
                    have H1 : (none) = some r := by rw [if_neg (show ¬ (false = true) by decide)] at H; exact H
                    clear H
                    have H := H1
                    clear H1
                    exact absurd H (by simp)

/-- THE ONE PURE STATEMENT of obollaw16_TreeNew: yours. -/
def obollaw16_TreeNew.Pure : Prop := ∀ (a0 : Int) (a1_0 : Int) (a1_1 : Int) (l1_2 : List Int), (Lit.int .i64 a0).wf = true → (Lit.int .i64 a1_0).wf = true → (Lit.int .i64 a1_1).wf = true → l1_2.length ≤ maxLen → l1_2.length * 8 ≤ 140737488351232 → (∀ x ∈ l1_2, (Lit.int .u64 x).wf = true) → ∃ k, obollaw16_TreeNew.f k a0 a1_0 a1_1 l1_2 = some true
theorem obollaw16_TreeNew.walk (P : obollaw16_TreeNew.Pure) (a0 : Int) (a1_0 a1_1 : Int) (a1 : Option Addr) (len1 cap1 : Nat) (z1 : List Int) (w : World) (w0 : (Lit.int .i64 a0).wf = true) (w1_0 : (Lit.int .i64 a1_0).wf = true) (w1_1 : (Lit.int .i64 a1_1).wf = true) (w1 : (a1 = none ∧ len1 = 0 ∧ cap1 = 0 ∧ z1 = []) ∨ ∃ x, a1 = some x ∧ len1 ≤ cap1 ∧ cap1 ≤ maxLen ∧ z1.length = cap1 ∧ (∀ i, i < z1.length → w.cell? (x.add i) = some (.int .u64 (z1.getD i 0))) ∧ ∀ n ∈ z1, (Lit.int .u64 n).wf = true) (y1 : len1 * 8 ≤ 140737488351232) :
    Calls Try.prog 6 #[.int .i64 a0, .agg #[.int .i64 a1_0, .int .i64 a1_1, .slice a1 len1 cap1]] w fun e w' => e = .returned (.bool true) ∧ Below w.heap.size w w' := by
  obtain ⟨l1_2, rfl, hr1, hm1, hw1, hc1⟩ := ReadsInt.ofRowC w1
  obtain ⟨k, h⟩ := P a0 a1_0 a1_1 l1_2 w0 w1_0 w1_1 hm1 y1 hw1
  refine (obollaw16_TreeNew.calls k a0 a1_0 a1_1 _ _ l1_2 true w (Kd.C_of_reads (d := (0 : Int)) (h1 := fun _ => rfl) hr1) hc1 h).mono ?_
  rintro e w' ⟨rfl, hd⟩
  exact ⟨rfl, hd⟩

end Go.Proofs.Ytempibbfdojfiac.PTreeNew
