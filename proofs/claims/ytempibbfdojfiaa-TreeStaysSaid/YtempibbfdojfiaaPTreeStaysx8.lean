-- printed by a program of this session (wip/tools/mkprint.py)
import Derived.Test.YtempibbfdojfiaaPTreeStaysx0
import Derived.Test.YtempibbfdojfiaaPTreeStaysx4
import Derived.Test.YtempibbfdojfiaaPTreeStaysx5
import Derived.Test.YtempibbfdojfiaaPTreeStaysx7
namespace Go.Proofs.Ytempibbfdojfiaa.PTreeStays
open Go.RowKit Go.Proofs.YtempibbfdojfiaaW.PrintWords Go.Proofs.YtempibbfdojfiaaW.PrintLast Go.Proofs.YtempibbfdojfiaaW.PrintMore
attribute [local go_sem] max2_int min2_int max_two min_two max_three min_three max_four min_four   -- for this text's walks alone
set_option linter.unusedVariables false
set_option linter.unusedSimpArgs false

attribute [local go_sem high] errCmp_eql errCmp_neq errCmpL_eql errCmpL_neq
/-! ### obollaw16_TreeStays: function 12 -/
mutual
def obollaw16_TreeStays.j0 : Nat → List Int → Int → Bool → Bool → Int → Int → List Int → Option (Bool)
  | 0, _, _, _, _, _, _, _ => none
  | k + 1, x1, x2, x7, x26, x239000, x239001, x239002 => if x26 = true then (some x7) else ((some (([] : List Int) : List Int)).bind fun y240 => (if y240.length + x239002.length < 17592186044416 then ((some (y240 ++ x239002 : List Int)).bind fun y243 => ((some (([] : List Int) : List Int)).bind fun y246 => (if y246.length + x1.length < 17592186044416 then ((some (y246 ++ x1 : List Int)).bind fun y249 => ((tree_Append.f k x239000 x239001 y243 5).bind fun bt253 => (if bt253.2.2.2.isNone = true then (obollaw16_TreeStays.l0 k x1 x2 x7 y243 y249 0 x239000 x239001 x239002 bt253.1 bt253.2.1 bt253.2.2.1) else ((tree_Path.f k y249 x2 0).bind fun bt269 => (obollaw16_TreeStays.l1 k x1 x7 y243 y249 bt269.1 0 x239000 x239001 x239002))))) else (none)))) else (none)))
def obollaw16_TreeStays.l0 : Nat → List Int → Int → Bool → List Int → List Int → Int → Int → Int → List Int → Int → Int → List Int → Option (Bool)
  | 0, _, _, _, _, _, _, _, _, _, _, _, _ => none
  | k + 1, x1, x2, x7, x8, x9, x13, x239000, x239001, x239002, x260000, x260001, x260002 => if x13 < (x260002.length : Int) then (if 0 ≤ x13 then (obollaw16_TreeStays.l0 k x1 x2 x7 x8 x9 (wrap64 (x13 + 1)) x239000 x239001 x239002 x260000 x260001 (x260002.set (x13 : Int).toNat 9)) else (none)) else ((tree_Path.f k x9 x2 0).bind fun bt262 => (obollaw16_TreeStays.l1 k x1 x7 x8 x9 bt262.1 0 x239000 x239001 x239002))
def obollaw16_TreeStays.l1 : Nat → List Int → Bool → List Int → List Int → List Int → Int → Int → Int → List Int → Option (Bool)
  | 0, _, _, _, _, _, _, _, _, _ => none
  | k + 1, x1, x7, x8, x9, x14, x16, x239000, x239001, x239002 => if x16 < (x14.length : Int) then (if 0 ≤ x16 then (obollaw16_TreeStays.l1 k x1 x7 x8 x9 (x14.set (x16 : Int).toNat 9) (wrap64 (x16 + 1)) x239000 x239001 x239002) else (none)) else (if x7 = true then ((obolref13_Same.f k x8 x239002).bind fun t267 => (if t267 = true then ((obolref13_Same.f k x9 x1).bind fun t268 => (some t268)) else (none))) else (none))
end
def obollaw16_TreeStays.f (k : Nat) (a0_0 : Int) (a0_1 : Int) (l0_2 : List Int) (l1 : List Int) (a2 : Int) : Option (Bool) := (obollaw16_up.f k).bind fun t239 => (if (l0_2.length : Int) > 100 then (obollaw16_TreeStays.j0 k l1 a2 t239 true a0_0 a0_1 l0_2) else (obollaw16_TreeStays.j0 k l1 a2 t239 (decide ((l1.length : Int) > 60)) a0_0 a0_1 l0_2))
theorem obollaw16_TreeStays.mono_l : ∀ k, (∀ y0 y1 y2 y3 y4 y5 y6, LeO (obollaw16_TreeStays.j0 k y0 y1 y2 y3 y4 y5 y6) (obollaw16_TreeStays.j0 (k + 1) y0 y1 y2 y3 y4 y5 y6)) ∧ (∀ y0 y1 y2 y3 y4 y5 y6 y7 y8 y9 y10 y11, LeO (obollaw16_TreeStays.l0 k y0 y1 y2 y3 y4 y5 y6 y7 y8 y9 y10 y11) (obollaw16_TreeStays.l0 (k + 1) y0 y1 y2 y3 y4 y5 y6 y7 y8 y9 y10 y11)) ∧ (∀ y0 y1 y2 y3 y4 y5 y6 y7 y8, LeO (obollaw16_TreeStays.l1 k y0 y1 y2 y3 y4 y5 y6 y7 y8) (obollaw16_TreeStays.l1 (k + 1) y0 y1 y2 y3 y4 y5 y6 y7 y8))
  | 0 => ⟨fun _ _ _ _ _ _ _ r h => by simp [obollaw16_TreeStays.j0] at h, fun _ _ _ _ _ _ _ _ _ _ _ _ r h => by simp [obollaw16_TreeStays.l0] at h, fun _ _ _ _ _ _ _ _ _ r h => by simp [obollaw16_TreeStays.l1] at h⟩
  | k + 1 => by
    obtain ⟨ih0, ih1, ih2⟩ := obollaw16_TreeStays.mono_l k
    refine ⟨?_, ?_, ?_⟩
    · intro y0 y1 y2 y3 y4 y5 y6
      unfold obollaw16_TreeStays.j0
      repeat' first
      | (with_reducible exact ih0 _ _ _ _ _ _ _)
      | (with_reducible exact ih1 _ _ _ _ _ _ _ _ _ _ _ _)
      | (with_reducible exact ih2 _ _ _ _ _ _ _ _ _)
      | (with_reducible exact obollaw16_up.mono _)
      | (with_reducible exact obolref13_Same.mono _ _ _)
      | (with_reducible exact tree_Append.mono _ _ _ _ _)
      | (with_reducible exact tree_Path.mono _ _ _ _)
      | (with_reducible exact LeO.refl _)
      | (with_reducible exact LeO.none _)
      | (with_reducible refine LeO.ite ?_ ?_)
      | (with_reducible refine LeO.bind ?_ (fun _ => ?_))
      | exact ih0 _ _ _ _ _ _ _
      | exact ih1 _ _ _ _ _ _ _ _ _ _ _ _
      | exact ih2 _ _ _ _ _ _ _ _ _
      | exact obollaw16_up.mono _
      | exact obolref13_Same.mono _ _ _
      | exact tree_Append.mono _ _ _ _ _
      | exact tree_Path.mono _ _ _ _
      | exact LeO.none _
      | refine LeO.ite ?_ ?_
      | refine LeO.bind ?_ (fun _ => ?_)
    · intro y0 y1 y2 y3 y4 y5 y6 y7 y8 y9 y10 y11
      unfold obollaw16_TreeStays.l0
      repeat' first
      | (with_reducible exact ih0 _ _ _ _ _ _ _)
      | (with_reducible exact ih1 _ _ _ _ _ _ _ _ _ _ _ _)
      | (with_reducible exact ih2 _ _ _ _ _ _ _ _ _)
      | (with_reducible exact obollaw16_up.mono _)
      | (with_reducible exact obolref13_Same.mono _ _ _)
      | (with_reducible exact tree_Append.mono _ _ _ _ _)
      | (with_reducible exact tree_Path.mono _ _ _ _)
      | (with_reducible exact LeO.refl _)
      | (with_reducible exact LeO.none _)
      | (with_reducible refine LeO.ite ?_ ?_)
      | (with_reducible refine LeO.bind ?_ (fun _ => ?_))
      | exact ih0 _ _ _ _ _ _ _
      | exact ih1 _ _ _ _ _ _ _ _ _ _ _ _
      | exact ih2 _ _ _ _ _ _ _ _ _
      | exact obollaw16_up.mono _
      | exact obolref13_Same.mono _ _ _
      | exact tree_Append.mono _ _ _ _ _
      | exact tree_Path.mono _ _ _ _
      | exact LeO.none _
      | refine LeO.ite ?_ ?_
      | refine LeO.bind ?_ (fun _ => ?_)
    · intro y0 y1 y2 y3 y4 y5 y6 y7 y8
      unfold obollaw16_TreeStays.l1
      repeat' first
      | (with_reducible exact ih0 _ _ _ _ _ _ _)
      | (with_reducible exact ih1 _ _ _ _ _ _ _ _ _ _ _ _)
      | (with_reducible exact ih2 _ _ _ _ _ _ _ _ _)
      | (with_reducible exact obollaw16_up.mono _)
      | (with_reducible exact obolref13_Same.mono _ _ _)
      | (with_reducible exact tree_Append.mono _ _ _ _ _)
      | (with_reducible exact tree_Path.mono _ _ _ _)
      | (with_reducible exact LeO.refl _)
      | (with_reducible exact LeO.none _)
      | (with_reducible refine LeO.ite ?_ ?_)
      | (with_reducible refine LeO.bind ?_ (fun _ => ?_))
      | exact ih0 _ _ _ _ _ _ _
      | exact ih1 _ _ _ _ _ _ _ _ _ _ _ _
      | exact ih2 _ _ _ _ _ _ _ _ _
      | exact obollaw16_up.mono _
      | exact obolref13_Same.mono _ _ _
      | exact tree_Append.mono _ _ _ _ _
      | exact tree_Path.mono _ _ _ _
      | exact LeO.none _
      | refine LeO.ite ?_ ?_
      | refine LeO.bind ?_ (fun _ => ?_)
theorem obollaw16_TreeStays.mono : ∀ a0 a1 a2 a3 a4 k, LeO (obollaw16_TreeStays.f k a0 a1 a2 a3 a4) (obollaw16_TreeStays.f (k + 1) a0 a1 a2 a3 a4) := by
  intro a0 a1 a2 a3 a4 k
  obtain ⟨ih0, ih1, ih2⟩ := obollaw16_TreeStays.mono_l k
  unfold obollaw16_TreeStays.f
  repeat' first
      | (with_reducible exact ih0 _ _ _ _ _ _ _)
      | (with_reducible exact ih1 _ _ _ _ _ _ _ _ _ _ _ _)
      | (with_reducible exact ih2 _ _ _ _ _ _ _ _ _)
      | (with_reducible exact obollaw16_up.mono _)
      | (with_reducible exact obolref13_Same.mono _ _ _)
      | (with_reducible exact tree_Append.mono _ _ _ _ _)
      | (with_reducible exact tree_Path.mono _ _ _ _)
      | (with_reducible exact LeO.refl _)
      | (with_reducible exact LeO.none _)
      | (with_reducible refine LeO.ite ?_ ?_)
      | (with_reducible refine LeO.bind ?_ (fun _ => ?_))
      | exact ih0 _ _ _ _ _ _ _
      | exact ih1 _ _ _ _ _ _ _ _ _ _ _ _
      | exact ih2 _ _ _ _ _ _ _ _ _
      | exact obollaw16_up.mono _
      | exact obolref13_Same.mono _ _ _
      | exact tree_Append.mono _ _ _ _ _
      | exact tree_Path.mono _ _ _ _
      | exact LeO.none _
      | refine LeO.ite ?_ ?_
      | refine LeO.bind ?_ (fun _ => ?_)
set_option maxHeartbeats 8000000 in
set_option maxRecDepth 100000 in
theorem obollaw16_TreeStays.calls (k : Nat) (a0_0 : Int) (a0_1 : Int) (A0_2 : Option Addr) (c0_2 : Nat) (l0_2 : List Int) (A1 : Option Addr) (c1 : Nat) (l1 : List Int) (a2 : Int) (r : Bool) (w : World) (hr0_2 : Kd.C (Kd.int .u64) w A0_2 l0_2.length l0_2) (hc0_2 : l0_2.length ≤ c0_2) (hr1 : Kd.C (Kd.int .u64) w A1 l1.length l1) (hc1 : l1.length ≤ c1) (h : obollaw16_TreeStays.f k a0_0 a0_1 l0_2 l1 a2 = some r) :
    Calls Try.prog 12 #[.agg #[.int .i64 a0_0, .int .i64 a0_1, .slice A0_2 l0_2.length c0_2], .slice A1 l1.length c1, .int .i64 a2] w fun e w' => e = .returned (.bool r) ∧ Below w.heap.size w w' := by
  have hu50 := Try.underlying50
  have hu28 := Try.underlying28
  have hu31 := Try.underlying31
  have HR0_2 := Aside0.mk hr0_2
  have HC0_2 := Aside0.mk hc0_2
  clear hr0_2 hc0_2
  have HR1 := Aside0.mk hr1
  have HC1 := Aside0.mk hc1
  clear hr1 hc1
  have HB := Aside0.mk (Below.refl w.heap.size w)
  have H : ((obollaw16_up.f k).bind fun t239 => (if (l0_2.length : Int) > 100 then (obollaw16_TreeStays.j0 k l1 a2 t239 true a0_0 a0_1 l0_2) else (obollaw16_TreeStays.j0 k l1 a2 t239 (decide ((l1.length : Int) > 60)) a0_0 a0_1 l0_2))) = some r := h
  clear h
  replace H := Option.bind_eq_some_iff.mp H
  obtain ⟨t239, A40, H⟩ := H
  replace H : (if (l0_2.length : Int) > 100 then (obollaw16_TreeStays.j0 k l1 a2 t239 true a0_0 a0_1 l0_2) else (obollaw16_TreeStays.j0 k l1 a2 t239 (decide ((l1.length : Int) > 60)) a0_0 a0_1 l0_2)) = some r := H
  have A4 := Aside0.mk A40
  clear A40
  have HC5 := Aside0.mk H
  clear H
  go_enter Try.func12, Try.ntmps12
  go_upto_region 2 with (first | ((with_reducible refine gate_dst (N := 3) rfl ?_); (try (refine gate_guard (by rfl) ?_; dsimp only)); refine box_event ?hg (N := 3) ?hd (cs := #[.int .i64 a0_0, .int .i64 a0_1, .slice A0_2 l0_2.length c0_2]) (t := 50) ?hr ?_; (case hd => rfl); (case hg => rfl); (case hr => first | (go_simp; done) | (go_simp; rfl)); intro gb238 hg w6 hbox hb; have n0_ := Aside0.mk (below_step (by repeat (first | (with_reducible first | exact HB.out | apply below_alloc | apply pw_below_drewN | apply below_drew1) | exact HB.out)) hb); have n1_ := Aside0.mk (hbox); have n2_ := Aside0.mk ((by rw [hg]; exact (below_size (by repeat (first | (with_reducible first | exact HB.out | apply below_alloc | apply pw_below_drewN | apply below_drew1) | exact HB.out))) : w.heap.size ≤ gb238)); have n3_ := Aside0.mk ((by rw [hg]; exact (below_size (by repeat (first | (with_reducible first | exact HB.out | apply below_alloc | apply pw_below_drewN | apply below_drew1) | exact HB.out))) : w.heap.size ≤ gb238)); clear HB; have HB := n0_; have BK238 := n1_; have GW238 := n2_; have GE238 := n3_; clear n0_ n1_ n2_ n3_; clear hb hbox hg) | ((with_reducible refine gate_callee (f := 38) rfl ?_); refine goesL_ (some 17) rfl rfl Try.func38 (by kernel_rfl) rfl #[] rfl (by (try simp only [List.map_toArray, List.map_cons, List.map_nil]); first | done | rfl | (simp only [List.length_drop, List.length_take]; rfl)) ?_; (with_reducible refine (obollaw16_up.calls k  t239 _ A4.out).mono ?_); rintro e w7 ⟨rfl, hb⟩; refine ⟨_, rfl, ?_⟩; have n0_ := Aside0.mk (blk_below (g := gb238) (o := .cells #[.int .i64 a0_0, .int .i64 a0_1, .slice A0_2 l0_2.length c0_2] 50 (0, 0)) (by (with_reducible repeat (first | refine blk_drewN ?_ _ | refine blk_drew ?_ | refine blk_alloc ?_ _)); exact BK238.out) hb); have n1_ := Aside0.mk (below_step (by repeat (first | (with_reducible first | exact HB.out | apply below_alloc | apply pw_below_drewN | apply below_drew1 | refine below_set ?_ GE238.out) | exact HB.out)) hb); clear BK238; clear HB; have BK238 := n0_; have HB := n1_; clear n0_ n1_; (try clear hb); (try clear hb2); (try clear hk); (try clear hi)))
  (try simp only [Act.put, List.setIfInBounds_toArray, List.set_cons_zero, List.set_cons_succ])
  go_cut [26] (fun v26 wc => ∃ (kq : Nat) (x26_4 : Bool), v26 = .bool x26_4 ∧ Aside0 (obollaw16_TreeStays.j0 kq l1 a2 t239 x26_4 a0_0 a0_1 l0_2 = some r) ∧ Aside0 (kq ≤ k) ∧ Aside0 (wc.heap[gb238]? = some (.cells #[.int .i64 a0_0, .int .i64 a0_1, (.slice A0_2 l0_2.length c0_2)] 50 (0, 0))) ∧ Aside0 (Below w.heap.size w wc))
  case first =>
    have H := HC5.out
    clear HC5
    by_cases c8 : (l0_2.length : Int) > 100
    · rw [if_pos c8] at H
      have c8b0 : decide (100 < (l0_2.length : Int)) = true := decide_eq_true c8
      have c8b1 : decide (100 < l0_2.length) = true := decide_eq_true (by omega)
      clear c8
      (first | rw [c8b0] | (simp only [i64_w, i32_w]; rw [c8b0]) | skip)
      have H' := Aside0.mk H
      clear H
      have hcz9_0 : w7.cell? ⟨gb238, 0, none⟩ = some (.int .i64 a0_0) := (blk_cell BK238.out 0).trans rfl
      have hcz9_1 : w7.cell? ⟨gb238, 1, none⟩ = some (.int .i64 a0_1) := (blk_cell BK238.out 1).trans rfl
      have hcz9_2 : w7.cell? ⟨gb238, 2, none⟩ = some (.slice A0_2 l0_2.length c0_2) := (blk_cell BK238.out 2).trans rfl
      have hfz9_0 := blk_frozen BK238.out 0
      have hfz9_1 := blk_frozen BK238.out 1
      have hfz9_2 := blk_frozen BK238.out 2
      go_wp2
      go_meet
      case rel => exact ⟨_, (true), (by first | rfl | (simp; done) | (simp [*]; done)), H', ⟨by first | omega | exact Nat.le_refl _⟩, ⟨by (with_reducible repeat (first | refine blk_drewN ?_ _ | refine blk_drew ?_ | refine blk_alloc ?_ _)); exact BK238.out⟩, ⟨by repeat (first | (with_reducible first | exact HB.out | apply below_alloc | apply pw_below_drewN | apply below_drew1 | refine below_set ?_ GE238.out) | exact HB.out)⟩⟩
    · rw [if_neg c8] at H
      have c8b0 : decide (100 < (l0_2.length : Int)) = false := decide_eq_false c8
      have c8b1 : decide (100 < l0_2.length) = false := decide_eq_false (by omega)
      clear c8
      (first | rw [c8b0] | (simp only [i64_w, i32_w]; rw [c8b0]) | skip)
      have H' := Aside0.mk H
      clear H
      have hcz10_0 : w7.cell? ⟨gb238, 0, none⟩ = some (.int .i64 a0_0) := (blk_cell BK238.out 0).trans rfl
      have hcz10_1 : w7.cell? ⟨gb238, 1, none⟩ = some (.int .i64 a0_1) := (blk_cell BK238.out 1).trans rfl
      have hcz10_2 : w7.cell? ⟨gb238, 2, none⟩ = some (.slice A0_2 l0_2.length c0_2) := (blk_cell BK238.out 2).trans rfl
      have hfz10_0 := blk_frozen BK238.out 0
      have hfz10_1 := blk_frozen BK238.out 1
      have hfz10_2 := blk_frozen BK238.out 2
      go_wp2
      go_meet
      case rel => exact ⟨_, (decide ((l1.length : Int) > 60)), (by first | rfl | (simp; done) | (simp [*]; done)), H', ⟨by first | omega | exact Nat.le_refl _⟩, ⟨by (with_reducible repeat (first | refine blk_drewN ?_ _ | refine blk_drew ?_ | refine blk_alloc ?_ _)); exact BK238.out⟩, ⟨by repeat (first | (with_reducible first | exact HB.out | apply below_alloc | apply pw_below_drewN | apply below_drew1 | refine below_set ?_ GE238.out) | exact HB.out)⟩⟩
  case rest =>
    clear HC5
    try clear c1
    try clear p2
    try clear c3
    try clear c8
    try clear c8b0
    try clear c8b1
    try clear hcz10_0
    try clear hcz10_1
    try clear hcz10_2
    try clear hcz9_0
    try clear hcz9_1
    try clear hcz9_2
    try clear hfz10_0
    try clear hfz10_1
    try clear hfz10_2
    try clear hfz9_0
    try clear hfz9_1
    try clear hfz9_2
    obtain ⟨kq, x26_4, rfl, HA, HJ4, BK238, HB⟩ := hcut
    cases kq with
    | zero => exact absurd HA.out (by simp [obollaw16_TreeStays.j0])
    | succ kj4 =>
      have H := HA.out
      clear HA
      simp only [obollaw16_TreeStays.j0] at H
      by_cases c11 : x26_4 = true
      · subst c11
        have H1 : (some t239) = some r := by rw [if_pos rfl] at H; exact H
        clear H
        have H := H1
        clear H1
        obtain rfl := Option.some.inj H
        go_wp2
        go_ret
        exact ⟨by first | rfl | (simp [errW_none, errW_some] <;> rfl) | (simp [*, errW_none, errW_some] <;> rfl), by repeat (first | (with_reducible first | exact HB.out | apply below_alloc | apply pw_below_drewN | apply below_drew1 | refine below_set ?_ GE238.out) | exact HB.out)⟩
      · replace c11 := Bool.eq_false_iff.mpr c11
        subst c11
        have H1 : ((some (([] : List Int) : List Int)).bind fun y240 => (if y240.length + l0_2.length < 17592186044416 then ((some (y240 ++ l0_2 : List Int)).bind fun y243 => ((some (([] : List Int) : List Int)).bind fun y246 => (if y246.length + l1.length < 17592186044416 then ((some (y246 ++ l1 : List Int)).bind fun y249 => ((tree_Append.f kj4 a0_0 a0_1 y243 5).bind fun bt253 => (if bt253.2.2.2.isNone = true then (obollaw16_TreeStays.l0 kj4 l1 a2 t239 y243 y249 0 a0_0 a0_1 l0_2 bt253.1 bt253.2.1 bt253.2.2.1) else ((tree_Path.f kj4 y249 a2 0).bind fun bt269 => (obollaw16_TreeStays.l1 kj4 l1 t239 y243 y249 bt269.1 0 a0_0 a0_1 l0_2))))) else (none)))) else (none))) = some r := by rw [if_neg (show ¬ (false = true) by decide)] at H; exact H
        clear H
        have H := H1
        clear H1
        obtain ⟨y240, hy240⟩ : ∃ y_ : List Int, y_ = (([] : List Int)) := ⟨_, rfl⟩
        replace H : (if y240.length + l0_2.length < 17592186044416 then ((some (y240 ++ l0_2 : List Int)).bind fun y243 => ((some (([] : List Int) : List Int)).bind fun y246 => (if y246.length + l1.length < 17592186044416 then ((some (y246 ++ l1 : List Int)).bind fun y249 => ((tree_Append.f kj4 a0_0 a0_1 y243 5).bind fun bt253 => (if bt253.2.2.2.isNone = true then (obollaw16_TreeStays.l0 kj4 l1 a2 t239 y243 y249 0 a0_0 a0_1 l0_2 bt253.1 bt253.2.1 bt253.2.2.1) else ((tree_Path.f kj4 y249 a2 0).bind fun bt269 => (obollaw16_TreeStays.l1 kj4 l1 t239 y243 y249 bt269.1 0 a0_0 a0_1 l0_2))))) else (none)))) else (none)) = some r := by first | (rw [hy240]; with_reducible exact H) | (have H2_ := (Option.bind_some _ _).symm.trans H; rw [hy240]; with_reducible exact H2_) | (have H2_ := (Option.bind_some _ _).symm.trans H; with_reducible exact H2_) | with_reducible exact H | (rw [hy240]; exact H) | exact H
        have Ny240 := Aside0.mk hy240
        clear hy240
        by_cases c12 : y240.length + l0_2.length < 17592186044416
        · rw [if_pos c12] at H
          have LMc12 := Aside0.mk c12
          clear c12
          obtain ⟨y243, hy243⟩ : ∃ y_ : List Int, y_ = (y240 ++ l0_2) := ⟨_, rfl⟩
          replace H : ((some (([] : List Int) : List Int)).bind fun y246 => (if y246.length + l1.length < 17592186044416 then ((some (y246 ++ l1 : List Int)).bind fun y249 => ((tree_Append.f kj4 a0_0 a0_1 y243 5).bind fun bt253 => (if bt253.2.2.2.isNone = true then (obollaw16_TreeStays.l0 kj4 l1 a2 t239 y243 y249 0 a0_0 a0_1 l0_2 bt253.1 bt253.2.1 bt253.2.2.1) else ((tree_Path.f kj4 y249 a2 0).bind fun bt269 => (obollaw16_TreeStays.l1 kj4 l1 t239 y243 y249 bt269.1 0 a0_0 a0_1 l0_2))))) else (none))) = some r := by first | (rw [hy243]; with_reducible exact H) | (have H2_ := (Option.bind_some _ _).symm.trans H; rw [hy243]; with_reducible exact H2_) | (have H2_ := (Option.bind_some _ _).symm.trans H; with_reducible exact H2_) | with_reducible exact H | (rw [hy243]; exact H) | exact H
          have Ny243 := Aside0.mk hy243
          clear hy243
          obtain ⟨y246, hy246⟩ : ∃ y_ : List Int, y_ = (([] : List Int)) := ⟨_, rfl⟩
          replace H : (if y246.length + l1.length < 17592186044416 then ((some (y246 ++ l1 : List Int)).bind fun y249 => ((tree_Append.f kj4 a0_0 a0_1 y243 5).bind fun bt253 => (if bt253.2.2.2.isNone = true then (obollaw16_TreeStays.l0 kj4 l1 a2 t239 y243 y249 0 a0_0 a0_1 l0_2 bt253.1 bt253.2.1 bt253.2.2.1) else ((tree_Path.f kj4 y249 a2 0).bind fun bt269 => (obollaw16_TreeStays.l1 kj4 l1 t239 y243 y249 bt269.1 0 a0_0 a0_1 l0_2))))) else (none)) = some r := by first | (rw [hy246]; with_reducible exact H) | (have H2_ := (Option.bind_some _ _).symm.trans H; rw [hy246]; with_reducible exact H2_) | (have H2_ := (Option.bind_some _ _).symm.trans H; with_reducible exact H2_) | with_reducible exact H | (rw [hy246]; exact H) | exact H
          have Ny246 := Aside0.mk hy246
          clear hy246
          by_cases c13 : y246.length + l1.length < 17592186044416
          · rw [if_pos c13] at H
            have LMc13 := Aside0.mk c13
            clear c13
            obtain ⟨y249, hy249⟩ : ∃ y_ : List Int, y_ = (y246 ++ l1) := ⟨_, rfl⟩
            replace H : ((tree_Append.f kj4 a0_0 a0_1 y243 5).bind fun bt253 => (if bt253.2.2.2.isNone = true then (obollaw16_TreeStays.l0 kj4 l1 a2 t239 y243 y249 0 a0_0 a0_1 l0_2 bt253.1 bt253.2.1 bt253.2.2.1) else ((tree_Path.f kj4 y249 a2 0).bind fun bt269 => (obollaw16_TreeStays.l1 kj4 l1 t239 y243 y249 bt269.1 0 a0_0 a0_1 l0_2)))) = some r := by first | (rw [hy249]; with_reducible exact H) | (have H2_ := (Option.bind_some _ _).symm.trans H; rw [hy249]; with_reducible exact H2_) | (have H2_ := (Option.bind_some _ _).symm.trans H; with_reducible exact H2_) | with_reducible exact H | (rw [hy249]; exact H) | exact H
            have Ny249 := Aside0.mk hy249
            clear hy249
            replace H := Option.bind_eq_some_iff.mp H
            obtain ⟨⟨t253, t254, t255, t258⟩, A140, H⟩ := H
            replace H : (if t258.isNone = true then (obollaw16_TreeStays.l0 kj4 l1 a2 t239 y243 y249 0 a0_0 a0_1 l0_2 t253 t254 t255) else ((tree_Path.f kj4 y249 a2 0).bind fun bt269 => (obollaw16_TreeStays.l1 kj4 l1 t239 y243 y249 bt269.1 0 a0_0 a0_1 l0_2))) = some r := H
            have A14 := Aside0.mk A140
            clear A140
            rcases t258 with _ | q260
            · have H1 : (obollaw16_TreeStays.l0 kj4 l1 a2 t239 y243 y249 0 a0_0 a0_1 l0_2 t253 t254 t255) = some r := by rw [if_pos (show (none : Option Int).isNone = true by rfl)] at H; exact H
              clear H
              have H := H1
              clear H1
              try simp only [errW_none, errW_some]
              have H' := Aside0.mk H
              clear H
              go_wp2_with (first | ((with_reducible refine gate_dst (N := 28) rfl ?_); (try (refine gate_guard (by rfl) ?_; dsimp only)); refine Kd.R_lit (Kd.int .u64) _ 23 ?hg (N := 28) ?hd (xs := ([] : List Int)) (inner := []) (ok := fun _ => True) (okp := fun _ => True) ?hr ?hp (fun _ hk => hk) trivial (Below.refl _ _) (Nat.le_refl _) (by simp) ?_; (case hd => rfl); (case hg => rfl); (case hr => first | (go_simp; done) | (go_simp; rfl)); (case hp => exact (Reps.none _ _)); intro v241 w15 ho16 hb hg_ hnew_; clear hg_ hnew_; (first | rw [← Ny240.out] at ho16 | (simp only [Int.reduceToNat] at ho16; rw [← Ny240.out] at ho16)); have n0_ := Aside0.mk (Kd.R_lower ho16 (below_size (by repeat (first | (with_reducible first | exact HB.out | apply below_alloc | apply pw_below_drewN | apply below_drew1 | refine below_set ?_ GE238.out) | exact HB.out)))); have n1_ := Aside0.mk (blk_below (g := gb238) (o := .cells #[.int .i64 a0_0, .int .i64 a0_1, .slice A0_2 l0_2.length c0_2] 50 (0, 0)) (by (with_reducible repeat (first | refine blk_drewN ?_ _ | refine blk_drew ?_ | refine blk_alloc ?_ _)); exact BK238.out) hb); have n2_ := Aside0.mk (below_step (by repeat (first | (with_reducible first | exact HB.out | apply below_alloc | apply pw_below_drewN | apply below_drew1 | refine below_set ?_ GE238.out) | exact HB.out)) hb); clear BK238; clear HB; have HO242 := n0_; have BK238 := n1_; have HB := n2_; clear n0_ n1_ n2_; clear hb ho16; have hcz17_0 : w15.cell? ⟨gb238, 0, none⟩ = some (.int .i64 a0_0) := (blk_cell BK238.out 0).trans rfl; have hcz17_1 : w15.cell? ⟨gb238, 1, none⟩ = some (.int .i64 a0_1) := (blk_cell BK238.out 1).trans rfl; have hcz17_2 : w15.cell? ⟨gb238, 2, none⟩ = some (.slice A0_2 l0_2.length c0_2) := (blk_cell BK238.out 2).trans rfl; have hfz17_0 := blk_frozen BK238.out 0; have hfz17_1 := blk_frozen BK238.out 1; have hfz17_2 := blk_frozen BK238.out 2) | ((with_reducible refine gate_builtin (b := .append) (xs := #[.tmp 28, .tmp 30]) rfl ?_); (try (refine gate_guard (by rfl) ?_; dsimp only)); at_builtin; refine Kd.R_append_rows (Kd.int .u64) (w0 := w) w.heap.size rfl (.tmp 28) (.tmp 30) 22 23 (.int .u64 0) 8 rfl Try.underlying22 info23 rfl (by decide) (by omega) v241 y240 l0_2 _ _ _ (fun _ => True) (fun _ => False) rfl rfl ?aO ?aR (fun _ _ h => h) (fun _ h => h.elim) ?aF ?aB ?aS ?aL ?_; (case aR => repeat (first | exact (Kd.C_below HR0_2.out HB.out) | (with_reducible refine Kd.C_alloc ?_ _) | (with_reducible refine Kd.C_drewN ?_ _) | (with_reducible refine Kd.C_drew ?_))); (case aB => exact (by repeat (first | (with_reducible first | exact HB.out | apply below_alloc | apply pw_below_drewN | apply below_drew1 | refine below_set ?_ GE238.out) | exact HB.out))); (case aF => exact (fun _ _ => trivial)); (case aO => exact (by (with_reducible repeat (first | apply Kd.R_alloc | apply Kd.R_drewN | apply Kd.R_drew)); exact HO242.out)); (case aS => exact (below_size (by repeat (first | (with_reducible first | exact HB.out | apply below_alloc | apply pw_below_drewN | apply below_drew1 | refine below_set ?_ GE238.out) | exact HB.out)))); (case aL => have := LMc12.out; omega); intro v244 w18 ho hb hg hat; rw [← Ny243.out] at ho; have n0_ := Aside0.mk (blk_grown (g := gb238) (o := .cells #[.int .i64 a0_0, .int .i64 a0_1, .slice A0_2 l0_2.length c0_2] 50 (0, 0)) (by (with_reducible repeat (first | refine blk_drewN ?_ _ | refine blk_drew ?_ | refine blk_alloc ?_ _)); exact BK238.out) hg (Kd.R_ne HO242.out BK238.out (by decide))); have n1_ := Aside0.mk (hb); have n2_ := Aside0.mk (ho); clear BK238; clear HB; clear HO242; have BK238 := n0_; have HB := n1_; have HO245 := n2_; clear n0_ n1_ n2_; clear ho hb hg hat) | ((with_reducible refine gate_dst (N := 32) rfl ?_); (try (refine gate_guard (by rfl) ?_; dsimp only)); refine Kd.R_lit (Kd.int .u64) _ 23 ?hg (N := 32) ?hd (xs := ([] : List Int)) (inner := []) (ok := fun _ => True) (okp := fun _ => True) ?hr ?hp (fun _ hk => hk) trivial (Below.refl _ _) (Nat.le_refl _) (by simp) ?_; (case hd => rfl); (case hg => rfl); (case hr => first | (go_simp; done) | (go_simp; rfl)); (case hp => exact (Reps.none _ _)); intro v247 w19 ho20 hb hg_ hnew_; clear hg_ hnew_; (first | rw [← Ny246.out] at ho20 | (simp only [Int.reduceToNat] at ho20; rw [← Ny246.out] at ho20)); have n0_ := Aside0.mk (Kd.R_elder' (by (with_reducible repeat (first | apply Kd.R_alloc | apply Kd.R_drewN | apply Kd.R_drew)); exact HO245.out) (Kd.R_base ho20) hb); have n1_ := Aside0.mk (Kd.R_lower (Kd.R_new' ho20 (Kd.R_lt (by (with_reducible repeat (first | apply Kd.R_alloc | apply Kd.R_drewN | apply Kd.R_drew)); exact HO245.out))) (below_size (by repeat (first | (with_reducible first | exact HB.out | apply below_alloc | apply pw_below_drewN | apply below_drew1 | refine below_set ?_ GE238.out) | exact HB.out)))); have n2_ := Aside0.mk (blk_below (g := gb238) (o := .cells #[.int .i64 a0_0, .int .i64 a0_1, .slice A0_2 l0_2.length c0_2] 50 (0, 0)) (by (with_reducible repeat (first | refine blk_drewN ?_ _ | refine blk_drew ?_ | refine blk_alloc ?_ _)); exact BK238.out) hb); have n3_ := Aside0.mk (below_step (by repeat (first | (with_reducible first | exact HB.out | apply below_alloc | apply pw_below_drewN | apply below_drew1 | refine below_set ?_ GE238.out) | exact HB.out)) hb); clear HO245; clear BK238; clear HB; have HO245 := n0_; have HO248 := n1_; have BK238 := n2_; have HB := n3_; clear n0_ n1_ n2_ n3_; clear hb ho20) | ((with_reducible refine gate_builtin (b := .append) (xs := #[.tmp 32, .tmp 33]) rfl ?_); (try (refine gate_guard (by rfl) ?_; dsimp only)); at_builtin; refine Kd.R_append_rows (Kd.int .u64) (w0 := w) w.heap.size rfl (.tmp 32) (.tmp 33) 22 23 (.int .u64 0) 8 rfl Try.underlying22 info23 rfl (by decide) (by omega) v247 y246 l1 _ _ _ (fun k_ => some k_ ≠ (v244 : Value).ownBlock) (fun _ => False) rfl rfl ?aO ?aR (fun _ _ h => h) (fun _ h => h.elim) ?aF ?aB ?aS ?aL ?_; (case aR => repeat (first | exact (Kd.C_below HR1.out HB.out) | (with_reducible refine Kd.C_alloc ?_ _) | (with_reducible refine Kd.C_drewN ?_ _) | (with_reducible refine Kd.C_drew ?_))); (case aB => exact (by repeat (first | (with_reducible first | exact HB.out | apply below_alloc | apply pw_below_drewN | apply below_drew1 | refine below_set ?_ GE238.out) | exact HB.out))); (case aF => exact (fun k_ hk => Kd.fresh' (Kd.R_lt (by (with_reducible repeat (first | apply Kd.R_alloc | apply Kd.R_drewN | apply Kd.R_drew)); exact HO245.out)) k_ hk)); (case aO => exact (by (with_reducible repeat (first | apply Kd.R_alloc | apply Kd.R_drewN | apply Kd.R_drew)); exact Kd.R_mono HO248.out (fun _ hk => hk.2))); (case aS => exact (below_size (by repeat (first | (with_reducible first | exact HB.out | apply below_alloc | apply pw_below_drewN | apply below_drew1 | refine below_set ?_ GE238.out) | exact HB.out)))); (case aL => have := LMc13.out; omega); intro v250 w21 ho hb hg hat; rw [← Ny249.out] at ho; have n0_ := Aside0.mk (blk_grown (g := gb238) (o := .cells #[.int .i64 a0_0, .int .i64 a0_1, .slice A0_2 l0_2.length c0_2] 50 (0, 0)) (by (with_reducible repeat (first | refine blk_drewN ?_ _ | refine blk_drew ?_ | refine blk_alloc ?_ _)); exact BK238.out) hg (Kd.R_ne HO248.out BK238.out (by decide))); have n1_ := Aside0.mk (Kd.R_after (ok := (fun _ => True)) (by (with_reducible repeat (first | apply Kd.R_alloc | apply Kd.R_drewN | apply Kd.R_drew)); exact HO245.out) hg hat); have n2_ := Aside0.mk (hb); have n3_ := Aside0.mk (ho); clear BK238; clear HO245; clear HB; clear HO248; have BK238 := n0_; have HO245 := n1_; have HB := n2_; have HO251 := n3_; clear n0_ n1_ n2_ n3_; clear ho hb hg hat; have hcz22_0 : w21.cell? ⟨gb238, 0, none⟩ = some (.int .i64 a0_0) := (blk_cell BK238.out 0).trans rfl; have hcz22_1 : w21.cell? ⟨gb238, 1, none⟩ = some (.int .i64 a0_1) := (blk_cell BK238.out 1).trans rfl; have hcz22_2 : w21.cell? ⟨gb238, 2, none⟩ = some (.slice A0_2 l0_2.length c0_2) := (blk_cell BK238.out 2).trans rfl; have hfz22_0 := blk_frozen BK238.out 0; have hfz22_1 := blk_frozen BK238.out 1; have hfz22_2 := blk_frozen BK238.out 2; obtain ⟨Ao23, co23, eo23⟩ := Kd.R_slice HO245.out; subst eo23) | ((with_reducible refine gate_dst (N := 10) rfl ?_); (try (refine gate_guard (by rfl) ?_; dsimp only)); refine box_event ?hg (N := 10) ?hd (cs := #[.int .i64 0, .int .i64 0, .slice none 0 0]) (t := 50) ?hr ?_; (case hd => rfl); (case hg => rfl); (case hr => first | (go_simp; done) | (go_simp; rfl)); intro gb252 hg w24 hbox hb; have n0_ := Aside0.mk (Kd.R_below (by (with_reducible repeat (first | apply Kd.R_alloc | apply Kd.R_drewN | apply Kd.R_drew)); exact HO245.out) hb); have n1_ := Aside0.mk (Kd.R_below (by (with_reducible repeat (first | apply Kd.R_alloc | apply Kd.R_drewN | apply Kd.R_drew)); exact HO251.out) hb); have n2_ := Aside0.mk (blk_below (g := gb238) (o := .cells #[.int .i64 a0_0, .int .i64 a0_1, .slice A0_2 l0_2.length c0_2] 50 (0, 0)) (by (with_reducible repeat (first | refine blk_drewN ?_ _ | refine blk_drew ?_ | refine blk_alloc ?_ _)); exact BK238.out) hb); have n3_ := Aside0.mk (below_step (by repeat (first | (with_reducible first | exact HB.out | apply below_alloc | apply pw_below_drewN | apply below_drew1 | refine below_set ?_ GE238.out) | exact HB.out)) hb); have n4_ := Aside0.mk (hbox); have n5_ := Aside0.mk ((by rw [hg]; exact (below_size (by repeat (first | (with_reducible first | exact HB.out | apply below_alloc | apply pw_below_drewN | apply below_drew1 | refine below_set ?_ GE238.out) | exact HB.out))) : w.heap.size ≤ gb252)); have n6_ := Aside0.mk ((by rw [hg]; exact (below_size (by repeat (first | (with_reducible first | exact HB.out | apply below_alloc | apply pw_below_drewN | apply below_drew1 | refine below_set ?_ GE238.out) | exact HB.out))) : w.heap.size ≤ gb252)); have n7_ := Aside0.mk ((by rw [hg]; exact Nat.ne_of_lt (blk_lt (g := gb238) (o := .cells #[.int .i64 a0_0, .int .i64 a0_1, .slice A0_2 l0_2.length c0_2] 50 (0, 0)) (by (with_reducible repeat (first | refine blk_drewN ?_ _ | refine blk_drew ?_ | refine blk_alloc ?_ _)); exact BK238.out)) : gb238 ≠ gb252)); have n8_ := Aside0.mk ((by rw [hg]; exact Nat.ne_of_gt (blk_lt (g := gb238) (o := .cells #[.int .i64 a0_0, .int .i64 a0_1, .slice A0_2 l0_2.length c0_2] 50 (0, 0)) (by (with_reducible repeat (first | refine blk_drewN ?_ _ | refine blk_drew ?_ | refine blk_alloc ?_ _)); exact BK238.out)) : gb252 ≠ gb238)); clear HO245; clear HO251; clear BK238; clear HB; have HO245 := n0_; have HO251 := n1_; have BK238 := n2_; have HB := n3_; have BK252 := n4_; have GW252 := n5_; have GE252 := n6_; have NB238_252 := n7_; have NB252_238 := n8_; clear n0_ n1_ n2_ n3_ n4_ n5_ n6_ n7_ n8_; clear hb hbox hg; have hnb25 := NB252_238.out; have hnc25 := NB238_252.out; have hcz26_0 : w24.cell? ⟨gb252, 0, none⟩ = some (.int .i64 0) := (blk_cell BK252.out 0).trans rfl; have hcz26_1 : w24.cell? ⟨gb252, 1, none⟩ = some (.int .i64 0) := (blk_cell BK252.out 1).trans rfl; have hcz26_2 : w24.cell? ⟨gb252, 2, none⟩ = some (.slice none 0 0) := (blk_cell BK252.out 2).trans rfl; have hfz26_0 := blk_frozen BK252.out 0; have hfz26_1 := blk_frozen BK252.out 1; have hfz26_2 := blk_frozen BK252.out 2) | ((with_reducible refine gate_callee (f := 39) rfl ?_); refine goesL_ (some 43) rfl rfl Try.func39 (by kernel_rfl) rfl #[.agg #[.int .i64 a0_0, .int .i64 a0_1, .slice Ao23 y243.length co23], .int .u64 5] rfl (by (try simp only [List.map_toArray, List.map_cons, List.map_nil]); first | done | rfl | (simp only [List.length_drop, List.length_take]; rfl)) ?_; (with_reducible refine (tree_Append.calls kj4 a0_0 a0_1 _ _ y243 5 t253 t254 t255 none _ ?side1 ?side2 A14.out).mono ?_); (case side1 => refine (Kd.R_reads' (e := 23) (base := w.heap.size) (ok := fun k_ => (True ∧ some k_ ≠ (v250 : Value).ownBlock)) (n := y243.length) (c := co23) ?_).2.2; exact (by (with_reducible repeat (first | apply Kd.R_alloc | apply Kd.R_drewN | apply Kd.R_drew)); exact (Kd.R_mono (Kd.R_far (p := ⟨gb252, 2, none⟩) (Kd.R_far (p := ⟨gb252, 1, none⟩) (Kd.R_far (p := ⟨gb252, 0, none⟩) (Kd.R_types HO245.out BK252.out (by decide)) (fun _ hk => hk.2) (.int .i64 a0_0)) (fun _ hk => hk.2) (.int .i64 a0_1)) (fun _ hk => hk.2) (.slice Ao23 y243.length co23)) (fun _ h_ => h_.1)))); (case side2 => exact (Kd.R_reads' HO245.out).2.1); rintro e w27 ⟨v256, rfl, ho0, hb⟩; refine ⟨_, rfl, ?_⟩; have n0_ := Aside0.mk (Kd.R_elder' (by (with_reducible repeat (first | apply Kd.R_alloc | apply Kd.R_drewN | apply Kd.R_drew)); exact (Kd.R_mono (Kd.R_far (p := ⟨gb252, 2, none⟩) (Kd.R_far (p := ⟨gb252, 1, none⟩) (Kd.R_far (p := ⟨gb252, 0, none⟩) (Kd.R_types HO245.out BK252.out (by decide)) (fun _ hk => hk.2) (.int .i64 a0_0)) (fun _ hk => hk.2) (.int .i64 a0_1)) (fun _ hk => hk.2) (.slice Ao23 y243.length co23)) (fun _ h_ => h_.1))) (Kd.R_base ho0) hb); have n1_ := Aside0.mk (Kd.R_elder' (by (with_reducible repeat (first | apply Kd.R_alloc | apply Kd.R_drewN | apply Kd.R_drew)); exact (Kd.R_mono (Kd.R_far (p := ⟨gb252, 2, none⟩) (Kd.R_far (p := ⟨gb252, 1, none⟩) (Kd.R_far (p := ⟨gb252, 0, none⟩) (Kd.R_types HO251.out BK252.out (by decide)) (fun _ hk => hk.2) (.int .i64 a0_0)) (fun _ hk => hk.2) (.int .i64 a0_1)) (fun _ hk => hk.2) (.slice Ao23 y243.length co23)) (fun _ h_ => h_.1))) (Kd.R_base ho0) hb); have n2_ := Aside0.mk (Kd.R_lower (Kd.R_new' (Kd.R_new' ho0 (Kd.R_lt (by (with_reducible repeat (first | apply Kd.R_alloc | apply Kd.R_drewN | apply Kd.R_drew)); exact (Kd.R_mono (Kd.R_far (p := ⟨gb252, 2, none⟩) (Kd.R_far (p := ⟨gb252, 1, none⟩) (Kd.R_far (p := ⟨gb252, 0, none⟩) (Kd.R_types HO245.out BK252.out (by decide)) (fun _ hk => hk.2) (.int .i64 a0_0)) (fun _ hk => hk.2) (.int .i64 a0_1)) (fun _ hk => hk.2) (.slice Ao23 y243.length co23)) (fun _ h_ => h_.1))))) (Kd.R_lt (by (with_reducible repeat (first | apply Kd.R_alloc | apply Kd.R_drewN | apply Kd.R_drew)); exact (Kd.R_mono (Kd.R_far (p := ⟨gb252, 2, none⟩) (Kd.R_far (p := ⟨gb252, 1, none⟩) (Kd.R_far (p := ⟨gb252, 0, none⟩) (Kd.R_types HO251.out BK252.out (by decide)) (fun _ hk => hk.2) (.int .i64 a0_0)) (fun _ hk => hk.2) (.int .i64 a0_1)) (fun _ hk => hk.2) (.slice Ao23 y243.length co23)) (fun _ h_ => h_.1))))) (below_size (by repeat (first | (with_reducible first | exact HB.out | apply below_alloc | apply pw_below_drewN | apply below_drew1 | refine below_set ?_ GE238.out | refine below_set ?_ GE252.out) | exact HB.out)))); have n3_ := Aside0.mk (blk_below (g := gb238) (o := .cells #[.int .i64 a0_0, .int .i64 a0_1, .slice A0_2 l0_2.length c0_2] 50 (0, 0)) (by (with_reducible repeat (first | refine blk_drewN ?_ _ | refine blk_drew ?_ | refine blk_alloc ?_ _)); refine blk_far ?_ NB238_252.out _; (with_reducible repeat (first | refine blk_drewN ?_ _ | refine blk_drew ?_ | refine blk_alloc ?_ _)); refine blk_far ?_ NB238_252.out _; (with_reducible repeat (first | refine blk_drewN ?_ _ | refine blk_drew ?_ | refine blk_alloc ?_ _)); refine blk_far ?_ NB238_252.out _; (with_reducible repeat (first | refine blk_drewN ?_ _ | refine blk_drew ?_ | refine blk_alloc ?_ _)); exact BK238.out) hb); have n4_ := Aside0.mk (blk_below (g := gb252) (o := .cells #[.int .i64 a0_0, .int .i64 a0_1, .slice Ao23 y243.length co23] 50 (0, 0)) (by (with_reducible repeat (first | refine blk_drewN ?_ _ | refine blk_drew ?_ | refine blk_alloc ?_ _)); refine blk_put (cs := #[.int .i64 a0_0, .int .i64 a0_1, .slice none 0 0]) ?_ 2 _ rfl; (with_reducible repeat (first | refine blk_drewN ?_ _ | refine blk_drew ?_ | refine blk_alloc ?_ _)); refine blk_put (cs := #[.int .i64 a0_0, .int .i64 0, .slice none 0 0]) ?_ 1 _ rfl; (with_reducible repeat (first | refine blk_drewN ?_ _ | refine blk_drew ?_ | refine blk_alloc ?_ _)); refine blk_put (cs := #[.int .i64 0, .int .i64 0, .slice none 0 0]) ?_ 0 _ rfl; (with_reducible repeat (first | refine blk_drewN ?_ _ | refine blk_drew ?_ | refine blk_alloc ?_ _)); exact BK252.out) hb); have n5_ := Aside0.mk (below_step (by repeat (first | (with_reducible first | exact HB.out | apply below_alloc | apply pw_below_drewN | apply below_drew1 | refine below_set ?_ GE238.out | refine below_set ?_ GE252.out) | exact HB.out)) hb); clear HO245; clear HO251; clear BK238; clear BK252; clear HB; have HO245 := n0_; have HO251 := n1_; have HO257 := n2_; have BK238 := n3_; have BK252 := n4_; have HB := n5_; clear n0_ n1_ n2_ n3_ n4_ n5_; (try clear hb); (try clear hb2); (try clear hk); (try clear hi); (try clear ho0); (try simp only [errW_none, errW_some])) | ((with_reducible refine gate_dst (N := 11) rfl ?_); (try (refine gate_guard (by rfl) ?_; dsimp only)); refine box_event ?hg (N := 11) ?hd (cs := #[.int .i64 0, .int .i64 0, .slice none 0 0]) (t := 50) ?hr ?_; (case hd => rfl); (case hg => rfl); (case hr => first | (go_simp; done) | (go_simp; rfl)); intro gb259 hg w28 hbox hb; have n0_ := Aside0.mk (Kd.R_below (by (with_reducible repeat (first | apply Kd.R_alloc | apply Kd.R_drewN | apply Kd.R_drew)); exact HO245.out) hb); have n1_ := Aside0.mk (Kd.R_below (by (with_reducible repeat (first | apply Kd.R_alloc | apply Kd.R_drewN | apply Kd.R_drew)); exact HO251.out) hb); have n2_ := Aside0.mk (Kd.R_below (by (with_reducible repeat (first | apply Kd.R_alloc | apply Kd.R_drewN | apply Kd.R_drew)); exact HO257.out) hb); have n3_ := Aside0.mk (blk_below (g := gb238) (o := .cells #[.int .i64 a0_0, .int .i64 a0_1, .slice A0_2 l0_2.length c0_2] 50 (0, 0)) (by (with_reducible repeat (first | refine blk_drewN ?_ _ | refine blk_drew ?_ | refine blk_alloc ?_ _)); exact BK238.out) hb); have n4_ := Aside0.mk (blk_below (g := gb252) (o := .cells #[.int .i64 a0_0, .int .i64 a0_1, .slice Ao23 y243.length co23] 50 (0, 0)) (by (with_reducible repeat (first | refine blk_drewN ?_ _ | refine blk_drew ?_ | refine blk_alloc ?_ _)); exact BK252.out) hb); have n5_ := Aside0.mk (below_step (by repeat (first | (with_reducible first | exact HB.out | apply below_alloc | apply pw_below_drewN | apply below_drew1 | refine below_set ?_ GE238.out | refine below_set ?_ GE252.out) | exact HB.out)) hb); have n6_ := Aside0.mk (hbox); have n7_ := Aside0.mk ((by rw [hg]; exact (below_size (by repeat (first | (with_reducible first | exact HB.out | apply below_alloc | apply pw_below_drewN | apply below_drew1 | refine below_set ?_ GE238.out | refine below_set ?_ GE252.out) | exact HB.out))) : w.heap.size ≤ gb259)); have n8_ := Aside0.mk ((by rw [hg]; exact (below_size (by repeat (first | (with_reducible first | exact HB.out | apply below_alloc | apply pw_below_drewN | apply below_drew1 | refine below_set ?_ GE238.out | refine below_set ?_ GE252.out) | exact HB.out))) : w.heap.size ≤ gb259)); have n9_ := Aside0.mk ((by rw [hg]; exact Nat.ne_of_lt (blk_lt (g := gb238) (o := .cells #[.int .i64 a0_0, .int .i64 a0_1, .slice A0_2 l0_2.length c0_2] 50 (0, 0)) (by (with_reducible repeat (first | refine blk_drewN ?_ _ | refine blk_drew ?_ | refine blk_alloc ?_ _)); exact BK238.out)) : gb238 ≠ gb259)); have n10_ := Aside0.mk ((by rw [hg]; exact Nat.ne_of_gt (blk_lt (g := gb238) (o := .cells #[.int .i64 a0_0, .int .i64 a0_1, .slice A0_2 l0_2.length c0_2] 50 (0, 0)) (by (with_reducible repeat (first | refine blk_drewN ?_ _ | refine blk_drew ?_ | refine blk_alloc ?_ _)); exact BK238.out)) : gb259 ≠ gb238)); have n11_ := Aside0.mk ((by rw [hg]; exact Nat.ne_of_lt (blk_lt (g := gb252) (o := .cells #[.int .i64 a0_0, .int .i64 a0_1, .slice Ao23 y243.length co23] 50 (0, 0)) (by (with_reducible repeat (first | refine blk_drewN ?_ _ | refine blk_drew ?_ | refine blk_alloc ?_ _)); exact BK252.out)) : gb252 ≠ gb259)); have n12_ := Aside0.mk ((by rw [hg]; exact Nat.ne_of_gt (blk_lt (g := gb252) (o := .cells #[.int .i64 a0_0, .int .i64 a0_1, .slice Ao23 y243.length co23] 50 (0, 0)) (by (with_reducible repeat (first | refine blk_drewN ?_ _ | refine blk_drew ?_ | refine blk_alloc ?_ _)); exact BK252.out)) : gb259 ≠ gb252)); clear HO245; clear HO251; clear HO257; clear BK238; clear BK252; clear HB; have HO245 := n0_; have HO251 := n1_; have HO257 := n2_; have BK238 := n3_; have BK252 := n4_; have HB := n5_; have BK259 := n6_; have GW259 := n7_; have GE259 := n8_; have NB238_259 := n9_; have NB259_238 := n10_; have NB252_259 := n11_; have NB259_252 := n12_; clear n0_ n1_ n2_ n3_ n4_ n5_ n6_ n7_ n8_ n9_ n10_ n11_ n12_; clear hb hbox hg; have hnb29 := NB259_238.out; have hnc29 := NB238_259.out; have hnb30 := NB259_252.out; have hnc30 := NB252_259.out; have hcz31_0 : w28.cell? ⟨gb259, 0, none⟩ = some (.int .i64 0) := (blk_cell BK259.out 0).trans rfl; have hcz31_1 : w28.cell? ⟨gb259, 1, none⟩ = some (.int .i64 0) := (blk_cell BK259.out 1).trans rfl; have hcz31_2 : w28.cell? ⟨gb259, 2, none⟩ = some (.slice none 0 0) := (blk_cell BK259.out 2).trans rfl; have hfz31_0 := blk_frozen BK259.out 0; have hfz31_1 := blk_frozen BK259.out 1; have hfz31_2 := blk_frozen BK259.out 2; obtain ⟨Ao32, co32, eo32⟩ := Kd.R_slice HO257.out; subst eo32))
              go_loopg [13] kj4 (fun kq v13 w' => ∃ (x8_2 : List Int) (x9_2 : List Int) (x13_2 : Int) (x260002_2 : List Int) (u260002 : Value), v13 = .int .i64 x13_2 ∧ Aside0 (obollaw16_TreeStays.l0 kq l1 a2 t239 x8_2 x9_2 x13_2 a0_0 a0_1 l0_2 t253 t254 x260002_2 = some r) ∧ Aside0 (kq ≤ kj4) ∧ Aside0 (Kd.R (Kd.int .u64) 23 w' w.heap.size (fun k_ => some k_ ≠ (v250 : Value).ownBlock ∧ some k_ ≠ (u260002 : Value).ownBlock) (.slice Ao23 y243.length co23) x8_2) ∧ Aside0 (Kd.R (Kd.int .u64) 23 w' w.heap.size (fun k_ => some k_ ≠ ((.slice Ao23 y243.length co23) : Value).ownBlock ∧ some k_ ≠ (u260002 : Value).ownBlock) v250 x9_2) ∧ Aside0 (Kd.R (Kd.int .u64) 23 w' w.heap.size (fun k_ => some k_ ≠ ((.slice Ao23 y243.length co23) : Value).ownBlock ∧ some k_ ≠ (v250 : Value).ownBlock) u260002 x260002_2) ∧ Aside0 (w'.heap[gb238]? = some (.cells #[.int .i64 a0_0, .int .i64 a0_1, (.slice A0_2 l0_2.length c0_2)] 50 (0, 0))) ∧ Aside0 (w'.heap[gb259]? = some (.cells #[.int .i64 t253, .int .i64 t254, u260002] 50 (0, 0))) ∧ Aside0 (Below w.heap.size w w'))
              case atStart => exact ⟨(y243), (y249), (0), (t255), (.slice Ao32 t255.length co32), (by first | rfl | (simp; done) | (simp [*]; done)), H', ⟨Nat.le_refl _⟩, ⟨by (with_reducible repeat (first | apply Kd.R_alloc | apply Kd.R_drewN | apply Kd.R_drew)); exact Kd.R_mono (Kd.R_far (p := ⟨gb259, 2, none⟩) (Kd.R_far (p := ⟨gb259, 1, none⟩) (Kd.R_far (p := ⟨gb259, 0, none⟩) (Kd.R_types HO245.out BK259.out (by decide)) (fun _ hk => hk.2) (.int .i64 t253)) (fun _ hk => hk.2) (.int .i64 t254)) (fun _ hk => hk.2) (.slice Ao32 t255.length co32)) (fun _ hk => ⟨hk.1.1.2, hk.1.2⟩)⟩, ⟨by (with_reducible repeat (first | apply Kd.R_alloc | apply Kd.R_drewN | apply Kd.R_drew)); exact Kd.R_mono (Kd.R_far (p := ⟨gb259, 2, none⟩) (Kd.R_far (p := ⟨gb259, 1, none⟩) (Kd.R_far (p := ⟨gb259, 0, none⟩) (Kd.R_types HO251.out BK259.out (by decide)) (fun _ hk => hk.2) (.int .i64 t253)) (fun _ hk => hk.2) (.int .i64 t254)) (fun _ hk => hk.2) (.slice Ao32 t255.length co32)) (fun _ hk => ⟨hk.1.1, hk.1.2⟩)⟩, ⟨by (with_reducible repeat (first | apply Kd.R_alloc | apply Kd.R_drewN | apply Kd.R_drew)); exact Kd.R_mono (Kd.R_far (p := ⟨gb259, 2, none⟩) (Kd.R_far (p := ⟨gb259, 1, none⟩) (Kd.R_far (p := ⟨gb259, 0, none⟩) (Kd.R_types HO257.out BK259.out (by decide)) (fun _ hk => hk.2) (.int .i64 t253)) (fun _ hk => hk.2) (.int .i64 t254)) (fun _ hk => hk.2) (.slice Ao32 t255.length co32)) (fun _ hk => ⟨hk.1.1.2, hk.1.2⟩)⟩, ⟨by (with_reducible repeat (first | refine blk_drewN ?_ _ | refine blk_drew ?_ | refine blk_alloc ?_ _)); refine blk_far ?_ NB238_259.out _; (with_reducible repeat (first | refine blk_drewN ?_ _ | refine blk_drew ?_ | refine blk_alloc ?_ _)); refine blk_far ?_ NB238_259.out _; (with_reducible repeat (first | refine blk_drewN ?_ _ | refine blk_drew ?_ | refine blk_alloc ?_ _)); refine blk_far ?_ NB238_259.out _; (with_reducible repeat (first | refine blk_drewN ?_ _ | refine blk_drew ?_ | refine blk_alloc ?_ _)); exact BK238.out⟩, ⟨by (with_reducible repeat (first | refine blk_drewN ?_ _ | refine blk_drew ?_ | refine blk_alloc ?_ _)); refine blk_put (cs := #[.int .i64 t253, .int .i64 t254, .slice none 0 0]) ?_ 2 _ rfl; (with_reducible repeat (first | refine blk_drewN ?_ _ | refine blk_drew ?_ | refine blk_alloc ?_ _)); refine blk_put (cs := #[.int .i64 t253, .int .i64 0, .slice none 0 0]) ?_ 1 _ rfl; (with_reducible repeat (first | refine blk_drewN ?_ _ | refine blk_drew ?_ | refine blk_alloc ?_ _)); refine blk_put (cs := #[.int .i64 0, .int .i64 0, .slice none 0 0]) ?_ 0 _ rfl; (with_reducible repeat (first | refine blk_drewN ?_ _ | refine blk_drew ?_ | refine blk_alloc ?_ _)); exact BK259.out⟩, ⟨by repeat (first | (with_reducible first | exact HB.out | apply below_alloc | apply pw_below_drewN | apply below_drew1 | refine below_set ?_ GE238.out | refine below_set ?_ GE252.out | refine below_set ?_ GE259.out) | exact HB.out)⟩⟩
              case round =>
                clear H'
                try clear c1
                try clear c2
                try clear p2
                try clear q2
                try clear c3
                try clear c8
                try clear c8b0
                try clear c8b1
                try clear c11
                try clear c12
                try clear c13
                try clear c25
                try clear q26
                try clear c29
                try clear c30
                try clear hcz10_0
                try clear hcz10_1
                try clear hcz10_2
                try clear hcz17_0
                try clear hcz17_1
                try clear hcz17_2
                try clear hcz22_0
                try clear hcz22_1
                try clear hcz22_2
                try clear hcz26_0
                try clear hcz26_1
                try clear hcz26_2
                try clear hcz31_0
                try clear hcz31_1
                try clear hcz31_2
                try clear hcz9_0
                try clear hcz9_1
                try clear hcz9_2
                try clear hfz10_0
                try clear hfz10_1
                try clear hfz10_2
                try clear hfz17_0
                try clear hfz17_1
                try clear hfz17_2
                try clear hfz22_0
                try clear hfz22_1
                try clear hfz22_2
                try clear hfz26_0
                try clear hfz26_1
                try clear hfz26_2
                try clear hfz31_0
                try clear hfz31_1
                try clear hfz31_2
                try clear hfz9_0
                try clear hfz9_1
                try clear hfz9_2
                try clear p2
                try clear q260
                obtain ⟨x8_2, x9_2, x13_2, x260002_2, u260002, rfl, HA, HK2, HO_8, HO_9, HO_260002, BK238, BK259, HB⟩ := hrel
                have hl8_2 := (Kd.R_reads' HO_8.out).1
                rw [hl8_2] at HO_8
                (try simp only [hl8_2])
                (try simp only [hl8_2] at BK238)
                (try simp only [hl8_2] at BK259)
                (try simp only [hl8_2] at HO_9)
                (try simp only [hl8_2] at HO_260002)
                cases gk with
                | zero => exact absurd HA.out (by simp [obollaw16_TreeStays.l0])
                | succ k2 =>
                  have H := HA.out
                  clear HA
                  simp only [obollaw16_TreeStays.l0] at H
                  by_cases c33 : x13_2 < (x260002_2.length : Int)
                  · rw [if_pos c33] at H
                    have c33b0 : decide (x13_2 < (x260002_2.length : Int)) = true := decide_eq_true c33
                    (try (have c33Lhl8_2 := c33b0; simp only [hl8_2] at c33Lhl8_2))
                    clear c33
                    by_cases c34 : 0 ≤ x13_2
                    · rw [if_pos c34] at H
                      have c34b0 : decide (0 ≤ x13_2) = true := decide_eq_true c34
                      (try (have c34Lhl8_2 := c34b0; simp only [hl8_2] at c34Lhl8_2))
                      clear c34
                      obtain ⟨y261, hy261⟩ : ∃ y_ : List Int, y_ = (x260002_2.set (x13_2 : Int).toNat 9) := ⟨_, rfl⟩
                      replace H : (obollaw16_TreeStays.l0 k2 l1 a2 t239 x8_2 x9_2 (wrap64 (x13_2 + 1)) a0_0 a0_1 l0_2 t253 t254 y261) = some r := by first | (rw [hy261]; with_reducible exact H) | (have H2_ := (Option.bind_some _ _).symm.trans H; rw [hy261]; with_reducible exact H2_) | (have H2_ := (Option.bind_some _ _).symm.trans H; with_reducible exact H2_) | with_reducible exact H | (rw [hy261]; exact H) | exact H
                      have Ny261 := Aside0.mk hy261
                      clear hy261
                      have H' := Aside0.mk H
                      clear H
                      have hnb36 := NB259_238.out
                      have hnc36 := NB238_259.out
                      have hcz37_0 : wr.cell? ⟨gb259, 0, none⟩ = some (.int .i64 t253) := (blk_cell BK259.out 0).trans rfl
                      have hcz37_1 : wr.cell? ⟨gb259, 1, none⟩ = some (.int .i64 t254) := (blk_cell BK259.out 1).trans rfl
                      have hcz37_2 : wr.cell? ⟨gb259, 2, none⟩ = some (u260002) := (blk_cell BK259.out 2).trans rfl
                      have hfz37_0 := blk_frozen BK259.out 0
                      have hfz37_1 := blk_frozen BK259.out 1
                      have hfz37_2 := blk_frozen BK259.out 2
                      obtain ⟨Ao38, co38, eo38⟩ := Kd.R_slice HO_260002.out
                      subst eo38
                      have p35 : 0 ≤ (x13_2 : Int) := of_decide_eq_true (by first | (with_reducible assumption) | assumption)
                      have q35 : (x13_2 : Int) < ((x260002_2.length : Int) : Int) := of_decide_eq_true (by first | (with_reducible assumption) | assumption)
                      obtain ⟨go35, co35, eo35, gb35, gl35, cl35, HG35⟩ := Kd.R_form HO_260002.out (by omega)
                      (first | cases eo35 | (injection eo35 with ea_ en_ ec_; (first | subst ea_ | (injection ea_ with ea_; subst ea_)); subst ec_; clear en_))
                      have GB35 := Aside0.mk gb35
                      have GG35 := Aside0.mk HG35
                      clear gb35 gl35 HG35
                      obtain ⟨hx35_0, hf35_0⟩ := Kd.R_celln 0 HO_260002.out (x13_2 : Int) p35 q35
                      replace p35 := eq_true p35
                      replace q35 := eq_true q35
                      have HP39 := Kd.R_putg HO_260002.out (x13_2 : Int) 9
                      go_wp2_with (first | ((with_reducible refine gate_store (t := 23) (p := 58) rfl ?_); (try (rw [drewN_self wr]; generalize hq_ : World.drewN wr _ = wr; have n0_ := Aside0.mk (Kd.R_at hq_ HO_8.out); have n1_ := Aside0.mk (Kd.R_at hq_ HO_9.out); have n2_ := Aside0.mk (Kd.R_at hq_ HO_260002.out); have n3_ := Aside0.mk (blk_at hq_ BK238.out); have n4_ := Aside0.mk (blk_at hq_ BK259.out); have n5_ := Aside0.mk (below_at hq_ HB.out); clear hq_ HO_8 HO_9 HO_260002 BK238 BK259 HB; have HO_8 := n0_; have HO_9 := n1_; have HO_260002 := n2_; have BK238 := n3_; have BK259 := n4_; have HB := n5_; clear n0_ n1_ n2_ n3_ n4_ n5_; (try (have HP39 := Kd.R_putg HO_260002.out (x13_2 : Int) 9)))); refine store_event (t := 23) (p := 58) (v := ?vo_w40) (w1 := (wr.setCell ⟨go35, (x13_2 : Int).toNat, none⟩ (.int .u64 9))) ?hg ?ho ?hn ?hr ?_; (case ho => rfl); (case hg => rfl); (case hn => rfl); (case hr => first | (go_simp; done) | (go_simp; rfl)); intro w40 hw; have hg : wr.grownBy w40 (some go35) := (by rw [hw]; exact HP39.2); have hp_ : Kd.R (Kd.int .u64) 23 w40 w.heap.size (fun k_ => some k_ ≠ (.slice Ao23 x8_2.length co23 : Value).ownBlock ∧ some k_ ≠ (v250 : Value).ownBlock) (.slice (some ⟨go35, 0, none⟩) x260002_2.length co38) y261 := (by rw [hw, Ny261.out]; exact HP39.1); clear HP39; have n0_ := Aside0.mk (Kd.R_after (v := (.slice (some ⟨go35, 0, none⟩) x260002_2.length co38)) (v1 := (.slice (some ⟨go35, 0, none⟩) x260002_2.length co38)) (ok := (fun k_ => some k_ ≠ (v250 : Value).ownBlock)) (by (with_reducible repeat (first | apply Kd.R_alloc | apply Kd.R_drewN | apply Kd.R_drew)); exact HO_8.out) hg (.inl rfl)); have n1_ := Aside0.mk (Kd.R_after (v := (.slice (some ⟨go35, 0, none⟩) x260002_2.length co38)) (v1 := (.slice (some ⟨go35, 0, none⟩) x260002_2.length co38)) (ok := (fun k_ => some k_ ≠ (.slice Ao23 x8_2.length co23 : Value).ownBlock)) (by (with_reducible repeat (first | apply Kd.R_alloc | apply Kd.R_drewN | apply Kd.R_drew)); exact HO_9.out) hg (.inl rfl)); have n2_ := Aside0.mk (hp_); have n3_ := Aside0.mk (blk_grown (g := gb238) (o := .cells #[.int .i64 a0_0, .int .i64 a0_1, .slice A0_2 l0_2.length c0_2] 50 (0, 0)) (by (with_reducible repeat (first | refine blk_drewN ?_ _ | refine blk_drew ?_ | refine blk_alloc ?_ _)); exact BK238.out) hg (Kd.R_ne HO_260002.out BK238.out (by decide))); have n4_ := Aside0.mk (blk_grown (g := gb259) (o := .cells #[.int .i64 t253, .int .i64 t254, .slice (some ⟨go35, 0, none⟩) x260002_2.length co38] 50 (0, 0)) (by (with_reducible repeat (first | refine blk_drewN ?_ _ | refine blk_drew ?_ | refine blk_alloc ?_ _)); exact BK259.out) hg (Kd.R_ne HO_260002.out BK259.out (by decide))); have n5_ := Aside0.mk ((by rw [hw]; exact below_set (HB.out) GB35.out : Below w.heap.size w w40)); clear HO_8; clear HO_9; clear HO_260002; clear BK238; clear BK259; clear HB; have HO_8 := n0_; have HO_9 := n1_; have HO_260002 := n2_; have BK238 := n3_; have BK259 := n4_; have HB := n5_; clear n0_ n1_ n2_ n3_ n4_ n5_; clear hg hw hp_))
                      (try simp only [← hl8_2])
                      go_roundg k2
                      case measure => have := HJ4.out; have := HK2.out; omega
                      case rel => exact ⟨(x8_2), (x9_2), (wrap64 (x13_2 + 1)), (y261), (.slice (some ⟨go35, 0, none⟩) x260002_2.length co38), (by first | rfl | (simp; done) | (simp [*]; done)), H', ⟨by have := HJ4.out; have := HK2.out; omega⟩, ⟨by (try simp only [hl8_2]); (with_reducible repeat (first | apply Kd.R_alloc | apply Kd.R_drewN | apply Kd.R_drew)); exact HO_8.out⟩, ⟨by (try simp only [hl8_2]); (with_reducible repeat (first | apply Kd.R_alloc | apply Kd.R_drewN | apply Kd.R_drew)); exact HO_9.out⟩, ⟨by (try simp only [hl8_2]); (with_reducible repeat (first | apply Kd.R_alloc | apply Kd.R_drewN | apply Kd.R_drew)); exact HO_260002.out⟩, ⟨by (try simp only [hl8_2]); (with_reducible repeat (first | refine blk_drewN ?_ _ | refine blk_drew ?_ | refine blk_alloc ?_ _)); exact BK238.out⟩, ⟨by (try simp only [hl8_2]); (with_reducible repeat (first | refine blk_drewN ?_ _ | refine blk_drew ?_ | refine blk_alloc ?_ _)); exact BK259.out⟩, ⟨by repeat (first | (with_reducible first | exact HB.out | apply below_alloc | apply pw_below_drewN | apply below_drew1 | refine below_set ?_ GE238.out | refine below_set ?_ GE259.out) | exact HB.out)⟩⟩
                    · rw [if_neg c34] at H
                      exact absurd H (by simp)
                  · rw [if_neg c33] at H
                    have c33b0 : decide (x13_2 < (x260002_2.length : Int)) = false := decide_eq_false c33
                    (try (have c33Lhl8_2 := c33b0; simp only [hl8_2] at c33Lhl8_2))
                    clear c33
                    replace H := Option.bind_eq_some_iff.mp H
                    obtain ⟨⟨t262, t263⟩, A410, H⟩ := H
                    replace H : (obollaw16_TreeStays.l1 k2 l1 t239 x8_2 x9_2 t262 0 a0_0 a0_1 l0_2) = some r := H
                    have A41 := Aside0.mk A410
                    clear A410
                    have H' := Aside0.mk H
                    clear H
                    have hnb42 := NB259_238.out
                    have hnc42 := NB238_259.out
                    have hcz43_0 : wr.cell? ⟨gb259, 0, none⟩ = some (.int .i64 t253) := (blk_cell BK259.out 0).trans rfl
                    have hcz43_1 : wr.cell? ⟨gb259, 1, none⟩ = some (.int .i64 t254) := (blk_cell BK259.out 1).trans rfl
                    have hcz43_2 : wr.cell? ⟨gb259, 2, none⟩ = some (u260002) := (blk_cell BK259.out 2).trans rfl
                    have hfz43_0 := blk_frozen BK259.out 0
                    have hfz43_1 := blk_frozen BK259.out 1
                    have hfz43_2 := blk_frozen BK259.out 2
                    obtain ⟨Ao44, co44, eo44⟩ := Kd.R_slice HO_260002.out
                    subst eo44
                    obtain ⟨Ao45, co45, eo45⟩ := Kd.R_slice HO_9.out
                    subst eo45
                    go_wp2_with (first | ((with_reducible refine gate_callee (f := 40) rfl ?_); refine goesL_ (some 62) rfl rfl Try.func40 (by kernel_rfl) rfl #[.slice Ao45 x9_2.length co45, .int .i64 a2, .int .i64 0] rfl (by (try simp only [List.map_toArray, List.map_cons, List.map_nil]); first | done | rfl | (simp only [List.length_drop, List.length_take]; rfl)) ?_; (with_reducible refine (tree_Path.calls k2 _ _ x9_2 a2 0 t262 t263 _ ?side1 ?side2 A41.out).mono ?_); (case side1 => repeat (first | exact (Kd.R_reads' HO_9.out).2.2 | (with_reducible refine Kd.C_alloc ?_ _) | (with_reducible refine Kd.C_drewN ?_ _) | (with_reducible refine Kd.C_drew ?_))); (case side2 => exact (Kd.R_reads' HO_9.out).2.1); rintro e w46 ⟨v264, rfl, ho0, hb⟩; refine ⟨_, rfl, ?_⟩; have n0_ := Aside0.mk (Kd.R_elder' (by (with_reducible repeat (first | apply Kd.R_alloc | apply Kd.R_drewN | apply Kd.R_drew)); exact HO_8.out) (Kd.R_base ho0) hb); have n1_ := Aside0.mk (Kd.R_elder' (by (with_reducible repeat (first | apply Kd.R_alloc | apply Kd.R_drewN | apply Kd.R_drew)); exact HO_9.out) (Kd.R_base ho0) hb); have n2_ := Aside0.mk (Kd.R_elder' (by (with_reducible repeat (first | apply Kd.R_alloc | apply Kd.R_drewN | apply Kd.R_drew)); exact HO_260002.out) (Kd.R_base ho0) hb); have n3_ := Aside0.mk (Kd.R_lower (Kd.R_new' (Kd.R_new' (Kd.R_new' ho0 (Kd.R_lt (by (with_reducible repeat (first | apply Kd.R_alloc | apply Kd.R_drewN | apply Kd.R_drew)); exact HO_8.out))) (Kd.R_lt (by (with_reducible repeat (first | apply Kd.R_alloc | apply Kd.R_drewN | apply Kd.R_drew)); exact HO_9.out))) (Kd.R_lt (by (with_reducible repeat (first | apply Kd.R_alloc | apply Kd.R_drewN | apply Kd.R_drew)); exact HO_260002.out))) (below_size (by repeat (first | (with_reducible first | exact HB.out | apply below_alloc | apply pw_below_drewN | apply below_drew1 | refine below_set ?_ GE238.out | refine below_set ?_ GE259.out) | exact HB.out)))); have n4_ := Aside0.mk (blk_below (g := gb238) (o := .cells #[.int .i64 a0_0, .int .i64 a0_1, .slice A0_2 l0_2.length c0_2] 50 (0, 0)) (by (with_reducible repeat (first | refine blk_drewN ?_ _ | refine blk_drew ?_ | refine blk_alloc ?_ _)); exact BK238.out) hb); have n5_ := Aside0.mk (blk_below (g := gb259) (o := .cells #[.int .i64 t253, .int .i64 t254, .slice Ao44 x260002_2.length co44] 50 (0, 0)) (by (with_reducible repeat (first | refine blk_drewN ?_ _ | refine blk_drew ?_ | refine blk_alloc ?_ _)); exact BK259.out) hb); have n6_ := Aside0.mk (below_step (by repeat (first | (with_reducible first | exact HB.out | apply below_alloc | apply pw_below_drewN | apply below_drew1 | refine below_set ?_ GE238.out | refine below_set ?_ GE259.out) | exact HB.out)) hb); clear HO_8; clear HO_9; clear HO_260002; clear BK238; clear BK259; clear HB; have HO_8 := n0_; have HO_9 := n1_; have HO_260002 := n2_; have HO265 := n3_; have BK238 := n4_; have BK259 := n5_; have HB := n6_; clear n0_ n1_ n2_ n3_ n4_ n5_ n6_; (try clear hb); (try clear hb2); (try clear hk); (try clear hi); (try clear ho0); (try simp only [errW_none, errW_some])))
                    go_loopg [16] k2 (fun kq v16 w' => ∃ (x14_3 : List Int) (x16_3 : Int), v16 = .int .i64 x16_3 ∧ Aside0 (obollaw16_TreeStays.l1 kq l1 t239 x8_2 x9_2 x14_3 x16_3 a0_0 a0_1 l0_2 = some r) ∧ Aside0 (kq ≤ k2) ∧ Aside0 (Kd.R (Kd.int .u64) 23 w' w.heap.size (fun k_ => some k_ ≠ ((.slice Ao45 x9_2.length co45) : Value).ownBlock ∧ some k_ ≠ (v264 : Value).ownBlock ∧ some k_ ≠ ((.slice Ao44 x260002_2.length co44) : Value).ownBlock) (.slice Ao23 x8_2.length co23) x8_2) ∧ Aside0 (Kd.R (Kd.int .u64) 23 w' w.heap.size (fun k_ => some k_ ≠ ((.slice Ao23 x8_2.length co23) : Value).ownBlock ∧ some k_ ≠ (v264 : Value).ownBlock ∧ some k_ ≠ ((.slice Ao44 x260002_2.length co44) : Value).ownBlock) (.slice Ao45 x9_2.length co45) x9_2) ∧ Aside0 (Kd.R (Kd.int .u64) 23 w' w.heap.size (fun k_ => some k_ ≠ ((.slice Ao23 x8_2.length co23) : Value).ownBlock ∧ some k_ ≠ ((.slice Ao45 x9_2.length co45) : Value).ownBlock ∧ some k_ ≠ ((.slice Ao44 x260002_2.length co44) : Value).ownBlock) v264 x14_3) ∧ Aside0 (Kd.R (Kd.int .u64) 23 w' w.heap.size (fun k_ => some k_ ≠ ((.slice Ao23 x8_2.length co23) : Value).ownBlock ∧ some k_ ≠ ((.slice Ao45 x9_2.length co45) : Value).ownBlock ∧ some k_ ≠ (v264 : Value).ownBlock) (.slice Ao44 x260002_2.length co44) x260002_2) ∧ Aside0 (w'.heap[gb238]? = some (.cells #[.int .i64 a0_0, .int .i64 a0_1, (.slice A0_2 l0_2.length c0_2)] 50 (0, 0))) ∧ Aside0 (w'.heap[gb259]? = some (.cells #[.int .i64 t253, .int .i64 t254, (.slice Ao44 x260002_2.length co44)] 50 (0, 0))) ∧ Aside0 (Below w.heap.size w w'))
                    case atStart => exact ⟨(t262), (0), (by first | rfl | (simp; done) | (simp [*]; done)), H', ⟨Nat.le_refl _⟩, ⟨by (try simp only [hl8_2]); (with_reducible repeat (first | apply Kd.R_alloc | apply Kd.R_drewN | apply Kd.R_drew)); exact Kd.R_mono HO_8.out (fun _ hk => ⟨hk.1.1, ⟨hk.2, hk.1.2⟩⟩)⟩, ⟨by (try simp only [hl8_2]); (with_reducible repeat (first | apply Kd.R_alloc | apply Kd.R_drewN | apply Kd.R_drew)); exact Kd.R_mono HO_9.out (fun _ hk => ⟨hk.1.1, ⟨hk.2, hk.1.2⟩⟩)⟩, ⟨by (try simp only [hl8_2]); (with_reducible repeat (first | apply Kd.R_alloc | apply Kd.R_drewN | apply Kd.R_drew)); exact Kd.R_mono HO265.out (fun _ hk => ⟨hk.1.1.2, ⟨hk.1.2, hk.2⟩⟩)⟩, ⟨by (try simp only [hl8_2]); (with_reducible repeat (first | apply Kd.R_alloc | apply Kd.R_drewN | apply Kd.R_drew)); exact Kd.R_mono HO_260002.out (fun _ hk => ⟨hk.1.1, ⟨hk.1.2, hk.2⟩⟩)⟩, ⟨by (try simp only [hl8_2]); (with_reducible repeat (first | refine blk_drewN ?_ _ | refine blk_drew ?_ | refine blk_alloc ?_ _)); exact BK238.out⟩, ⟨by (try simp only [hl8_2]); (with_reducible repeat (first | refine blk_drewN ?_ _ | refine blk_drew ?_ | refine blk_alloc ?_ _)); exact BK259.out⟩, ⟨by repeat (first | (with_reducible first | exact HB.out | apply below_alloc | apply pw_below_drewN | apply below_drew1 | refine below_set ?_ GE238.out | refine below_set ?_ GE259.out) | exact HB.out)⟩⟩
                    case round =>
                      clear H'
                      try clear c1
                      try clear c2
                      try clear p2
                      try clear q2
                      try clear c3
                      try clear p3
                      try clear q3
                      try clear hx3
                      try clear hf3
                      try clear c4
                      try clear p6
                      try clear c8
                      try clear c8b0
                      try clear c8b1
                      try clear c11
                      try clear c12
                      try clear c13
                      try clear c25
                      try clear q26
                      try clear c29
                      try clear c30
                      try clear c33
                      try clear c33b0
                      try clear c34
                      try clear c34b0
                      try clear p35
                      try clear q35
                      try clear hx35
                      try clear hf35
                      try clear c36
                      try clear c38
                      try clear c39
                      try clear c40
                      try clear c42
                      try clear hcz10_0
                      try clear hcz10_1
                      try clear hcz10_2
                      try clear hcz17_0
                      try clear hcz17_1
                      try clear hcz17_2
                      try clear hcz22_0
                      try clear hcz22_1
                      try clear hcz22_2
                      try clear hcz26_0
                      try clear hcz26_1
                      try clear hcz26_2
                      try clear hcz31_0
                      try clear hcz31_1
                      try clear hcz31_2
                      try clear hcz37_0
                      try clear hcz37_1
                      try clear hcz37_2
                      try clear hcz43_0
                      try clear hcz43_1
                      try clear hcz43_2
                      try clear hcz9_0
                      try clear hcz9_1
                      try clear hcz9_2
                      try clear hfz10_0
                      try clear hfz10_1
                      try clear hfz10_2
                      try clear hfz17_0
                      try clear hfz17_1
                      try clear hfz17_2
                      try clear hfz22_0
                      try clear hfz22_1
                      try clear hfz22_2
                      try clear hfz26_0
                      try clear hfz26_1
                      try clear hfz26_2
                      try clear hfz31_0
                      try clear hfz31_1
                      try clear hfz31_2
                      try clear hfz37_0
                      try clear hfz37_1
                      try clear hfz37_2
                      try clear hfz43_0
                      try clear hfz43_1
                      try clear hfz43_2
                      try clear hfz9_0
                      try clear hfz9_1
                      try clear hfz9_2
                      try clear hx35_0
                      try clear p2
                      try clear p35
                      try clear q2
                      try clear q26
                      try clear q260
                      try clear q35
                      obtain ⟨x14_3, x16_3, rfl, HA, HK3, HO_8, HO_9, HO_14, HO_260002, BK238, BK259, HB⟩ := hrel
                      cases gk with
                      | zero => exact absurd HA.out (by simp [obollaw16_TreeStays.l1])
                      | succ k3 =>
                        have H := HA.out
                        clear HA
                        simp only [obollaw16_TreeStays.l1] at H
                        by_cases c47 : x16_3 < (x14_3.length : Int)
                        · rw [if_pos c47] at H
                          have c47b0 : decide (x16_3 < (x14_3.length : Int)) = true := decide_eq_true c47
                          (try (have c47Lhl8_2 := c47b0; simp only [hl8_2] at c47Lhl8_2))
                          clear c47
                          by_cases c48 : 0 ≤ x16_3
                          · rw [if_pos c48] at H
                            have c48b0 : decide (0 ≤ x16_3) = true := decide_eq_true c48
                            (try (have c48Lhl8_2 := c48b0; simp only [hl8_2] at c48Lhl8_2))
                            clear c48
                            obtain ⟨y266, hy266⟩ : ∃ y_ : List Int, y_ = (x14_3.set (x16_3 : Int).toNat 9) := ⟨_, rfl⟩
                            replace H : (obollaw16_TreeStays.l1 k3 l1 t239 x8_2 x9_2 y266 (wrap64 (x16_3 + 1)) a0_0 a0_1 l0_2) = some r := by first | (rw [hy266]; with_reducible exact H) | (have H2_ := (Option.bind_some _ _).symm.trans H; rw [hy266]; with_reducible exact H2_) | (have H2_ := (Option.bind_some _ _).symm.trans H; with_reducible exact H2_) | with_reducible exact H | (rw [hy266]; exact H) | exact H
                            have Ny266 := Aside0.mk hy266
                            clear hy266
                            have H' := Aside0.mk H
                            clear H
                            obtain ⟨Ao50, co50, eo50⟩ := Kd.R_slice HO_14.out
                            subst eo50
                            have p49 : 0 ≤ (x16_3 : Int) := of_decide_eq_true (by first | (with_reducible assumption) | assumption)
                            have q49 : (x16_3 : Int) < ((x14_3.length : Int) : Int) := of_decide_eq_true (by first | (with_reducible assumption) | assumption)
                            obtain ⟨go49, co49, eo49, gb49, gl49, cl49, HG49⟩ := Kd.R_form HO_14.out (by omega)
                            (first | cases eo49 | (injection eo49 with ea_ en_ ec_; (first | subst ea_ | (injection ea_ with ea_; subst ea_)); subst ec_; clear en_))
                            have GB49 := Aside0.mk gb49
                            have GG49 := Aside0.mk HG49
                            clear gb49 gl49 HG49
                            obtain ⟨hx49_0, hf49_0⟩ := Kd.R_celln 0 HO_14.out (x16_3 : Int) p49 q49
                            replace p49 := eq_true p49
                            replace q49 := eq_true q49
                            have HP51 := Kd.R_putg HO_14.out (x16_3 : Int) 9
                            go_wp2_with (first | ((with_reducible refine gate_store (t := 23) (p := 73) rfl ?_); (try (rw [drewN_self wr]; generalize hq_ : World.drewN wr _ = wr; have n0_ := Aside0.mk (Kd.R_at hq_ HO_8.out); have n1_ := Aside0.mk (Kd.R_at hq_ HO_9.out); have n2_ := Aside0.mk (Kd.R_at hq_ HO_14.out); have n3_ := Aside0.mk (Kd.R_at hq_ HO_260002.out); have n4_ := Aside0.mk (blk_at hq_ BK238.out); have n5_ := Aside0.mk (blk_at hq_ BK259.out); have n6_ := Aside0.mk (below_at hq_ HB.out); clear hq_ HO_8 HO_9 HO_14 HO_260002 BK238 BK259 HB; have HO_8 := n0_; have HO_9 := n1_; have HO_14 := n2_; have HO_260002 := n3_; have BK238 := n4_; have BK259 := n5_; have HB := n6_; clear n0_ n1_ n2_ n3_ n4_ n5_ n6_; (try (have HP51 := Kd.R_putg HO_14.out (x16_3 : Int) 9)))); refine store_event (t := 23) (p := 73) (v := ?vo_w52) (w1 := (wr.setCell ⟨go49, (x16_3 : Int).toNat, none⟩ (.int .u64 9))) ?hg ?ho ?hn ?hr ?_; (case ho => rfl); (case hg => rfl); (case hn => rfl); (case hr => first | (go_simp; done) | (go_simp; rfl)); intro w52 hw; have hg : wr.grownBy w52 (some go49) := (by rw [hw]; exact HP51.2); have hp_ : Kd.R (Kd.int .u64) 23 w52 w.heap.size (fun k_ => some k_ ≠ (.slice Ao23 x8_2.length co23 : Value).ownBlock ∧ some k_ ≠ (.slice Ao45 x9_2.length co45 : Value).ownBlock ∧ some k_ ≠ (.slice Ao44 x260002_2.length co44 : Value).ownBlock) (.slice (some ⟨go49, 0, none⟩) x14_3.length co50) y266 := (by rw [hw, Ny266.out]; exact HP51.1); clear HP51; have n0_ := Aside0.mk (Kd.R_after (v := (.slice (some ⟨go49, 0, none⟩) x14_3.length co50)) (v1 := (.slice (some ⟨go49, 0, none⟩) x14_3.length co50)) (ok := (fun k_ => some k_ ≠ (.slice Ao45 x9_2.length co45 : Value).ownBlock ∧ some k_ ≠ (.slice Ao44 x260002_2.length co44 : Value).ownBlock)) (by (with_reducible repeat (first | apply Kd.R_alloc | apply Kd.R_drewN | apply Kd.R_drew)); exact Kd.R_mono HO_8.out (fun _ hk => ⟨⟨hk.1, hk.2.2⟩, hk.2.1⟩)) hg (.inl rfl)); have n1_ := Aside0.mk (Kd.R_after (v := (.slice (some ⟨go49, 0, none⟩) x14_3.length co50)) (v1 := (.slice (some ⟨go49, 0, none⟩) x14_3.length co50)) (ok := (fun k_ => some k_ ≠ (.slice Ao23 x8_2.length co23 : Value).ownBlock ∧ some k_ ≠ (.slice Ao44 x260002_2.length co44 : Value).ownBlock)) (by (with_reducible repeat (first | apply Kd.R_alloc | apply Kd.R_drewN | apply Kd.R_drew)); exact Kd.R_mono HO_9.out (fun _ hk => ⟨⟨hk.1, hk.2.2⟩, hk.2.1⟩)) hg (.inl rfl)); have n2_ := Aside0.mk (hp_); have n3_ := Aside0.mk (Kd.R_after (v := (.slice (some ⟨go49, 0, none⟩) x14_3.length co50)) (v1 := (.slice (some ⟨go49, 0, none⟩) x14_3.length co50)) (ok := (fun k_ => some k_ ≠ (.slice Ao23 x8_2.length co23 : Value).ownBlock ∧ some k_ ≠ (.slice Ao45 x9_2.length co45 : Value).ownBlock)) (by (with_reducible repeat (first | apply Kd.R_alloc | apply Kd.R_drewN | apply Kd.R_drew)); exact Kd.R_mono HO_260002.out (fun _ hk => ⟨⟨hk.1, hk.2.1⟩, hk.2.2⟩)) hg (.inl rfl)); have n4_ := Aside0.mk (blk_grown (g := gb238) (o := .cells #[.int .i64 a0_0, .int .i64 a0_1, .slice A0_2 l0_2.length c0_2] 50 (0, 0)) (by (with_reducible repeat (first | refine blk_drewN ?_ _ | refine blk_drew ?_ | refine blk_alloc ?_ _)); exact BK238.out) hg (Kd.R_ne HO_14.out BK238.out (by decide))); have n5_ := Aside0.mk (blk_grown (g := gb259) (o := .cells #[.int .i64 t253, .int .i64 t254, .slice Ao44 x260002_2.length co44] 50 (0, 0)) (by (with_reducible repeat (first | refine blk_drewN ?_ _ | refine blk_drew ?_ | refine blk_alloc ?_ _)); exact BK259.out) hg (Kd.R_ne HO_14.out BK259.out (by decide))); have n6_ := Aside0.mk ((by rw [hw]; exact below_set (HB.out) GB49.out : Below w.heap.size w w52)); clear HO_8; clear HO_9; clear HO_14; clear HO_260002; clear BK238; clear BK259; clear HB; have HO_8 := n0_; have HO_9 := n1_; have HO_14 := n2_; have HO_260002 := n3_; have BK238 := n4_; have BK259 := n5_; have HB := n6_; clear n0_ n1_ n2_ n3_ n4_ n5_ n6_; clear hg hw hp_))
                            go_roundg k3
                            case measure => have := HJ4.out; have := HK2.out; have := HK3.out; omega
                            case rel => exact ⟨(y266), (wrap64 (x16_3 + 1)), (by first | rfl | (simp; done) | (simp [*]; done)), H', ⟨by have := HJ4.out; have := HK2.out; have := HK3.out; omega⟩, ⟨by (try simp only [hl8_2]); (with_reducible repeat (first | apply Kd.R_alloc | apply Kd.R_drewN | apply Kd.R_drew)); exact Kd.R_mono HO_8.out (fun _ hk => ⟨hk.1.1, ⟨hk.2, hk.1.2⟩⟩)⟩, ⟨by (try simp only [hl8_2]); (with_reducible repeat (first | apply Kd.R_alloc | apply Kd.R_drewN | apply Kd.R_drew)); exact Kd.R_mono HO_9.out (fun _ hk => ⟨hk.1.1, ⟨hk.2, hk.1.2⟩⟩)⟩, ⟨by (try simp only [hl8_2]); (with_reducible repeat (first | apply Kd.R_alloc | apply Kd.R_drewN | apply Kd.R_drew)); exact HO_14.out⟩, ⟨by (try simp only [hl8_2]); (with_reducible repeat (first | apply Kd.R_alloc | apply Kd.R_drewN | apply Kd.R_drew)); exact Kd.R_mono HO_260002.out (fun _ hk => ⟨hk.1.1, ⟨hk.1.2, hk.2⟩⟩)⟩, ⟨by (try simp only [hl8_2]); (with_reducible repeat (first | refine blk_drewN ?_ _ | refine blk_drew ?_ | refine blk_alloc ?_ _)); exact BK238.out⟩, ⟨by (try simp only [hl8_2]); (with_reducible repeat (first | refine blk_drewN ?_ _ | refine blk_drew ?_ | refine blk_alloc ?_ _)); exact BK259.out⟩, ⟨by repeat (first | (with_reducible first | exact HB.out | apply below_alloc | apply pw_below_drewN | apply below_drew1 | refine below_set ?_ GE238.out | refine below_set ?_ GE259.out) | exact HB.out)⟩⟩
                          · rw [if_neg c48] at H
                            exact absurd H (by simp)
                        · rw [if_neg c47] at H
                          have c47b0 : decide (x16_3 < (x14_3.length : Int)) = false := decide_eq_false c47
                          (try (have c47Lhl8_2 := c47b0; simp only [hl8_2] at c47Lhl8_2))
                          clear c47
                          by_cases c53 : t239 = true
                          · subst c53
                            have H1 : ((obolref13_Same.f k3 x8_2 l0_2).bind fun t267 => (if t267 = true then ((obolref13_Same.f k3 x9_2 l1).bind fun t268 => (some t268)) else (none))) = some r := by rw [if_pos rfl] at H; exact H
                            clear H
                            have H := H1
                            clear H1
                            replace H := Option.bind_eq_some_iff.mp H
                            obtain ⟨t267, A540, H⟩ := H
                            replace H : (if t267 = true then ((obolref13_Same.f k3 x9_2 l1).bind fun t268 => (some t268)) else (none)) = some r := H
                            have A54 := Aside0.mk A540
                            clear A540
                            by_cases c55 : t267 = true
                            · subst c55
                              have H1 : ((obolref13_Same.f k3 x9_2 l1).bind fun t268 => (some t268)) = some r := by rw [if_pos rfl] at H; exact H
                              clear H
                              have H := H1
                              clear H1
                              replace H := Option.bind_eq_some_iff.mp H
                              obtain ⟨t268, A560, H⟩ := H
                              replace H : (some t268) = some r := H
                              have A56 := Aside0.mk A560
                              clear A560
                              obtain rfl := Option.some.inj H
                              obtain ⟨Ao57, co57, eo57⟩ := Kd.R_slice HO_14.out
                              subst eo57
                              have hnb58 := NB238_259.out
                              have hnc58 := NB259_238.out
                              have hcz59_0 : wr.cell? ⟨gb238, 0, none⟩ = some (.int .i64 a0_0) := (blk_cell BK238.out 0).trans rfl
                              have hcz59_1 : wr.cell? ⟨gb238, 1, none⟩ = some (.int .i64 a0_1) := (blk_cell BK238.out 1).trans rfl
                              have hcz59_2 : wr.cell? ⟨gb238, 2, none⟩ = some (.slice A0_2 l0_2.length c0_2) := (blk_cell BK238.out 2).trans rfl
                              have hfz59_0 := blk_frozen BK238.out 0
                              have hfz59_1 := blk_frozen BK238.out 1
                              have hfz59_2 := blk_frozen BK238.out 2
                              go_wp2_with (first | (go_at_call 41; (with_reducible refine (obolref13_Same.calls k3 _ _ x8_2 _ _ l0_2 true _ ?side1 ?side2 ?side3 ?side4 A54.out).mono ?_); (case side1 => repeat (first | exact (Kd.R_reads' HO_8.out).2.2 | (with_reducible refine Kd.C_alloc ?_ _) | (with_reducible refine Kd.C_drewN ?_ _) | (with_reducible refine Kd.C_drew ?_))); (case side2 => exact (Kd.R_reads' HO_8.out).2.1); (case side3 => repeat (first | exact (Kd.C_below HR0_2.out HB.out) | (with_reducible refine Kd.C_alloc ?_ _) | (with_reducible refine Kd.C_drewN ?_ _) | (with_reducible refine Kd.C_drew ?_))); (case side4 => exact HC0_2.out); rintro e w' ⟨rfl, ⟨nd, rfl⟩⟩) | (go_at_call 41; (with_reducible refine (obolref13_Same.calls k3 _ _ x9_2 _ _ l1 t268 _ ?side1 ?side2 ?side3 ?side4 A56.out).mono ?_); (case side1 => repeat (first | exact (Kd.R_reads' HO_9.out).2.2 | (with_reducible refine Kd.C_alloc ?_ _) | (with_reducible refine Kd.C_drewN ?_ _) | (with_reducible refine Kd.C_drew ?_))); (case side2 => exact (Kd.R_reads' HO_9.out).2.1); (case side3 => repeat (first | exact (Kd.C_below HR1.out (by repeat (first | (with_reducible first | exact HB.out | apply below_alloc | apply pw_below_drewN | apply below_drew1 | refine below_set ?_ GE238.out | refine below_set ?_ GE259.out) | exact HB.out))) | (with_reducible refine Kd.C_alloc ?_ _) | (with_reducible refine Kd.C_drewN ?_ _) | (with_reducible refine Kd.C_drew ?_))); (case side4 => exact HC1.out); rintro e w' ⟨rfl, ⟨nd, rfl⟩⟩))
                              go_ret
                              exact ⟨by first | rfl | (simp [errW_none, errW_some] <;> rfl) | (simp [*, errW_none, errW_some] <;> rfl), by repeat (first | (with_reducible first | exact HB.out | apply below_alloc | apply pw_below_drewN | apply below_drew1 | refine below_set ?_ GE238.out | refine below_set ?_ GE259.out) | exact HB.out)⟩
                            · replace c55 := Bool.eq_false_iff.mpr c55
                              subst c55
                              have H1 : (none) = some r := by rw [if_neg (show ¬ (false = true) by decide)] at H; exact H
                              clear H
                              have H := H1
                              clear H1
                              exact absurd H (by simp)
                          · replace c53 := Bool.eq_false_iff.mpr c53
                            subst c53
                            have H1 : (none) = some r := by rw [if_neg (show ¬ (false = true) by decide)] at H; exact H
                            clear H
                            have H := H1
                            clear H1
                            exact absurd H (by simp)
            · have H1 : ((tree_Path.f kj4 y249 a2 0).bind fun bt269 => (obollaw16_TreeStays.l1 kj4 l1 t239 y243 y249 bt269.1 0 a0_0 a0_1 l0_2)) = some r := by rw [if_neg (show ¬ (some q260).isNone = true by simp)] at H; exact H
              clear H
              have H := H1
              clear H1
              try simp only [errW_none, errW_some]
              replace H := Option.bind_eq_some_iff.mp H
              obtain ⟨⟨t269, t270⟩, A600, H⟩ := H
              replace H : (obollaw16_TreeStays.l1 kj4 l1 t239 y243 y249 t269 0 a0_0 a0_1 l0_2) = some r := H
              have A60 := Aside0.mk A600
              clear A600
              have H' := Aside0.mk H
              clear H
              go_wp2_with (first | ((with_reducible refine gate_dst (N := 28) rfl ?_); (try (refine gate_guard (by rfl) ?_; dsimp only)); refine Kd.R_lit (Kd.int .u64) _ 23 ?hg (N := 28) ?hd (xs := ([] : List Int)) (inner := []) (ok := fun _ => True) (okp := fun _ => True) ?hr ?hp (fun _ hk => hk) trivial (Below.refl _ _) (Nat.le_refl _) (by simp) ?_; (case hd => rfl); (case hg => rfl); (case hr => first | (go_simp; done) | (go_simp; rfl)); (case hp => exact (Reps.none _ _)); intro v241 w61 ho62 hb hg_ hnew_; clear hg_ hnew_; (first | rw [← Ny240.out] at ho62 | (simp only [Int.reduceToNat] at ho62; rw [← Ny240.out] at ho62)); have n0_ := Aside0.mk (Kd.R_lower ho62 (below_size (by repeat (first | (with_reducible first | exact HB.out | apply below_alloc | apply pw_below_drewN | apply below_drew1 | refine below_set ?_ GE238.out) | exact HB.out)))); have n1_ := Aside0.mk (blk_below (g := gb238) (o := .cells #[.int .i64 a0_0, .int .i64 a0_1, .slice A0_2 l0_2.length c0_2] 50 (0, 0)) (by (with_reducible repeat (first | refine blk_drewN ?_ _ | refine blk_drew ?_ | refine blk_alloc ?_ _)); exact BK238.out) hb); have n2_ := Aside0.mk (below_step (by repeat (first | (with_reducible first | exact HB.out | apply below_alloc | apply pw_below_drewN | apply below_drew1 | refine below_set ?_ GE238.out) | exact HB.out)) hb); clear BK238; clear HB; have HO242 := n0_; have BK238 := n1_; have HB := n2_; clear n0_ n1_ n2_; clear hb ho62; have hcz63_0 : w61.cell? ⟨gb238, 0, none⟩ = some (.int .i64 a0_0) := (blk_cell BK238.out 0).trans rfl; have hcz63_1 : w61.cell? ⟨gb238, 1, none⟩ = some (.int .i64 a0_1) := (blk_cell BK238.out 1).trans rfl; have hcz63_2 : w61.cell? ⟨gb238, 2, none⟩ = some (.slice A0_2 l0_2.length c0_2) := (blk_cell BK238.out 2).trans rfl; have hfz63_0 := blk_frozen BK238.out 0; have hfz63_1 := blk_frozen BK238.out 1; have hfz63_2 := blk_frozen BK238.out 2) | ((with_reducible refine gate_builtin (b := .append) (xs := #[.tmp 28, .tmp 30]) rfl ?_); (try (refine gate_guard (by rfl) ?_; dsimp only)); at_builtin; refine Kd.R_append_rows (Kd.int .u64) (w0 := w) w.heap.size rfl (.tmp 28) (.tmp 30) 22 23 (.int .u64 0) 8 rfl Try.underlying22 info23 rfl (by decide) (by omega) v241 y240 l0_2 _ _ _ (fun _ => True) (fun _ => False) rfl rfl ?aO ?aR (fun _ _ h => h) (fun _ h => h.elim) ?aF ?aB ?aS ?aL ?_; (case aR => repeat (first | exact (Kd.C_below HR0_2.out HB.out) | (with_reducible refine Kd.C_alloc ?_ _) | (with_reducible refine Kd.C_drewN ?_ _) | (with_reducible refine Kd.C_drew ?_))); (case aB => exact (by repeat (first | (with_reducible first | exact HB.out | apply below_alloc | apply pw_below_drewN | apply below_drew1 | refine below_set ?_ GE238.out) | exact HB.out))); (case aF => exact (fun _ _ => trivial)); (case aO => exact (by (with_reducible repeat (first | apply Kd.R_alloc | apply Kd.R_drewN | apply Kd.R_drew)); exact HO242.out)); (case aS => exact (below_size (by repeat (first | (with_reducible first | exact HB.out | apply below_alloc | apply pw_below_drewN | apply below_drew1 | refine below_set ?_ GE238.out) | exact HB.out)))); (case aL => have := LMc12.out; omega); intro v244 w64 ho hb hg hat; rw [← Ny243.out] at ho; have n0_ := Aside0.mk (blk_grown (g := gb238) (o := .cells #[.int .i64 a0_0, .int .i64 a0_1, .slice A0_2 l0_2.length c0_2] 50 (0, 0)) (by (with_reducible repeat (first | refine blk_drewN ?_ _ | refine blk_drew ?_ | refine blk_alloc ?_ _)); exact BK238.out) hg (Kd.R_ne HO242.out BK238.out (by decide))); have n1_ := Aside0.mk (hb); have n2_ := Aside0.mk (ho); clear BK238; clear HB; clear HO242; have BK238 := n0_; have HB := n1_; have HO245 := n2_; clear n0_ n1_ n2_; clear ho hb hg hat) | ((with_reducible refine gate_dst (N := 32) rfl ?_); (try (refine gate_guard (by rfl) ?_; dsimp only)); refine Kd.R_lit (Kd.int .u64) _ 23 ?hg (N := 32) ?hd (xs := ([] : List Int)) (inner := []) (ok := fun _ => True) (okp := fun _ => True) ?hr ?hp (fun _ hk => hk) trivial (Below.refl _ _) (Nat.le_refl _) (by simp) ?_; (case hd => rfl); (case hg => rfl); (case hr => first | (go_simp; done) | (go_simp; rfl)); (case hp => exact (Reps.none _ _)); intro v247 w65 ho66 hb hg_ hnew_; clear hg_ hnew_; (first | rw [← Ny246.out] at ho66 | (simp only [Int.reduceToNat] at ho66; rw [← Ny246.out] at ho66)); have n0_ := Aside0.mk (Kd.R_elder' (by (with_reducible repeat (first | apply Kd.R_alloc | apply Kd.R_drewN | apply Kd.R_drew)); exact HO245.out) (Kd.R_base ho66) hb); have n1_ := Aside0.mk (Kd.R_lower (Kd.R_new' ho66 (Kd.R_lt (by (with_reducible repeat (first | apply Kd.R_alloc | apply Kd.R_drewN | apply Kd.R_drew)); exact HO245.out))) (below_size (by repeat (first | (with_reducible first | exact HB.out | apply below_alloc | apply pw_below_drewN | apply below_drew1 | refine below_set ?_ GE238.out) | exact HB.out)))); have n2_ := Aside0.mk (blk_below (g := gb238) (o := .cells #[.int .i64 a0_0, .int .i64 a0_1, .slice A0_2 l0_2.length c0_2] 50 (0, 0)) (by (with_reducible repeat (first | refine blk_drewN ?_ _ | refine blk_drew ?_ | refine blk_alloc ?_ _)); exact BK238.out) hb); have n3_ := Aside0.mk (below_step (by repeat (first | (with_reducible first | exact HB.out | apply below_alloc | apply pw_below_drewN | apply below_drew1 | refine below_set ?_ GE238.out) | exact HB.out)) hb); clear HO245; clear BK238; clear HB; have HO245 := n0_; have HO248 := n1_; have BK238 := n2_; have HB := n3_; clear n0_ n1_ n2_ n3_; clear hb ho66) | ((with_reducible refine gate_builtin (b := .append) (xs := #[.tmp 32, .tmp 33]) rfl ?_); (try (refine gate_guard (by rfl) ?_; dsimp only)); at_builtin; refine Kd.R_append_rows (Kd.int .u64) (w0 := w) w.heap.size rfl (.tmp 32) (.tmp 33) 22 23 (.int .u64 0) 8 rfl Try.underlying22 info23 rfl (by decide) (by omega) v247 y246 l1 _ _ _ (fun k_ => some k_ ≠ (v244 : Value).ownBlock) (fun _ => False) rfl rfl ?aO ?aR (fun _ _ h => h) (fun _ h => h.elim) ?aF ?aB ?aS ?aL ?_; (case aR => repeat (first | exact (Kd.C_below HR1.out HB.out) | (with_reducible refine Kd.C_alloc ?_ _) | (with_reducible refine Kd.C_drewN ?_ _) | (with_reducible refine Kd.C_drew ?_))); (case aB => exact (by repeat (first | (with_reducible first | exact HB.out | apply below_alloc | apply pw_below_drewN | apply below_drew1 | refine below_set ?_ GE238.out) | exact HB.out))); (case aF => exact (fun k_ hk => Kd.fresh' (Kd.R_lt (by (with_reducible repeat (first | apply Kd.R_alloc | apply Kd.R_drewN | apply Kd.R_drew)); exact HO245.out)) k_ hk)); (case aO => exact (by (with_reducible repeat (first | apply Kd.R_alloc | apply Kd.R_drewN | apply Kd.R_drew)); exact Kd.R_mono HO248.out (fun _ hk => hk.2))); (case aS => exact (below_size (by repeat (first | (with_reducible first | exact HB.out | apply below_alloc | apply pw_below_drewN | apply below_drew1 | refine below_set ?_ GE238.out) | exact HB.out)))); (case aL => have := LMc13.out; omega); intro v250 w67 ho hb hg hat; rw [← Ny249.out] at ho; have n0_ := Aside0.mk (blk_grown (g := gb238) (o := .cells #[.int .i64 a0_0, .int .i64 a0_1, .slice A0_2 l0_2.length c0_2] 50 (0, 0)) (by (with_reducible repeat (first | refine blk_drewN ?_ _ | refine blk_drew ?_ | refine blk_alloc ?_ _)); exact BK238.out) hg (Kd.R_ne HO248.out BK238.out (by decide))); have n1_ := Aside0.mk (Kd.R_after (ok := (fun _ => True)) (by (with_reducible repeat (first | apply Kd.R_alloc | apply Kd.R_drewN | apply Kd.R_drew)); exact HO245.out) hg hat); have n2_ := Aside0.mk (hb); have n3_ := Aside0.mk (ho); clear BK238; clear HO245; clear HB; clear HO248; have BK238 := n0_; have HO245 := n1_; have HB := n2_; have HO251 := n3_; clear n0_ n1_ n2_ n3_; clear ho hb hg hat; have hcz68_0 : w67.cell? ⟨gb238, 0, none⟩ = some (.int .i64 a0_0) := (blk_cell BK238.out 0).trans rfl; have hcz68_1 : w67.cell? ⟨gb238, 1, none⟩ = some (.int .i64 a0_1) := (blk_cell BK238.out 1).trans rfl; have hcz68_2 : w67.cell? ⟨gb238, 2, none⟩ = some (.slice A0_2 l0_2.length c0_2) := (blk_cell BK238.out 2).trans rfl; have hfz68_0 := blk_frozen BK238.out 0; have hfz68_1 := blk_frozen BK238.out 1; have hfz68_2 := blk_frozen BK238.out 2; obtain ⟨Ao69, co69, eo69⟩ := Kd.R_slice HO245.out; subst eo69) | ((with_reducible refine gate_dst (N := 10) rfl ?_); (try (refine gate_guard (by rfl) ?_; dsimp only)); refine box_event ?hg (N := 10) ?hd (cs := #[.int .i64 0, .int .i64 0, .slice none 0 0]) (t := 50) ?hr ?_; (case hd => rfl); (case hg => rfl); (case hr => first | (go_simp; done) | (go_simp; rfl)); intro gb252 hg w70 hbox hb; have n0_ := Aside0.mk (Kd.R_below (by (with_reducible repeat (first | apply Kd.R_alloc | apply Kd.R_drewN | apply Kd.R_drew)); exact HO245.out) hb); have n1_ := Aside0.mk (Kd.R_below (by (with_reducible repeat (first | apply Kd.R_alloc | apply Kd.R_drewN | apply Kd.R_drew)); exact HO251.out) hb); have n2_ := Aside0.mk (blk_below (g := gb238) (o := .cells #[.int .i64 a0_0, .int .i64 a0_1, .slice A0_2 l0_2.length c0_2] 50 (0, 0)) (by (with_reducible repeat (first | refine blk_drewN ?_ _ | refine blk_drew ?_ | refine blk_alloc ?_ _)); exact BK238.out) hb); have n3_ := Aside0.mk (below_step (by repeat (first | (with_reducible first | exact HB.out | apply below_alloc | apply pw_below_drewN | apply below_drew1 | refine below_set ?_ GE238.out) | exact HB.out)) hb); have n4_ := Aside0.mk (hbox); have n5_ := Aside0.mk ((by rw [hg]; exact (below_size (by repeat (first | (with_reducible first | exact HB.out | apply below_alloc | apply pw_below_drewN | apply below_drew1 | refine below_set ?_ GE238.out) | exact HB.out))) : w.heap.size ≤ gb252)); have n6_ := Aside0.mk ((by rw [hg]; exact (below_size (by repeat (first | (with_reducible first | exact HB.out | apply below_alloc | apply pw_below_drewN | apply below_drew1 | refine below_set ?_ GE238.out) | exact HB.out))) : w.heap.size ≤ gb252)); have n7_ := Aside0.mk ((by rw [hg]; exact Nat.ne_of_lt (blk_lt (g := gb238) (o := .cells #[.int .i64 a0_0, .int .i64 a0_1, .slice A0_2 l0_2.length c0_2] 50 (0, 0)) (by (with_reducible repeat (first | refine blk_drewN ?_ _ | refine blk_drew ?_ | refine blk_alloc ?_ _)); exact BK238.out)) : gb238 ≠ gb252)); have n8_ := Aside0.mk ((by rw [hg]; exact Nat.ne_of_gt (blk_lt (g := gb238) (o := .cells #[.int .i64 a0_0, .int .i64 a0_1, .slice A0_2 l0_2.length c0_2] 50 (0, 0)) (by (with_reducible repeat (first | refine blk_drewN ?_ _ | refine blk_drew ?_ | refine blk_alloc ?_ _)); exact BK238.out)) : gb252 ≠ gb238)); clear HO245; clear HO251; clear BK238; clear HB; have HO245 := n0_; have HO251 := n1_; have BK238 := n2_; have HB := n3_; have BK252 := n4_; have GW252 := n5_; have GE252 := n6_; have NB238_252 := n7_; have NB252_238 := n8_; clear n0_ n1_ n2_ n3_ n4_ n5_ n6_ n7_ n8_; clear hb hbox hg; have hnb71 := NB252_238.out; have hnc71 := NB238_252.out; have hcz72_0 : w70.cell? ⟨gb252, 0, none⟩ = some (.int .i64 0) := (blk_cell BK252.out 0).trans rfl; have hcz72_1 : w70.cell? ⟨gb252, 1, none⟩ = some (.int .i64 0) := (blk_cell BK252.out 1).trans rfl; have hcz72_2 : w70.cell? ⟨gb252, 2, none⟩ = some (.slice none 0 0) := (blk_cell BK252.out 2).trans rfl; have hfz72_0 := blk_frozen BK252.out 0; have hfz72_1 := blk_frozen BK252.out 1; have hfz72_2 := blk_frozen BK252.out 2) | ((with_reducible refine gate_callee (f := 39) rfl ?_); refine goesL_ (some 43) rfl rfl Try.func39 (by kernel_rfl) rfl #[.agg #[.int .i64 a0_0, .int .i64 a0_1, .slice Ao69 y243.length co69], .int .u64 5] rfl (by (try simp only [List.map_toArray, List.map_cons, List.map_nil]); first | done | rfl | (simp only [List.length_drop, List.length_take]; rfl)) ?_; (with_reducible refine (tree_Append.calls kj4 a0_0 a0_1 _ _ y243 5 t253 t254 t255 (some q260) _ ?side1 ?side2 A14.out).mono ?_); (case side1 => refine (Kd.R_reads' (e := 23) (base := w.heap.size) (ok := fun k_ => (True ∧ some k_ ≠ (v250 : Value).ownBlock)) (n := y243.length) (c := co69) ?_).2.2; exact (by (with_reducible repeat (first | apply Kd.R_alloc | apply Kd.R_drewN | apply Kd.R_drew)); exact (Kd.R_mono (Kd.R_far (p := ⟨gb252, 2, none⟩) (Kd.R_far (p := ⟨gb252, 1, none⟩) (Kd.R_far (p := ⟨gb252, 0, none⟩) (Kd.R_types HO245.out BK252.out (by decide)) (fun _ hk => hk.2) (.int .i64 a0_0)) (fun _ hk => hk.2) (.int .i64 a0_1)) (fun _ hk => hk.2) (.slice Ao69 y243.length co69)) (fun _ h_ => h_.1)))); (case side2 => exact (Kd.R_reads' HO245.out).2.1); rintro e w73 ⟨v256, rfl, ho0, hb⟩; refine ⟨_, rfl, ?_⟩; have n0_ := Aside0.mk (Kd.R_elder' (by (with_reducible repeat (first | apply Kd.R_alloc | apply Kd.R_drewN | apply Kd.R_drew)); exact (Kd.R_mono (Kd.R_far (p := ⟨gb252, 2, none⟩) (Kd.R_far (p := ⟨gb252, 1, none⟩) (Kd.R_far (p := ⟨gb252, 0, none⟩) (Kd.R_types HO245.out BK252.out (by decide)) (fun _ hk => hk.2) (.int .i64 a0_0)) (fun _ hk => hk.2) (.int .i64 a0_1)) (fun _ hk => hk.2) (.slice Ao69 y243.length co69)) (fun _ h_ => h_.1))) (Kd.R_base ho0) hb); have n1_ := Aside0.mk (Kd.R_elder' (by (with_reducible repeat (first | apply Kd.R_alloc | apply Kd.R_drewN | apply Kd.R_drew)); exact (Kd.R_mono (Kd.R_far (p := ⟨gb252, 2, none⟩) (Kd.R_far (p := ⟨gb252, 1, none⟩) (Kd.R_far (p := ⟨gb252, 0, none⟩) (Kd.R_types HO251.out BK252.out (by decide)) (fun _ hk => hk.2) (.int .i64 a0_0)) (fun _ hk => hk.2) (.int .i64 a0_1)) (fun _ hk => hk.2) (.slice Ao69 y243.length co69)) (fun _ h_ => h_.1))) (Kd.R_base ho0) hb); have n2_ := Aside0.mk (Kd.R_lower (Kd.R_new' (Kd.R_new' ho0 (Kd.R_lt (by (with_reducible repeat (first | apply Kd.R_alloc | apply Kd.R_drewN | apply Kd.R_drew)); exact (Kd.R_mono (Kd.R_far (p := ⟨gb252, 2, none⟩) (Kd.R_far (p := ⟨gb252, 1, none⟩) (Kd.R_far (p := ⟨gb252, 0, none⟩) (Kd.R_types HO245.out BK252.out (by decide)) (fun _ hk => hk.2) (.int .i64 a0_0)) (fun _ hk => hk.2) (.int .i64 a0_1)) (fun _ hk => hk.2) (.slice Ao69 y243.length co69)) (fun _ h_ => h_.1))))) (Kd.R_lt (by (with_reducible repeat (first | apply Kd.R_alloc | apply Kd.R_drewN | apply Kd.R_drew)); exact (Kd.R_mono (Kd.R_far (p := ⟨gb252, 2, none⟩) (Kd.R_far (p := ⟨gb252, 1, none⟩) (Kd.R_far (p := ⟨gb252, 0, none⟩) (Kd.R_types HO251.out BK252.out (by decide)) (fun _ hk => hk.2) (.int .i64 a0_0)) (fun _ hk => hk.2) (.int .i64 a0_1)) (fun _ hk => hk.2) (.slice Ao69 y243.length co69)) (fun _ h_ => h_.1))))) (below_size (by repeat (first | (with_reducible first | exact HB.out | apply below_alloc | apply pw_below_drewN | apply below_drew1 | refine below_set ?_ GE238.out | refine below_set ?_ GE252.out) | exact HB.out)))); have n3_ := Aside0.mk (blk_below (g := gb238) (o := .cells #[.int .i64 a0_0, .int .i64 a0_1, .slice A0_2 l0_2.length c0_2] 50 (0, 0)) (by (with_reducible repeat (first | refine blk_drewN ?_ _ | refine blk_drew ?_ | refine blk_alloc ?_ _)); refine blk_far ?_ NB238_252.out _; (with_reducible repeat (first | refine blk_drewN ?_ _ | refine blk_drew ?_ | refine blk_alloc ?_ _)); refine blk_far ?_ NB238_252.out _; (with_reducible repeat (first | refine blk_drewN ?_ _ | refine blk_drew ?_ | refine blk_alloc ?_ _)); refine blk_far ?_ NB238_252.out _; (with_reducible repeat (first | refine blk_drewN ?_ _ | refine blk_drew ?_ | refine blk_alloc ?_ _)); exact BK238.out) hb); have n4_ := Aside0.mk (blk_below (g := gb252) (o := .cells #[.int .i64 a0_0, .int .i64 a0_1, .slice Ao69 y243.length co69] 50 (0, 0)) (by (with_reducible repeat (first | refine blk_drewN ?_ _ | refine blk_drew ?_ | refine blk_alloc ?_ _)); refine blk_put (cs := #[.int .i64 a0_0, .int .i64 a0_1, .slice none 0 0]) ?_ 2 _ rfl; (with_reducible repeat (first | refine blk_drewN ?_ _ | refine blk_drew ?_ | refine blk_alloc ?_ _)); refine blk_put (cs := #[.int .i64 a0_0, .int .i64 0, .slice none 0 0]) ?_ 1 _ rfl; (with_reducible repeat (first | refine blk_drewN ?_ _ | refine blk_drew ?_ | refine blk_alloc ?_ _)); refine blk_put (cs := #[.int .i64 0, .int .i64 0, .slice none 0 0]) ?_ 0 _ rfl; (with_reducible repeat (first | refine blk_drewN ?_ _ | refine blk_drew ?_ | refine blk_alloc ?_ _)); exact BK252.out) hb); have n5_ := Aside0.mk (below_step (by repeat (first | (with_reducible first | exact HB.out | apply below_alloc | apply pw_below_drewN | apply below_drew1 | refine below_set ?_ GE238.out | refine below_set ?_ GE252.out) | exact HB.out)) hb); clear HO245; clear HO251; clear BK238; clear BK252; clear HB; have HO245 := n0_; have HO251 := n1_; have HO257 := n2_; have BK238 := n3_; have BK252 := n4_; have HB := n5_; clear n0_ n1_ n2_ n3_ n4_ n5_; (try clear hb); (try clear hb2); (try clear hk); (try clear hi); (try clear ho0); (try simp only [errW_none, errW_some])) | ((with_reducible refine gate_dst (N := 11) rfl ?_); (try (refine gate_guard (by rfl) ?_; dsimp only)); refine box_event ?hg (N := 11) ?hd (cs := #[.int .i64 0, .int .i64 0, .slice none 0 0]) (t := 50) ?hr ?_; (case hd => rfl); (case hg => rfl); (case hr => first | (go_simp; done) | (go_simp; rfl)); intro gb259 hg w74 hbox hb; have n0_ := Aside0.mk (Kd.R_below (by (with_reducible repeat (first | apply Kd.R_alloc | apply Kd.R_drewN | apply Kd.R_drew)); exact HO245.out) hb); have n1_ := Aside0.mk (Kd.R_below (by (with_reducible repeat (first | apply Kd.R_alloc | apply Kd.R_drewN | apply Kd.R_drew)); exact HO251.out) hb); have n2_ := Aside0.mk (Kd.R_below (by (with_reducible repeat (first | apply Kd.R_alloc | apply Kd.R_drewN | apply Kd.R_drew)); exact HO257.out) hb); have n3_ := Aside0.mk (blk_below (g := gb238) (o := .cells #[.int .i64 a0_0, .int .i64 a0_1, .slice A0_2 l0_2.length c0_2] 50 (0, 0)) (by (with_reducible repeat (first | refine blk_drewN ?_ _ | refine blk_drew ?_ | refine blk_alloc ?_ _)); exact BK238.out) hb); have n4_ := Aside0.mk (blk_below (g := gb252) (o := .cells #[.int .i64 a0_0, .int .i64 a0_1, .slice Ao69 y243.length co69] 50 (0, 0)) (by (with_reducible repeat (first | refine blk_drewN ?_ _ | refine blk_drew ?_ | refine blk_alloc ?_ _)); exact BK252.out) hb); have n5_ := Aside0.mk (below_step (by repeat (first | (with_reducible first | exact HB.out | apply below_alloc | apply pw_below_drewN | apply below_drew1 | refine below_set ?_ GE238.out | refine below_set ?_ GE252.out) | exact HB.out)) hb); have n6_ := Aside0.mk (hbox); have n7_ := Aside0.mk ((by rw [hg]; exact (below_size (by repeat (first | (with_reducible first | exact HB.out | apply below_alloc | apply pw_below_drewN | apply below_drew1 | refine below_set ?_ GE238.out | refine below_set ?_ GE252.out) | exact HB.out))) : w.heap.size ≤ gb259)); have n8_ := Aside0.mk ((by rw [hg]; exact (below_size (by repeat (first | (with_reducible first | exact HB.out | apply below_alloc | apply pw_below_drewN | apply below_drew1 | refine below_set ?_ GE238.out | refine below_set ?_ GE252.out) | exact HB.out))) : w.heap.size ≤ gb259)); have n9_ := Aside0.mk ((by rw [hg]; exact Nat.ne_of_lt (blk_lt (g := gb238) (o := .cells #[.int .i64 a0_0, .int .i64 a0_1, .slice A0_2 l0_2.length c0_2] 50 (0, 0)) (by (with_reducible repeat (first | refine blk_drewN ?_ _ | refine blk_drew ?_ | refine blk_alloc ?_ _)); exact BK238.out)) : gb238 ≠ gb259)); have n10_ := Aside0.mk ((by rw [hg]; exact Nat.ne_of_gt (blk_lt (g := gb238) (o := .cells #[.int .i64 a0_0, .int .i64 a0_1, .slice A0_2 l0_2.length c0_2] 50 (0, 0)) (by (with_reducible repeat (first | refine blk_drewN ?_ _ | refine blk_drew ?_ | refine blk_alloc ?_ _)); exact BK238.out)) : gb259 ≠ gb238)); have n11_ := Aside0.mk ((by rw [hg]; exact Nat.ne_of_lt (blk_lt (g := gb252) (o := .cells #[.int .i64 a0_0, .int .i64 a0_1, .slice Ao69 y243.length co69] 50 (0, 0)) (by (with_reducible repeat (first | refine blk_drewN ?_ _ | refine blk_drew ?_ | refine blk_alloc ?_ _)); exact BK252.out)) : gb252 ≠ gb259)); have n12_ := Aside0.mk ((by rw [hg]; exact Nat.ne_of_gt (blk_lt (g := gb252) (o := .cells #[.int .i64 a0_0, .int .i64 a0_1, .slice Ao69 y243.length co69] 50 (0, 0)) (by (with_reducible repeat (first | refine blk_drewN ?_ _ | refine blk_drew ?_ | refine blk_alloc ?_ _)); exact BK252.out)) : gb259 ≠ gb252)); clear HO245; clear HO251; clear HO257; clear BK238; clear BK252; clear HB; have HO245 := n0_; have HO251 := n1_; have HO257 := n2_; have BK238 := n3_; have BK252 := n4_; have HB := n5_; have BK259 := n6_; have GW259 := n7_; have GE259 := n8_; have NB238_259 := n9_; have NB259_238 := n10_; have NB252_259 := n11_; have NB259_252 := n12_; clear n0_ n1_ n2_ n3_ n4_ n5_ n6_ n7_ n8_ n9_ n10_ n11_ n12_; clear hb hbox hg; have hnb75 := NB259_238.out; have hnc75 := NB238_259.out; have hnb76 := NB259_252.out; have hnc76 := NB252_259.out; have hcz77_0 : w74.cell? ⟨gb259, 0, none⟩ = some (.int .i64 0) := (blk_cell BK259.out 0).trans rfl; have hcz77_1 : w74.cell? ⟨gb259, 1, none⟩ = some (.int .i64 0) := (blk_cell BK259.out 1).trans rfl; have hcz77_2 : w74.cell? ⟨gb259, 2, none⟩ = some (.slice none 0 0) := (blk_cell BK259.out 2).trans rfl; have hfz77_0 := blk_frozen BK259.out 0; have hfz77_1 := blk_frozen BK259.out 1; have hfz77_2 := blk_frozen BK259.out 2; obtain ⟨Ao78, co78, eo78⟩ := Kd.R_slice HO257.out; subst eo78; obtain ⟨Ao79, co79, eo79⟩ := Kd.R_slice HO251.out; subst eo79) | ((with_reducible refine gate_callee (f := 40) rfl ?_); refine goesL_ (some 62) rfl rfl Try.func40 (by kernel_rfl) rfl #[.slice Ao79 y249.length co79, .int .i64 a2, .int .i64 0] rfl (by (try simp only [List.map_toArray, List.map_cons, List.map_nil]); first | done | rfl | (simp only [List.length_drop, List.length_take]; rfl)) ?_; (with_reducible refine (tree_Path.calls kj4 _ _ y249 a2 0 t269 t270 _ ?side1 ?side2 A60.out).mono ?_); (case side1 => refine (Kd.R_reads' (e := 23) (base := w.heap.size) (ok := fun k_ => (some k_ ≠ (.slice Ao69 y243.length co69 : Value).ownBlock ∧ some k_ ≠ (.slice Ao78 t255.length co78 : Value).ownBlock)) (n := y249.length) (c := co79) ?_).2.2; exact (by (with_reducible repeat (first | apply Kd.R_alloc | apply Kd.R_drewN | apply Kd.R_drew)); exact (Kd.R_mono (Kd.R_far (p := ⟨gb259, 2, none⟩) (Kd.R_far (p := ⟨gb259, 1, none⟩) (Kd.R_far (p := ⟨gb259, 0, none⟩) (Kd.R_types HO251.out BK259.out (by decide)) (fun _ hk => hk.2) (.int .i64 t253)) (fun _ hk => hk.2) (.int .i64 t254)) (fun _ hk => hk.2) (.slice Ao78 t255.length co78)) (fun _ h_ => h_.1)))); (case side2 => exact (Kd.R_reads' HO251.out).2.1); rintro e w80 ⟨v271, rfl, ho0, hb⟩; refine ⟨_, rfl, ?_⟩; have n0_ := Aside0.mk (Kd.R_elder' (by (with_reducible repeat (first | apply Kd.R_alloc | apply Kd.R_drewN | apply Kd.R_drew)); exact (Kd.R_mono (Kd.R_far (p := ⟨gb259, 2, none⟩) (Kd.R_far (p := ⟨gb259, 1, none⟩) (Kd.R_far (p := ⟨gb259, 0, none⟩) (Kd.R_types HO245.out BK259.out (by decide)) (fun _ hk => hk.2) (.int .i64 t253)) (fun _ hk => hk.2) (.int .i64 t254)) (fun _ hk => hk.2) (.slice Ao78 t255.length co78)) (fun _ h_ => h_.1))) (Kd.R_base ho0) hb); have n1_ := Aside0.mk (Kd.R_elder' (by (with_reducible repeat (first | apply Kd.R_alloc | apply Kd.R_drewN | apply Kd.R_drew)); exact (Kd.R_mono (Kd.R_far (p := ⟨gb259, 2, none⟩) (Kd.R_far (p := ⟨gb259, 1, none⟩) (Kd.R_far (p := ⟨gb259, 0, none⟩) (Kd.R_types HO251.out BK259.out (by decide)) (fun _ hk => hk.2) (.int .i64 t253)) (fun _ hk => hk.2) (.int .i64 t254)) (fun _ hk => hk.2) (.slice Ao78 t255.length co78)) (fun _ h_ => h_.1))) (Kd.R_base ho0) hb); have n2_ := Aside0.mk (Kd.R_elder' (by (with_reducible repeat (first | apply Kd.R_alloc | apply Kd.R_drewN | apply Kd.R_drew)); exact (Kd.R_mono (Kd.R_far (p := ⟨gb259, 2, none⟩) (Kd.R_far (p := ⟨gb259, 1, none⟩) (Kd.R_far (p := ⟨gb259, 0, none⟩) (Kd.R_types HO257.out BK259.out (by decide)) (fun _ hk => hk.2) (.int .i64 t253)) (fun _ hk => hk.2) (.int .i64 t254)) (fun _ hk => hk.2) (.slice Ao78 t255.length co78)) (fun _ h_ => h_.1))) (Kd.R_base ho0) hb); have n3_ := Aside0.mk (Kd.R_lower (Kd.R_new' (Kd.R_new' (Kd.R_new' ho0 (Kd.R_lt (by (with_reducible repeat (first | apply Kd.R_alloc | apply Kd.R_drewN | apply Kd.R_drew)); exact (Kd.R_mono (Kd.R_far (p := ⟨gb259, 2, none⟩) (Kd.R_far (p := ⟨gb259, 1, none⟩) (Kd.R_far (p := ⟨gb259, 0, none⟩) (Kd.R_types HO245.out BK259.out (by decide)) (fun _ hk => hk.2) (.int .i64 t253)) (fun _ hk => hk.2) (.int .i64 t254)) (fun _ hk => hk.2) (.slice Ao78 t255.length co78)) (fun _ h_ => h_.1))))) (Kd.R_lt (by (with_reducible repeat (first | apply Kd.R_alloc | apply Kd.R_drewN | apply Kd.R_drew)); exact (Kd.R_mono (Kd.R_far (p := ⟨gb259, 2, none⟩) (Kd.R_far (p := ⟨gb259, 1, none⟩) (Kd.R_far (p := ⟨gb259, 0, none⟩) (Kd.R_types HO251.out BK259.out (by decide)) (fun _ hk => hk.2) (.int .i64 t253)) (fun _ hk => hk.2) (.int .i64 t254)) (fun _ hk => hk.2) (.slice Ao78 t255.length co78)) (fun _ h_ => h_.1))))) (Kd.R_lt (by (with_reducible repeat (first | apply Kd.R_alloc | apply Kd.R_drewN | apply Kd.R_drew)); exact (Kd.R_mono (Kd.R_far (p := ⟨gb259, 2, none⟩) (Kd.R_far (p := ⟨gb259, 1, none⟩) (Kd.R_far (p := ⟨gb259, 0, none⟩) (Kd.R_types HO257.out BK259.out (by decide)) (fun _ hk => hk.2) (.int .i64 t253)) (fun _ hk => hk.2) (.int .i64 t254)) (fun _ hk => hk.2) (.slice Ao78 t255.length co78)) (fun _ h_ => h_.1))))) (below_size (by repeat (first | (with_reducible first | exact HB.out | apply below_alloc | apply pw_below_drewN | apply below_drew1 | refine below_set ?_ GE238.out | refine below_set ?_ GE252.out | refine below_set ?_ GE259.out) | exact HB.out)))); have n4_ := Aside0.mk (blk_below (g := gb238) (o := .cells #[.int .i64 a0_0, .int .i64 a0_1, .slice A0_2 l0_2.length c0_2] 50 (0, 0)) (by (with_reducible repeat (first | refine blk_drewN ?_ _ | refine blk_drew ?_ | refine blk_alloc ?_ _)); refine blk_far ?_ NB238_259.out _; (with_reducible repeat (first | refine blk_drewN ?_ _ | refine blk_drew ?_ | refine blk_alloc ?_ _)); refine blk_far ?_ NB238_259.out _; (with_reducible repeat (first | refine blk_drewN ?_ _ | refine blk_drew ?_ | refine blk_alloc ?_ _)); refine blk_far ?_ NB238_259.out _; (with_reducible repeat (first | refine blk_drewN ?_ _ | refine blk_drew ?_ | refine blk_alloc ?_ _)); exact BK238.out) hb); have n5_ := Aside0.mk (blk_below (g := gb252) (o := .cells #[.int .i64 a0_0, .int .i64 a0_1, .slice Ao69 y243.length co69] 50 (0, 0)) (by (with_reducible repeat (first | refine blk_drewN ?_ _ | refine blk_drew ?_ | refine blk_alloc ?_ _)); refine blk_far ?_ NB252_259.out _; (with_reducible repeat (first | refine blk_drewN ?_ _ | refine blk_drew ?_ | refine blk_alloc ?_ _)); refine blk_far ?_ NB252_259.out _; (with_reducible repeat (first | refine blk_drewN ?_ _ | refine blk_drew ?_ | refine blk_alloc ?_ _)); refine blk_far ?_ NB252_259.out _; (with_reducible repeat (first | refine blk_drewN ?_ _ | refine blk_drew ?_ | refine blk_alloc ?_ _)); exact BK252.out) hb); have n6_ := Aside0.mk (blk_below (g := gb259) (o := .cells #[.int .i64 t253, .int .i64 t254, .slice Ao78 t255.length co78] 50 (0, 0)) (by (with_reducible repeat (first | refine blk_drewN ?_ _ | refine blk_drew ?_ | refine blk_alloc ?_ _)); refine blk_put (cs := #[.int .i64 t253, .int .i64 t254, .slice none 0 0]) ?_ 2 _ rfl; (with_reducible repeat (first | refine blk_drewN ?_ _ | refine blk_drew ?_ | refine blk_alloc ?_ _)); refine blk_put (cs := #[.int .i64 t253, .int .i64 0, .slice none 0 0]) ?_ 1 _ rfl; (with_reducible repeat (first | refine blk_drewN ?_ _ | refine blk_drew ?_ | refine blk_alloc ?_ _)); refine blk_put (cs := #[.int .i64 0, .int .i64 0, .slice none 0 0]) ?_ 0 _ rfl; (with_reducible repeat (first | refine blk_drewN ?_ _ | refine blk_drew ?_ | refine blk_alloc ?_ _)); exact BK259.out) hb); have n7_ := Aside0.mk (below_step (by repeat (first | (with_reducible first | exact HB.out | apply below_alloc | apply pw_below_drewN | apply below_drew1 | refine below_set ?_ GE238.out | refine below_set ?_ GE252.out | refine below_set ?_ GE259.out) | exact HB.out)) hb); clear HO245; clear HO251; clear HO257; clear BK238; clear BK252; clear BK259; clear HB; have HO245 := n0_; have HO251 := n1_; have HO257 := n2_; have HO272 := n3_; have BK238 := n4_; have BK252 := n5_; have BK259 := n6_; have HB := n7_; clear n0_ n1_ n2_ n3_ n4_ n5_ n6_ n7_; (try clear hb); (try clear hb2); (try clear hk); (try clear hi); (try clear ho0); (try simp only [errW_none, errW_some])))
              go_loopg [16] kj4 (fun kq v16 w' => ∃ (x14_2 : List Int) (x16_2 : Int), v16 = .int .i64 x16_2 ∧ Aside0 (obollaw16_TreeStays.l1 kq l1 t239 y243 y249 x14_2 x16_2 a0_0 a0_1 l0_2 = some r) ∧ Aside0 (kq ≤ kj4) ∧ Aside0 (Kd.R (Kd.int .u64) 23 w' w.heap.size (fun k_ => some k_ ≠ ((.slice Ao79 y249.length co79) : Value).ownBlock ∧ some k_ ≠ (v271 : Value).ownBlock ∧ some k_ ≠ ((.slice Ao78 t255.length co78) : Value).ownBlock) (.slice Ao69 y243.length co69) y243) ∧ Aside0 (Kd.R (Kd.int .u64) 23 w' w.heap.size (fun k_ => some k_ ≠ ((.slice Ao69 y243.length co69) : Value).ownBlock ∧ some k_ ≠ (v271 : Value).ownBlock ∧ some k_ ≠ ((.slice Ao78 t255.length co78) : Value).ownBlock) (.slice Ao79 y249.length co79) y249) ∧ Aside0 (Kd.R (Kd.int .u64) 23 w' w.heap.size (fun k_ => some k_ ≠ ((.slice Ao69 y243.length co69) : Value).ownBlock ∧ some k_ ≠ ((.slice Ao79 y249.length co79) : Value).ownBlock ∧ some k_ ≠ ((.slice Ao78 t255.length co78) : Value).ownBlock) v271 x14_2) ∧ Aside0 (Kd.R (Kd.int .u64) 23 w' w.heap.size (fun k_ => some k_ ≠ ((.slice Ao69 y243.length co69) : Value).ownBlock ∧ some k_ ≠ ((.slice Ao79 y249.length co79) : Value).ownBlock ∧ some k_ ≠ (v271 : Value).ownBlock) (.slice Ao78 t255.length co78) t255) ∧ Aside0 (w'.heap[gb238]? = some (.cells #[.int .i64 a0_0, .int .i64 a0_1, (.slice A0_2 l0_2.length c0_2)] 50 (0, 0))) ∧ Aside0 (w'.heap[gb259]? = some (.cells #[.int .i64 t253, .int .i64 t254, (.slice Ao78 t255.length co78)] 50 (0, 0))) ∧ Aside0 (Below w.heap.size w w'))
              case atStart => exact ⟨(t269), (0), (by first | rfl | (simp; done) | (simp [*]; done)), H', ⟨Nat.le_refl _⟩, ⟨by (with_reducible repeat (first | apply Kd.R_alloc | apply Kd.R_drewN | apply Kd.R_drew)); exact Kd.R_mono HO245.out (fun _ hk => ⟨hk.1.1.2, ⟨hk.2, hk.1.2⟩⟩)⟩, ⟨by (with_reducible repeat (first | apply Kd.R_alloc | apply Kd.R_drewN | apply Kd.R_drew)); exact Kd.R_mono HO251.out (fun _ hk => ⟨hk.1.1, ⟨hk.2, hk.1.2⟩⟩)⟩, ⟨by (with_reducible repeat (first | apply Kd.R_alloc | apply Kd.R_drewN | apply Kd.R_drew)); exact Kd.R_mono HO272.out (fun _ hk => ⟨hk.1.1.2, ⟨hk.1.2, hk.2⟩⟩)⟩, ⟨by (with_reducible repeat (first | apply Kd.R_alloc | apply Kd.R_drewN | apply Kd.R_drew)); exact Kd.R_mono HO257.out (fun _ hk => ⟨hk.1.1.2, ⟨hk.1.2, hk.2⟩⟩)⟩, ⟨by (with_reducible repeat (first | refine blk_drewN ?_ _ | refine blk_drew ?_ | refine blk_alloc ?_ _)); exact BK238.out⟩, ⟨by (with_reducible repeat (first | refine blk_drewN ?_ _ | refine blk_drew ?_ | refine blk_alloc ?_ _)); exact BK259.out⟩, ⟨by repeat (first | (with_reducible first | exact HB.out | apply below_alloc | apply pw_below_drewN | apply below_drew1 | refine below_set ?_ GE238.out | refine below_set ?_ GE252.out | refine below_set ?_ GE259.out) | exact HB.out)⟩⟩
              case round =>
                clear H'
                try clear c1
                try clear c2
                try clear p2
                try clear q2
                try clear c3
                try clear p3
                try clear q3
                try clear hx3
                try clear hf3
                try clear c4
                try clear p4
                try clear q4
                try clear hx4
                try clear hf4
                try clear c5
                try clear p6
                try clear c7
                try clear c8
                try clear c8b0
                try clear c8b1
                try clear c11
                try clear c12
                try clear c13
                try clear c25
                try clear q26
                try clear c29
                try clear c30
                try clear c33
                try clear c33b0
                try clear c34
                try clear c34b0
                try clear p35
                try clear q35
                try clear hx35
                try clear hf35
                try clear c36
                try clear c38
                try clear c39
                try clear c40
                try clear c42
                try clear c47
                try clear c47b0
                try clear c48
                try clear c48b0
                try clear p49
                try clear q49
                try clear hx49
                try clear hf49
                try clear c53
                try clear c55
                try clear c58
                try clear p64
                try clear c71
                try clear c75
                try clear c76
                try clear hcz10_0
                try clear hcz10_1
                try clear hcz10_2
                try clear hcz17_0
                try clear hcz17_1
                try clear hcz17_2
                try clear hcz22_0
                try clear hcz22_1
                try clear hcz22_2
                try clear hcz26_0
                try clear hcz26_1
                try clear hcz26_2
                try clear hcz31_0
                try clear hcz31_1
                try clear hcz31_2
                try clear hcz37_0
                try clear hcz37_1
                try clear hcz37_2
                try clear hcz43_0
                try clear hcz43_1
                try clear hcz43_2
                try clear hcz59_0
                try clear hcz59_1
                try clear hcz59_2
                try clear hcz63_0
                try clear hcz63_1
                try clear hcz63_2
                try clear hcz68_0
                try clear hcz68_1
                try clear hcz68_2
                try clear hcz72_0
                try clear hcz72_1
                try clear hcz72_2
                try clear hcz77_0
                try clear hcz77_1
                try clear hcz77_2
                try clear hcz9_0
                try clear hcz9_1
                try clear hcz9_2
                try clear hfz10_0
                try clear hfz10_1
                try clear hfz10_2
                try clear hfz17_0
                try clear hfz17_1
                try clear hfz17_2
                try clear hfz22_0
                try clear hfz22_1
                try clear hfz22_2
                try clear hfz26_0
                try clear hfz26_1
                try clear hfz26_2
                try clear hfz31_0
                try clear hfz31_1
                try clear hfz31_2
                try clear hfz37_0
                try clear hfz37_1
                try clear hfz37_2
                try clear hfz43_0
                try clear hfz43_1
                try clear hfz43_2
                try clear hfz59_0
                try clear hfz59_1
                try clear hfz59_2
                try clear hfz63_0
                try clear hfz63_1
                try clear hfz63_2
                try clear hfz68_0
                try clear hfz68_1
                try clear hfz68_2
                try clear hfz72_0
                try clear hfz72_1
                try clear hfz72_2
                try clear hfz77_0
                try clear hfz77_1
                try clear hfz77_2
                try clear hfz9_0
                try clear hfz9_1
                try clear hfz9_2
                try clear hx35_0
                try clear hx49_0
                try clear p2
                try clear p3
                try clear p35
                try clear p49
                try clear p6
                try clear q2
                try clear q26
                try clear q260
                try clear q3
                try clear q35
                try clear q49
                obtain ⟨x14_2, x16_2, rfl, HA, HK2, HO_8, HO_9, HO_14, HO_260002, BK238, BK259, HB⟩ := hrel
                cases gk with
                | zero => exact absurd HA.out (by simp [obollaw16_TreeStays.l1])
                | succ k2 =>
                  have H := HA.out
                  clear HA
                  simp only [obollaw16_TreeStays.l1] at H
                  by_cases c81 : x16_2 < (x14_2.length : Int)
                  · rw [if_pos c81] at H
                    have c81b0 : decide (x16_2 < (x14_2.length : Int)) = true := decide_eq_true c81
                    clear c81
                    by_cases c82 : 0 ≤ x16_2
                    · rw [if_pos c82] at H
                      have c82b0 : decide (0 ≤ x16_2) = true := decide_eq_true c82
                      clear c82
                      obtain ⟨y266, hy266⟩ : ∃ y_ : List Int, y_ = (x14_2.set (x16_2 : Int).toNat 9) := ⟨_, rfl⟩
                      replace H : (obollaw16_TreeStays.l1 k2 l1 t239 y243 y249 y266 (wrap64 (x16_2 + 1)) a0_0 a0_1 l0_2) = some r := by first | (rw [hy266]; with_reducible exact H) | (have H2_ := (Option.bind_some _ _).symm.trans H; rw [hy266]; with_reducible exact H2_) | (have H2_ := (Option.bind_some _ _).symm.trans H; with_reducible exact H2_) | with_reducible exact H | (rw [hy266]; exact H) | exact H
                      have Ny266 := Aside0.mk hy266
                      clear hy266
                      have H' := Aside0.mk H
                      clear H
                      obtain ⟨Ao84, co84, eo84⟩ := Kd.R_slice HO_14.out
                      subst eo84
                      have p83 : 0 ≤ (x16_2 : Int) := of_decide_eq_true (by first | (with_reducible assumption) | assumption)
                      have q83 : (x16_2 : Int) < ((x14_2.length : Int) : Int) := of_decide_eq_true (by first | (with_reducible assumption) | assumption)
                      obtain ⟨go83, co83, eo83, gb83, gl83, cl83, HG83⟩ := Kd.R_form HO_14.out (by omega)
                      (first | cases eo83 | (injection eo83 with ea_ en_ ec_; (first | subst ea_ | (injection ea_ with ea_; subst ea_)); subst ec_; clear en_))
                      have GB83 := Aside0.mk gb83
                      have GG83 := Aside0.mk HG83
                      clear gb83 gl83 HG83
                      obtain ⟨hx83_0, hf83_0⟩ := Kd.R_celln 0 HO_14.out (x16_2 : Int) p83 q83
                      replace p83 := eq_true p83
                      replace q83 := eq_true q83
                      have HP85 := Kd.R_putg HO_14.out (x16_2 : Int) 9
                      go_wp2_with (first | ((with_reducible refine gate_store (t := 23) (p := 73) rfl ?_); (try (rw [drewN_self wr]; generalize hq_ : World.drewN wr _ = wr; have n0_ := Aside0.mk (Kd.R_at hq_ HO_8.out); have n1_ := Aside0.mk (Kd.R_at hq_ HO_9.out); have n2_ := Aside0.mk (Kd.R_at hq_ HO_14.out); have n3_ := Aside0.mk (Kd.R_at hq_ HO_260002.out); have n4_ := Aside0.mk (blk_at hq_ BK238.out); have n5_ := Aside0.mk (blk_at hq_ BK259.out); have n6_ := Aside0.mk (below_at hq_ HB.out); clear hq_ HO_8 HO_9 HO_14 HO_260002 BK238 BK259 HB; have HO_8 := n0_; have HO_9 := n1_; have HO_14 := n2_; have HO_260002 := n3_; have BK238 := n4_; have BK259 := n5_; have HB := n6_; clear n0_ n1_ n2_ n3_ n4_ n5_ n6_; (try (have HP85 := Kd.R_putg HO_14.out (x16_2 : Int) 9)))); refine store_event (t := 23) (p := 73) (v := ?vo_w86) (w1 := (wr.setCell ⟨go83, (x16_2 : Int).toNat, none⟩ (.int .u64 9))) ?hg ?ho ?hn ?hr ?_; (case ho => rfl); (case hg => rfl); (case hn => rfl); (case hr => first | (go_simp; done) | (go_simp; rfl)); intro w86 hw; have hg : wr.grownBy w86 (some go83) := (by rw [hw]; exact HP85.2); have hp_ : Kd.R (Kd.int .u64) 23 w86 w.heap.size (fun k_ => some k_ ≠ (.slice Ao69 y243.length co69 : Value).ownBlock ∧ some k_ ≠ (.slice Ao79 y249.length co79 : Value).ownBlock ∧ some k_ ≠ (.slice Ao78 t255.length co78 : Value).ownBlock) (.slice (some ⟨go83, 0, none⟩) x14_2.length co84) y266 := (by rw [hw, Ny266.out]; exact HP85.1); clear HP85; have n0_ := Aside0.mk (Kd.R_after (v := (.slice (some ⟨go83, 0, none⟩) x14_2.length co84)) (v1 := (.slice (some ⟨go83, 0, none⟩) x14_2.length co84)) (ok := (fun k_ => some k_ ≠ (.slice Ao79 y249.length co79 : Value).ownBlock ∧ some k_ ≠ (.slice Ao78 t255.length co78 : Value).ownBlock)) (by (with_reducible repeat (first | apply Kd.R_alloc | apply Kd.R_drewN | apply Kd.R_drew)); exact Kd.R_mono HO_8.out (fun _ hk => ⟨⟨hk.1, hk.2.2⟩, hk.2.1⟩)) hg (.inl rfl)); have n1_ := Aside0.mk (Kd.R_after (v := (.slice (some ⟨go83, 0, none⟩) x14_2.length co84)) (v1 := (.slice (some ⟨go83, 0, none⟩) x14_2.length co84)) (ok := (fun k_ => some k_ ≠ (.slice Ao69 y243.length co69 : Value).ownBlock ∧ some k_ ≠ (.slice Ao78 t255.length co78 : Value).ownBlock)) (by (with_reducible repeat (first | apply Kd.R_alloc | apply Kd.R_drewN | apply Kd.R_drew)); exact Kd.R_mono HO_9.out (fun _ hk => ⟨⟨hk.1, hk.2.2⟩, hk.2.1⟩)) hg (.inl rfl)); have n2_ := Aside0.mk (hp_); have n3_ := Aside0.mk (Kd.R_after (v := (.slice (some ⟨go83, 0, none⟩) x14_2.length co84)) (v1 := (.slice (some ⟨go83, 0, none⟩) x14_2.length co84)) (ok := (fun k_ => some k_ ≠ (.slice Ao69 y243.length co69 : Value).ownBlock ∧ some k_ ≠ (.slice Ao79 y249.length co79 : Value).ownBlock)) (by (with_reducible repeat (first | apply Kd.R_alloc | apply Kd.R_drewN | apply Kd.R_drew)); exact Kd.R_mono HO_260002.out (fun _ hk => ⟨⟨hk.1, hk.2.1⟩, hk.2.2⟩)) hg (.inl rfl)); have n4_ := Aside0.mk (blk_grown (g := gb238) (o := .cells #[.int .i64 a0_0, .int .i64 a0_1, .slice A0_2 l0_2.length c0_2] 50 (0, 0)) (by (with_reducible repeat (first | refine blk_drewN ?_ _ | refine blk_drew ?_ | refine blk_alloc ?_ _)); exact BK238.out) hg (Kd.R_ne HO_14.out BK238.out (by decide))); have n5_ := Aside0.mk (blk_grown (g := gb259) (o := .cells #[.int .i64 t253, .int .i64 t254, .slice Ao78 t255.length co78] 50 (0, 0)) (by (with_reducible repeat (first | refine blk_drewN ?_ _ | refine blk_drew ?_ | refine blk_alloc ?_ _)); exact BK259.out) hg (Kd.R_ne HO_14.out BK259.out (by decide))); have n6_ := Aside0.mk ((by rw [hw]; exact below_set (HB.out) GB83.out : Below w.heap.size w w86)); clear HO_8; clear HO_9; clear HO_14; clear HO_260002; clear BK238; clear BK259; clear HB; have HO_8 := n0_; have HO_9 := n1_; have HO_14 := n2_; have HO_260002 := n3_; have BK238 := n4_; have BK259 := n5_; have HB := n6_; clear n0_ n1_ n2_ n3_ n4_ n5_ n6_; clear hg hw hp_))
                      go_roundg k2
                      case measure => have := HJ4.out; have := HK2.out; omega
                      case rel => exact ⟨(y266), (wrap64 (x16_2 + 1)), (by first | rfl | (simp; done) | (simp [*]; done)), H', ⟨by have := HJ4.out; have := HK2.out; omega⟩, ⟨by (with_reducible repeat (first | apply Kd.R_alloc | apply Kd.R_drewN | apply Kd.R_drew)); exact Kd.R_mono HO_8.out (fun _ hk => ⟨hk.1.1, ⟨hk.2, hk.1.2⟩⟩)⟩, ⟨by (with_reducible repeat (first | apply Kd.R_alloc | apply Kd.R_drewN | apply Kd.R_drew)); exact Kd.R_mono HO_9.out (fun _ hk => ⟨hk.1.1, ⟨hk.2, hk.1.2⟩⟩)⟩, ⟨by (with_reducible repeat (first | apply Kd.R_alloc | apply Kd.R_drewN | apply Kd.R_drew)); exact HO_14.out⟩, ⟨by (with_reducible repeat (first | apply Kd.R_alloc | apply Kd.R_drewN | apply Kd.R_drew)); exact Kd.R_mono HO_260002.out (fun _ hk => ⟨hk.1.1, ⟨hk.1.2, hk.2⟩⟩)⟩, ⟨by (with_reducible repeat (first | refine blk_drewN ?_ _ | refine blk_drew ?_ | refine blk_alloc ?_ _)); exact BK238.out⟩, ⟨by (with_reducible repeat (first | refine blk_drewN ?_ _ | refine blk_drew ?_ | refine blk_alloc ?_ _)); exact BK259.out⟩, ⟨by repeat (first | (with_reducible first | exact HB.out | apply below_alloc | apply pw_below_drewN | apply below_drew1 | refine below_set ?_ GE238.out | refine below_set ?_ GE259.out) | exact HB.out)⟩⟩
                    · rw [if_neg c82] at H
                      exact absurd H (by simp)
                  · rw [if_neg c81] at H
                    have c81b0 : decide (x16_2 < (x14_2.length : Int)) = false := decide_eq_false c81
                    clear c81
                    by_cases c87 : t239 = true
                    · subst c87
                      have H1 : ((obolref13_Same.f k2 y243 l0_2).bind fun t267 => (if t267 = true then ((obolref13_Same.f k2 y249 l1).bind fun t268 => (some t268)) else (none))) = some r := by rw [if_pos rfl] at H; exact H
                      clear H
                      have H := H1
                      clear H1
                      replace H := Option.bind_eq_some_iff.mp H
                      obtain ⟨t267, A880, H⟩ := H
                      replace H : (if t267 = true then ((obolref13_Same.f k2 y249 l1).bind fun t268 => (some t268)) else (none)) = some r := H
                      have A88 := Aside0.mk A880
                      clear A880
                      by_cases c89 : t267 = true
                      · subst c89
                        have H1 : ((obolref13_Same.f k2 y249 l1).bind fun t268 => (some t268)) = some r := by rw [if_pos rfl] at H; exact H
                        clear H
                        have H := H1
                        clear H1
                        replace H := Option.bind_eq_some_iff.mp H
                        obtain ⟨t268, A900, H⟩ := H
                        replace H : (some t268) = some r := H
                        have A90 := Aside0.mk A900
                        clear A900
                        obtain rfl := Option.some.inj H
                        obtain ⟨Ao91, co91, eo91⟩ := Kd.R_slice HO_14.out
                        subst eo91
                        have hnb92 := NB238_259.out
                        have hnc92 := NB259_238.out
                        have hcz93_0 : wr.cell? ⟨gb238, 0, none⟩ = some (.int .i64 a0_0) := (blk_cell BK238.out 0).trans rfl
                        have hcz93_1 : wr.cell? ⟨gb238, 1, none⟩ = some (.int .i64 a0_1) := (blk_cell BK238.out 1).trans rfl
                        have hcz93_2 : wr.cell? ⟨gb238, 2, none⟩ = some (.slice A0_2 l0_2.length c0_2) := (blk_cell BK238.out 2).trans rfl
                        have hfz93_0 := blk_frozen BK238.out 0
                        have hfz93_1 := blk_frozen BK238.out 1
                        have hfz93_2 := blk_frozen BK238.out 2
                        go_wp2_with (first | (go_at_call 41; (with_reducible refine (obolref13_Same.calls k2 _ _ y243 _ _ l0_2 true _ ?side1 ?side2 ?side3 ?side4 A88.out).mono ?_); (case side1 => repeat (first | exact (Kd.R_reads' HO_8.out).2.2 | (with_reducible refine Kd.C_alloc ?_ _) | (with_reducible refine Kd.C_drewN ?_ _) | (with_reducible refine Kd.C_drew ?_))); (case side2 => exact (Kd.R_reads' HO_8.out).2.1); (case side3 => repeat (first | exact (Kd.C_below HR0_2.out HB.out) | (with_reducible refine Kd.C_alloc ?_ _) | (with_reducible refine Kd.C_drewN ?_ _) | (with_reducible refine Kd.C_drew ?_))); (case side4 => exact HC0_2.out); rintro e w' ⟨rfl, ⟨nd, rfl⟩⟩) | (go_at_call 41; (with_reducible refine (obolref13_Same.calls k2 _ _ y249 _ _ l1 t268 _ ?side1 ?side2 ?side3 ?side4 A90.out).mono ?_); (case side1 => repeat (first | exact (Kd.R_reads' HO_9.out).2.2 | (with_reducible refine Kd.C_alloc ?_ _) | (with_reducible refine Kd.C_drewN ?_ _) | (with_reducible refine Kd.C_drew ?_))); (case side2 => exact (Kd.R_reads' HO_9.out).2.1); (case side3 => repeat (first | exact (Kd.C_below HR1.out (by repeat (first | (with_reducible first | exact HB.out | apply below_alloc | apply pw_below_drewN | apply below_drew1 | refine below_set ?_ GE238.out | refine below_set ?_ GE259.out) | exact HB.out))) | (with_reducible refine Kd.C_alloc ?_ _) | (with_reducible refine Kd.C_drewN ?_ _) | (with_reducible refine Kd.C_drew ?_))); (case side4 => exact HC1.out); rintro e w' ⟨rfl, ⟨nd, rfl⟩⟩))
                        go_ret
                        exact ⟨by first | rfl | (simp [errW_none, errW_some] <;> rfl) | (simp [*, errW_none, errW_some] <;> rfl), by repeat (first | (with_reducible first | exact HB.out | apply below_alloc | apply pw_below_drewN | apply below_drew1 | refine below_set ?_ GE238.out | refine below_set ?_ GE259.out) | exact HB.out)⟩
                      · replace c89 := Bool.eq_false_iff.mpr c89
                        subst c89
                        have H1 : (none) = some r := by rw [if_neg (show ¬ (false = true) by decide)] at H; exact H
                        clear H
                        have H := H1
                        clear H1
                        exact absurd H (by simp)
                    · replace c87 := Bool.eq_false_iff.mpr c87
                      subst c87
                      have H1 : (none) = some r := by rw [if_neg (show ¬ (false = true) by decide)] at H; exact H
                      clear H
                      have H := H1
                      clear H1
                      exact absurd H (by simp)
          · rw [if_neg c13] at H
            exact absurd H (by simp)
        · rw [if_neg c12] at H
          exact absurd H (by simp)

/-- THE ONE PURE STATEMENT of obollaw16_TreeStays: yours. -/
def obollaw16_TreeStays.Pure : Prop := ∀ (a0_0 : Int) (a0_1 : Int) (l0_2 : List Int) (l1 : List Int) (a2 : Int), (Lit.int .i64 a0_0).wf = true → (Lit.int .i64 a0_1).wf = true → l0_2.length ≤ maxLen → l0_2.length * 8 ≤ 140737488351232 → (∀ x ∈ l0_2, (Lit.int .u64 x).wf = true) → l1.length ≤ maxLen → l1.length * 8 ≤ 140737488351232 → (∀ x ∈ l1, (Lit.int .u64 x).wf = true) → (Lit.int .i64 a2).wf = true → ∃ k, obollaw16_TreeStays.f k a0_0 a0_1 l0_2 l1 a2 = some true
theorem obollaw16_TreeStays.walk (P : obollaw16_TreeStays.Pure) (a0_0 a0_1 : Int) (a0 : Option Addr) (len0 cap0 : Nat) (z0 : List Int) (a1 : Option Addr) (len1 cap1 : Nat) (z1 : List Int) (a2 : Int) (w : World) (w0_0 : (Lit.int .i64 a0_0).wf = true) (w0_1 : (Lit.int .i64 a0_1).wf = true) (w0 : (a0 = none ∧ len0 = 0 ∧ cap0 = 0 ∧ z0 = []) ∨ ∃ x, a0 = some x ∧ len0 ≤ cap0 ∧ cap0 ≤ maxLen ∧ z0.length = cap0 ∧ (∀ i, i < z0.length → w.cell? (x.add i) = some (.int .u64 (z0.getD i 0))) ∧ ∀ n ∈ z0, (Lit.int .u64 n).wf = true) (y0 : len0 * 8 ≤ 140737488351232) (w1 : (a1 = none ∧ len1 = 0 ∧ cap1 = 0 ∧ z1 = []) ∨ ∃ x, a1 = some x ∧ len1 ≤ cap1 ∧ cap1 ≤ maxLen ∧ z1.length = cap1 ∧ (∀ i, i < z1.length → w.cell? (x.add i) = some (.int .u64 (z1.getD i 0))) ∧ ∀ n ∈ z1, (Lit.int .u64 n).wf = true) (y1 : len1 * 8 ≤ 140737488351232) (w2 : (Lit.int .i64 a2).wf = true) :
    Calls Try.prog 12 #[.agg #[.int .i64 a0_0, .int .i64 a0_1, .slice a0 len0 cap0], .slice a1 len1 cap1, .int .i64 a2] w fun e w' => e = .returned (.bool true) ∧ Below w.heap.size w w' := by
  obtain ⟨l0_2, rfl, hr0, hm0, hw0, hc0⟩ := ReadsInt.ofRowC w0
  obtain ⟨l1, rfl, hr1, hm1, hw1, hc1⟩ := ReadsInt.ofRowC w1
  obtain ⟨k, h⟩ := P a0_0 a0_1 l0_2 l1 a2 w0_0 w0_1 hm0 y0 hw0 hm1 y1 hw1 w2
  refine (obollaw16_TreeStays.calls k a0_0 a0_1 _ _ l0_2 _ _ l1 a2 true w (Kd.C_of_reads (d := (0 : Int)) (h1 := fun _ => rfl) hr0) hc0 (Kd.C_of_reads (d := (0 : Int)) (h1 := fun _ => rfl) hr1) hc1 h).mono ?_
  rintro e w' ⟨rfl, hd⟩
  exact ⟨rfl, hd⟩

end Go.Proofs.Ytempibbfdojfiaa.PTreeStays
