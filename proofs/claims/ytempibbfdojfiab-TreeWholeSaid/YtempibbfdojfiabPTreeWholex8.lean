-- printed by a program of this session (wip/tools/mkprint.py)
import Derived.Test.YtempibbfdojfiabPTreeWholex0
import Derived.Test.YtempibbfdojfiabPTreeWholex1
import Derived.Test.YtempibbfdojfiabPTreeWholex4
import Derived.Test.YtempibbfdojfiabPTreeWholex5
import Derived.Test.YtempibbfdojfiabPTreeWholex7
namespace Go.Proofs.Ytempibbfdojfiab.PTreeWhole
open Go.RowKit Go.Proofs.YtempibbfdojfiabW.PrintWords Go.Proofs.YtempibbfdojfiabW.PrintLast Go.Proofs.YtempibbfdojfiabW.PrintMore
attribute [local go_sem] max2_int min2_int max_two min_two max_three min_three max_four min_four   -- for this text's walks alone
set_option linter.unusedVariables false
set_option linter.unusedSimpArgs false

attribute [local go_sem high] errCmp_eql errCmp_neq errCmpL_eql errCmpL_neq
/-! ### obollaw16_TreeWhole: function 4 -/
mutual
def obollaw16_TreeWhole.j0 : Nat → List Int → Int → Int → Bool → Int → List Int → Bool → Option (Bool)
  | 0, _, _, _, _, _, _, _ => none
  | k + 1, x0, x1, x2, x7, x8, x10, x44 => if x44 = true then (some x7) else ((tree_New.f x1).bind fun bt259 => (if bt259.2.2.2.isNone = true then (obollaw16_TreeWhole.l0 k x0 x2 x7 x8 x10 0 bt259.1 bt259.2.1 bt259.2.2.1) else (none)))
def obollaw16_TreeWhole.l0 : Nat → List Int → Int → Bool → Int → List Int → Int → Int → Int → List Int → Option (Bool)
  | 0, _, _, _, _, _, _, _, _, _ => none
  | k + 1, x0, x2, x7, x8, x10, x14, x266000, x266001, x266002 => if x14 < (x0.length : Int) then (if 0 ≤ x14 then ((tree_Append.f k x266000 x266001 x266002 (rd x0 x14)).bind fun bt268 => (if bt268.2.2.2.isNone = true then (obollaw16_TreeWhole.l0 k x0 x2 x7 x8 x10 (wrap64 (x14 + 1)) bt268.1 bt268.2.1 bt268.2.2.1) else (none))) else (none)) else ((tree_Root.f k x266000 x266001 x266002).bind fun bt276 => (if x2 < (x0.length : Int) then (if 0 ≤ x2 then (if x7 = true then (if bt276.2.isNone = true then (if bt276.1 = x8 then ((tree_Climb.f k (rd x0 x2) x2 x10).bind fun t280 => (some (t280 == x8))) else (none)) else (none)) else (none)) else (none)) else (if x7 = true then (if bt276.2.isNone = true then (if bt276.1 = x8 then ((tree_Climb.f k 0 x2 x10).bind fun t282 => (some (t282 == x8))) else (none)) else (none)) else (none))))
end
def obollaw16_TreeWhole.f (k : Nat) (l0 : List Int) (a1 : Int) (a2 : Int) : Option (Bool) := (obollaw16_up.f k).bind fun t250 => ((tree_Whole.f k l0 a1).bind fun bt251 => ((tree_Path.f k l0 a1 a2).bind fun bt253 => (if (l0.length : Int) > 60 then (obollaw16_TreeWhole.j0 k l0 a1 a2 t250 bt251.1 bt253.1 true) else (if bt251.2.isNone = true then (if bt253.2.isNone = true then (obollaw16_TreeWhole.j0 k l0 a1 a2 t250 bt251.1 bt253.1 false) else (obollaw16_TreeWhole.j0 k l0 a1 a2 t250 bt251.1 bt253.1 true)) else (obollaw16_TreeWhole.j0 k l0 a1 a2 t250 bt251.1 bt253.1 true)))))
theorem obollaw16_TreeWhole.mono_l : ∀ k, (∀ y0 y1 y2 y3 y4 y5 y6, LeO (obollaw16_TreeWhole.j0 k y0 y1 y2 y3 y4 y5 y6) (obollaw16_TreeWhole.j0 (k + 1) y0 y1 y2 y3 y4 y5 y6)) ∧ (∀ y0 y1 y2 y3 y4 y5 y6 y7 y8, LeO (obollaw16_TreeWhole.l0 k y0 y1 y2 y3 y4 y5 y6 y7 y8) (obollaw16_TreeWhole.l0 (k + 1) y0 y1 y2 y3 y4 y5 y6 y7 y8))
  | 0 => ⟨fun _ _ _ _ _ _ _ r h => by simp [obollaw16_TreeWhole.j0] at h, fun _ _ _ _ _ _ _ _ _ r h => by simp [obollaw16_TreeWhole.l0] at h⟩
  | k + 1 => by
    obtain ⟨ih0, ih1⟩ := obollaw16_TreeWhole.mono_l k
    refine ⟨?_, ?_⟩
    · intro y0 y1 y2 y3 y4 y5 y6
      unfold obollaw16_TreeWhole.j0
      repeat' first
      | (with_reducible exact ih0 _ _ _ _ _ _ _)
      | (with_reducible exact ih1 _ _ _ _ _ _ _ _ _)
      | (with_reducible exact obollaw16_up.mono _)
      | (with_reducible exact tree_Append.mono _ _ _ _ _)
      | (with_reducible exact tree_Climb.mono _ _ _ _)
      | (with_reducible exact tree_Path.mono _ _ _ _)
      | (with_reducible exact tree_Root.mono _ _ _ _)
      | (with_reducible exact tree_Whole.mono _ _ _)
      | (with_reducible exact LeO.refl _)
      | (with_reducible exact LeO.none _)
      | (with_reducible refine LeO.ite ?_ ?_)
      | (with_reducible refine LeO.bind ?_ (fun _ => ?_))
      | exact ih0 _ _ _ _ _ _ _
      | exact ih1 _ _ _ _ _ _ _ _ _
      | exact obollaw16_up.mono _
      | exact tree_Append.mono _ _ _ _ _
      | exact tree_Climb.mono _ _ _ _
      | exact tree_Path.mono _ _ _ _
      | exact tree_Root.mono _ _ _ _
      | exact tree_Whole.mono _ _ _
      | exact LeO.none _
      | refine LeO.ite ?_ ?_
      | refine LeO.bind ?_ (fun _ => ?_)
    · intro y0 y1 y2 y3 y4 y5 y6 y7 y8
      unfold obollaw16_TreeWhole.l0
      repeat' first
      | (with_reducible exact ih0 _ _ _ _ _ _ _)
      | (with_reducible exact ih1 _ _ _ _ _ _ _ _ _)
      | (with_reducible exact obollaw16_up.mono _)
      | (with_reducible exact tree_Append.mono _ _ _ _ _)
      | (with_reducible exact tree_Climb.mono _ _ _ _)
      | (with_reducible exact tree_Path.mono _ _ _ _)
      | (with_reducible exact tree_Root.mono _ _ _ _)
      | (with_reducible exact tree_Whole.mono _ _ _)
      | (with_reducible exact LeO.refl _)
      | (with_reducible exact LeO.none _)
      | (with_reducible refine LeO.ite ?_ ?_)
      | (with_reducible refine LeO.bind ?_ (fun _ => ?_))
      | exact ih0 _ _ _ _ _ _ _
      | exact ih1 _ _ _ _ _ _ _ _ _
      | exact obollaw16_up.mono _
      | exact tree_Append.mono _ _ _ _ _
      | exact tree_Climb.mono _ _ _ _
      | exact tree_Path.mono _ _ _ _
      | exact tree_Root.mono _ _ _ _
      | exact tree_Whole.mono _ _ _
      | exact LeO.none _
      | refine LeO.ite ?_ ?_
      | refine LeO.bind ?_ (fun _ => ?_)
theorem obollaw16_TreeWhole.mono : ∀ a0 a1 a2 k, LeO (obollaw16_TreeWhole.f k a0 a1 a2) (obollaw16_TreeWhole.f (k + 1) a0 a1 a2) := by
  intro a0 a1 a2 k
  obtain ⟨ih0, ih1⟩ := obollaw16_TreeWhole.mono_l k
  unfold obollaw16_TreeWhole.f
  repeat' first
      | (with_reducible exact ih0 _ _ _ _ _ _ _)
      | (with_reducible exact ih1 _ _ _ _ _ _ _ _ _)
      | (with_reducible exact obollaw16_up.mono _)
      | (with_reducible exact tree_Append.mono _ _ _ _ _)
      | (with_reducible exact tree_Climb.mono _ _ _ _)
      | (with_reducible exact tree_Path.mono _ _ _ _)
      | (with_reducible exact tree_Root.mono _ _ _ _)
      | (with_reducible exact tree_Whole.mono _ _ _)
      | (with_reducible exact LeO.refl _)
      | (with_reducible exact LeO.none _)
      | (with_reducible refine LeO.ite ?_ ?_)
      | (with_reducible refine LeO.bind ?_ (fun _ => ?_))
      | exact ih0 _ _ _ _ _ _ _
      | exact ih1 _ _ _ _ _ _ _ _ _
      | exact obollaw16_up.mono _
      | exact tree_Append.mono _ _ _ _ _
      | exact tree_Climb.mono _ _ _ _
      | exact tree_Path.mono _ _ _ _
      | exact tree_Root.mono _ _ _ _
      | exact tree_Whole.mono _ _ _
      | exact LeO.none _
      | refine LeO.ite ?_ ?_
      | refine LeO.bind ?_ (fun _ => ?_)
def obollaw16_TreeWhole.T12 : Bool × List (List Nat × List Nat) := (true, [([], []), ([], []), ([], []), ([1, 2], [1, 2]), ([3], [3]), ([0, 4], [0, 4]), ([5], [5]), ([6], [6]), ([6], [6]), ([], []), ([9, 7, 5, 0, 1, 2, 3, 4, 5, 6, 7, 9], [7, 9]), ([8, 10, 0, 1, 2, 3, 4, 5, 6, 7, 8, 9, 10], [8])])
def obollaw16_TreeWhole.B12 : List Nat := [0, 0, 0, 6, 14, 31, 63, 127, 127, 0, 767, 2047]
theorem obollaw16_TreeWhole.tab12 : rtab .any (opsOf Try.f4 12) = obollaw16_TreeWhole.T12 := by kernel_rfl
theorem obollaw16_TreeWhole.bits12 : waitsOk obollaw16_TreeWhole.T12.2 obollaw16_TreeWhole.B12 = true := by kernel_rfl
set_option maxHeartbeats 8000000 in
set_option maxRecDepth 100000 in
theorem obollaw16_TreeWhole.calls (k : Nat) (A0 : Option Addr) (c0 : Nat) (l0 : List Int) (a1 : Int) (a2 : Int) (r : Bool) (w : World) (hr0 : Kd.C (Kd.int .u64) w A0 l0.length l0) (hc0 : l0.length ≤ c0) (h : obollaw16_TreeWhole.f k l0 a1 a2 = some r) :
    Calls Try.prog 4 #[.slice A0 l0.length c0, .int .i64 a1, .int .i64 a2] w fun e w' => e = .returned (.bool r) ∧ Below w.heap.size w w' := by
  have hu38 := Try.underlying38
  have hu32 := Try.underlying32
  have hu46 := Try.underlying46
  have HR0 := Aside0.mk hr0
  have HC0 := Aside0.mk hc0
  clear hr0 hc0
  have HB := Aside0.mk (Below.refl w.heap.size w)
  have H : ((obollaw16_up.f k).bind fun t250 => ((tree_Whole.f k l0 a1).bind fun bt251 => ((tree_Path.f k l0 a1 a2).bind fun bt253 => (if (l0.length : Int) > 60 then (obollaw16_TreeWhole.j0 k l0 a1 a2 t250 bt251.1 bt253.1 true) else (if bt251.2.isNone = true then (if bt253.2.isNone = true then (obollaw16_TreeWhole.j0 k l0 a1 a2 t250 bt251.1 bt253.1 false) else (obollaw16_TreeWhole.j0 k l0 a1 a2 t250 bt251.1 bt253.1 true)) else (obollaw16_TreeWhole.j0 k l0 a1 a2 t250 bt251.1 bt253.1 true)))))) = some r := h
  clear h
  replace H := Option.bind_eq_some_iff.mp H
  obtain ⟨t250, A40, H⟩ := H
  replace H : ((tree_Whole.f k l0 a1).bind fun bt251 => ((tree_Path.f k l0 a1 a2).bind fun bt253 => (if (l0.length : Int) > 60 then (obollaw16_TreeWhole.j0 k l0 a1 a2 t250 bt251.1 bt253.1 true) else (if bt251.2.isNone = true then (if bt253.2.isNone = true then (obollaw16_TreeWhole.j0 k l0 a1 a2 t250 bt251.1 bt253.1 false) else (obollaw16_TreeWhole.j0 k l0 a1 a2 t250 bt251.1 bt253.1 true)) else (obollaw16_TreeWhole.j0 k l0 a1 a2 t250 bt251.1 bt253.1 true))))) = some r := H
  have A4 := Aside0.mk A40
  clear A40
  replace H := Option.bind_eq_some_iff.mp H
  obtain ⟨⟨t251, t252⟩, A50, H⟩ := H
  replace H : ((tree_Path.f k l0 a1 a2).bind fun bt253 => (if (l0.length : Int) > 60 then (obollaw16_TreeWhole.j0 k l0 a1 a2 t250 t251 bt253.1 true) else (if t252.isNone = true then (if bt253.2.isNone = true then (obollaw16_TreeWhole.j0 k l0 a1 a2 t250 t251 bt253.1 false) else (obollaw16_TreeWhole.j0 k l0 a1 a2 t250 t251 bt253.1 true)) else (obollaw16_TreeWhole.j0 k l0 a1 a2 t250 t251 bt253.1 true)))) = some r := H
  have A5 := Aside0.mk A50
  clear A50
  replace H := Option.bind_eq_some_iff.mp H
  obtain ⟨⟨t253, t254⟩, A60, H⟩ := H
  replace H : (if (l0.length : Int) > 60 then (obollaw16_TreeWhole.j0 k l0 a1 a2 t250 t251 t253 true) else (if t252.isNone = true then (if t254.isNone = true then (obollaw16_TreeWhole.j0 k l0 a1 a2 t250 t251 t253 false) else (obollaw16_TreeWhole.j0 k l0 a1 a2 t250 t251 t253 true)) else (obollaw16_TreeWhole.j0 k l0 a1 a2 t250 t251 t253 true))) = some r := H
  have A6 := Aside0.mk A60
  clear A60
  have HC7 := Aside0.mk H
  clear H
  go_enter Try.func4, Try.ntmps4
  go_upto_region 4 with (first | ((with_reducible refine gate_callee (f := 22) rfl ?_); refine goesL_ (some 20) rfl rfl Try.func22 (by kernel_rfl) rfl #[] rfl (by (try simp only [List.map_toArray, List.map_cons, List.map_nil]); first | done | rfl | (simp only [List.length_drop, List.length_take]; rfl)) ?_; (with_reducible refine (obollaw16_up.calls k  t250 _ A4.out).mono ?_); rintro e w8 ⟨rfl, hb⟩; refine ⟨_, rfl, ?_⟩; have n0_ := Aside0.mk (below_step (by repeat (first | (with_reducible first | exact HB.out | apply below_alloc | apply pw_below_drewN | apply below_drew1) | exact HB.out)) hb); clear HB; have HB := n0_; clear n0_; (try clear hb); (try clear hb2); (try clear hk); (try clear hi)) | ((with_reducible refine gate_callee (f := 23) rfl ?_); refine goesL_ (some 24) rfl rfl Try.func23 (by kernel_rfl) rfl #[.slice A0 l0.length c0, .int .i64 a1] rfl (by (try simp only [List.map_toArray, List.map_cons, List.map_nil]); first | done | rfl | (simp only [List.length_drop, List.length_take]; rfl)) ?_; (with_reducible refine (tree_Whole.calls k _ _ l0 a1 t251 t252 _ ?side1 ?side2 A5.out).mono ?_); (case side1 => repeat (first | exact (Kd.C_below HR0.out HB.out) | (with_reducible refine Kd.C_alloc ?_ _) | (with_reducible refine Kd.C_drewN ?_ _) | (with_reducible refine Kd.C_drew ?_))); (case side2 => exact HC0.out); rintro e w9 ⟨rfl, hb⟩; refine ⟨_, rfl, ?_⟩; have n0_ := Aside0.mk (below_step (by repeat (first | (with_reducible first | exact HB.out | apply below_alloc | apply pw_below_drewN | apply below_drew1) | exact HB.out)) hb); clear HB; have HB := n0_; clear n0_; (try clear hb); (try clear hb2); (try clear hk); (try clear hi); (try simp only [errW_none, errW_some])) | ((with_reducible refine gate_callee (f := 24) rfl ?_); refine goesL_ (some 31) rfl rfl Try.func24 (by kernel_rfl) rfl #[.slice A0 l0.length c0, .int .i64 a1, .int .i64 a2] rfl (by (try simp only [List.map_toArray, List.map_cons, List.map_nil]); first | done | rfl | (simp only [List.length_drop, List.length_take]; rfl)) ?_; (with_reducible refine (tree_Path.calls k _ _ l0 a1 a2 t253 t254 _ ?side1 ?side2 A6.out).mono ?_); (case side1 => repeat (first | exact (Kd.C_below HR0.out HB.out) | (with_reducible refine Kd.C_alloc ?_ _) | (with_reducible refine Kd.C_drewN ?_ _) | (with_reducible refine Kd.C_drew ?_))); (case side2 => exact HC0.out); rintro e w10 ⟨v255, rfl, ho0, hb⟩; refine ⟨_, rfl, ?_⟩; have n0_ := Aside0.mk (Kd.R_lower ho0 (below_size (by repeat (first | (with_reducible first | exact HB.out | apply below_alloc | apply pw_below_drewN | apply below_drew1) | exact HB.out)))); have n1_ := Aside0.mk (below_step (by repeat (first | (with_reducible first | exact HB.out | apply below_alloc | apply pw_below_drewN | apply below_drew1) | exact HB.out)) hb); clear HB; have HO256 := n0_; have HB := n1_; clear n0_ n1_; (try clear hb); (try clear hb2); (try clear hk); (try clear hi); (try clear ho0); (try simp only [errW_none, errW_some])))
  (try simp only [Act.put, List.setIfInBounds_toArray, List.set_cons_zero, List.set_cons_succ])
  go_cut [44] (fun v44 wc => ∃ (kq : Nat) (x44_6 : Bool), v44 = .bool x44_6 ∧ Aside0 (obollaw16_TreeWhole.j0 kq l0 a1 a2 t250 t251 t253 x44_6 = some r) ∧ Aside0 (kq ≤ k) ∧ Aside0 (Kd.R (Kd.int .u64) 22 wc w.heap.size (fun _ => True) v255 t253) ∧ Aside0 (Below w.heap.size w wc))
  case first =>
    have H := HC7.out
    clear HC7
    by_cases c11 : (l0.length : Int) > 60
    · rw [if_pos c11] at H
      have c11b0 : decide (60 < (l0.length : Int)) = true := decide_eq_true c11
      have c11b1 : decide (60 < l0.length) = true := decide_eq_true (by omega)
      clear c11
      (first | rw [c11b0] | (simp only [i64_w, i32_w]; rw [c11b0]) | skip)
      have H' := Aside0.mk H
      clear H
      go_wp2
      (first | go_meet | (refine Met.intro ?_; go_step; (repeat apply Exists.intro); refine ⟨?rel, ?eq_⟩; (case eq_ => first | (rw [c11b0]; done) | (rw [c11b0]; rfl))))
      case rel => exact ⟨_, (true), (by first | rfl | (simp; done) | (simp [*]; done)), H', ⟨by first | omega | exact Nat.le_refl _⟩, ⟨by (with_reducible repeat (first | apply Kd.R_alloc | apply Kd.R_drewN | apply Kd.R_drew)); exact HO256.out⟩, ⟨by repeat (first | (with_reducible first | exact HB.out | apply below_alloc | apply pw_below_drewN | apply below_drew1) | exact HB.out)⟩⟩
    · rw [if_neg c11] at H
      have c11b0 : decide (60 < (l0.length : Int)) = false := decide_eq_false c11
      have c11b1 : decide (60 < l0.length) = false := decide_eq_false (by omega)
      clear c11
      (first | rw [c11b0] | (simp only [i64_w, i32_w]; rw [c11b0]) | skip)
      rcases t252 with _ | q257
      · have H1 : (if t254.isNone = true then (obollaw16_TreeWhole.j0 k l0 a1 a2 t250 t251 t253 false) else (obollaw16_TreeWhole.j0 k l0 a1 a2 t250 t251 t253 true)) = some r := by rw [if_pos (show (none : Option Int).isNone = true by rfl)] at H; exact H
        clear H
        have H := H1
        clear H1
        try simp only [errW_none, errW_some]
        rcases t254 with _ | q258
        · have H1 : (obollaw16_TreeWhole.j0 k l0 a1 a2 t250 t251 t253 false) = some r := by rw [if_pos (show (none : Option Int).isNone = true by rfl)] at H; exact H
          clear H
          have H := H1
          clear H1
          try simp only [errW_none, errW_some]
          have H' := Aside0.mk H
          clear H
          go_wp2
          go_meet
          case rel => exact ⟨_, (false), (by first | rfl | (simp; done) | (simp [*]; done)), H', ⟨by first | omega | exact Nat.le_refl _⟩, ⟨by (with_reducible repeat (first | apply Kd.R_alloc | apply Kd.R_drewN | apply Kd.R_drew)); exact HO256.out⟩, ⟨by repeat (first | (with_reducible first | exact HB.out | apply below_alloc | apply pw_below_drewN | apply below_drew1) | exact HB.out)⟩⟩
        · have H1 : (obollaw16_TreeWhole.j0 k l0 a1 a2 t250 t251 t253 true) = some r := by rw [if_neg (show ¬ (some q258).isNone = true by simp)] at H; exact H
          clear H
          have H := H1
          clear H1
          try simp only [errW_none, errW_some]
          have H' := Aside0.mk H
          clear H
          go_wp2
          go_meet
          case rel => exact ⟨_, (true), (by first | rfl | (simp; done) | (simp [*]; done)), H', ⟨by first | omega | exact Nat.le_refl _⟩, ⟨by (with_reducible repeat (first | apply Kd.R_alloc | apply Kd.R_drewN | apply Kd.R_drew)); exact HO256.out⟩, ⟨by repeat (first | (with_reducible first | exact HB.out | apply below_alloc | apply pw_below_drewN | apply below_drew1) | exact HB.out)⟩⟩
      · have H1 : (obollaw16_TreeWhole.j0 k l0 a1 a2 t250 t251 t253 true) = some r := by rw [if_neg (show ¬ (some q257).isNone = true by simp)] at H; exact H
        clear H
        have H := H1
        clear H1
        try simp only [errW_none, errW_some]
        have H' := Aside0.mk H
        clear H
        go_wp2
        go_meet
        case rel => exact ⟨_, (true), (by first | rfl | (simp; done) | (simp [*]; done)), H', ⟨by first | omega | exact Nat.le_refl _⟩, ⟨by (with_reducible repeat (first | apply Kd.R_alloc | apply Kd.R_drewN | apply Kd.R_drew)); exact HO256.out⟩, ⟨by repeat (first | (with_reducible first | exact HB.out | apply below_alloc | apply pw_below_drewN | apply below_drew1) | exact HB.out)⟩⟩
  case rest =>
    clear HC7
    try clear c1
    try clear c2
    try clear p2
    try clear q2
    try clear c4
    try clear c11
    try clear c11b0
    try clear c11b1
    try clear q257
    try clear q258
    obtain ⟨kq, x44_6, rfl, HA, HJ6, HO_10, HB⟩ := hcut
    cases kq with
    | zero => exact absurd HA.out (by simp [obollaw16_TreeWhole.j0])
    | succ kj6 =>
      have H := HA.out
      clear HA
      simp only [obollaw16_TreeWhole.j0] at H
      by_cases c12 : x44_6 = true
      · subst c12
        have H1 : (some t250) = some r := by rw [if_pos rfl] at H; exact H
        clear H
        have H := H1
        clear H1
        obtain rfl := Option.some.inj H
        go_wp2
        go_ret
        exact ⟨by first | rfl | (simp [errW_none, errW_some] <;> rfl) | (simp [*, errW_none, errW_some] <;> rfl), by repeat (first | (with_reducible first | exact HB.out | apply below_alloc | apply pw_below_drewN | apply below_drew1) | exact HB.out)⟩
      · replace c12 := Bool.eq_false_iff.mpr c12
        subst c12
        have H1 : ((tree_New.f a1).bind fun bt259 => (if bt259.2.2.2.isNone = true then (obollaw16_TreeWhole.l0 kj6 l0 a2 t250 t251 t253 0 bt259.1 bt259.2.1 bt259.2.2.1) else (none))) = some r := by rw [if_neg (show ¬ (false = true) by decide)] at H; exact H
        clear H
        have H := H1
        clear H1
        replace H := Option.bind_eq_some_iff.mp H
        obtain ⟨⟨t259, t260, t261, t264⟩, A130, H⟩ := H
        replace H : (if t264.isNone = true then (obollaw16_TreeWhole.l0 kj6 l0 a2 t250 t251 t253 0 t259 t260 t261) else (none)) = some r := H
        have A13 := Aside0.mk A130
        clear A130
        rcases t264 with _ | q266
        · have H1 : (obollaw16_TreeWhole.l0 kj6 l0 a2 t250 t251 t253 0 t259 t260 t261) = some r := by rw [if_pos (show (none : Option Int).isNone = true by rfl)] at H; exact H
          clear H
          have H := H1
          clear H1
          try simp only [errW_none, errW_some]
          have H' := Aside0.mk H
          clear H
          go_wp2_with (first | ((with_reducible refine gate_callee (f := 25) rfl ?_); refine goesL_ (some 48) rfl rfl Try.func25 (by kernel_rfl) rfl #[.int .i64 a1] rfl (by (try simp only [List.map_toArray, List.map_cons, List.map_nil]); first | done | rfl | (simp only [List.length_drop, List.length_take]; rfl)) ?_; (with_reducible refine (tree_New.calls a1 t259 t260 t261 none _ A13.out).mono ?_); rintro e w14 ⟨v262, rfl, ho0, hb⟩; refine ⟨_, rfl, ?_⟩; have n0_ := Aside0.mk (Kd.R_elder' (by (with_reducible repeat (first | apply Kd.R_alloc | apply Kd.R_drewN | apply Kd.R_drew)); exact HO_10.out) (Kd.R_base ho0) hb); have n1_ := Aside0.mk (Kd.R_lower (Kd.R_new' ho0 (Kd.R_lt (by (with_reducible repeat (first | apply Kd.R_alloc | apply Kd.R_drewN | apply Kd.R_drew)); exact HO_10.out))) (below_size (by repeat (first | (with_reducible first | exact HB.out | apply below_alloc | apply pw_below_drewN | apply below_drew1) | exact HB.out)))); have n2_ := Aside0.mk (below_step (by repeat (first | (with_reducible first | exact HB.out | apply below_alloc | apply pw_below_drewN | apply below_drew1) | exact HB.out)) hb); clear HO_10; clear HB; have HO_10 := n0_; have HO263 := n1_; have HB := n2_; clear n0_ n1_ n2_; (try clear hb); (try clear hb2); (try clear hk); (try clear hi); (try clear ho0); (try simp only [errW_none, errW_some])) | ((with_reducible refine gate_dst (N := 12) rfl ?_); refine box_event ?hg (N := 12) ?hd (cs := #[.int .i64 0, .int .i64 0, .slice none 0 0]) (t := 38) ?hr ?_; (case hd => rfl); (case hg => rfl); (case hr => first | (go_simp; done) | (go_simp; rfl)); intro gb265 hg w15 hbox hb; have n0_ := Aside0.mk (Kd.R_below (by (with_reducible repeat (first | apply Kd.R_alloc | apply Kd.R_drewN | apply Kd.R_drew)); exact HO_10.out) hb); have n1_ := Aside0.mk (Kd.R_below (by (with_reducible repeat (first | apply Kd.R_alloc | apply Kd.R_drewN | apply Kd.R_drew)); exact HO263.out) hb); have n2_ := Aside0.mk (below_step (by repeat (first | (with_reducible first | exact HB.out | apply below_alloc | apply pw_below_drewN | apply below_drew1) | exact HB.out)) hb); have n3_ := Aside0.mk (hbox); have n4_ := Aside0.mk ((by rw [hg]; exact (below_size (by repeat (first | (with_reducible first | exact HB.out | apply below_alloc | apply pw_below_drewN | apply below_drew1) | exact HB.out))) : w.heap.size ≤ gb265)); have n5_ := Aside0.mk ((by rw [hg]; exact (below_size (by repeat (first | (with_reducible first | exact HB.out | apply below_alloc | apply pw_below_drewN | apply below_drew1) | exact HB.out))) : w.heap.size ≤ gb265)); clear HO_10; clear HO263; clear HB; have HO_10 := n0_; have HO263 := n1_; have HB := n2_; have BK265 := n3_; have GW265 := n4_; have GE265 := n5_; clear n0_ n1_ n2_ n3_ n4_ n5_; clear hb hbox hg; have hcz16_0 : w15.cell? ⟨gb265, 0, none⟩ = some (.int .i64 0) := (blk_cell BK265.out 0).trans rfl; have hcz16_1 : w15.cell? ⟨gb265, 1, none⟩ = some (.int .i64 0) := (blk_cell BK265.out 1).trans rfl; have hcz16_2 : w15.cell? ⟨gb265, 2, none⟩ = some (.slice none 0 0) := (blk_cell BK265.out 2).trans rfl; have hfz16_0 := blk_frozen BK265.out 0; have hfz16_1 := blk_frozen BK265.out 1; have hfz16_2 := blk_frozen BK265.out 2; obtain ⟨Ao17, co17, eo17⟩ := Kd.R_slice HO263.out; subst eo17))
          go_loopg [14] kj6 (fun kq v14 w' => ∃ (x14_2 : Int) (x266000_2 : Int) (x266001_2 : Int) (x266002_2 : List Int) (u266002 : Value), v14 = .int .i64 x14_2 ∧ Aside0 (obollaw16_TreeWhole.l0 kq l0 a2 t250 t251 t253 x14_2 x266000_2 x266001_2 x266002_2 = some r) ∧ Aside0 (kq ≤ kj6) ∧ Aside0 (Kd.R (Kd.int .u64) 22 w' w.heap.size (fun k_ => some k_ ≠ (u266002 : Value).ownBlock) v255 t253) ∧ Aside0 (Kd.R (Kd.int .u64) 22 w' w.heap.size (fun k_ => some k_ ≠ (v255 : Value).ownBlock) u266002 x266002_2) ∧ Aside0 (w'.heap[gb265]? = some (.cells #[.int .i64 x266000_2, .int .i64 x266001_2, u266002] 38 (0, 0))) ∧ Aside0 (Below w.heap.size w w'))
          case atStart => exact ⟨(0), (t259), (t260), (t261), (.slice Ao17 t261.length co17), (by first | rfl | (simp; done) | (simp [*]; done)), H', ⟨Nat.le_refl _⟩, ⟨by (with_reducible repeat (first | apply Kd.R_alloc | apply Kd.R_drewN | apply Kd.R_drew)); exact Kd.R_mono (Kd.R_far (p := ⟨gb265, 2, none⟩) (Kd.R_far (p := ⟨gb265, 1, none⟩) (Kd.R_far (p := ⟨gb265, 0, none⟩) (Kd.R_types HO_10.out BK265.out (by decide)) (fun _ hk => hk.2) (.int .i64 t259)) (fun _ hk => hk.2) (.int .i64 t260)) (fun _ hk => hk.2) (.slice Ao17 t261.length co17)) (fun _ hk => hk.1.2)⟩, ⟨by (with_reducible repeat (first | apply Kd.R_alloc | apply Kd.R_drewN | apply Kd.R_drew)); exact Kd.R_mono (Kd.R_far (p := ⟨gb265, 2, none⟩) (Kd.R_far (p := ⟨gb265, 1, none⟩) (Kd.R_far (p := ⟨gb265, 0, none⟩) (Kd.R_types HO263.out BK265.out (by decide)) (fun _ hk => hk.2) (.int .i64 t259)) (fun _ hk => hk.2) (.int .i64 t260)) (fun _ hk => hk.2) (.slice Ao17 t261.length co17)) (fun _ hk => hk.1.2)⟩, ⟨by (with_reducible repeat (first | refine blk_drewN ?_ _ | refine blk_drew ?_ | refine blk_alloc ?_ _)); refine blk_put (cs := #[.int .i64 t259, .int .i64 t260, .slice none 0 0]) ?_ 2 _ rfl; (with_reducible repeat (first | refine blk_drewN ?_ _ | refine blk_drew ?_ | refine blk_alloc ?_ _)); refine blk_put (cs := #[.int .i64 t259, .int .i64 0, .slice none 0 0]) ?_ 1 _ rfl; (with_reducible repeat (first | refine blk_drewN ?_ _ | refine blk_drew ?_ | refine blk_alloc ?_ _)); refine blk_put (cs := #[.int .i64 0, .int .i64 0, .slice none 0 0]) ?_ 0 _ rfl; (with_reducible repeat (first | refine blk_drewN ?_ _ | refine blk_drew ?_ | refine blk_alloc ?_ _)); exact BK265.out⟩, ⟨by repeat (first | (with_reducible first | exact HB.out | apply below_alloc | apply pw_below_drewN | apply below_drew1 | refine below_set ?_ GE265.out) | exact HB.out)⟩⟩
          case round =>
            clear H'
            try clear c1
            try clear c2
            try clear p2
            try clear q2
            try clear c4
            try clear c11
            try clear c11b0
            try clear c11b1
            try clear c12
            try clear hcz16_0
            try clear hcz16_1
            try clear hcz16_2
            try clear hfz16_0
            try clear hfz16_1
            try clear hfz16_2
            try clear p2
            try clear q2
            try clear q257
            try clear q258
            try clear q266
            obtain ⟨x14_2, x266000_2, x266001_2, x266002_2, u266002, rfl, HA, HK2, HO_10, HO_266002, BK265, HB⟩ := hrel
            cases gk with
            | zero => exact absurd HA.out (by simp [obollaw16_TreeWhole.l0])
            | succ k2 =>
              have H := HA.out
              clear HA
              simp only [obollaw16_TreeWhole.l0] at H
              by_cases c18 : x14_2 < (l0.length : Int)
              · rw [if_pos c18] at H
                have c18b0 : decide (x14_2 < (l0.length : Int)) = true := decide_eq_true c18
                clear c18
                by_cases c19 : 0 ≤ x14_2
                · rw [if_pos c19] at H
                  have c19b0 : decide (0 ≤ x14_2) = true := decide_eq_true c19
                  clear c19
                  replace H := Option.bind_eq_some_iff.mp H
                  obtain ⟨⟨t268, t269, t270, t273⟩, A200, H⟩ := H
                  replace H : (if t273.isNone = true then (obollaw16_TreeWhole.l0 k2 l0 a2 t250 t251 t253 (wrap64 (x14_2 + 1)) t268 t269 t270) else (none)) = some r := H
                  have A20 := Aside0.mk A200
                  clear A200
                  rcases t273 with _ | q275
                  · have H1 : (obollaw16_TreeWhole.l0 k2 l0 a2 t250 t251 t253 (wrap64 (x14_2 + 1)) t268 t269 t270) = some r := by rw [if_pos (show (none : Option Int).isNone = true by rfl)] at H; exact H
                    clear H
                    have H := H1
                    clear H1
                    try simp only [errW_none, errW_some]
                    have H' := Aside0.mk H
                    clear H
                    obtain ⟨Ao21, co21, eo21⟩ := Kd.R_slice HO_266002.out
                    subst eo21
                    try go_wp2
                    have n0_ := Aside0.mk (Kd.R_drew HO_10.out)
                    have n1_ := Aside0.mk (Kd.R_drew HO_266002.out)
                    have n2_ := Aside0.mk (blk_drew BK265.out)
                    have n3_ := Aside0.mk (below_drew1 HB.out)
                    clear HO_10
                    clear HO_266002
                    clear BK265
                    clear HB
                    have HO_10 := n0_
                    have HO_266002 := n1_
                    have BK265 := n2_
                    have HB := n3_
                    clear n0_ n1_ n2_ n3_
                    have p267 : 0 ≤ (x14_2 : Int) := of_decide_eq_true (by first | (with_reducible assumption) | assumption)
                    have q267 : x14_2 < (l0.length : Int) := of_decide_eq_true (by first | (with_reducible assumption) | assumption)
                    obtain ⟨ad267, e267, hx267_0⟩ := Kd.at_int HR0.out x14_2 p267 q267
                    have hw267_0 := hx267_0
                    cases e267
                    replace hx267_0 := (HB.out.cell (World.block_lt_of_cell? w _ hx267_0)).trans hx267_0
                    replace p267 := eq_true p267
                    replace q267 := eq_true q267
                    refine start_ (n := 12) (S := fun w' => w'.cell? ⟨gb265, 0, none⟩ = some (.int .i64 x266000_2) ∧ w'.cell? ⟨gb265, 1, none⟩ = some (.int .i64 x266001_2) ∧ w'.cell? ⟨gb265, 2, none⟩ = some (.slice Ao21 x266002_2.length co21) ∧ w'.cell? (ad267.add (x14_2).toNat) = some (.int .u64 (rd l0 x14_2))) (ds := []) #[false, false, false, false, false, false, false, false, false, false, false, false] (by kernel_rfl) rfl rfl ⟨(blk_cell BK265.out 0).trans rfl, (blk_cell BK265.out 1).trans rfl, (blk_cell BK265.out 2).trans rfl, ((HB.out.cell (World.block_lt_of_cell? w _ hw267_0)).trans hw267_0)⟩ (fun hHeld => ?_); refine with_tabW obollaw16_TreeWhole.tab12 obollaw16_TreeWhole.bits12 (fun HT_ HW_ => ?_)
                    generalize wr.drew = w22 at HO_10 HO_266002 BK265 HB hx267_0 hHeld ⊢
                    refine pure_ (i := 1) (N := some 61) (v := ?_) (a' := ?_) #[false, true, false, false, false, false, false, false, false, false, false, false] rfl rfl (any_of HT_.out (by kernel_rfl)) (fun _ _ _ h => h) (Or.inl ⟨by rfl, ?_⟩) ?_ ?_
                    rotate_left
                    · intro w'
                      go_simp
                      with_reducible rfl
                    rotate_left
                    · simp only [Act.put, List.setIfInBounds_toArray, List.set_cons_zero, List.set_cons_succ, i64_w, i32_w]
                      rfl
                    refine pure_ (i := 2) (N := some 62) (v := ?_) (a' := ?_) #[false, true, true, false, false, false, false, false, false, false, false, false] rfl rfl (any_of HT_.out (by kernel_rfl)) (fun _ _ _ h => h) (Or.inl ⟨by rfl, ?_⟩) ?_ ?_
                    rotate_left
                    · intro w'
                      go_simp
                      with_reducible rfl
                    rotate_left
                    · simp only [Act.put, List.setIfInBounds_toArray, List.set_cons_zero, List.set_cons_succ, i64_w, i32_w]
                      rfl
                    refine pure_ (i := 3) (N := some 63) (v := ?_) (a' := ?_) #[false, true, true, true, false, false, false, false, false, false, false, false] rfl rfl (any_of HT_.out (by kernel_rfl)) (fun _ _ _ h => h) (Or.inl ⟨by rfl, ?_⟩) ?_ ?_
                    rotate_left
                    · intro w'
                      go_simp
                      with_reducible rfl
                    rotate_left
                    · simp only [Act.put, List.setIfInBounds_toArray, List.set_cons_zero, List.set_cons_succ, i64_w, i32_w]
                      rfl
                    refine take_ (i := 0) (N := some 60) (v := ?_) (a' := ?_) #[true, true, true, true, false, false, false, false, false, false, false, false] rfl rfl (take_ofW HT_.out HW_.out (by kernel_rfl)) (fun _ _ _ h => h) (Or.inl ⟨by rfl, ?_⟩) hHeld ?_ ?_
                    rotate_left
                    · rintro w' ⟨s0, s1, s2, s3⟩
                      go_simp
                      with_reducible rfl
                    rotate_left
                    · simp only [Act.put, List.setIfInBounds_toArray, List.set_cons_zero, List.set_cons_succ, i64_w, i32_w]
                      rfl
                    refine take_ (i := 4) (N := some 64) (v := ?_) (a' := ?_) #[true, true, true, true, true, false, false, false, false, false, false, false] rfl rfl (take_ofW HT_.out HW_.out (by kernel_rfl)) (fun _ _ _ h => h) (Or.inl ⟨by rfl, ?_⟩) hHeld ?_ ?_
                    rotate_left
                    · rintro w' ⟨s0, s1, s2, s3⟩
                      go_simp
                      with_reducible rfl
                    rotate_left
                    · simp only [Act.put, List.setIfInBounds_toArray, List.set_cons_zero, List.set_cons_succ, i64_w, i32_w]
                      rfl
                    refine join_ (σ := Value × Nat) 2 #[true, true, true, true, true, true, true, true, true, true, false, false] (fun s_ => [(65, .tuple #[.agg #[.int .i64 t268, .int .i64 t269, s_.1], .nilIface]), (15, .pointer (some ⟨s_.2, 0, none⟩)), (59, .tuple #[.agg #[.int .i64 t268, .int .i64 t269, s_.1], .nilIface]), (66, .agg #[.int .i64 t268, .int .i64 t269, s_.1]), (67, .nilIface)]) (fun s_ w' => (w'.cell? ⟨gb265, 0, none⟩ = some (.int .i64 x266000_2) ∧ w'.cell? ⟨gb265, 1, none⟩ = some (.int .i64 x266001_2) ∧ w'.cell? ⟨gb265, 2, none⟩ = some (.slice Ao21 x266002_2.length co21) ∧ w'.cell? (ad267.add (x14_2).toNat) = some (.int .u64 (rd l0 x14_2))) ∧ (Kd.R (Kd.int .u64) 22 w' w.heap.size (fun k_ => some k_ ≠ (v255 : Value).ownBlock ∧ some k_ ≠ (.slice Ao21 x266002_2.length co21 : Value).ownBlock) s_.1 t270) ∧ (Kd.R (Kd.int .u64) 22 w' w.heap.size (fun k_ => some k_ ≠ (s_.1 : Value).ownBlock ∧ some k_ ≠ (.slice Ao21 x266002_2.length co21 : Value).ownBlock) v255 t253) ∧ (Kd.R (Kd.int .u64) 22 w' w.heap.size (fun k_ => some k_ ≠ (s_.1 : Value).ownBlock ∧ some k_ ≠ (v255 : Value).ownBlock) (.slice Ao21 x266002_2.length co21) x266002_2) ∧ (w'.heap[gb265]? = some (.cells #[.int .i64 x266000_2, .int .i64 x266001_2, .slice Ao21 x266002_2.length co21] 38 (0, 0))) ∧ (w'.heap[s_.2]? = some (.cells #[.int .i64 0, .int .i64 0, .slice none 0 0] 38 (0, 0))) ∧ (w.heap.size ≤ s_.2) ∧ (w.heap.size ≤ s_.2) ∧ (gb265 ≠ s_.2) ∧ (s_.2 ≠ gb265) ∧ (Below w.heap.size w w')) ?_ ?_
                    rotate_left
                    · intro hCont
                      refine two_ (i := 5) (j := 9) (Ni := some 65) (Nj := some 15) #[true, true, true, true, true, true, false, false, false, false, false, false] #[true, true, true, true, true, false, false, false, false, true, false, false] rfl rfl rfl rfl (two_of HT_.out (by kernel_rfl)) (by decide) (by decide) (fun K hK => ?_) (fun K hK => ?_)
                      · skip
                        refine goes_ Try.func26 (by kernel_rfl) rfl #[.agg #[.int .i64 x266000_2, .int .i64 x266001_2, .slice Ao21 x266002_2.length co21], .int .u64 (rd l0 x14_2)] (by rfl) rfl rfl (by (try simp only [List.map_toArray, List.map_cons, List.map_nil]); first | done | rfl | (simp only [List.length_drop, List.length_take]; rfl)) ?_
                        with_reducible refine (tree_Append.calls k2 x266000_2 x266001_2 _ _ x266002_2 (rd l0 x14_2) t268 t269 t270 none _ ?side1 ?side2 A20.out).mono ?_
                        (case side1 => repeat (first | exact (Kd.R_reads' HO_266002.out).2.2 | (with_reducible refine Kd.C_alloc ?_ _) | (with_reducible refine Kd.C_drewN ?_ _) | (with_reducible refine Kd.C_drew ?_)))
                        (case side2 => exact (Kd.R_reads' HO_266002.out).2.1)
                        rintro e w23 ⟨v271, rfl, ho0, hb⟩
                        refine ⟨_, rfl, ?_⟩
                        have n0_ := Aside0.mk (Kd.R_elder' (by (with_reducible repeat (first | apply Kd.R_alloc | apply Kd.R_drewN | apply Kd.R_drew)); exact HO_10.out) (Kd.R_base ho0) hb)
                        have n1_ := Aside0.mk (Kd.R_elder' (by (with_reducible repeat (first | apply Kd.R_alloc | apply Kd.R_drewN | apply Kd.R_drew)); exact HO_266002.out) (Kd.R_base ho0) hb)
                        have n2_ := Aside0.mk (Kd.R_lower (Kd.R_new' (Kd.R_new' ho0 (Kd.R_lt (by (with_reducible repeat (first | apply Kd.R_alloc | apply Kd.R_drewN | apply Kd.R_drew)); exact HO_10.out))) (Kd.R_lt (by (with_reducible repeat (first | apply Kd.R_alloc | apply Kd.R_drewN | apply Kd.R_drew)); exact HO_266002.out))) (below_size (by repeat (first | (with_reducible first | exact HB.out | apply below_alloc | apply pw_below_drewN | apply below_drew1 | refine below_set ?_ GE265.out) | exact HB.out))))
                        have n3_ := Aside0.mk (blk_below (g := gb265) (o := .cells #[.int .i64 x266000_2, .int .i64 x266001_2, .slice Ao21 x266002_2.length co21] 38 (0, 0)) (by (with_reducible repeat (first | refine blk_drewN ?_ _ | refine blk_drew ?_ | refine blk_alloc ?_ _)); exact BK265.out) hb)
                        have n4_ := Aside0.mk (below_step (by repeat (first | (with_reducible first | exact HB.out | apply below_alloc | apply pw_below_drewN | apply below_drew1 | refine below_set ?_ GE265.out) | exact HB.out)) hb)
                        clear HO_10
                        clear HO_266002
                        clear BK265
                        clear HB
                        have HO_10 := n0_
                        have HO_266002 := n1_
                        have HO272 := n2_
                        have BK265 := n3_
                        have HB := n4_
                        clear n0_ n1_ n2_ n3_ n4_
                        (try clear hb)
                        (try clear hb2)
                        (try clear hk)
                        (try clear hi)
                        (try clear ho0)
                        (try simp only [errW_none, errW_some])
                        refine hK.out _ _ ⟨(blk_cell BK265.out 0).trans rfl, (blk_cell BK265.out 1).trans rfl, (blk_cell BK265.out 2).trans rfl, ((HB.out.cell (World.block_lt_of_cell? w _ hw267_0)).trans hw267_0)⟩ (fun hHeld => ?_)
                        clear hK K
                        refine norm_ (a' := ?_) ?_ ?_
                        rotate_left
                        · show Act.put _ (some 65) _ = _
                          simp only [Act.put, List.setIfInBounds_toArray, List.set_cons_zero, List.set_cons_succ, i64_w, i32_w]
                          rfl
                        refine pure_ (i := 6) (N := some 59) (v := ?_) (a' := ?_) #[true, true, true, true, true, true, true, false, false, false, false, false] rfl rfl (any_of HT_.out (by kernel_rfl)) (fun _ _ _ h => h) (Or.inl ⟨by rfl, ?_⟩) ?_ ?_
                        rotate_left
                        · intro w'
                          go_simp
                          with_reducible rfl
                        rotate_left
                        · simp only [Act.put, List.setIfInBounds_toArray, List.set_cons_zero, List.set_cons_succ, i64_w, i32_w]
                          rfl
                        refine pure_ (i := 7) (N := some 66) (v := ?_) (a' := ?_) #[true, true, true, true, true, true, true, true, false, false, false, false] rfl rfl (any_of HT_.out (by kernel_rfl)) (fun _ _ _ h => h) (Or.inl ⟨by rfl, ?_⟩) ?_ ?_
                        rotate_left
                        · intro w'
                          go_simp
                          with_reducible rfl
                        rotate_left
                        · simp only [Act.put, List.setIfInBounds_toArray, List.set_cons_zero, List.set_cons_succ, i64_w, i32_w]
                          rfl
                        refine pure_ (i := 8) (N := some 67) (v := ?_) (a' := ?_) #[true, true, true, true, true, true, true, true, true, false, false, false] rfl rfl (any_of HT_.out (by kernel_rfl)) (fun _ _ _ h => h) (Or.inl ⟨by rfl, ?_⟩) ?_ ?_
                        rotate_left
                        · intro w'
                          go_simp
                          with_reducible rfl
                        rotate_left
                        · simp only [Act.put, List.setIfInBounds_toArray, List.set_cons_zero, List.set_cons_succ, i64_w, i32_w]
                          rfl
                        refine one_ (i := 9) (N := some 15) #[true, true, true, true, true, true, true, true, true, true, false, false] rfl rfl (one_of HT_.out (by kernel_rfl)) (by decide) (fun K hK => ?_)
                        refine box_step ?hg (N := 15) ?hd (cs := #[.int .i64 0, .int .i64 0, .slice none 0 0]) (t := 38) ?hr ?_; (case hd => rfl); (case hg => rfl); (case hr => first | (go_simp; done) | (go_simp; rfl))
                        intro gb274 hg w24 hbox hb
                        have n0_ := Aside0.mk (Kd.R_below (by (with_reducible repeat (first | apply Kd.R_alloc | apply Kd.R_drewN | apply Kd.R_drew)); exact HO_10.out) hb)
                        have n1_ := Aside0.mk (Kd.R_below (by (with_reducible repeat (first | apply Kd.R_alloc | apply Kd.R_drewN | apply Kd.R_drew)); exact HO_266002.out) hb)
                        have n2_ := Aside0.mk (Kd.R_below (by (with_reducible repeat (first | apply Kd.R_alloc | apply Kd.R_drewN | apply Kd.R_drew)); exact HO272.out) hb)
                        have n3_ := Aside0.mk (blk_below (g := gb265) (o := .cells #[.int .i64 x266000_2, .int .i64 x266001_2, .slice Ao21 x266002_2.length co21] 38 (0, 0)) (by (with_reducible repeat (first | refine blk_drewN ?_ _ | refine blk_drew ?_ | refine blk_alloc ?_ _)); exact BK265.out) hb)
                        have n4_ := Aside0.mk (below_step (by repeat (first | (with_reducible first | exact HB.out | apply below_alloc | apply pw_below_drewN | apply below_drew1 | refine below_set ?_ GE265.out) | exact HB.out)) hb)
                        have n5_ := Aside0.mk (hbox)
                        have n6_ := Aside0.mk ((by rw [hg]; exact (below_size (by repeat (first | (with_reducible first | exact HB.out | apply below_alloc | apply pw_below_drewN | apply below_drew1 | refine below_set ?_ GE265.out) | exact HB.out))) : w.heap.size ≤ gb274))
                        have n7_ := Aside0.mk ((by rw [hg]; exact (below_size (by repeat (first | (with_reducible first | exact HB.out | apply below_alloc | apply pw_below_drewN | apply below_drew1 | refine below_set ?_ GE265.out) | exact HB.out))) : w.heap.size ≤ gb274))
                        have n8_ := Aside0.mk ((by rw [hg]; exact Nat.ne_of_lt (blk_lt (g := gb265) (o := .cells #[.int .i64 x266000_2, .int .i64 x266001_2, .slice Ao21 x266002_2.length co21] 38 (0, 0)) (by (with_reducible repeat (first | refine blk_drewN ?_ _ | refine blk_drew ?_ | refine blk_alloc ?_ _)); exact BK265.out)) : gb265 ≠ gb274))
                        have n9_ := Aside0.mk ((by rw [hg]; exact Nat.ne_of_gt (blk_lt (g := gb265) (o := .cells #[.int .i64 x266000_2, .int .i64 x266001_2, .slice Ao21 x266002_2.length co21] 38 (0, 0)) (by (with_reducible repeat (first | refine blk_drewN ?_ _ | refine blk_drew ?_ | refine blk_alloc ?_ _)); exact BK265.out)) : gb274 ≠ gb265))
                        clear HO_10
                        clear HO_266002
                        clear HO272
                        clear BK265
                        clear HB
                        have HO_10 := n0_
                        have HO_266002 := n1_
                        have HO272 := n2_
                        have BK265 := n3_
                        have HB := n4_
                        have BK274 := n5_
                        have GW274 := n6_
                        have GE274 := n7_
                        have NB265_274 := n8_
                        have NB274_265 := n9_
                        clear n0_ n1_ n2_ n3_ n4_ n5_ n6_ n7_ n8_ n9_
                        clear hb hbox hg
                        refine hK.out _ _ ⟨(blk_cell BK265.out 0).trans rfl, (blk_cell BK265.out 1).trans rfl, (blk_cell BK265.out 2).trans rfl, ((HB.out.cell (World.block_lt_of_cell? w _ hw267_0)).trans hw267_0)⟩ (fun hHeld => ?_)
                        clear hK K
                        refine norm_ (a' := ?_) ?_ ?_
                        rotate_left
                        · show Act.put _ (some 15) _ = _
                          simp only [Act.put, List.setIfInBounds_toArray, List.set_cons_zero, List.set_cons_succ, i64_w, i32_w]
                          rfl
                        exact norm_ (by simp only [putAll, Act.put, List.setIfInBounds_toArray, List.set_cons_zero, List.set_cons_succ]) (hCont (v271, gb274) _ ⟨hHeld, (by (with_reducible repeat (first | apply Kd.R_alloc | apply Kd.R_drewN | apply Kd.R_drew)); exact Kd.R_mono HO272.out (fun _ hk => ⟨hk.1.2, hk.2⟩)), (by (with_reducible repeat (first | apply Kd.R_alloc | apply Kd.R_drewN | apply Kd.R_drew)); exact Kd.R_mono HO_10.out (fun _ hk => ⟨hk.2, hk.1⟩)), (by (with_reducible repeat (first | apply Kd.R_alloc | apply Kd.R_drewN | apply Kd.R_drew)); exact Kd.R_mono HO_266002.out (fun _ hk => ⟨hk.2, hk.1⟩)), (by (with_reducible repeat (first | refine blk_drewN ?_ _ | refine blk_drew ?_ | refine blk_alloc ?_ _)); exact BK265.out), (by (with_reducible repeat (first | refine blk_drewN ?_ _ | refine blk_drew ?_ | refine blk_alloc ?_ _)); exact BK274.out), GW274.out, GE274.out, NB265_274.out, NB274_265.out, (by repeat (first | (with_reducible first | exact HB.out | apply below_alloc | apply pw_below_drewN | apply below_drew1 | refine below_set ?_ GE265.out | refine below_set ?_ GE274.out) | exact HB.out))⟩)
                      · skip
                        refine box_step ?hg (N := 15) ?hd (cs := #[.int .i64 0, .int .i64 0, .slice none 0 0]) (t := 38) ?hr ?_; (case hd => rfl); (case hg => rfl); (case hr => first | (go_simp; done) | (go_simp; rfl))
                        intro gb274 hg w23 hbox hb
                        have n0_ := Aside0.mk (Kd.R_below (by (with_reducible repeat (first | apply Kd.R_alloc | apply Kd.R_drewN | apply Kd.R_drew)); exact HO_10.out) hb)
                        have n1_ := Aside0.mk (Kd.R_below (by (with_reducible repeat (first | apply Kd.R_alloc | apply Kd.R_drewN | apply Kd.R_drew)); exact HO_266002.out) hb)
                        have n2_ := Aside0.mk (blk_below (g := gb265) (o := .cells #[.int .i64 x266000_2, .int .i64 x266001_2, .slice Ao21 x266002_2.length co21] 38 (0, 0)) (by (with_reducible repeat (first | refine blk_drewN ?_ _ | refine blk_drew ?_ | refine blk_alloc ?_ _)); exact BK265.out) hb)
                        have n3_ := Aside0.mk (below_step (by repeat (first | (with_reducible first | exact HB.out | apply below_alloc | apply pw_below_drewN | apply below_drew1 | refine below_set ?_ GE265.out) | exact HB.out)) hb)
                        have n4_ := Aside0.mk (hbox)
                        have n5_ := Aside0.mk ((by rw [hg]; exact (below_size (by repeat (first | (with_reducible first | exact HB.out | apply below_alloc | apply pw_below_drewN | apply below_drew1 | refine below_set ?_ GE265.out) | exact HB.out))) : w.heap.size ≤ gb274))
                        have n6_ := Aside0.mk ((by rw [hg]; exact (below_size (by repeat (first | (with_reducible first | exact HB.out | apply below_alloc | apply pw_below_drewN | apply below_drew1 | refine below_set ?_ GE265.out) | exact HB.out))) : w.heap.size ≤ gb274))
                        have n7_ := Aside0.mk ((by rw [hg]; exact Nat.ne_of_lt (blk_lt (g := gb265) (o := .cells #[.int .i64 x266000_2, .int .i64 x266001_2, .slice Ao21 x266002_2.length co21] 38 (0, 0)) (by (with_reducible repeat (first | refine blk_drewN ?_ _ | refine blk_drew ?_ | refine blk_alloc ?_ _)); exact BK265.out)) : gb265 ≠ gb274))
                        have n8_ := Aside0.mk ((by rw [hg]; exact Nat.ne_of_gt (blk_lt (g := gb265) (o := .cells #[.int .i64 x266000_2, .int .i64 x266001_2, .slice Ao21 x266002_2.length co21] 38 (0, 0)) (by (with_reducible repeat (first | refine blk_drewN ?_ _ | refine blk_drew ?_ | refine blk_alloc ?_ _)); exact BK265.out)) : gb274 ≠ gb265))
                        clear HO_10
                        clear HO_266002
                        clear BK265
                        clear HB
                        have HO_10 := n0_
                        have HO_266002 := n1_
                        have BK265 := n2_
                        have HB := n3_
                        have BK274 := n4_
                        have GW274 := n5_
                        have GE274 := n6_
                        have NB265_274 := n7_
                        have NB274_265 := n8_
                        clear n0_ n1_ n2_ n3_ n4_ n5_ n6_ n7_ n8_
                        clear hb hbox hg
                        refine hK.out _ _ ⟨(blk_cell BK265.out 0).trans rfl, (blk_cell BK265.out 1).trans rfl, (blk_cell BK265.out 2).trans rfl, ((HB.out.cell (World.block_lt_of_cell? w _ hw267_0)).trans hw267_0)⟩ (fun hHeld => ?_)
                        clear hK K
                        refine norm_ (a' := ?_) ?_ ?_
                        rotate_left
                        · show Act.put _ (some 15) _ = _
                          simp only [Act.put, List.setIfInBounds_toArray, List.set_cons_zero, List.set_cons_succ, i64_w, i32_w]
                          rfl
                        refine one_ (i := 5) (N := some 65) #[true, true, true, true, true, true, false, false, false, true, false, false] rfl rfl (one_of HT_.out (by kernel_rfl)) (by decide) (fun K hK => ?_)
                        refine goes_ Try.func26 (by kernel_rfl) rfl #[.agg #[.int .i64 x266000_2, .int .i64 x266001_2, .slice Ao21 x266002_2.length co21], .int .u64 (rd l0 x14_2)] (by rfl) rfl rfl (by (try simp only [List.map_toArray, List.map_cons, List.map_nil]); first | done | rfl | (simp only [List.length_drop, List.length_take]; rfl)) ?_
                        with_reducible refine (tree_Append.calls k2 x266000_2 x266001_2 _ _ x266002_2 (rd l0 x14_2) t268 t269 t270 none _ ?side1 ?side2 A20.out).mono ?_
                        (case side1 => repeat (first | exact (Kd.R_reads' HO_266002.out).2.2 | (with_reducible refine Kd.C_alloc ?_ _) | (with_reducible refine Kd.C_drewN ?_ _) | (with_reducible refine Kd.C_drew ?_)))
                        (case side2 => exact (Kd.R_reads' HO_266002.out).2.1)
                        rintro e w24 ⟨v271, rfl, ho0, hb⟩
                        refine ⟨_, rfl, ?_⟩
                        have n0_ := Aside0.mk (Kd.R_elder' (by (with_reducible repeat (first | apply Kd.R_alloc | apply Kd.R_drewN | apply Kd.R_drew)); exact HO_10.out) (Kd.R_base ho0) hb)
                        have n1_ := Aside0.mk (Kd.R_elder' (by (with_reducible repeat (first | apply Kd.R_alloc | apply Kd.R_drewN | apply Kd.R_drew)); exact HO_266002.out) (Kd.R_base ho0) hb)
                        have n2_ := Aside0.mk (Kd.R_lower (Kd.R_new' (Kd.R_new' ho0 (Kd.R_lt (by (with_reducible repeat (first | apply Kd.R_alloc | apply Kd.R_drewN | apply Kd.R_drew)); exact HO_10.out))) (Kd.R_lt (by (with_reducible repeat (first | apply Kd.R_alloc | apply Kd.R_drewN | apply Kd.R_drew)); exact HO_266002.out))) (below_size (by repeat (first | (with_reducible first | exact HB.out | apply below_alloc | apply pw_below_drewN | apply below_drew1 | refine below_set ?_ GE265.out | refine below_set ?_ GE274.out) | exact HB.out))))
                        have n3_ := Aside0.mk (blk_below (g := gb265) (o := .cells #[.int .i64 x266000_2, .int .i64 x266001_2, .slice Ao21 x266002_2.length co21] 38 (0, 0)) (by (with_reducible repeat (first | refine blk_drewN ?_ _ | refine blk_drew ?_ | refine blk_alloc ?_ _)); exact BK265.out) hb)
                        have n4_ := Aside0.mk (blk_below (g := gb274) (o := .cells #[.int .i64 0, .int .i64 0, .slice none 0 0] 38 (0, 0)) (by (with_reducible repeat (first | refine blk_drewN ?_ _ | refine blk_drew ?_ | refine blk_alloc ?_ _)); exact BK274.out) hb)
                        have n5_ := Aside0.mk (below_step (by repeat (first | (with_reducible first | exact HB.out | apply below_alloc | apply pw_below_drewN | apply below_drew1 | refine below_set ?_ GE265.out | refine below_set ?_ GE274.out) | exact HB.out)) hb)
                        clear HO_10
                        clear HO_266002
                        clear BK265
                        clear BK274
                        clear HB
                        have HO_10 := n0_
                        have HO_266002 := n1_
                        have HO272 := n2_
                        have BK265 := n3_
                        have BK274 := n4_
                        have HB := n5_
                        clear n0_ n1_ n2_ n3_ n4_ n5_
                        (try clear hb)
                        (try clear hb2)
                        (try clear hk)
                        (try clear hi)
                        (try clear ho0)
                        (try simp only [errW_none, errW_some])
                        refine hK.out _ _ ⟨(blk_cell BK265.out 0).trans rfl, (blk_cell BK265.out 1).trans rfl, (blk_cell BK265.out 2).trans rfl, ((HB.out.cell (World.block_lt_of_cell? w _ hw267_0)).trans hw267_0)⟩ (fun hHeld => ?_)
                        clear hK K
                        refine norm_ (a' := ?_) ?_ ?_
                        rotate_left
                        · show Act.put _ (some 65) _ = _
                          simp only [Act.put, List.setIfInBounds_toArray, List.set_cons_zero, List.set_cons_succ, i64_w, i32_w]
                          rfl
                        refine pure_ (i := 6) (N := some 59) (v := ?_) (a' := ?_) #[true, true, true, true, true, true, true, false, false, true, false, false] rfl rfl (any_of HT_.out (by kernel_rfl)) (fun _ _ _ h => h) (Or.inl ⟨by rfl, ?_⟩) ?_ ?_
                        rotate_left
                        · intro w'
                          go_simp
                          with_reducible rfl
                        rotate_left
                        · simp only [Act.put, List.setIfInBounds_toArray, List.set_cons_zero, List.set_cons_succ, i64_w, i32_w]
                          rfl
                        refine pure_ (i := 7) (N := some 66) (v := ?_) (a' := ?_) #[true, true, true, true, true, true, true, true, false, true, false, false] rfl rfl (any_of HT_.out (by kernel_rfl)) (fun _ _ _ h => h) (Or.inl ⟨by rfl, ?_⟩) ?_ ?_
                        rotate_left
                        · intro w'
                          go_simp
                          with_reducible rfl
                        rotate_left
                        · simp only [Act.put, List.setIfInBounds_toArray, List.set_cons_zero, List.set_cons_succ, i64_w, i32_w]
                          rfl
                        refine pure_ (i := 8) (N := some 67) (v := ?_) (a' := ?_) #[true, true, true, true, true, true, true, true, true, true, false, false] rfl rfl (any_of HT_.out (by kernel_rfl)) (fun _ _ _ h => h) (Or.inl ⟨by rfl, ?_⟩) ?_ ?_
                        rotate_left
                        · intro w'
                          go_simp
                          with_reducible rfl
                        rotate_left
                        · simp only [Act.put, List.setIfInBounds_toArray, List.set_cons_zero, List.set_cons_succ, i64_w, i32_w]
                          rfl
                        exact norm_ (by simp only [putAll, Act.put, List.setIfInBounds_toArray, List.set_cons_zero, List.set_cons_succ]) (hCont (v271, gb274) _ ⟨hHeld, (by (with_reducible repeat (first | apply Kd.R_alloc | apply Kd.R_drewN | apply Kd.R_drew)); exact Kd.R_mono HO272.out (fun _ hk => ⟨hk.1.2, hk.2⟩)), (by (with_reducible repeat (first | apply Kd.R_alloc | apply Kd.R_drewN | apply Kd.R_drew)); exact Kd.R_mono HO_10.out (fun _ hk => ⟨hk.2, hk.1⟩)), (by (with_reducible repeat (first | apply Kd.R_alloc | apply Kd.R_drewN | apply Kd.R_drew)); exact Kd.R_mono HO_266002.out (fun _ hk => ⟨hk.2, hk.1⟩)), (by (with_reducible repeat (first | refine blk_drewN ?_ _ | refine blk_drew ?_ | refine blk_alloc ?_ _)); exact BK265.out), (by (with_reducible repeat (first | refine blk_drewN ?_ _ | refine blk_drew ?_ | refine blk_alloc ?_ _)); exact BK274.out), GW274.out, GE274.out, NB265_274.out, NB274_265.out, (by repeat (first | (with_reducible first | exact HB.out | apply below_alloc | apply pw_below_drewN | apply below_drew1 | refine below_set ?_ GE265.out | refine below_set ?_ GE274.out) | exact HB.out))⟩)
                    rintro ⟨v271, gb274⟩ w25 ⟨hS_, h0_, h1_, h2_, h3_, h4_, h5_, h6_, h7_, h8_, h9_⟩
                    have n0_ : Aside0 (Kd.R (Kd.int .u64) 22 w25 w.heap.size (fun k_ => some k_ ≠ (v255 : Value).ownBlock ∧ some k_ ≠ (.slice Ao21 x266002_2.length co21 : Value).ownBlock) v271 t270) := ⟨h0_⟩
                    have n1_ : Aside0 (Kd.R (Kd.int .u64) 22 w25 w.heap.size (fun k_ => some k_ ≠ (v271 : Value).ownBlock ∧ some k_ ≠ (.slice Ao21 x266002_2.length co21 : Value).ownBlock) v255 t253) := ⟨h1_⟩
                    have n2_ : Aside0 (Kd.R (Kd.int .u64) 22 w25 w.heap.size (fun k_ => some k_ ≠ (v271 : Value).ownBlock ∧ some k_ ≠ (v255 : Value).ownBlock) (.slice Ao21 x266002_2.length co21) x266002_2) := ⟨h2_⟩
                    have n3_ : Aside0 (w25.heap[gb265]? = some (.cells #[.int .i64 x266000_2, .int .i64 x266001_2, .slice Ao21 x266002_2.length co21] 38 (0, 0))) := ⟨h3_⟩
                    have n4_ : Aside0 (w25.heap[gb274]? = some (.cells #[.int .i64 0, .int .i64 0, .slice none 0 0] 38 (0, 0))) := ⟨h4_⟩
                    have n5_ : Aside0 (w.heap.size ≤ gb274) := ⟨h5_⟩
                    have n6_ : Aside0 (w.heap.size ≤ gb274) := ⟨h6_⟩
                    have n7_ : Aside0 (gb265 ≠ gb274) := ⟨h7_⟩
                    have n8_ : Aside0 (gb274 ≠ gb265) := ⟨h8_⟩
                    have n9_ : Aside0 (Below w.heap.size w w25) := ⟨h9_⟩
                    clear HO_10
                    clear HO_266002
                    clear BK265
                    clear HB
                    clear h0_ h1_ h2_ h3_ h4_ h5_ h6_ h7_ h8_ h9_
                    have HO272 := n0_
                    have HO_10 := n1_
                    have HO_266002 := n2_
                    have BK265 := n3_
                    have BK274 := n4_
                    have GW274 := n5_
                    have GE274 := n6_
                    have NB265_274 := n7_
                    have NB274_265 := n8_
                    have HB := n9_
                    clear n0_ n1_ n2_ n3_ n4_ n5_ n6_ n7_ n8_ n9_
                    have hHeld : w25.cell? ⟨gb265, 0, none⟩ = some (.int .i64 x266000_2) ∧ w25.cell? ⟨gb265, 1, none⟩ = some (.int .i64 x266001_2) ∧ w25.cell? ⟨gb265, 2, none⟩ = some (.slice Ao21 x266002_2.length co21) ∧ w25.cell? (ad267.add (x14_2).toNat) = some (.int .u64 (rd l0 x14_2)) := hS_
                    obtain ⟨Ao28, co28, eo28⟩ := Kd.R_slice HO272.out
                    (first | subst eo28 | (injection eo28 with f1_ f2_ f3_; have f4_ := f1_.symm; have f5_ := f3_.symm; clear f1_ f2_ f3_; subst f4_; subst f5_))
                    refine norm_ (a' := ?_) ?_ ?_
                    rotate_left
                    · simp only [putAll, Act.put, List.setIfInBounds_toArray, List.set_cons_zero, List.set_cons_succ]
                      rfl
                    refine one_ (i := 10) (N := none) #[true, true, true, true, true, true, true, true, true, true, true, false] rfl rfl (one_of HT_.out (by kernel_rfl)) (by decide) (fun K hK => ?_)
                    have hs26 : w25.cell? ⟨gb274, 0, none⟩ = some (.int .i64 0) := (blk_cell BK274.out 0).trans rfl
                    have hfs26 := blk_frozen BK274.out 0
                    have hns26_0 := NB265_274.out
                    have hms26_0 := NB274_265.out
                    have hs27 : w25.cell? ⟨gb274, 1, none⟩ = some (.int .i64 0) := (blk_cell BK274.out 1).trans rfl
                    have hfs27 := blk_frozen BK274.out 1
                    have hns27_0 := NB265_274.out
                    have hms27_0 := NB274_265.out
                    have hs29 : w25.cell? ⟨gb274, 2, none⟩ = some (.slice none 0 0) := (blk_cell BK274.out 2).trans rfl
                    have hfs29 := blk_frozen BK274.out 2
                    have hns29_0 := NB265_274.out
                    have hms29_0 := NB274_265.out
                    refine skip_ (w1 := ?_) (by rfl) rfl ?_ ?_
                    rotate_left
                    · first
                      | (go_simp; simp only [setCell_drewN_]; rfl; done)
                      | (go_simp; rfl; done)
                      | (simp only [setCell_drewN_]; go_simp; rfl)
                    refine hK.out _ _ ⟨((cell_far (p := ⟨gb274, _, none⟩) NB265_274.out _).trans (((cell_far (p := ⟨gb274, _, none⟩) NB265_274.out _).trans (((cell_far (p := ⟨gb274, _, none⟩) NB265_274.out _).trans (hHeld.1)))))), ((cell_far (p := ⟨gb274, _, none⟩) NB265_274.out _).trans (((cell_far (p := ⟨gb274, _, none⟩) NB265_274.out _).trans (((cell_far (p := ⟨gb274, _, none⟩) NB265_274.out _).trans (hHeld.2.1)))))), ((cell_far (p := ⟨gb274, _, none⟩) NB265_274.out _).trans (((cell_far (p := ⟨gb274, _, none⟩) NB265_274.out _).trans (((cell_far (p := ⟨gb274, _, none⟩) NB265_274.out _).trans (hHeld.2.2.1)))))), ((cell_far (p := ⟨gb274, _, none⟩) (by first | exact Nat.ne_of_lt (Nat.lt_of_lt_of_le (by have := World.block_lt_of_cell? _ _ hw267_0; first | rwa [add_block] at this | exact this) GW274.out) | (rw [add_block]; exact Nat.ne_of_lt (Nat.lt_of_lt_of_le (by have := World.block_lt_of_cell? _ _ hw267_0; first | rwa [add_block] at this | exact this) GW274.out)) | (show (Addr.add _ _).block ≠ _; rw [add_block]; exact Nat.ne_of_lt (Nat.lt_of_lt_of_le (by have := World.block_lt_of_cell? _ _ hw267_0; first | rwa [add_block] at this | exact this) GW274.out)) | (dsimp only; exact Nat.ne_of_lt (Nat.lt_of_lt_of_le (by have := World.block_lt_of_cell? _ _ hw267_0; first | rwa [add_block] at this | exact this) GW274.out))) _).trans (((cell_far (p := ⟨gb274, _, none⟩) (by first | exact Nat.ne_of_lt (Nat.lt_of_lt_of_le (by have := World.block_lt_of_cell? _ _ hw267_0; first | rwa [add_block] at this | exact this) GW274.out) | (rw [add_block]; exact Nat.ne_of_lt (Nat.lt_of_lt_of_le (by have := World.block_lt_of_cell? _ _ hw267_0; first | rwa [add_block] at this | exact this) GW274.out)) | (show (Addr.add _ _).block ≠ _; rw [add_block]; exact Nat.ne_of_lt (Nat.lt_of_lt_of_le (by have := World.block_lt_of_cell? _ _ hw267_0; first | rwa [add_block] at this | exact this) GW274.out)) | (dsimp only; exact Nat.ne_of_lt (Nat.lt_of_lt_of_le (by have := World.block_lt_of_cell? _ _ hw267_0; first | rwa [add_block] at this | exact this) GW274.out))) _).trans (((cell_far (p := ⟨gb274, _, none⟩) (by first | exact Nat.ne_of_lt (Nat.lt_of_lt_of_le (by have := World.block_lt_of_cell? _ _ hw267_0; first | rwa [add_block] at this | exact this) GW274.out) | (rw [add_block]; exact Nat.ne_of_lt (Nat.lt_of_lt_of_le (by have := World.block_lt_of_cell? _ _ hw267_0; first | rwa [add_block] at this | exact this) GW274.out)) | (show (Addr.add _ _).block ≠ _; rw [add_block]; exact Nat.ne_of_lt (Nat.lt_of_lt_of_le (by have := World.block_lt_of_cell? _ _ hw267_0; first | rwa [add_block] at this | exact this) GW274.out)) | (dsimp only; exact Nat.ne_of_lt (Nat.lt_of_lt_of_le (by have := World.block_lt_of_cell? _ _ hw267_0; first | rwa [add_block] at this | exact this) GW274.out))) _).trans (hHeld.2.2.2))))))⟩ (fun hHeld => ?_)
                    clear hK K
                    refine pure_ (i := 11) (N := some 16) (v := ?_) (a' := ?_) #[true, true, true, true, true, true, true, true, true, true, true, true] rfl rfl (any_of HT_.out (by kernel_rfl)) (fun _ _ _ h => h) (Or.inl ⟨by rfl, ?_⟩) ?_ ?_
                    rotate_left
                    · intro w'
                      go_simp
                      with_reducible rfl
                    rotate_left
                    · simp only [Act.put, List.setIfInBounds_toArray, List.set_cons_zero, List.set_cons_succ, i64_w, i32_w]
                      rfl
                    refine done_ (done_of HT_.out (by kernel_rfl)) ?_
                    have hnb30 := NB274_265.out
                    have hnc30 := NB265_274.out
                    have hcz31_0 : w25.cell? ⟨gb274, 0, none⟩ = some (.int .i64 0) := (blk_cell BK274.out 0).trans rfl
                    have hcz31_1 : w25.cell? ⟨gb274, 1, none⟩ = some (.int .i64 0) := (blk_cell BK274.out 1).trans rfl
                    have hcz31_2 : w25.cell? ⟨gb274, 2, none⟩ = some (.slice none 0 0) := (blk_cell BK274.out 2).trans rfl
                    have hfz31_0 := blk_frozen BK274.out 0
                    have hfz31_1 := blk_frozen BK274.out 1
                    have hfz31_2 := blk_frozen BK274.out 2
                    have hcz32_0 : w25.cell? ⟨gb265, 0, none⟩ = some (.int .i64 x266000_2) := (blk_cell BK265.out 0).trans rfl
                    have hcz32_1 : w25.cell? ⟨gb265, 1, none⟩ = some (.int .i64 x266001_2) := (blk_cell BK265.out 1).trans rfl
                    have hcz32_2 : w25.cell? ⟨gb265, 2, none⟩ = some (.slice Ao21 x266002_2.length co21) := (blk_cell BK265.out 2).trans rfl
                    have hfz32_0 := blk_frozen BK265.out 0
                    have hfz32_1 := blk_frozen BK265.out 1
                    have hfz32_2 := blk_frozen BK265.out 2
                    try go_wp2
                    go_roundg k2
                    case measure => have := HJ6.out; have := HK2.out; omega
                    case rel => exact ⟨(wrap64 (x14_2 + 1)), (t268), (t269), (t270), (.slice Ao28 t270.length co28), (by first | rfl | (simp; done) | (simp [*]; done)), H', ⟨by have := HJ6.out; have := HK2.out; omega⟩, ⟨by (with_reducible repeat (first | apply Kd.R_alloc | apply Kd.R_drewN | apply Kd.R_drew)); exact Kd.R_mono (Kd.R_far (p := ⟨gb265, 2, none⟩) (Kd.R_far (p := ⟨gb265, 1, none⟩) (Kd.R_far (p := ⟨gb265, 0, none⟩) (Kd.R_far (p := ⟨gb274, 2, none⟩) (Kd.R_far (p := ⟨gb274, 1, none⟩) (Kd.R_far (p := ⟨gb274, 0, none⟩) (Kd.R_types (Kd.R_types HO_10.out BK274.out (by decide)) BK265.out (by decide)) (fun _ hk => hk.1.2) (.int .i64 t268)) (fun _ hk => hk.1.2) (.int .i64 t269)) (fun _ hk => hk.1.2) (.slice Ao28 t270.length co28)) (fun _ hk => hk.2) (.int .i64 t268)) (fun _ hk => hk.2) (.int .i64 t269)) (fun _ hk => hk.2) (.slice Ao28 t270.length co28)) (fun _ hk => hk.1.1.1)⟩, ⟨by (with_reducible repeat (first | apply Kd.R_alloc | apply Kd.R_drewN | apply Kd.R_drew)); exact Kd.R_mono (Kd.R_far (p := ⟨gb265, 2, none⟩) (Kd.R_far (p := ⟨gb265, 1, none⟩) (Kd.R_far (p := ⟨gb265, 0, none⟩) (Kd.R_far (p := ⟨gb274, 2, none⟩) (Kd.R_far (p := ⟨gb274, 1, none⟩) (Kd.R_far (p := ⟨gb274, 0, none⟩) (Kd.R_types (Kd.R_types HO272.out BK274.out (by decide)) BK265.out (by decide)) (fun _ hk => hk.1.2) (.int .i64 t268)) (fun _ hk => hk.1.2) (.int .i64 t269)) (fun _ hk => hk.1.2) (.slice Ao28 t270.length co28)) (fun _ hk => hk.2) (.int .i64 t268)) (fun _ hk => hk.2) (.int .i64 t269)) (fun _ hk => hk.2) (.slice Ao28 t270.length co28)) (fun _ hk => hk.1.1.1)⟩, ⟨by (with_reducible repeat (first | refine blk_drewN ?_ _ | refine blk_drew ?_ | refine blk_alloc ?_ _)); refine blk_put (cs := #[.int .i64 t268, .int .i64 t269, .slice Ao21 x266002_2.length co21]) ?_ 2 _ rfl; (with_reducible repeat (first | refine blk_drewN ?_ _ | refine blk_drew ?_ | refine blk_alloc ?_ _)); refine blk_put (cs := #[.int .i64 t268, .int .i64 x266001_2, .slice Ao21 x266002_2.length co21]) ?_ 1 _ rfl; (with_reducible repeat (first | refine blk_drewN ?_ _ | refine blk_drew ?_ | refine blk_alloc ?_ _)); refine blk_put (cs := #[.int .i64 x266000_2, .int .i64 x266001_2, .slice Ao21 x266002_2.length co21]) ?_ 0 _ rfl; (with_reducible repeat (first | refine blk_drewN ?_ _ | refine blk_drew ?_ | refine blk_alloc ?_ _)); refine blk_far ?_ NB265_274.out _; (with_reducible repeat (first | refine blk_drewN ?_ _ | refine blk_drew ?_ | refine blk_alloc ?_ _)); refine blk_far ?_ NB265_274.out _; (with_reducible repeat (first | refine blk_drewN ?_ _ | refine blk_drew ?_ | refine blk_alloc ?_ _)); refine blk_far ?_ NB265_274.out _; (with_reducible repeat (first | refine blk_drewN ?_ _ | refine blk_drew ?_ | refine blk_alloc ?_ _)); exact BK265.out⟩, ⟨by repeat (first | (with_reducible first | exact HB.out | apply below_alloc | apply pw_below_drewN | apply below_drew1 | refine below_set ?_ GE265.out | refine below_set ?_ GE274.out) | exact HB.out)⟩⟩
                  · have H1 : (none) = some r := by rw [if_neg (show ¬ (some q275).isNone = true by simp)] at H; exact H
                    clear H
                    have H := H1
                    clear H1
                    try simp only [errW_none, errW_some]
                    exact absurd H (by simp)
                · rw [if_neg c19] at H
                  exact absurd H (by simp)
              · rw [if_neg c18] at H
                have c18b0 : decide (x14_2 < (l0.length : Int)) = false := decide_eq_false c18
                clear c18
                replace H := Option.bind_eq_some_iff.mp H
                obtain ⟨⟨t276, t277⟩, A330, H⟩ := H
                replace H : (if a2 < (l0.length : Int) then (if 0 ≤ a2 then (if t250 = true then (if t277.isNone = true then (if t276 = t251 then ((tree_Climb.f k2 (rd l0 a2) a2 t253).bind fun t280 => (some (t280 == t251))) else (none)) else (none)) else (none)) else (none)) else (if t250 = true then (if t277.isNone = true then (if t276 = t251 then ((tree_Climb.f k2 0 a2 t253).bind fun t282 => (some (t282 == t251))) else (none)) else (none)) else (none))) = some r := H
                have A33 := Aside0.mk A330
                clear A330
                by_cases c34 : a2 < (l0.length : Int)
                · rw [if_pos c34] at H
                  have c34b0 : decide (a2 < (l0.length : Int)) = true := decide_eq_true c34
                  clear c34
                  by_cases c35 : 0 ≤ a2
                  · rw [if_pos c35] at H
                    have c35b0 : decide (0 ≤ a2) = true := decide_eq_true c35
                    clear c35
                    by_cases c36 : t250 = true
                    · subst c36
                      have H1 : (if t277.isNone = true then (if t276 = t251 then ((tree_Climb.f k2 (rd l0 a2) a2 t253).bind fun t280 => (some (t280 == t251))) else (none)) else (none)) = some r := by rw [if_pos rfl] at H; exact H
                      clear H
                      have H := H1
                      clear H1
                      rcases t277 with _ | q279
                      · have H1 : (if t276 = t251 then ((tree_Climb.f k2 (rd l0 a2) a2 t253).bind fun t280 => (some (t280 == t251))) else (none)) = some r := by rw [if_pos (show (none : Option Int).isNone = true by rfl)] at H; exact H
                        clear H
                        have H := H1
                        clear H1
                        try simp only [errW_none, errW_some]
                        by_cases c37 : t276 = t251
                        · rw [if_pos c37] at H
                          have c37b0 : (t276 == t251) = true := beq_iff_eq.mpr c37
                          have c37b1 : (t276 != t251) = false := bne_eq_false_iff_eq.mpr c37
                          clear c37
                          replace H := Option.bind_eq_some_iff.mp H
                          obtain ⟨t280, A380, H⟩ := H
                          replace H : (some (t280 == t251)) = some r := H
                          have A38 := Aside0.mk A380
                          clear A380
                          obtain rfl := Option.some.inj H
                          have hcz39_0 : wr.cell? ⟨gb265, 0, none⟩ = some (.int .i64 x266000_2) := (blk_cell BK265.out 0).trans rfl
                          have hcz39_1 : wr.cell? ⟨gb265, 1, none⟩ = some (.int .i64 x266001_2) := (blk_cell BK265.out 1).trans rfl
                          have hcz39_2 : wr.cell? ⟨gb265, 2, none⟩ = some (u266002) := (blk_cell BK265.out 2).trans rfl
                          have hfz39_0 := blk_frozen BK265.out 0
                          have hfz39_1 := blk_frozen BK265.out 1
                          have hfz39_2 := blk_frozen BK265.out 2
                          obtain ⟨Ao40, co40, eo40⟩ := Kd.R_slice HO_266002.out
                          subst eo40
                          go_wp2_with (first | ((with_reducible refine gate_callee (f := 27) rfl ?_); refine goesL_ (some 73) rfl rfl Try.func27 (by kernel_rfl) rfl #[.agg #[.int .i64 x266000_2, .int .i64 x266001_2, .slice Ao40 x266002_2.length co40]] rfl (by (try simp only [List.map_toArray, List.map_cons, List.map_nil]); first | done | rfl | (simp only [List.length_drop, List.length_take]; rfl)) ?_; (with_reducible refine (tree_Root.calls k2 x266000_2 x266001_2 _ _ x266002_2 t276 none _ ?side1 ?side2 A33.out).mono ?_); (case side1 => repeat (first | exact (Kd.R_reads' HO_266002.out).2.2 | (with_reducible refine Kd.C_alloc ?_ _) | (with_reducible refine Kd.C_drewN ?_ _) | (with_reducible refine Kd.C_drew ?_))); (case side2 => exact (Kd.R_reads' HO_266002.out).2.1); rintro e w41 ⟨rfl, hb⟩; refine ⟨_, rfl, ?_⟩; have n0_ := Aside0.mk (Kd.R_below (by (with_reducible repeat (first | apply Kd.R_alloc | apply Kd.R_drewN | apply Kd.R_drew)); exact HO_10.out) hb); have n1_ := Aside0.mk (Kd.R_below (by (with_reducible repeat (first | apply Kd.R_alloc | apply Kd.R_drewN | apply Kd.R_drew)); exact HO_266002.out) hb); have n2_ := Aside0.mk (blk_below (g := gb265) (o := .cells #[.int .i64 x266000_2, .int .i64 x266001_2, .slice Ao40 x266002_2.length co40] 38 (0, 0)) (by (with_reducible repeat (first | refine blk_drewN ?_ _ | refine blk_drew ?_ | refine blk_alloc ?_ _)); exact BK265.out) hb); have n3_ := Aside0.mk (below_step (by repeat (first | (with_reducible first | exact HB.out | apply below_alloc | apply pw_below_drewN | apply below_drew1 | refine below_set ?_ GE265.out) | exact HB.out)) hb); clear HO_10; clear HO_266002; clear BK265; clear HB; have HO_10 := n0_; have HO_266002 := n1_; have BK265 := n2_; have HB := n3_; clear n0_ n1_ n2_ n3_; (try clear hb); (try clear hb2); (try clear hk); (try clear hi); (try simp only [errW_none, errW_some]); have p278 : 0 ≤ (a2 : Int) := of_decide_eq_true (by first | (with_reducible assumption) | assumption); have q278 : a2 < (l0.length : Int) := of_decide_eq_true (by first | (with_reducible assumption) | assumption); obtain ⟨ad278, e278, hx278_0⟩ := Kd.at_int HR0.out a2 p278 q278; cases e278; replace hx278_0 := (HB.out.cell (World.block_lt_of_cell? w _ hx278_0)).trans hx278_0; replace p278 := eq_true p278; replace q278 := eq_true q278; obtain ⟨Ao42, co42, eo42⟩ := Kd.R_slice HO_10.out; subst eo42) | (go_at_call 28; (with_reducible refine (tree_Climb.calls k2 (rd l0 a2) a2 _ _ t253 t280 _ ?side1 ?side2 A38.out).mono ?_); (case side1 => repeat (first | exact (Kd.R_reads' HO_10.out).2.2 | (with_reducible refine Kd.C_alloc ?_ _) | (with_reducible refine Kd.C_drewN ?_ _) | (with_reducible refine Kd.C_drew ?_))); (case side2 => exact (Kd.R_reads' HO_10.out).2.1); rintro e w43 ⟨rfl, hb⟩; have n0_ := Aside0.mk (Kd.R_below (by (with_reducible repeat (first | apply Kd.R_alloc | apply Kd.R_drewN | apply Kd.R_drew)); exact HO_10.out) hb); have n1_ := Aside0.mk (Kd.R_below (by (with_reducible repeat (first | apply Kd.R_alloc | apply Kd.R_drewN | apply Kd.R_drew)); exact HO_266002.out) hb); have n2_ := Aside0.mk (blk_below (g := gb265) (o := .cells #[.int .i64 x266000_2, .int .i64 x266001_2, .slice Ao40 x266002_2.length co40] 38 (0, 0)) (by (with_reducible repeat (first | refine blk_drewN ?_ _ | refine blk_drew ?_ | refine blk_alloc ?_ _)); exact BK265.out) hb); have n3_ := Aside0.mk (below_step (by repeat (first | (with_reducible first | exact HB.out | apply below_alloc | apply pw_below_drewN | apply below_drew1 | refine below_set ?_ GE265.out) | exact HB.out)) hb); clear HO_10; clear HO_266002; clear BK265; clear HB; have HO_10 := n0_; have HO_266002 := n1_; have BK265 := n2_; have HB := n3_; clear n0_ n1_ n2_ n3_; (try clear hb); (try clear hb2); (try clear hk); (try clear hi)))
                          go_ret
                          exact ⟨by first | rfl | (simp [errW_none, errW_some] <;> rfl) | (simp [*, errW_none, errW_some] <;> rfl), by repeat (first | (with_reducible first | exact HB.out | apply below_alloc | apply pw_below_drewN | apply below_drew1 | refine below_set ?_ GE265.out) | exact HB.out)⟩
                        · rw [if_neg c37] at H
                          exact absurd H (by simp)
                      · have H1 : (none) = some r := by rw [if_neg (show ¬ (some q279).isNone = true by simp)] at H; exact H
                        clear H
                        have H := H1
                        clear H1
                        try simp only [errW_none, errW_some]
                        exact absurd H (by simp)
                    · replace c36 := Bool.eq_false_iff.mpr c36
                      subst c36
                      have H1 : (none) = some r := by rw [if_neg (show ¬ (false = true) by decide)] at H; exact H
                      clear H
                      have H := H1
                      clear H1
                      exact absurd H (by simp)
                  · rw [if_neg c35] at H
                    exact absurd H (by simp)
                · rw [if_neg c34] at H
                  have c34b0 : decide (a2 < (l0.length : Int)) = false := decide_eq_false c34
                  clear c34
                  by_cases c44 : t250 = true
                  · subst c44
                    have H1 : (if t277.isNone = true then (if t276 = t251 then ((tree_Climb.f k2 0 a2 t253).bind fun t282 => (some (t282 == t251))) else (none)) else (none)) = some r := by rw [if_pos rfl] at H; exact H
                    clear H
                    have H := H1
                    clear H1
                    rcases t277 with _ | q281
                    · have H1 : (if t276 = t251 then ((tree_Climb.f k2 0 a2 t253).bind fun t282 => (some (t282 == t251))) else (none)) = some r := by rw [if_pos (show (none : Option Int).isNone = true by rfl)] at H; exact H
                      clear H
                      have H := H1
                      clear H1
                      try simp only [errW_none, errW_some]
                      by_cases c45 : t276 = t251
                      · rw [if_pos c45] at H
                        have c45b0 : (t276 == t251) = true := beq_iff_eq.mpr c45
                        have c45b1 : (t276 != t251) = false := bne_eq_false_iff_eq.mpr c45
                        clear c45
                        replace H := Option.bind_eq_some_iff.mp H
                        obtain ⟨t282, A460, H⟩ := H
                        replace H : (some (t282 == t251)) = some r := H
                        have A46 := Aside0.mk A460
                        clear A460
                        obtain rfl := Option.some.inj H
                        have hcz47_0 : wr.cell? ⟨gb265, 0, none⟩ = some (.int .i64 x266000_2) := (blk_cell BK265.out 0).trans rfl
                        have hcz47_1 : wr.cell? ⟨gb265, 1, none⟩ = some (.int .i64 x266001_2) := (blk_cell BK265.out 1).trans rfl
                        have hcz47_2 : wr.cell? ⟨gb265, 2, none⟩ = some (u266002) := (blk_cell BK265.out 2).trans rfl
                        have hfz47_0 := blk_frozen BK265.out 0
                        have hfz47_1 := blk_frozen BK265.out 1
                        have hfz47_2 := blk_frozen BK265.out 2
                        obtain ⟨Ao48, co48, eo48⟩ := Kd.R_slice HO_266002.out
                        subst eo48
                        go_wp2_with (first | ((with_reducible refine gate_callee (f := 27) rfl ?_); refine goesL_ (some 73) rfl rfl Try.func27 (by kernel_rfl) rfl #[.agg #[.int .i64 x266000_2, .int .i64 x266001_2, .slice Ao48 x266002_2.length co48]] rfl (by (try simp only [List.map_toArray, List.map_cons, List.map_nil]); first | done | rfl | (simp only [List.length_drop, List.length_take]; rfl)) ?_; (with_reducible refine (tree_Root.calls k2 x266000_2 x266001_2 _ _ x266002_2 t276 none _ ?side1 ?side2 A33.out).mono ?_); (case side1 => repeat (first | exact (Kd.R_reads' HO_266002.out).2.2 | (with_reducible refine Kd.C_alloc ?_ _) | (with_reducible refine Kd.C_drewN ?_ _) | (with_reducible refine Kd.C_drew ?_))); (case side2 => exact (Kd.R_reads' HO_266002.out).2.1); rintro e w49 ⟨rfl, hb⟩; refine ⟨_, rfl, ?_⟩; have n0_ := Aside0.mk (Kd.R_below (by (with_reducible repeat (first | apply Kd.R_alloc | apply Kd.R_drewN | apply Kd.R_drew)); exact HO_10.out) hb); have n1_ := Aside0.mk (Kd.R_below (by (with_reducible repeat (first | apply Kd.R_alloc | apply Kd.R_drewN | apply Kd.R_drew)); exact HO_266002.out) hb); have n2_ := Aside0.mk (blk_below (g := gb265) (o := .cells #[.int .i64 x266000_2, .int .i64 x266001_2, .slice Ao48 x266002_2.length co48] 38 (0, 0)) (by (with_reducible repeat (first | refine blk_drewN ?_ _ | refine blk_drew ?_ | refine blk_alloc ?_ _)); exact BK265.out) hb); have n3_ := Aside0.mk (below_step (by repeat (first | (with_reducible first | exact HB.out | apply below_alloc | apply pw_below_drewN | apply below_drew1 | refine below_set ?_ GE265.out) | exact HB.out)) hb); clear HO_10; clear HO_266002; clear BK265; clear HB; have HO_10 := n0_; have HO_266002 := n1_; have BK265 := n2_; have HB := n3_; clear n0_ n1_ n2_ n3_; (try clear hb); (try clear hb2); (try clear hk); (try clear hi); (try simp only [errW_none, errW_some]); obtain ⟨Ao50, co50, eo50⟩ := Kd.R_slice HO_10.out; subst eo50) | (go_at_call 28; (with_reducible refine (tree_Climb.calls k2 0 a2 _ _ t253 t282 _ ?side1 ?side2 A46.out).mono ?_); (case side1 => repeat (first | exact (Kd.R_reads' HO_10.out).2.2 | (with_reducible refine Kd.C_alloc ?_ _) | (with_reducible refine Kd.C_drewN ?_ _) | (with_reducible refine Kd.C_drew ?_))); (case side2 => exact (Kd.R_reads' HO_10.out).2.1); rintro e w51 ⟨rfl, hb⟩; have n0_ := Aside0.mk (Kd.R_below (by (with_reducible repeat (first | apply Kd.R_alloc | apply Kd.R_drewN | apply Kd.R_drew)); exact HO_10.out) hb); have n1_ := Aside0.mk (Kd.R_below (by (with_reducible repeat (first | apply Kd.R_alloc | apply Kd.R_drewN | apply Kd.R_drew)); exact HO_266002.out) hb); have n2_ := Aside0.mk (blk_below (g := gb265) (o := .cells #[.int .i64 x266000_2, .int .i64 x266001_2, .slice Ao48 x266002_2.length co48] 38 (0, 0)) (by (with_reducible repeat (first | refine blk_drewN ?_ _ | refine blk_drew ?_ | refine blk_alloc ?_ _)); exact BK265.out) hb); have n3_ := Aside0.mk (below_step (by repeat (first | (with_reducible first | exact HB.out | apply below_alloc | apply pw_below_drewN | apply below_drew1 | refine below_set ?_ GE265.out) | exact HB.out)) hb); clear HO_10; clear HO_266002; clear BK265; clear HB; have HO_10 := n0_; have HO_266002 := n1_; have BK265 := n2_; have HB := n3_; clear n0_ n1_ n2_ n3_; (try clear hb); (try clear hb2); (try clear hk); (try clear hi)))
                        go_ret
                        exact ⟨by first | rfl | (simp [errW_none, errW_some] <;> rfl) | (simp [*, errW_none, errW_some] <;> rfl), by repeat (first | (with_reducible first | exact HB.out | apply below_alloc | apply pw_below_drewN | apply below_drew1 | refine below_set ?_ GE265.out) | exact HB.out)⟩
                      · rw [if_neg c45] at H
                        exact absurd H (by simp)
                    · have H1 : (none) = some r := by rw [if_neg (show ¬ (some q281).isNone = true by simp)] at H; exact H
                      clear H
                      have H := H1
                      clear H1
                      try simp only [errW_none, errW_some]
                      exact absurd H (by simp)
                  · replace c44 := Bool.eq_false_iff.mpr c44
                    subst c44
                    have H1 : (none) = some r := by rw [if_neg (show ¬ (false = true) by decide)] at H; exact H
                    clear H
                    have H := H1
                    clear H1
                    exact absurd H (by simp)
        · have H1 : (none) = some r := by rw [if_neg (show ¬ (some q266).isNone = true by simp)] at H; exact H
          clear H
          have H := H1
          clear H1
          try simp only [errW_none, errW_some]
          exact absurd H (by simp)

/-- THE ONE PURE STATEMENT of obollaw16_TreeWhole: yours. -/
def obollaw16_TreeWhole.Pure : Prop := ∀ (l0 : List Int) (a1 : Int) (a2 : Int), l0.length ≤ maxLen → l0.length * 8 ≤ 140737488351232 → (∀ x ∈ l0, (Lit.int .u64 x).wf = true) → (Lit.int .i64 a1).wf = true → (Lit.int .i64 a2).wf = true → ∃ k, obollaw16_TreeWhole.f k l0 a1 a2 = some true
theorem obollaw16_TreeWhole.walk (P : obollaw16_TreeWhole.Pure) (a0 : Option Addr) (len0 cap0 : Nat) (z0 : List Int) (a1 : Int) (a2 : Int) (w : World) (w0 : (a0 = none ∧ len0 = 0 ∧ cap0 = 0 ∧ z0 = []) ∨ ∃ x, a0 = some x ∧ len0 ≤ cap0 ∧ cap0 ≤ maxLen ∧ z0.length = cap0 ∧ (∀ i, i < z0.length → w.cell? (x.add i) = some (.int .u64 (z0.getD i 0))) ∧ ∀ n ∈ z0, (Lit.int .u64 n).wf = true) (y0 : len0 * 8 ≤ 140737488351232) (w1 : (Lit.int .i64 a1).wf = true) (w2 : (Lit.int .i64 a2).wf = true) :
    Calls Try.prog 4 #[.slice a0 len0 cap0, .int .i64 a1, .int .i64 a2] w fun e w' => e = .returned (.bool true) ∧ Below w.heap.size w w' := by
  obtain ⟨l0, rfl, hr0, hm0, hw0, hc0⟩ := ReadsInt.ofRowC w0
  obtain ⟨k, h⟩ := P l0 a1 a2 hm0 y0 hw0 w1 w2
  refine (obollaw16_TreeWhole.calls k _ _ l0 a1 a2 true w (Kd.C_of_reads (d := (0 : Int)) (h1 := fun _ => rfl) hr0) hc0 h).mono ?_
  rintro e w' ⟨rfl, hd⟩
  exact ⟨rfl, hd⟩

end Go.Proofs.Ytempibbfdojfiab.PTreeWhole
