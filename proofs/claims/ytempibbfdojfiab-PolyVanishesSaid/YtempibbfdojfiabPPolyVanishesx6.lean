-- printed by a program of this session (wip/tools/mkprint.py)
import Derived.Test.YtempibbfdojfiabPPolyVanishesx0
import Derived.Test.YtempibbfdojfiabPPolyVanishesx2
import Derived.Test.YtempibbfdojfiabPPolyVanishesx3
import Derived.Test.YtempibbfdojfiabPPolyVanishesx4
import Derived.Test.YtempibbfdojfiabPPolyVanishesx5
namespace Go.Proofs.Ytempibbfdojfiab.PPolyVanishes
open Go.RowKit Go.Proofs.YtempibbfdojfiabW.PrintWords Go.Proofs.YtempibbfdojfiabW.PrintLast Go.Proofs.YtempibbfdojfiabW.PrintMore
attribute [local go_sem] max2_int min2_int max_two min_two max_three min_three max_four min_four   -- for this text's walks alone
set_option linter.unusedVariables false
set_option linter.unusedSimpArgs false

attribute [local go_sem high] errCmp_eql errCmp_neq errCmpL_eql errCmpL_neq
/-! ### obollaw13_PolyVanishes: function 5 -/
mutual
def obollaw13_PolyVanishes.j0 : Nat → List Int → Int → Bool → Bool → Option (Bool)
  | 0, _, _, _, _ => none
  | k + 1, x0, x1, x5, x25 => if x25 = true then (some x5) else ((poly_Vanish.f k x0 x1).bind fun bt208 => (if x1 < 0 then (obollaw13_PolyVanishes.j1 k x0 x1 x5 bt208.1 bt208.2 true) else (obollaw13_PolyVanishes.j1 k x0 x1 x5 bt208.1 bt208.2 (decide (x1 > 12)))))
def obollaw13_PolyVanishes.j1 : Nat → List Int → Int → Bool → List Int → Option Int → Bool → Option (Bool)
  | 0, _, _, _, _, _, _ => none
  | k + 1, x0, x1, x5, x6, x7, x38 => if x38 = true then (if x5 = true then (if x7.isNone = true then (none) else (if (x7.getD 0) = 1 then (some ((x6.length : Int) == 0)) else (none))) else (none)) else ((obolref13_Forward.f k x0 x1).bind fun t213 => (obollaw13_PolyVanishes.l0 k x0 x1 x5 x6 x7 t213 true 0))
def obollaw13_PolyVanishes.l0 : Nat → List Int → Int → Bool → List Int → Option Int → List Int → Bool → Int → Option (Bool)
  | 0, _, _, _, _, _, _, _, _ => none
  | k + 1, x0, x1, x5, x6, x7, x8, x9, x10 => if x10 < (x8.length : Int) then (if x9 = true then (if 0 ≤ x10 then (obollaw13_PolyVanishes.l0 k x0 x1 x5 x6 x7 x8 ((rd x8 x10) == 0) (wrap64 (x10 + 1))) else (none)) else (obollaw13_PolyVanishes.l0 k x0 x1 x5 x6 x7 x8 false (wrap64 (x10 + 1)))) else (if x9 = true then (if 0 ≤ x1 then (if 0 ≤ (wrap64 ((shl .i64 1 x1) + 1)) then (if (wrap64 ((shl .i64 1 x1) + 1) : Int).toNat ≤ 35184372088832 then ((some (List.replicate (wrap64 ((shl .i64 1 x1) + 1) : Int).toNat 0 : List Int)).bind fun y218 => (if 0 < (y218.length : Int) then ((some (y218.set (0 : Int).toNat 288230376287764480 : List Int)).bind fun y221 => (if 0 ≤ (shl .i64 1 x1) then (if (shl .i64 1 x1) < (y218.length : Int) then ((obolref07_Plus.f (rd y221 (shl .i64 1 x1)) 1).bind fun t223 => (obollaw13_PolyVanishes.l1 k x0 x5 x6 x7 (y221.set ((shl .i64 1 x1) : Int).toNat t223) ([] : List Int) 0)) else (none)) else (none))) else (none))) else (none)) else (none)) else (none)) else (if x5 = true then (if x7.isNone = true then (none) else (if (x7.getD 0) = 8 then (some ((x6.length : Int) == 0)) else (none))) else (none)))
def obollaw13_PolyVanishes.l1 : Nat → List Int → Bool → List Int → Option Int → List Int → List Int → Int → Option (Bool)
  | 0, _, _, _, _, _, _, _ => none
  | k + 1, x0, x5, x6, x7, x11, x12, x13 => if x13 < (x0.length : Int) then (if 0 ≤ x13 then (if x12.length < 17592186044416 then (obollaw13_PolyVanishes.l1 k x0 x5 x6 x7 x11 (x12 ++ [Int.tmod (rd x0 x13) 288230376287764481]) (wrap64 (x13 + 1))) else (none)) else (none)) else (if x5 = true then (if x7.isNone = true then ((obolref13_Mul.f k x6 x11).bind fun t230 => ((obolref13_Short.f k x12).bind fun t233 => ((obolref13_Same.f k t230 t233).bind fun t236 => (if t236 = true then ((obolref13_Short.f k x6).bind fun t237 => ((obolref13_Same.f k x6 t237).bind fun t240 => (some t240))) else (none))))) else (none)) else (none))
end
def obollaw13_PolyVanishes.f (k : Nat) (l0 : List Int) (a1 : Int) : Option (Bool) := (obollaw13_up.f k).bind fun t207 => (if a1 > 6 then (if a1 ≤ 12 then (obollaw13_PolyVanishes.j0 k l0 a1 t207 true) else (obollaw13_PolyVanishes.j0 k l0 a1 t207 (decide ((l0.length : Int) > 100)))) else (obollaw13_PolyVanishes.j0 k l0 a1 t207 (decide ((l0.length : Int) > 100))))
theorem obollaw13_PolyVanishes.mono_l : ∀ k, (∀ y0 y1 y2 y3, LeO (obollaw13_PolyVanishes.j0 k y0 y1 y2 y3) (obollaw13_PolyVanishes.j0 (k + 1) y0 y1 y2 y3)) ∧ (∀ y0 y1 y2 y3 y4 y5, LeO (obollaw13_PolyVanishes.j1 k y0 y1 y2 y3 y4 y5) (obollaw13_PolyVanishes.j1 (k + 1) y0 y1 y2 y3 y4 y5)) ∧ (∀ y0 y1 y2 y3 y4 y5 y6 y7, LeO (obollaw13_PolyVanishes.l0 k y0 y1 y2 y3 y4 y5 y6 y7) (obollaw13_PolyVanishes.l0 (k + 1) y0 y1 y2 y3 y4 y5 y6 y7)) ∧ (∀ y0 y1 y2 y3 y4 y5 y6, LeO (obollaw13_PolyVanishes.l1 k y0 y1 y2 y3 y4 y5 y6) (obollaw13_PolyVanishes.l1 (k + 1) y0 y1 y2 y3 y4 y5 y6))
  | 0 => ⟨fun _ _ _ _ r h => by simp [obollaw13_PolyVanishes.j0] at h, fun _ _ _ _ _ _ r h => by simp [obollaw13_PolyVanishes.j1] at h, fun _ _ _ _ _ _ _ _ r h => by simp [obollaw13_PolyVanishes.l0] at h, fun _ _ _ _ _ _ _ r h => by simp [obollaw13_PolyVanishes.l1] at h⟩
  | k + 1 => by
    obtain ⟨ih0, ih1, ih2, ih3⟩ := obollaw13_PolyVanishes.mono_l k
    refine ⟨?_, ?_, ?_, ?_⟩
    · intro y0 y1 y2 y3
      unfold obollaw13_PolyVanishes.j0
      repeat' first
      | (with_reducible exact ih0 _ _ _ _)
      | (with_reducible exact ih1 _ _ _ _ _ _)
      | (with_reducible exact ih2 _ _ _ _ _ _ _ _)
      | (with_reducible exact ih3 _ _ _ _ _ _ _)
      | (with_reducible exact obollaw13_up.mono _)
      | (with_reducible exact obolref13_Forward.mono _ _ _)
      | (with_reducible exact obolref13_Mul.mono _ _ _)
      | (with_reducible exact obolref13_Same.mono _ _ _)
      | (with_reducible exact obolref13_Short.mono _ _)
      | (with_reducible exact poly_Vanish.mono _ _ _)
      | (with_reducible exact LeO.refl _)
      | (with_reducible exact LeO.none _)
      | (with_reducible refine LeO.ite ?_ ?_)
      | (with_reducible refine LeO.bind ?_ (fun _ => ?_))
      | exact ih0 _ _ _ _
      | exact ih1 _ _ _ _ _ _
      | exact ih2 _ _ _ _ _ _ _ _
      | exact ih3 _ _ _ _ _ _ _
      | exact obollaw13_up.mono _
      | exact obolref13_Forward.mono _ _ _
      | exact obolref13_Mul.mono _ _ _
      | exact obolref13_Same.mono _ _ _
      | exact obolref13_Short.mono _ _
      | exact poly_Vanish.mono _ _ _
      | exact LeO.none _
      | refine LeO.ite ?_ ?_
      | refine LeO.bind ?_ (fun _ => ?_)
    · intro y0 y1 y2 y3 y4 y5
      unfold obollaw13_PolyVanishes.j1
      repeat' first
      | (with_reducible exact ih0 _ _ _ _)
      | (with_reducible exact ih1 _ _ _ _ _ _)
      | (with_reducible exact ih2 _ _ _ _ _ _ _ _)
      | (with_reducible exact ih3 _ _ _ _ _ _ _)
      | (with_reducible exact obollaw13_up.mono _)
      | (with_reducible exact obolref13_Forward.mono _ _ _)
      | (with_reducible exact obolref13_Mul.mono _ _ _)
      | (with_reducible exact obolref13_Same.mono _ _ _)
      | (with_reducible exact obolref13_Short.mono _ _)
      | (with_reducible exact poly_Vanish.mono _ _ _)
      | (with_reducible exact LeO.refl _)
      | (with_reducible exact LeO.none _)
      | (with_reducible refine LeO.ite ?_ ?_)
      | (with_reducible refine LeO.bind ?_ (fun _ => ?_))
      | exact ih0 _ _ _ _
      | exact ih1 _ _ _ _ _ _
      | exact ih2 _ _ _ _ _ _ _ _
      | exact ih3 _ _ _ _ _ _ _
      | exact obollaw13_up.mono _
      | exact obolref13_Forward.mono _ _ _
      | exact obolref13_Mul.mono _ _ _
      | exact obolref13_Same.mono _ _ _
      | exact obolref13_Short.mono _ _
      | exact poly_Vanish.mono _ _ _
      | exact LeO.none _
      | refine LeO.ite ?_ ?_
      | refine LeO.bind ?_ (fun _ => ?_)
    · intro y0 y1 y2 y3 y4 y5 y6 y7
      unfold obollaw13_PolyVanishes.l0
      repeat' first
      | (with_reducible exact ih0 _ _ _ _)
      | (with_reducible exact ih1 _ _ _ _ _ _)
      | (with_reducible exact ih2 _ _ _ _ _ _ _ _)
      | (with_reducible exact ih3 _ _ _ _ _ _ _)
      | (with_reducible exact obollaw13_up.mono _)
      | (with_reducible exact obolref13_Forward.mono _ _ _)
      | (with_reducible exact obolref13_Mul.mono _ _ _)
      | (with_reducible exact obolref13_Same.mono _ _ _)
      | (with_reducible exact obolref13_Short.mono _ _)
      | (with_reducible exact poly_Vanish.mono _ _ _)
      | (with_reducible exact LeO.refl _)
      | (with_reducible exact LeO.none _)
      | (with_reducible refine LeO.ite ?_ ?_)
      | (with_reducible refine LeO.bind ?_ (fun _ => ?_))
      | exact ih0 _ _ _ _
      | exact ih1 _ _ _ _ _ _
      | exact ih2 _ _ _ _ _ _ _ _
      | exact ih3 _ _ _ _ _ _ _
      | exact obollaw13_up.mono _
      | exact obolref13_Forward.mono _ _ _
      | exact obolref13_Mul.mono _ _ _
      | exact obolref13_Same.mono _ _ _
      | exact obolref13_Short.mono _ _
      | exact poly_Vanish.mono _ _ _
      | exact LeO.none _
      | refine LeO.ite ?_ ?_
      | refine LeO.bind ?_ (fun _ => ?_)
    · intro y0 y1 y2 y3 y4 y5 y6
      unfold obollaw13_PolyVanishes.l1
      repeat' first
      | (with_reducible exact ih0 _ _ _ _)
      | (with_reducible exact ih1 _ _ _ _ _ _)
      | (with_reducible exact ih2 _ _ _ _ _ _ _ _)
      | (with_reducible exact ih3 _ _ _ _ _ _ _)
      | (with_reducible exact obollaw13_up.mono _)
      | (with_reducible exact obolref13_Forward.mono _ _ _)
      | (with_reducible exact obolref13_Mul.mono _ _ _)
      | (with_reducible exact obolref13_Same.mono _ _ _)
      | (with_reducible exact obolref13_Short.mono _ _)
      | (with_reducible exact poly_Vanish.mono _ _ _)
      | (with_reducible exact LeO.refl _)
      | (with_reducible exact LeO.none _)
      | (with_reducible refine LeO.ite ?_ ?_)
      | (with_reducible refine LeO.bind ?_ (fun _ => ?_))
      | exact ih0 _ _ _ _
      | exact ih1 _ _ _ _ _ _
      | exact ih2 _ _ _ _ _ _ _ _
      | exact ih3 _ _ _ _ _ _ _
      | exact obollaw13_up.mono _
      | exact obolref13_Forward.mono _ _ _
      | exact obolref13_Mul.mono _ _ _
      | exact obolref13_Same.mono _ _ _
      | exact obolref13_Short.mono _ _
      | exact poly_Vanish.mono _ _ _
      | exact LeO.none _
      | refine LeO.ite ?_ ?_
      | refine LeO.bind ?_ (fun _ => ?_)
theorem obollaw13_PolyVanishes.mono : ∀ a0 a1 k, LeO (obollaw13_PolyVanishes.f k a0 a1) (obollaw13_PolyVanishes.f (k + 1) a0 a1) := by
  intro a0 a1 k
  obtain ⟨ih0, ih1, ih2, ih3⟩ := obollaw13_PolyVanishes.mono_l k
  unfold obollaw13_PolyVanishes.f
  repeat' first
      | (with_reducible exact ih0 _ _ _ _)
      | (with_reducible exact ih1 _ _ _ _ _ _)
      | (with_reducible exact ih2 _ _ _ _ _ _ _ _)
      | (with_reducible exact ih3 _ _ _ _ _ _ _)
      | (with_reducible exact obollaw13_up.mono _)
      | (with_reducible exact obolref13_Forward.mono _ _ _)
      | (with_reducible exact obolref13_Mul.mono _ _ _)
      | (with_reducible exact obolref13_Same.mono _ _ _)
      | (with_reducible exact obolref13_Short.mono _ _)
      | (with_reducible exact poly_Vanish.mono _ _ _)
      | (with_reducible exact LeO.refl _)
      | (with_reducible exact LeO.none _)
      | (with_reducible refine LeO.ite ?_ ?_)
      | (with_reducible refine LeO.bind ?_ (fun _ => ?_))
      | exact ih0 _ _ _ _
      | exact ih1 _ _ _ _ _ _
      | exact ih2 _ _ _ _ _ _ _ _
      | exact ih3 _ _ _ _ _ _ _
      | exact obollaw13_up.mono _
      | exact obolref13_Forward.mono _ _ _
      | exact obolref13_Mul.mono _ _ _
      | exact obolref13_Same.mono _ _ _
      | exact obolref13_Short.mono _ _
      | exact poly_Vanish.mono _ _ _
      | exact LeO.none _
      | refine LeO.ite ?_ ?_
      | refine LeO.bind ?_ (fun _ => ?_)
def obollaw13_PolyVanishes.T17 : Bool × List (List Nat × List Nat) := (true, [([], []), ([], []), ([1], [1]), ([], []), ([], []), ([4], [4]), ([3, 5], [3, 5]), ([6], [6]), ([7], [7]), ([0, 2, 0, 1, 2, 3, 4, 5, 6, 7, 8], [0, 2]), ([9, 8, 8, 0, 1, 2, 3, 4, 5, 6, 7, 8], [8, 9])])
def obollaw13_PolyVanishes.B17 : List Nat := [0, 0, 2, 0, 0, 16, 56, 120, 248, 511, 1023]
theorem obollaw13_PolyVanishes.tab17 : rtab .any (opsOf Try.f5 17) = obollaw13_PolyVanishes.T17 := by kernel_rfl
theorem obollaw13_PolyVanishes.bits17 : waitsOk obollaw13_PolyVanishes.T17.2 obollaw13_PolyVanishes.B17 = true := by kernel_rfl
set_option maxHeartbeats 8000000 in
set_option maxRecDepth 100000 in
theorem obollaw13_PolyVanishes.calls (k : Nat) (A0 : Option Addr) (c0 : Nat) (l0 : List Int) (a1 : Int) (r : Bool) (w : World) (hr0 : Kd.C (Kd.int .u64) w A0 l0.length l0) (hc0 : l0.length ≤ c0) (h : obollaw13_PolyVanishes.f k l0 a1 = some r) :
    Calls Try.prog 5 #[.slice A0 l0.length c0, .int .i64 a1] w fun e w' => e = .returned (.bool r) ∧ Below w.heap.size w w' := by
  have hu32 := Try.underlying32
  have hu46 := Try.underlying46
  have HR0 := Aside0.mk hr0
  have HC0 := Aside0.mk hc0
  clear hr0 hc0
  have HB := Aside0.mk (Below.refl w.heap.size w)
  have H : ((obollaw13_up.f k).bind fun t207 => (if a1 > 6 then (if a1 ≤ 12 then (obollaw13_PolyVanishes.j0 k l0 a1 t207 true) else (obollaw13_PolyVanishes.j0 k l0 a1 t207 (decide ((l0.length : Int) > 100)))) else (obollaw13_PolyVanishes.j0 k l0 a1 t207 (decide ((l0.length : Int) > 100))))) = some r := h
  clear h
  replace H := Option.bind_eq_some_iff.mp H
  obtain ⟨t207, A30, H⟩ := H
  replace H : (if a1 > 6 then (if a1 ≤ 12 then (obollaw13_PolyVanishes.j0 k l0 a1 t207 true) else (obollaw13_PolyVanishes.j0 k l0 a1 t207 (decide ((l0.length : Int) > 100)))) else (obollaw13_PolyVanishes.j0 k l0 a1 t207 (decide ((l0.length : Int) > 100)))) = some r := H
  have A3 := Aside0.mk A30
  clear A30
  have HC4 := Aside0.mk H
  clear H
  go_enter Try.func5, Try.ntmps5
  go_upto_region 2 with (first | ((with_reducible refine gate_callee (f := 29) rfl ?_); refine goesL_ (some 14) rfl rfl Try.func29 (by kernel_rfl) rfl #[] rfl (by (try simp only [List.map_toArray, List.map_cons, List.map_nil]); first | done | rfl | (simp only [List.length_drop, List.length_take]; rfl)) ?_; (with_reducible refine (obollaw13_up.calls k  t207 _ A3.out).mono ?_); rintro e w5 ⟨rfl, hb⟩; refine ⟨_, rfl, ?_⟩; have n0_ := Aside0.mk (below_step (by repeat (first | (with_reducible first | exact HB.out | apply below_alloc | apply pw_below_drewN | apply below_drew1) | exact HB.out)) hb); clear HB; have HB := n0_; clear n0_; (try clear hb); (try clear hb2); (try clear hk); (try clear hi)))
  (try simp only [Act.put, List.setIfInBounds_toArray, List.set_cons_zero, List.set_cons_succ])
  go_cut [25] (fun v25 wc => ∃ (kq : Nat) (x25_3 : Bool), v25 = .bool x25_3 ∧ Aside0 (obollaw13_PolyVanishes.j0 kq l0 a1 t207 x25_3 = some r) ∧ Aside0 (kq ≤ k) ∧ Aside0 (Below w.heap.size w wc))
  case first =>
    have H := HC4.out
    clear HC4
    by_cases c6 : a1 > 6
    · rw [if_pos c6] at H
      have c6b0 : decide (6 < a1) = true := decide_eq_true c6
      clear c6
      (first | rw [c6b0] | (simp only [i64_w, i32_w]; rw [c6b0]) | skip)
      by_cases c7 : a1 ≤ 12
      · rw [if_pos c7] at H
        have c7b0 : decide (a1 ≤ 12) = true := decide_eq_true c7
        clear c7
        have H' := Aside0.mk H
        clear H
        go_wp2
        go_meet
        case rel => exact ⟨_, (true), (by first | rfl | (simp; done) | (simp [*]; done)), H', ⟨by first | omega | exact Nat.le_refl _⟩, ⟨by repeat (first | (with_reducible first | exact HB.out | apply below_alloc | apply pw_below_drewN | apply below_drew1) | exact HB.out)⟩⟩
      · rw [if_neg c7] at H
        have c7b0 : decide (a1 ≤ 12) = false := decide_eq_false c7
        clear c7
        have H' := Aside0.mk H
        clear H
        go_wp2
        go_meet
        case rel => exact ⟨_, (decide ((l0.length : Int) > 100)), (by first | rfl | (simp; done) | (simp [*]; done)), H', ⟨by first | omega | exact Nat.le_refl _⟩, ⟨by repeat (first | (with_reducible first | exact HB.out | apply below_alloc | apply pw_below_drewN | apply below_drew1) | exact HB.out)⟩⟩
    · rw [if_neg c6] at H
      have c6b0 : decide (6 < a1) = false := decide_eq_false c6
      clear c6
      (first | rw [c6b0] | (simp only [i64_w, i32_w]; rw [c6b0]) | skip)
      have H' := Aside0.mk H
      clear H
      go_wp2
      go_meet
      case rel => exact ⟨_, (decide ((l0.length : Int) > 100)), (by first | rfl | (simp; done) | (simp [*]; done)), H', ⟨by first | omega | exact Nat.le_refl _⟩, ⟨by repeat (first | (with_reducible first | exact HB.out | apply below_alloc | apply pw_below_drewN | apply below_drew1) | exact HB.out)⟩⟩
  case rest =>
    clear HC4
    try clear c2
    try clear p2
    try clear c5
    try clear c6
    try clear c6b0
    try clear c7
    try clear c7b0
    obtain ⟨kq, x25_3, rfl, HA, HJ3, HB⟩ := hcut
    cases kq with
    | zero => exact absurd HA.out (by simp [obollaw13_PolyVanishes.j0])
    | succ kj3 =>
      have H := HA.out
      clear HA
      simp only [obollaw13_PolyVanishes.j0] at H
      by_cases c8 : x25_3 = true
      · subst c8
        have H1 : (some t207) = some r := by rw [if_pos rfl] at H; exact H
        clear H
        have H := H1
        clear H1
        obtain rfl := Option.some.inj H
        go_wp2
        go_ret
        exact ⟨by first | rfl | (simp [errW_none, errW_some] <;> rfl) | (simp [*, errW_none, errW_some] <;> rfl), by repeat (first | (with_reducible first | exact HB.out | apply below_alloc | apply pw_below_drewN | apply below_drew1) | exact HB.out)⟩
      · replace c8 := Bool.eq_false_iff.mpr c8
        subst c8
        have H1 : ((poly_Vanish.f kj3 l0 a1).bind fun bt208 => (if a1 < 0 then (obollaw13_PolyVanishes.j1 kj3 l0 a1 t207 bt208.1 bt208.2 true) else (obollaw13_PolyVanishes.j1 kj3 l0 a1 t207 bt208.1 bt208.2 (decide (a1 > 12))))) = some r := by rw [if_neg (show ¬ (false = true) by decide)] at H; exact H
        clear H
        have H := H1
        clear H1
        replace H := Option.bind_eq_some_iff.mp H
        obtain ⟨⟨t208, t211⟩, A90, H⟩ := H
        replace H : (if a1 < 0 then (obollaw13_PolyVanishes.j1 kj3 l0 a1 t207 t208 t211 true) else (obollaw13_PolyVanishes.j1 kj3 l0 a1 t207 t208 t211 (decide (a1 > 12)))) = some r := H
        have A9 := Aside0.mk A90
        clear A90
        have HC10 := Aside0.mk H
        clear H
        go_upto_region 5 with (first | ((with_reducible refine gate_callee (f := 30) rfl ?_); refine goesL_ (some 30) rfl rfl Try.func30 (by kernel_rfl) rfl #[.slice A0 l0.length c0, .int .i64 a1] rfl (by (try simp only [List.map_toArray, List.map_cons, List.map_nil]); first | done | rfl | (simp only [List.length_drop, List.length_take]; rfl)) ?_; (with_reducible refine (poly_Vanish.calls kj3 _ _ l0 a1 t208 t211 _ ?side1 ?side2 A9.out).mono ?_); (case side1 => repeat (first | exact (Kd.C_below HR0.out HB.out) | (with_reducible refine Kd.C_alloc ?_ _) | (with_reducible refine Kd.C_drewN ?_ _) | (with_reducible refine Kd.C_drew ?_))); (case side2 => exact HC0.out); rintro e w11 ⟨v209, rfl, ho0, hb⟩; refine ⟨_, rfl, ?_⟩; have n0_ := Aside0.mk (Kd.V_lower (Kd.V_mono (ok' := fun k_ => True) ho0 (fun k_ hk_ => trivial)) (below_size (by repeat (first | (with_reducible first | exact HB.out | apply below_alloc | apply pw_below_drewN | apply below_drew1) | exact HB.out)))); have n1_ := Aside0.mk (below_step (by repeat (first | (with_reducible first | exact HB.out | apply below_alloc | apply pw_below_drewN | apply below_drew1) | exact HB.out)) hb); clear HB; have HO210 := n0_; have HB := n1_; clear n0_ n1_; (try clear hb); (try clear hb2); (try clear hk); (try clear hi); (try clear ho0); (try simp only [errW_none, errW_some])))
        (try simp only [Act.put, List.setIfInBounds_toArray, List.set_cons_zero, List.set_cons_succ])
        go_cut [38] (fun v38 wc => ∃ (kq : Nat) (x38_9 : Bool), v38 = .bool x38_9 ∧ Aside0 (obollaw13_PolyVanishes.j1 kq l0 a1 t207 t208 t211 x38_9 = some r) ∧ Aside0 (kq ≤ kj3) ∧ Aside0 (Kd.V (Kd.int .u64) 22 wc w.heap.size (fun _ => True) v209 t208) ∧ Aside0 (Below w.heap.size w wc))
        case first =>
          have H := HC10.out
          clear HC10
          by_cases c12 : a1 < 0
          · rw [if_pos c12] at H
            have c12b0 : decide (a1 < 0) = true := decide_eq_true c12
            clear c12
            (first | rw [c12b0] | (simp only [i64_w, i32_w]; rw [c12b0]) | skip)
            have H' := Aside0.mk H
            clear H
            go_wp2
            go_meet
            case rel => exact ⟨_, (true), (by first | rfl | (simp; done) | (simp [*]; done)), H', ⟨by have := HJ3.out; first | omega | exact Nat.le_refl _⟩, ⟨by (with_reducible repeat (first | apply Kd.V_alloc | apply Kd.V_drewN | apply Kd.V_drew)); exact HO210.out⟩, ⟨by repeat (first | (with_reducible first | exact HB.out | apply below_alloc | apply pw_below_drewN | apply below_drew1) | exact HB.out)⟩⟩
          · rw [if_neg c12] at H
            have c12b0 : decide (a1 < 0) = false := decide_eq_false c12
            clear c12
            (first | rw [c12b0] | (simp only [i64_w, i32_w]; rw [c12b0]) | skip)
            have H' := Aside0.mk H
            clear H
            go_wp2
            go_meet
            case rel => exact ⟨_, (decide (a1 > 12)), (by first | rfl | (simp; done) | (simp [*]; done)), H', ⟨by have := HJ3.out; first | omega | exact Nat.le_refl _⟩, ⟨by (with_reducible repeat (first | apply Kd.V_alloc | apply Kd.V_drewN | apply Kd.V_drew)); exact HO210.out⟩, ⟨by repeat (first | (with_reducible first | exact HB.out | apply below_alloc | apply pw_below_drewN | apply below_drew1) | exact HB.out)⟩⟩
        case rest =>
          clear HC10
          try clear c1
          try clear c2
          try clear p2
          try clear c3
          try clear c5
          try clear c6
          try clear c6b0
          try clear c7
          try clear c7b0
          try clear c8
          try clear c12
          try clear c12b0
          try clear p2
          obtain ⟨kq, x38_9, rfl, HA, HJ9, HO_6, HB⟩ := hcut
          cases kq with
          | zero => exact absurd HA.out (by simp [obollaw13_PolyVanishes.j1])
          | succ kj9 =>
            have H := HA.out
            clear HA
            simp only [obollaw13_PolyVanishes.j1] at H
            by_cases c13 : x38_9 = true
            · subst c13
              have H1 : (if t207 = true then (if t211.isNone = true then (none) else (if (t211.getD 0) = 1 then (some ((t208.length : Int) == 0)) else (none))) else (none)) = some r := by rw [if_pos rfl] at H; exact H
              clear H
              have H := H1
              clear H1
              by_cases c14 : t207 = true
              · subst c14
                have H1 : (if t211.isNone = true then (none) else (if (t211.getD 0) = 1 then (some ((t208.length : Int) == 0)) else (none))) = some r := by rw [if_pos rfl] at H; exact H
                clear H
                have H := H1
                clear H1
                rcases t211 with _ | q212
                · have H1 : (none) = some r := by rw [if_pos (show (none : Option Int).isNone = true by rfl)] at H; exact H
                  clear H
                  have H := H1
                  clear H1
                  try simp only [errW_none, errW_some]
                  exact absurd H (by simp)
                · have H1 : (if q212 = 1 then (some ((t208.length : Int) == 0)) else (none)) = some r := by rw [if_neg (show ¬ (some q212).isNone = true by simp)] at H; exact H
                  clear H
                  have H := H1
                  clear H1
                  try simp only [errW_none, errW_some]
                  by_cases c15 : q212 = 1
                  · rw [if_pos c15] at H
                    have c15b0 : (q212 == 1) = true := beq_iff_eq.mpr c15
                    have c15b1 : (q212 != 1) = false := bne_eq_false_iff_eq.mpr c15
                    clear c15
                    obtain rfl := Option.some.inj H
                    obtain ⟨Ao16, co16, eo16⟩ := Kd.V_slice HO_6.out
                    subst eo16
                    go_wp2
                    go_ret
                    exact ⟨by first | rfl | (simp [errW_none, errW_some] <;> rfl) | (simp [*, errW_none, errW_some] <;> rfl), by repeat (first | (with_reducible first | exact HB.out | apply below_alloc | apply pw_below_drewN | apply below_drew1) | exact HB.out)⟩
                  · rw [if_neg c15] at H
                    exact absurd H (by simp)
              · replace c14 := Bool.eq_false_iff.mpr c14
                subst c14
                have H1 : (none) = some r := by rw [if_neg (show ¬ (false = true) by decide)] at H; exact H
                clear H
                have H := H1
                clear H1
                exact absurd H (by simp)
            · replace c13 := Bool.eq_false_iff.mpr c13
              subst c13
              have H1 : ((obolref13_Forward.f kj9 l0 a1).bind fun t213 => (obollaw13_PolyVanishes.l0 kj9 l0 a1 t207 t208 t211 t213 true 0)) = some r := by rw [if_neg (show ¬ (false = true) by decide)] at H; exact H
              clear H
              have H := H1
              clear H1
              replace H := Option.bind_eq_some_iff.mp H
              obtain ⟨t213, A170, H⟩ := H
              replace H : (obollaw13_PolyVanishes.l0 kj9 l0 a1 t207 t208 t211 t213 true 0) = some r := H
              have A17 := Aside0.mk A170
              clear A170
              have H' := Aside0.mk H
              clear H
              go_wp2_with (first | ((with_reducible refine gate_callee (f := 31) rfl ?_); refine goesL_ (some 52) rfl rfl Try.func31 (by kernel_rfl) rfl #[.slice A0 l0.length c0, .int .i64 a1] rfl (by (try simp only [List.map_toArray, List.map_cons, List.map_nil]); first | done | rfl | (simp only [List.length_drop, List.length_take]; rfl)) ?_; (with_reducible refine (obolref13_Forward.calls kj9 _ _ l0 a1 t213 _ ?side1 ?side2 A17.out).mono ?_); (case side1 => repeat (first | exact (Kd.C_below HR0.out HB.out) | (with_reducible refine Kd.C_alloc ?_ _) | (with_reducible refine Kd.C_drewN ?_ _) | (with_reducible refine Kd.C_drew ?_))); (case side2 => exact HC0.out); rintro e w18 ⟨v214, rfl, ho0, hb⟩; refine ⟨_, rfl, ?_⟩; have n0_ := Aside0.mk (Kd.V_elder' (by (with_reducible repeat (first | apply Kd.V_alloc | apply Kd.V_drewN | apply Kd.V_drew)); exact HO_6.out) (Kd.R_base ho0) hb); have n1_ := Aside0.mk (Kd.R_lower ho0 (below_size (by repeat (first | (with_reducible first | exact HB.out | apply below_alloc | apply pw_below_drewN | apply below_drew1) | exact HB.out)))); have n2_ := Aside0.mk (below_step (by repeat (first | (with_reducible first | exact HB.out | apply below_alloc | apply pw_below_drewN | apply below_drew1) | exact HB.out)) hb); clear HO_6; clear HB; have HO_6 := n0_; have HO215 := n1_; have HB := n2_; clear n0_ n1_ n2_; (try clear hb); (try clear hb2); (try clear hk); (try clear hi); (try clear ho0)))
              go_loopg [9, 10] kj9 (fun kq v9 v10 w' => ∃ (x9_3 : Bool) (x10_3 : Int), v9 = .bool x9_3 ∧ v10 = .int .i64 x10_3 ∧ Aside0 (obollaw13_PolyVanishes.l0 kq l0 a1 t207 t208 t211 t213 x9_3 x10_3 = some r) ∧ Aside0 (kq ≤ kj9) ∧ Aside0 (Kd.V (Kd.int .u64) 22 w' w.heap.size (fun k_ => some k_ ≠ (v214 : Value).ownBlock) v209 t208) ∧ Aside0 (Kd.R (Kd.int .u64) 22 w' w.heap.size (fun _ => True) v214 t213) ∧ Aside0 (Below w.heap.size w w'))
              case atStart => exact ⟨(true), (0), (by first | rfl | (simp; done) | (simp [*]; done)), (by first | rfl | (simp; done) | (simp [*]; done)), H', ⟨Nat.le_refl _⟩, ⟨by (with_reducible repeat (first | apply Kd.V_alloc | apply Kd.V_drewN | apply Kd.V_drew)); exact Kd.V_mono HO_6.out (fun _ hk => hk.2)⟩, ⟨by (with_reducible repeat (first | apply Kd.R_alloc | apply Kd.R_drewN | apply Kd.R_drew)); exact HO215.out⟩, ⟨by repeat (first | (with_reducible first | exact HB.out | apply below_alloc | apply pw_below_drewN | apply below_drew1) | exact HB.out)⟩⟩
              case round =>
                clear H'
                try clear c1
                try clear c2
                try clear p2
                try clear q2
                try clear c3
                try clear c5
                try clear c6
                try clear c6b0
                try clear c7
                try clear c7b0
                try clear c8
                try clear c12
                try clear c12b0
                try clear c13
                try clear c14
                try clear c15
                try clear c15b0
                try clear c15b1
                try clear p2
                try clear q212
                obtain ⟨x9_3, x10_3, rfl, rfl, HA, HK3, HO_6, HO_8, HB⟩ := hrel
                cases gk with
                | zero => exact absurd HA.out (by simp [obollaw13_PolyVanishes.l0])
                | succ k3 =>
                  have H := HA.out
                  clear HA
                  simp only [obollaw13_PolyVanishes.l0] at H
                  by_cases c19 : x10_3 < (t213.length : Int)
                  · rw [if_pos c19] at H
                    have c19b0 : decide (x10_3 < (t213.length : Int)) = true := decide_eq_true c19
                    clear c19
                    by_cases c20 : x9_3 = true
                    · subst c20
                      have H1 : (if 0 ≤ x10_3 then (obollaw13_PolyVanishes.l0 k3 l0 a1 t207 t208 t211 t213 ((rd t213 x10_3) == 0) (wrap64 (x10_3 + 1))) else (none)) = some r := by rw [if_pos rfl] at H; exact H
                      clear H
                      have H := H1
                      clear H1
                      by_cases c21 : 0 ≤ x10_3
                      · rw [if_pos c21] at H
                        have c21b0 : decide (0 ≤ x10_3) = true := decide_eq_true c21
                        clear c21
                        have H' := Aside0.mk H
                        clear H
                        obtain ⟨Ao22, co22, eo22⟩ := Kd.R_slice HO_8.out
                        subst eo22
                        have p216 : 0 ≤ (x10_3 : Int) := of_decide_eq_true (by first | (with_reducible assumption) | assumption)
                        have q216 : x10_3 < (t213.length : Int) := of_decide_eq_true (by first | (with_reducible assumption) | assumption)
                        obtain ⟨ad216, e216, hx216_0⟩ := Kd.at_int (Kd.R_reads' HO_8.out).2.2 x10_3 p216 q216
                        cases e216
                        replace p216 := eq_true p216
                        replace q216 := eq_true q216
                        go_wp2
                        go_roundg k3
                        case measure => have := HJ3.out; have := HJ9.out; have := HK3.out; omega
                        case rel => exact ⟨(((rd t213 x10_3) == 0)), (wrap64 (x10_3 + 1)), (by first | rfl | (simp; done) | (simp [*]; done)), (by first | rfl | (simp; done) | (simp [*]; done)), H', ⟨by have := HJ3.out; have := HJ9.out; have := HK3.out; omega⟩, ⟨by (with_reducible repeat (first | apply Kd.V_alloc | apply Kd.V_drewN | apply Kd.V_drew)); exact HO_6.out⟩, ⟨by (with_reducible repeat (first | apply Kd.R_alloc | apply Kd.R_drewN | apply Kd.R_drew)); exact HO_8.out⟩, ⟨by repeat (first | (with_reducible first | exact HB.out | apply below_alloc | apply pw_below_drewN | apply below_drew1) | exact HB.out)⟩⟩
                      · rw [if_neg c21] at H
                        exact absurd H (by simp)
                    · replace c20 := Bool.eq_false_iff.mpr c20
                      subst c20
                      have H1 : (obollaw13_PolyVanishes.l0 k3 l0 a1 t207 t208 t211 t213 false (wrap64 (x10_3 + 1))) = some r := by rw [if_neg (show ¬ (false = true) by decide)] at H; exact H
                      clear H
                      have H := H1
                      clear H1
                      have H' := Aside0.mk H
                      clear H
                      obtain ⟨Ao23, co23, eo23⟩ := Kd.R_slice HO_8.out
                      subst eo23
                      go_wp2
                      go_roundg k3
                      case measure => have := HJ3.out; have := HJ9.out; have := HK3.out; omega
                      case rel => exact ⟨(false), (wrap64 (x10_3 + 1)), (by first | rfl | (simp; done) | (simp [*]; done)), (by first | rfl | (simp; done) | (simp [*]; done)), H', ⟨by have := HJ3.out; have := HJ9.out; have := HK3.out; omega⟩, ⟨by (with_reducible repeat (first | apply Kd.V_alloc | apply Kd.V_drewN | apply Kd.V_drew)); exact HO_6.out⟩, ⟨by (with_reducible repeat (first | apply Kd.R_alloc | apply Kd.R_drewN | apply Kd.R_drew)); exact HO_8.out⟩, ⟨by repeat (first | (with_reducible first | exact HB.out | apply below_alloc | apply pw_below_drewN | apply below_drew1) | exact HB.out)⟩⟩
                  · rw [if_neg c19] at H
                    have c19b0 : decide (x10_3 < (t213.length : Int)) = false := decide_eq_false c19
                    clear c19
                    by_cases c24 : x9_3 = true
                    · subst c24
                      have H1 : (if 0 ≤ a1 then (if 0 ≤ (wrap64 ((shl .i64 1 a1) + 1)) then (if (wrap64 ((shl .i64 1 a1) + 1) : Int).toNat ≤ 35184372088832 then ((some (List.replicate (wrap64 ((shl .i64 1 a1) + 1) : Int).toNat 0 : List Int)).bind fun y218 => (if 0 < (y218.length : Int) then ((some (y218.set (0 : Int).toNat 288230376287764480 : List Int)).bind fun y221 => (if 0 ≤ (shl .i64 1 a1) then (if (shl .i64 1 a1) < (y218.length : Int) then ((obolref07_Plus.f (rd y221 (shl .i64 1 a1)) 1).bind fun t223 => (obollaw13_PolyVanishes.l1 k3 l0 t207 t208 t211 (y221.set ((shl .i64 1 a1) : Int).toNat t223) ([] : List Int) 0)) else (none)) else (none))) else (none))) else (none)) else (none)) else (none)) = some r := by rw [if_pos rfl] at H; exact H
                      clear H
                      have H := H1
                      clear H1
                      by_cases c25 : 0 ≤ a1
                      · rw [if_pos c25] at H
                        have c25b0 := eq_true c25
                        have c25b1 : decide (0 ≤ a1) = true := decide_eq_true c25
                        clear c25
                        obtain ⟨ji26, hji26⟩ : ∃ j_ : Int, (shl .i64 1 a1) = j_ := ⟨_, rfl⟩
                        replace H : (if 0 ≤ (wrap64 ((ji26) + 1)) then (if (wrap64 ((ji26) + 1) : Int).toNat ≤ 35184372088832 then ((some (List.replicate (wrap64 ((ji26) + 1) : Int).toNat 0 : List Int)).bind fun y218 => (if 0 < (y218.length : Int) then ((some (y218.set (0 : Int).toNat 288230376287764480 : List Int)).bind fun y221 => (if 0 ≤ (ji26) then (if (ji26) < (y218.length : Int) then ((obolref07_Plus.f (rd y221 (ji26)) 1).bind fun t223 => (obollaw13_PolyVanishes.l1 k3 l0 t207 t208 t211 (y221.set ((ji26) : Int).toNat t223) ([] : List Int) 0)) else (none)) else (none))) else (none))) else (none)) else (none)) = some r := by first | (rw [hji26] at H; exact H) | (simp only [hji26] at H ⊢; exact H)
                        have hji26_ : (IntKind.i64.wrap (1 * 2 ^ min a1.toNat 64)) = ji26 := hji26
                        have hji26z : a1 ≤ 64 → (IntKind.i64.wrap (1 * 2 ^ a1.toNat)) = ji26 := shl_small hji26
                        have hji26u : (IntKind.i64.wrap (2 ^ min a1.toNat 64)) = ji26 := by have h_ := hji26_; rw [Int.one_mul] at h_; exact h_
                        have hji26v : a1 ≤ 64 → (IntKind.i64.wrap (2 ^ a1.toNat)) = ji26 := fun hle_ => by have h_ := hji26z hle_; rw [Int.one_mul] at h_; exact h_
                        have hji26y : (wrap64 (1 * 2 ^ min a1.toNat 64)) = ji26 := (i64_w _).symm.trans hji26_
                        have hji26x : a1 ≤ 64 → (wrap64 (1 * 2 ^ a1.toNat)) = ji26 := fun h_ => (i64_w _).symm.trans (hji26z h_)
                        obtain ⟨ji27, hji27⟩ : ∃ j_ : Int, (wrap64 ((ji26) + 1)) = j_ := ⟨_, rfl⟩
                        replace H : (if 0 ≤ (ji27) then (if (ji27 : Int).toNat ≤ 35184372088832 then ((some (List.replicate (ji27 : Int).toNat 0 : List Int)).bind fun y218 => (if 0 < (y218.length : Int) then ((some (y218.set (0 : Int).toNat 288230376287764480 : List Int)).bind fun y221 => (if 0 ≤ (ji26) then (if (ji26) < (y218.length : Int) then ((obolref07_Plus.f (rd y221 (ji26)) 1).bind fun t223 => (obollaw13_PolyVanishes.l1 k3 l0 t207 t208 t211 (y221.set ((ji26) : Int).toNat t223) ([] : List Int) 0)) else (none)) else (none))) else (none))) else (none)) else (none)) = some r := by first | (rw [hji27] at H; exact H) | (simp only [hji27] at H ⊢; exact H)
                        have hji27w : (IntKind.i64.wrap ((ji26) + 1)) = ji27 := (i64_w _).trans hji27
                        by_cases c28 : 0 ≤ (ji27)
                        · rw [if_pos c28] at H
                          have c28b0 := eq_true c28
                          have c28b1 : decide (0 ≤ (ji27)) = true := decide_eq_true c28
                          clear c28
                          by_cases c29 : (ji27 : Int).toNat ≤ 35184372088832
                          · rw [if_pos c29] at H
                            have c29b0 := eq_true c29
                            have c29b1 : decide ((ji27 : Int).toNat ≤ 35184372088832) = true := decide_eq_true c29
                            clear c29
                            obtain ⟨y218, hy218⟩ : ∃ y_ : List Int, y_ = (List.replicate (ji27 : Int).toNat 0) := ⟨_, rfl⟩
                            replace H : (if 0 < (y218.length : Int) then ((some (y218.set (0 : Int).toNat 288230376287764480 : List Int)).bind fun y221 => (if 0 ≤ (ji26) then (if (ji26) < (y218.length : Int) then ((obolref07_Plus.f (rd y221 (ji26)) 1).bind fun t223 => (obollaw13_PolyVanishes.l1 k3 l0 t207 t208 t211 (y221.set ((ji26) : Int).toNat t223) ([] : List Int) 0)) else (none)) else (none))) else (none)) = some r := by first | (rw [hy218]; with_reducible exact H) | (have H2_ := (Option.bind_some _ _).symm.trans H; rw [hy218]; with_reducible exact H2_) | (have H2_ := (Option.bind_some _ _).symm.trans H; with_reducible exact H2_) | with_reducible exact H | (rw [hy218]; exact H) | exact H
                            have Ny218 := Aside0.mk hy218
                            clear hy218
                            by_cases c30 : 0 < (y218.length : Int)
                            · rw [if_pos c30] at H
                              have c30b0 : decide (0 < (y218.length : Int)) = true := decide_eq_true c30
                              have c30b1 : decide (0 < y218.length) = true := decide_eq_true (by omega)
                              clear c30
                              obtain ⟨y221, hy221⟩ : ∃ y_ : List Int, y_ = (y218.set (0 : Int).toNat 288230376287764480) := ⟨_, rfl⟩
                              replace H : (if 0 ≤ (ji26) then (if (ji26) < (y218.length : Int) then ((obolref07_Plus.f (rd y221 (ji26)) 1).bind fun t223 => (obollaw13_PolyVanishes.l1 k3 l0 t207 t208 t211 (y221.set ((ji26) : Int).toNat t223) ([] : List Int) 0)) else (none)) else (none)) = some r := by first | (rw [hy221]; with_reducible exact H) | (have H2_ := (Option.bind_some _ _).symm.trans H; rw [hy221]; with_reducible exact H2_) | (have H2_ := (Option.bind_some _ _).symm.trans H; with_reducible exact H2_) | with_reducible exact H | (rw [hy221]; exact H) | exact H
                              have Ny221 := Aside0.mk hy221
                              clear hy221
                              have c32b0 := eq_true (of_decide_eq_true (by first | (with_reducible assumption) | assumption) : 0 ≤ a1)
                              have c33b0 := eq_true (of_decide_eq_true (by first | (with_reducible assumption) | assumption) : 0 ≤ a1)
                              by_cases c34 : 0 ≤ (ji26)
                              · rw [if_pos c34] at H
                                have c34b0 : decide (0 ≤ (ji26)) = true := decide_eq_true c34
                                clear c34
                                by_cases c35 : (ji26) < (y218.length : Int)
                                · rw [if_pos c35] at H
                                  have c35b0 : decide ((ji26) < (y218.length : Int)) = true := decide_eq_true c35
                                  clear c35
                                  replace H := Option.bind_eq_some_iff.mp H
                                  obtain ⟨t223, A360, H⟩ := H
                                  replace H : (obollaw13_PolyVanishes.l1 k3 l0 t207 t208 t211 (y221.set ((ji26) : Int).toNat t223) ([] : List Int) 0) = some r := H
                                  have A36 := Aside0.mk A360
                                  clear A360
                                  obtain ⟨y224, hy224⟩ : ∃ y_ : List Int, y_ = (y221.set ((ji26) : Int).toNat t223) := ⟨_, rfl⟩
                                  replace H : (obollaw13_PolyVanishes.l1 k3 l0 t207 t208 t211 y224 ([] : List Int) 0) = some r := by first | (rw [hy224]; with_reducible exact H) | (have H2_ := (Option.bind_some _ _).symm.trans H; rw [hy224]; with_reducible exact H2_) | (have H2_ := (Option.bind_some _ _).symm.trans H; with_reducible exact H2_) | with_reducible exact H | (rw [hy224]; exact H) | exact H
                                  have Ny224 := Aside0.mk hy224
                                  clear hy224
                                  have H' := Aside0.mk H
                                  clear H
                                  obtain ⟨Ao38, co38, eo38⟩ := Kd.R_slice HO_8.out
                                  subst eo38
                                  try go_wp2_with (first | ((with_reducible refine gate_dst (N := 83) rfl ?_); (try (refine gate_guard (by rfl) ?_; dsimp only)); refine Kd.R_make (Kd.int .u64) _ 22 rfl (N := 83) rfl 30 _ _ rfl ji27 rfl rfl Try.underlying30 (.int .u64 0) 8 info22 rfl (by decide) (by omega) 0 (ok := fun _ => True) (okp := fun _ => True) rfl (fun _ hk => hk) trivial (of_decide_eq_true (by first | (with_reducible assumption) | assumption)) (Nat.le_trans (Nat.mul_le_mul_right _ (of_decide_eq_true (by first | (with_reducible assumption) | assumption) : ji27.toNat ≤ 35184372088832)) (by omega)) (Below.refl _ _) (Nat.le_refl _) ?_; intro v219 w39 ho40 hb hg_ hnew_; clear hg_ hnew_; (first | rw [← Ny218.out] at ho40 | (simp only [Int.reduceToNat] at ho40; rw [← Ny218.out] at ho40)); have n0_ := Aside0.mk (Kd.V_elder' (by (with_reducible repeat (first | apply Kd.V_alloc | apply Kd.V_drewN | apply Kd.V_drew)); exact HO_6.out) (Kd.R_base ho40) hb); have n1_ := Aside0.mk (Kd.R_elder' (by (with_reducible repeat (first | apply Kd.R_alloc | apply Kd.R_drewN | apply Kd.R_drew)); exact HO_8.out) (Kd.R_base ho40) hb); have n2_ := Aside0.mk (Kd.R_lower (Kd.R_new' ho40 (Kd.R_lt (by (with_reducible repeat (first | apply Kd.R_alloc | apply Kd.R_drewN | apply Kd.R_drew)); exact HO_8.out))) (below_size (by repeat (first | (with_reducible first | exact HB.out | apply below_alloc | apply pw_below_drewN | apply below_drew1) | exact HB.out)))); have n3_ := Aside0.mk (below_step (by repeat (first | (with_reducible first | exact HB.out | apply below_alloc | apply pw_below_drewN | apply below_drew1) | exact HB.out)) hb); clear HO_6; clear HO_8; clear HB; have HO_6 := n0_; have HO_8 := n1_; have HO220 := n2_; have HB := n3_; clear n0_ n1_ n2_ n3_; clear hb ho40; have p31 : 0 ≤ (0 : Int) := (by omega); have q31 : (0 : Int) < ((y218.length : Int) : Int) := of_decide_eq_true (by first | (with_reducible assumption) | assumption); have qi31 : (0 < y218.length) = True := eq_true (by omega); obtain ⟨go31, co31, eo31, gb31, gl31, cl31, HG31⟩ := Kd.R_form HO220.out (by omega); (first | cases eo31 | (injection eo31 with ea_ en_ ec_; (first | subst ea_ | (injection ea_ with ea_; subst ea_)); subst ec_; clear en_)); have GB31 := Aside0.mk gb31; have GG31 := Aside0.mk HG31; clear gb31 gl31 HG31; obtain ⟨hx31_0, hf31_0⟩ := Kd.R_celln 0 HO220.out (0 : Int) p31 q31; (try rw [show ((0 : Int)).toNat = 0 from rfl] at hx31_0); (try simp only [Nat.reduceMul, Nat.zero_mul, Nat.zero_add, Nat.reduceAdd] at hx31_0); (try rw [show ((0 : Int)).toNat = 0 from rfl] at hf31_0); (try simp only [Nat.reduceMul, Nat.zero_mul, Nat.zero_add, Nat.reduceAdd] at hf31_0); replace p31 := eq_true p31; replace q31 := eq_true q31; have n_ := Aside0.mk (Kd.R_mono (ok' := (fun k_ => some k_ ≠ (.slice Ao38 t213.length co38 : Value).ownBlock)) HO220.out (fun k_ hk => hk.2)); clear HO220; have HO220 := n_; clear n_; obtain ⟨hy41_, hz41_⟩ := Kd.R_celln 0 HO220.out (0 : Int) (by omega) (of_decide_eq_true (by first | (with_reducible assumption) | assumption)); (try simp only [Int.reduceToNat, Int.toNat_zero, Int.toNat_ofNat, Nat.reduceMul, Nat.zero_mul, Nat.zero_add] at hy41_ hz41_); (try rw [show ((0 : Int)).toNat = 0 from rfl] at hy41_); (try rw [show ((0 : Int)).toNat = 0 from rfl] at hz41_); have HP41 := Kd.R_putg HO220.out (0 : Int) 288230376287764480) | ((with_reducible refine gate_store (t := 22) (p := 85) rfl ?_); (try (rw [drewN_self w39]; generalize hq_ : World.drewN w39 _ = w39; have n0_ := Aside0.mk (Kd.V_at hq_ HO_6.out); have n1_ := Aside0.mk (Kd.R_at hq_ HO_8.out); have n2_ := Aside0.mk (Kd.R_at hq_ HO220.out); have n3_ := Aside0.mk (below_at hq_ HB.out); clear hq_ HO_6 HO_8 HO220 HB; have HO_6 := n0_; have HO_8 := n1_; have HO220 := n2_; have HB := n3_; clear n0_ n1_ n2_ n3_; (try (have n_ := Aside0.mk (Kd.R_mono (ok' := (fun k_ => some k_ ≠ (.slice Ao38 t213.length co38 : Value).ownBlock)) HO220.out (fun k_ hk => hk.2)); clear HO220; have HO220 := n_; clear n_)); (try (obtain ⟨hy41_, hz41_⟩ := Kd.R_celln 0 HO220.out (0 : Int) (by omega) (of_decide_eq_true (by first | (with_reducible assumption) | assumption)))); (try (try simp only [Int.reduceToNat, Int.toNat_zero, Int.toNat_ofNat, Nat.reduceMul, Nat.zero_mul, Nat.zero_add] at hy41_ hz41_)); (try (try rw [show ((0 : Int)).toNat = 0 from rfl] at hy41_)); (try (try rw [show ((0 : Int)).toNat = 0 from rfl] at hz41_)); (try (have HP41 := Kd.R_putg HO220.out (0 : Int) 288230376287764480)))); refine store_event (t := 22) (p := 85) (v := ?vo_w42) (w1 := (w39.setCell ⟨go31, (0 : Int).toNat, none⟩ (.int .u64 288230376287764480))) ?hg ?ho ?hn ?hr ?_; (case ho => rfl); (case hg => rfl); (case hn => rfl); (case hr => first | (go_simp; done) | (go_simp; rfl)); intro w42 hw; have hg : w39.grownBy w42 (some go31) := (by rw [hw]; exact HP41.2); have hp_ : Kd.R (Kd.int .u64) 22 w42 w.heap.size (fun k_ => some k_ ≠ (.slice Ao38 t213.length co38 : Value).ownBlock) (.slice (some ⟨go31, 0, none⟩) y218.length co31) y221 := (by rw [hw, Ny221.out]; exact HP41.1); clear HP41; have n0_ := Aside0.mk (Kd.V_afterv (v := (.slice (some ⟨go31, 0, none⟩) y218.length co31)) (v1 := (.slice (some ⟨go31, 0, none⟩) y218.length co31)) (ok := (fun k_ => some k_ ≠ (.slice Ao38 t213.length co38 : Value).ownBlock)) (by (with_reducible repeat (first | apply Kd.V_alloc | apply Kd.V_drewN | apply Kd.V_drew)); exact HO_6.out) hg (.inl rfl)); have n1_ := Aside0.mk (Kd.R_after (v := (.slice (some ⟨go31, 0, none⟩) y218.length co31)) (v1 := (.slice (some ⟨go31, 0, none⟩) y218.length co31)) (ok := (fun _ => True)) (by (with_reducible repeat (first | apply Kd.R_alloc | apply Kd.R_drewN | apply Kd.R_drew)); exact HO_8.out) hg (.inl rfl)); have n2_ := Aside0.mk (hp_); have n3_ := Aside0.mk ((by rw [hw]; exact below_set (HB.out) GB31.out : Below w.heap.size w w42)); clear HO_6; clear HO_8; clear HO220; clear HB; have HO_6 := n0_; have HO_8 := n1_; have HO220 := n2_; have HB := n3_; clear n0_ n1_ n2_ n3_; clear hg hw hp_))
                                  have n0_ := Aside0.mk (Kd.V_drew HO_6.out)
                                  have n1_ := Aside0.mk (Kd.R_drew HO_8.out)
                                  have n2_ := Aside0.mk (Kd.R_drew HO220.out)
                                  have n3_ := Aside0.mk (below_drew1 HB.out)
                                  clear HO_6
                                  clear HO_8
                                  clear HO220
                                  clear HB
                                  have HO_6 := n0_
                                  have HO_8 := n1_
                                  have HO220 := n2_
                                  have HB := n3_
                                  clear n0_ n1_ n2_ n3_
                                  have p222 : 0 ≤ ((ji26) : Int) := of_decide_eq_true (by first | (with_reducible assumption) | assumption)
                                  have q222 : (ji26) < (y221.length : Int) := (by have h_ : ((ji26) : Int) < ((y218.length : Int) : Int) := of_decide_eq_true (by first | (with_reducible assumption) | assumption); first | (have e_ := (Kd.R_reads' HO220.out).1; omega) | simpa only [Ny221.out, List.length_set] using h_)
                                  have ql222 : (((ji26) : Int) < ((y218.length : Int) : Int)) = True := eq_true (of_decide_eq_true (by first | (with_reducible assumption) | assumption))
                                  obtain ⟨ad222, e222, hx222_0⟩ := Kd.at_int (Kd.R_reads' HO220.out).2.2 (ji26) p222 q222
                                  obtain rfl : (⟨go31, 0, none⟩ : Addr) = ad222 := (by injection e222)
                                  (first | simp only [add_plain] at hx222_0 | simp only [add_at] at hx222_0 | simp only [Addr.add, Nat.zero_add] at hx222_0 | skip)
                                  replace p222 := eq_true p222
                                  replace q222 := eq_true q222
                                  refine start_ (n := 11) (S := fun w' => w'.cell? ⟨go31, ((ji26)).toNat, none⟩ = some (.int .u64 (rd y221 (ji26)))) (ds := [10]) #[false, false, false, false, false, false, false, false, false, false, false] (by kernel_rfl) rfl rfl (hx222_0) (fun hHeld => ?_); refine with_tabW obollaw13_PolyVanishes.tab17 obollaw13_PolyVanishes.bits17 (fun HT_ HW_ => ?_)
                                  generalize w42.drew = w43 at HO_6 HO_8 HO220 HB hx222_0 hHeld ⊢
                                  refine pure_ (i := 0) (N := some 86) (v := ?_) (a' := ?_) #[true, false, false, false, false, false, false, false, false, false, false] rfl rfl (any_of HT_.out (by kernel_rfl)) (fun _ _ _ h => h) (Or.inl ⟨by rfl, ?_⟩) ?_ ?_
                                  rotate_left
                                  · intro w'
                                    go_simp
                                    with_reducible rfl
                                  rotate_left
                                  · simp only [Act.put, List.setIfInBounds_toArray, List.set_cons_zero, List.set_cons_succ, i64_w, i32_w]
                                    rfl
                                  refine pure_ (i := 1) (N := some 87) (v := ?_) (a' := ?_) #[true, true, false, false, false, false, false, false, false, false, false] rfl rfl (any_of HT_.out (by kernel_rfl)) (fun _ _ _ h => h) (Or.inl ⟨by rfl, ?_⟩) ?_ ?_
                                  rotate_left
                                  · intro w'
                                    go_simp
                                    with_reducible rfl
                                  rotate_left
                                  · simp only [Act.put, List.setIfInBounds_toArray, List.set_cons_zero, List.set_cons_succ, i64_w, i32_w]
                                    rfl
                                  refine pure_ (i := 2) (N := some 88) (v := ?_) (a' := ?_) #[true, true, true, false, false, false, false, false, false, false, false] rfl rfl (any_of HT_.out (by kernel_rfl)) (fun _ _ _ h => h) (Or.inl ⟨by rfl, ?_⟩) ?_ ?_
                                  rotate_left
                                  · intro w'
                                    go_simp
                                    with_reducible rfl
                                  rotate_left
                                  · simp only [Act.put, List.setIfInBounds_toArray, List.set_cons_zero, List.set_cons_succ, i64_w, i32_w]
                                    rfl
                                  refine pure_ (i := 3) (N := some 89) (v := ?_) (a' := ?_) #[true, true, true, true, false, false, false, false, false, false, false] rfl rfl (any_of HT_.out (by kernel_rfl)) (fun _ _ _ h => h) (Or.inl ⟨by rfl, ?_⟩) ?_ ?_
                                  rotate_left
                                  · intro w'
                                    go_simp
                                    with_reducible rfl
                                  rotate_left
                                  · simp only [Act.put, List.setIfInBounds_toArray, List.set_cons_zero, List.set_cons_succ, i64_w, i32_w]
                                    rfl
                                  refine pure_ (i := 4) (N := some 90) (v := ?_) (a' := ?_) #[true, true, true, true, true, false, false, false, false, false, false] rfl rfl (any_of HT_.out (by kernel_rfl)) (fun _ _ _ h => h) (Or.inl ⟨by rfl, ?_⟩) ?_ ?_
                                  rotate_left
                                  · intro w'
                                    go_simp
                                    with_reducible rfl
                                  rotate_left
                                  · simp only [Act.put, List.setIfInBounds_toArray, List.set_cons_zero, List.set_cons_succ, i64_w, i32_w]
                                    rfl
                                  refine pure_ (i := 5) (N := some 91) (v := ?_) (a' := ?_) #[true, true, true, true, true, true, false, false, false, false, false] rfl rfl (any_of HT_.out (by kernel_rfl)) (fun _ _ _ h => h) (Or.inl ⟨by rfl, ?_⟩) ?_ ?_
                                  rotate_left
                                  · intro w'
                                    go_simp
                                    with_reducible rfl
                                  rotate_left
                                  · simp only [Act.put, List.setIfInBounds_toArray, List.set_cons_zero, List.set_cons_succ, i64_w, i32_w]
                                    rfl
                                  refine pure_ (i := 6) (N := some 92) (v := ?_) (a' := ?_) #[true, true, true, true, true, true, true, false, false, false, false] rfl rfl (any_of HT_.out (by kernel_rfl)) (fun _ _ _ h => h) (Or.inl ⟨by rfl, ?_⟩) ?_ ?_
                                  rotate_left
                                  · intro w'
                                    go_simp
                                    with_reducible rfl
                                  rotate_left
                                  · simp only [Act.put, List.setIfInBounds_toArray, List.set_cons_zero, List.set_cons_succ, i64_w, i32_w]
                                    rfl
                                  refine take_ (i := 7) (N := some 93) (v := ?_) (a' := ?_) #[true, true, true, true, true, true, true, true, false, false, false] rfl rfl (take_ofW HT_.out HW_.out (by kernel_rfl)) (fun _ _ _ h => h) (Or.inl ⟨by rfl, ?_⟩) hHeld ?_ ?_
                                  rotate_left
                                  · intro w' s0
                                    go_simp
                                    with_reducible rfl
                                  rotate_left
                                  · simp only [Act.put, List.setIfInBounds_toArray, List.set_cons_zero, List.set_cons_succ, i64_w, i32_w]
                                    rfl
                                  refine one_ (i := 8) (N := some 94) #[true, true, true, true, true, true, true, true, true, false, false] rfl rfl (one_of HT_.out (by kernel_rfl)) (by decide) (fun K hK => ?_)
                                  refine goes_ Try.func32 (by kernel_rfl) rfl #[.int .u64 (rd y221 (ji26)), .int .u64 1] (by rfl) rfl rfl (by (try simp only [List.map_toArray, List.map_cons, List.map_nil]); first | done | (simp only [hji26]; rfl) | rfl | (simp only [List.length_drop, List.length_take]; rfl)) ?_
                                  with_reducible refine (obolref07_Plus.calls (rd y221 (ji26)) 1 t223 _ A36.out).mono ?_
                                  rintro e w' ⟨rfl, ⟨nd, rfl⟩⟩
                                  refine ⟨_, rfl, ?_⟩
                                  have p37 : 0 ≤ ((ji26) : Int) := of_decide_eq_true (by first | (with_reducible assumption) | assumption)
                                  have q37 : ((ji26) : Int) < ((y218.length : Int) : Int) := of_decide_eq_true (by first | (with_reducible assumption) | assumption)
                                  obtain ⟨hx37_0, hf37_0⟩ := Kd.R_celln 0 HO220.out ((ji26) : Int) p37 q37
                                  replace p37 := eq_true p37
                                  replace q37 := eq_true q37
                                  have HP44 := Kd.R_putn HO220.out ((ji26) : Int) t223
                                  rw [← Ny224.out] at HP44
                                  have HQ44 := Aside0.mk HP44
                                  clear HP44
                                  refine hK.out _ _ (hHeld) (fun hHeld => ?_)
                                  clear hK K
                                  refine norm_ (a' := ?_) ?_ ?_
                                  rotate_left
                                  · show Act.put _ (some 94) _ = _
                                    simp only [Act.put, List.setIfInBounds_toArray, List.set_cons_zero, List.set_cons_succ, i64_w, i32_w]
                                    rfl
                                  refine pure_ (i := 9) (N := some 95) (v := ?_) (a' := ?_) #[true, true, true, true, true, true, true, true, true, true, false] rfl rfl (any_of HT_.out (by kernel_rfl)) (fun _ _ _ h => h) (Or.inl ⟨by rfl, ?_⟩) ?_ ?_
                                  rotate_left
                                  · intro w'
                                    go_simp
                                    with_reducible rfl
                                  rotate_left
                                  · simp only [Act.put, List.setIfInBounds_toArray, List.set_cons_zero, List.set_cons_succ, i64_w, i32_w]
                                    rfl
                                  refine last_ (i := 10) (N := none) #[true, true, true, true, true, true, true, true, true, true, true] rfl rfl (one_of HT_.out (by kernel_rfl)) (by decide) (fun K hK => ?_)
                                  refine skip_ (w1 := ?_) (by rfl) rfl ?_ ?_
                                  rotate_left
                                  · first
                                    | (go_simp; simp only [setCell_drewN_]; rfl; done)
                                    | (go_simp; rfl; done)
                                    | (simp only [setCell_drewN_]; go_simp; rfl)
                                  refine hK.out _ _ ?_
                                  clear hK K
                                  refine done_ (done_of HT_.out (by kernel_rfl)) ?_
                                  try go_wp2
                                  go_loopg [12, 13] k3 (fun kq v12 v13 w' => ∃ (x12_4 : List Int) (x13_4 : Int), v13 = .int .i64 x13_4 ∧ Aside0 (obollaw13_PolyVanishes.l1 kq l0 t207 t208 t211 y224 x12_4 x13_4 = some r) ∧ Aside0 (kq ≤ k3) ∧ Aside0 (Kd.V (Kd.int .u64) 22 w' w.heap.size (fun k_ => some k_ ≠ ((.slice (some ⟨go31, 0, none⟩) y218.length co31) : Value).ownBlock ∧ some k_ ≠ (v12 : Value).ownBlock) v209 t208) ∧ Aside0 (Kd.R (Kd.int .u64) 22 w' w.heap.size (fun k_ => some k_ ≠ (v12 : Value).ownBlock) (.slice (some ⟨go31, 0, none⟩) y218.length co31) y224) ∧ Aside0 (Kd.R (Kd.int .u64) 22 w' w.heap.size (fun k_ => some k_ ≠ ((.slice (some ⟨go31, 0, none⟩) y218.length co31) : Value).ownBlock) v12 x12_4) ∧ Aside0 (Below w.heap.size w w'))
                                  case atStart => exact ⟨(([] : List Int)), (0), (by first | rfl | (simp; done) | (simp [*]; done)), H', ⟨Nat.le_refl _⟩, ⟨by (with_reducible repeat (first | apply Kd.V_alloc | apply Kd.V_drewN | apply Kd.V_drew)); exact Kd.V_mono (Kd.V_far (p := ⟨go31, ((ji26) : Int).toNat, none⟩) (Kd.V_mono HO_6.out (fun k_ hk => (⟨hk, fun e_ => hk.2 (by rw [e_]; rfl)⟩ : _ ∧ k_ ≠ go31))) (fun _ hk => hk.2) (.int .u64 t223)) (fun _ hk => ⟨hk.1.2, (by simp [Value.ownBlock])⟩)⟩, ⟨by (with_reducible repeat (first | apply Kd.R_alloc | apply Kd.R_drewN | apply Kd.R_drew)); exact Kd.R_mono HQ44.out (fun _ hk => (by simp [Value.ownBlock]))⟩, ⟨by first | exact Kd.R_nil _ _ _ _ _ | exact Kd.N_nil _ _ _ _ _ | exact Kd.V_nil _ _ _ _ _ | exact Kd.Q_nil _ _ _ _ _ | exact Kd.S_nil _ _ _ _ _⟩, ⟨by repeat (first | (with_reducible first | exact HB.out | apply below_alloc | apply pw_below_drewN | apply below_drew1 | refine below_set ?_ GB31.out) | exact HB.out)⟩⟩
                                  case round =>
                                    clear H'
                                    try clear c1
                                    try clear c2
                                    try clear p2
                                    try clear q2
                                    try clear hx2
                                    try clear c3
                                    try clear p3
                                    try clear q3
                                    try clear hx3
                                    try clear qi3
                                    try clear hf3
                                    try clear c5
                                    try clear c6
                                    try clear c6b0
                                    try clear p6
                                    try clear c7
                                    try clear c7b0
                                    try clear c8
                                    try clear c12
                                    try clear c12b0
                                    try clear c13
                                    try clear c14
                                    try clear c15
                                    try clear c15b0
                                    try clear c15b1
                                    try clear c19
                                    try clear c19b0
                                    try clear c20
                                    try clear c21
                                    try clear c21b0
                                    try clear p21
                                    try clear q21
                                    try clear hx21
                                    try clear p22
                                    try clear q22
                                    try clear hx22
                                    try clear c24
                                    try clear c25
                                    try clear c25b0
                                    try clear c25b1
                                    try clear c28
                                    try clear c28b0
                                    try clear c28b1
                                    try clear c29
                                    try clear c29b0
                                    try clear c29b1
                                    try clear c30
                                    try clear c30b0
                                    try clear c30b1
                                    try clear c31
                                    try clear p31
                                    try clear q31
                                    try clear hx31
                                    try clear qi31
                                    try clear hf31
                                    try clear c32
                                    try clear c32b0
                                    try clear c33
                                    try clear c33b0
                                    try clear c34
                                    try clear c34b0
                                    try clear c35
                                    try clear c35b0
                                    try clear p37
                                    try clear q37
                                    try clear hx37
                                    try clear hf37
                                    try clear hx216_0
                                    try clear hx222_0
                                    try clear hx31_0
                                    try clear hx37_0
                                    try clear p2
                                    try clear p216
                                    try clear p222
                                    try clear p31
                                    try clear p37
                                    try clear q2
                                    try clear q212
                                    try clear q216
                                    try clear q222
                                    try clear q31
                                    try clear q37
                                    obtain ⟨x12_4, x13_4, rfl, HA, HK4, HO_6, HO_11, HO_12, HB⟩ := hrel
                                    have hl11_4 := (Kd.R_reads' HO_11.out).1
                                    rw [hl11_4] at HO_11
                                    (try simp only [hl11_4])
                                    (try simp only [hl11_4] at HO_6)
                                    (try simp only [hl11_4] at HO_12)
                                    cases gk with
                                    | zero => exact absurd HA.out (by simp [obollaw13_PolyVanishes.l1])
                                    | succ k4 =>
                                      have H := HA.out
                                      clear HA
                                      simp only [obollaw13_PolyVanishes.l1] at H
                                      by_cases c45 : x13_4 < (l0.length : Int)
                                      · rw [if_pos c45] at H
                                        have c45b0 : decide (x13_4 < (l0.length : Int)) = true := decide_eq_true c45
                                        (try (have c45Lhl11_4 := c45b0; simp only [hl11_4] at c45Lhl11_4))
                                        clear c45
                                        by_cases c46 : 0 ≤ x13_4
                                        · rw [if_pos c46] at H
                                          have c46b0 : decide (0 ≤ x13_4) = true := decide_eq_true c46
                                          (try (have c46Lhl11_4 := c46b0; simp only [hl11_4] at c46Lhl11_4))
                                          clear c46
                                          by_cases c47 : x12_4.length < 17592186044416
                                          · rw [if_pos c47] at H
                                            have LMc47 := Aside0.mk c47
                                            clear c47
                                            obtain ⟨y226, hy226⟩ : ∃ y_ : List Int, y_ = (x12_4 ++ [Int.tmod (rd l0 x13_4) 288230376287764481]) := ⟨_, rfl⟩
                                            replace H : (obollaw13_PolyVanishes.l1 k4 l0 t207 t208 t211 y224 y226 (wrap64 (x13_4 + 1))) = some r := by first | (rw [hy226]; with_reducible exact H) | (have H2_ := (Option.bind_some _ _).symm.trans H; rw [hy226]; with_reducible exact H2_) | (have H2_ := (Option.bind_some _ _).symm.trans H; with_reducible exact H2_) | with_reducible exact H | (rw [hy226]; exact H) | exact H
                                            have Ny226 := Aside0.mk hy226
                                            clear hy226
                                            have H' := Aside0.mk H
                                            clear H
                                            have p225 : 0 ≤ (x13_4 : Int) := of_decide_eq_true (by first | (with_reducible assumption) | assumption)
                                            have q225 : x13_4 < (l0.length : Int) := of_decide_eq_true (by first | (with_reducible assumption) | assumption)
                                            obtain ⟨ad225, e225, hx225_0⟩ := Kd.at_int HR0.out x13_4 p225 q225
                                            cases e225
                                            replace hx225_0 := (HB.out.cell (World.block_lt_of_cell? w _ hx225_0)).trans hx225_0
                                            replace p225 := eq_true p225
                                            replace q225 := eq_true q225
                                            go_wp2_with (first | ((with_reducible refine gate_builtin (b := .append) (xs := #[.tmp 102, .tmp 108]) rfl ?_); (try (refine gate_guard (by rfl) ?_; dsimp only)); at_builtin; refine Kd.R_append (Kd.int .u64) (w0 := w) w.heap.size rfl (.tmp 102) (.tmp 108) 30 22 (.int .u64 0) 8 rfl Try.underlying30 info22 rfl (by decide) (by omega) u12 x12_4 (Int.tmod (rd l0 x13_4) 288230376287764481) [.int .u64 (Int.tmod (rd l0 x13_4) 288230376287764481)] (fun k_ => some k_ ≠ (.slice (some ⟨go31, 0, none⟩) y224.length co31 : Value).ownBlock) (fun _ => False) rfl rfl ?aP (fun _ hk => hk.elim) ?aF ?aO ?aB ?aS ?aL ?_; (case aP => exact rfl); (case aB => exact (by repeat (first | (with_reducible first | exact HB.out | apply below_alloc | apply pw_below_drewN | apply below_drew1) | exact HB.out))); (case aF => exact (fun k_ hk => Kd.fresh' (Kd.R_lt (by (with_reducible repeat (first | apply Kd.R_alloc | apply Kd.R_drewN | apply Kd.R_drew)); exact HO_11.out)) k_ hk)); (case aO => exact (by (with_reducible repeat (first | apply Kd.R_alloc | apply Kd.R_drewN | apply Kd.R_drew)); exact HO_12.out)); (case aS => exact (below_size (by repeat (first | (with_reducible first | exact HB.out | apply below_alloc | apply pw_below_drewN | apply below_drew1) | exact HB.out)))); (case aL => have := LMc47.out; omega); intro v227 w48 ho hb hg hat; rw [← Ny226.out] at ho; have n0_ := Aside0.mk (Kd.V_afterv (ok := (fun k_ => some k_ ≠ (.slice (some ⟨go31, 0, none⟩) y224.length co31 : Value).ownBlock)) (by (with_reducible repeat (first | apply Kd.V_alloc | apply Kd.V_drewN | apply Kd.V_drew)); exact HO_6.out) hg hat); have n1_ := Aside0.mk (Kd.R_after (ok := (fun _ => True)) (by (with_reducible repeat (first | apply Kd.R_alloc | apply Kd.R_drewN | apply Kd.R_drew)); exact Kd.R_mono HO_11.out (fun _ hk => ⟨trivial, hk⟩)) hg hat); have n2_ := Aside0.mk (hb); have n3_ := Aside0.mk (ho); clear HO_6; clear HO_11; clear HB; clear HO_12; have HO_6 := n0_; have HO_11 := n1_; have HB := n2_; have HO228 := n3_; clear n0_ n1_ n2_ n3_; clear ho hb hg hat))
                                            (try simp only [← hl11_4])
                                            go_roundg k4
                                            case measure => have := HJ3.out; have := HJ9.out; have := HK3.out; have := HK4.out; omega
                                            case rel => exact ⟨(y226), (wrap64 (x13_4 + 1)), (by first | rfl | (simp; done) | (simp [*]; done)), H', ⟨by have := HJ3.out; have := HJ9.out; have := HK3.out; have := HK4.out; omega⟩, ⟨by (try simp only [hl11_4]); (with_reducible repeat (first | apply Kd.V_alloc | apply Kd.V_drewN | apply Kd.V_drew)); exact HO_6.out⟩, ⟨by (try simp only [hl11_4]); (with_reducible repeat (first | apply Kd.R_alloc | apply Kd.R_drewN | apply Kd.R_drew)); exact Kd.R_mono HO_11.out (fun _ hk => hk.2)⟩, ⟨by (try simp only [hl11_4]); (with_reducible repeat (first | apply Kd.R_alloc | apply Kd.R_drewN | apply Kd.R_drew)); exact HO228.out⟩, ⟨by repeat (first | (with_reducible first | exact HB.out | apply below_alloc | apply pw_below_drewN | apply below_drew1) | exact HB.out)⟩⟩
                                          · rw [if_neg c47] at H
                                            exact absurd H (by simp)
                                        · rw [if_neg c46] at H
                                          exact absurd H (by simp)
                                      · rw [if_neg c45] at H
                                        have c45b0 : decide (x13_4 < (l0.length : Int)) = false := decide_eq_false c45
                                        (try (have c45Lhl11_4 := c45b0; simp only [hl11_4] at c45Lhl11_4))
                                        clear c45
                                        by_cases c49 : t207 = true
                                        · subst c49
                                          have H1 : (if t211.isNone = true then ((obolref13_Mul.f k4 t208 y224).bind fun t230 => ((obolref13_Short.f k4 x12_4).bind fun t233 => ((obolref13_Same.f k4 t230 t233).bind fun t236 => (if t236 = true then ((obolref13_Short.f k4 t208).bind fun t237 => ((obolref13_Same.f k4 t208 t237).bind fun t240 => (some t240))) else (none))))) else (none)) = some r := by rw [if_pos rfl] at H; exact H
                                          clear H
                                          have H := H1
                                          clear H1
                                          rcases t211 with _ | q229
                                          · have H1 : ((obolref13_Mul.f k4 t208 y224).bind fun t230 => ((obolref13_Short.f k4 x12_4).bind fun t233 => ((obolref13_Same.f k4 t230 t233).bind fun t236 => (if t236 = true then ((obolref13_Short.f k4 t208).bind fun t237 => ((obolref13_Same.f k4 t208 t237).bind fun t240 => (some t240))) else (none))))) = some r := by rw [if_pos (show (none : Option Int).isNone = true by rfl)] at H; exact H
                                            clear H
                                            have H := H1
                                            clear H1
                                            try simp only [errW_none, errW_some]
                                            replace H := Option.bind_eq_some_iff.mp H
                                            obtain ⟨t230, A500, H⟩ := H
                                            replace H : ((obolref13_Short.f k4 x12_4).bind fun t233 => ((obolref13_Same.f k4 t230 t233).bind fun t236 => (if t236 = true then ((obolref13_Short.f k4 t208).bind fun t237 => ((obolref13_Same.f k4 t208 t237).bind fun t240 => (some t240))) else (none)))) = some r := H
                                            have A50 := Aside0.mk A500
                                            clear A500
                                            replace H := Option.bind_eq_some_iff.mp H
                                            obtain ⟨t233, A510, H⟩ := H
                                            replace H : ((obolref13_Same.f k4 t230 t233).bind fun t236 => (if t236 = true then ((obolref13_Short.f k4 t208).bind fun t237 => ((obolref13_Same.f k4 t208 t237).bind fun t240 => (some t240))) else (none))) = some r := H
                                            have A51 := Aside0.mk A510
                                            clear A510
                                            replace H := Option.bind_eq_some_iff.mp H
                                            obtain ⟨t236, A520, H⟩ := H
                                            replace H : (if t236 = true then ((obolref13_Short.f k4 t208).bind fun t237 => ((obolref13_Same.f k4 t208 t237).bind fun t240 => (some t240))) else (none)) = some r := H
                                            have A52 := Aside0.mk A520
                                            clear A520
                                            by_cases c53 : t236 = true
                                            · subst c53
                                              have H1 : ((obolref13_Short.f k4 t208).bind fun t237 => ((obolref13_Same.f k4 t208 t237).bind fun t240 => (some t240))) = some r := by rw [if_pos rfl] at H; exact H
                                              clear H
                                              have H := H1
                                              clear H1
                                              replace H := Option.bind_eq_some_iff.mp H
                                              obtain ⟨t237, A540, H⟩ := H
                                              replace H : ((obolref13_Same.f k4 t208 t237).bind fun t240 => (some t240)) = some r := H
                                              have A54 := Aside0.mk A540
                                              clear A540
                                              replace H := Option.bind_eq_some_iff.mp H
                                              obtain ⟨t240, A550, H⟩ := H
                                              replace H : (some t240) = some r := H
                                              have A55 := Aside0.mk A550
                                              clear A550
                                              obtain rfl := Option.some.inj H
                                              obtain ⟨Ao56, co56, eo56⟩ := Kd.V_slice HO_6.out
                                              subst eo56
                                              go_wp2_with (first | (go_at_call 34; (with_reducible refine (obolref13_Mul.calls k4 _ _ t208 _ _ y224 t230 _ ?side1 ?side2 ?side3 ?side4 A50.out).mono ?_); (case side1 => repeat (first | exact (Kd.V_reads' HO_6.out).2.2 | (with_reducible refine Kd.C_alloc ?_ _) | (with_reducible refine Kd.C_drewN ?_ _) | (with_reducible refine Kd.C_drew ?_))); (case side2 => exact (Kd.V_reads' HO_6.out).2.1); (case side3 => repeat (first | exact (Kd.R_reads' HO_11.out).2.2 | (with_reducible refine Kd.C_alloc ?_ _) | (with_reducible refine Kd.C_drewN ?_ _) | (with_reducible refine Kd.C_drew ?_))); (case side4 => exact (Kd.R_reads' HO_11.out).2.1); rintro e w57 ⟨v231, rfl, ho0, hb⟩; have n0_ := Aside0.mk (Kd.V_below (by (with_reducible repeat (first | apply Kd.V_alloc | apply Kd.V_drewN | apply Kd.V_drew)); exact HO_6.out) hb); have n1_ := Aside0.mk (Kd.R_below (by (with_reducible repeat (first | apply Kd.R_alloc | apply Kd.R_drewN | apply Kd.R_drew)); exact HO_11.out) hb); have n2_ := Aside0.mk (Kd.R_below (by (with_reducible repeat (first | apply Kd.R_alloc | apply Kd.R_drewN | apply Kd.R_drew)); exact HO_12.out) hb); have n3_ := Aside0.mk (Kd.V_lower (Kd.V_mono (ok' := fun k_ => some k_ ≠ (.slice (some ⟨go31, 0, none⟩) y224.length co31 : Value).ownBlock ∧ some k_ ≠ (u12 : Value).ownBlock) ho0 (fun k_ hk_ => ⟨(Kd.fresh' (Kd.R_lt (by (with_reducible repeat (first | apply Kd.R_alloc | apply Kd.R_drewN | apply Kd.R_drew)); exact HO_11.out)) k_ hk_), (Kd.fresh' (Kd.R_lt (by (with_reducible repeat (first | apply Kd.R_alloc | apply Kd.R_drewN | apply Kd.R_drew)); exact HO_12.out)) k_ hk_)⟩)) (below_size (by repeat (first | (with_reducible first | exact HB.out | apply below_alloc | apply pw_below_drewN | apply below_drew1) | exact HB.out)))); have n4_ := Aside0.mk (below_step (by repeat (first | (with_reducible first | exact HB.out | apply below_alloc | apply pw_below_drewN | apply below_drew1) | exact HB.out)) hb); clear HO_6; clear HO_11; clear HO_12; clear HB; have HO_6 := n0_; have HO_11 := n1_; have HO_12 := n2_; have HO232 := n3_; have HB := n4_; clear n0_ n1_ n2_ n3_ n4_; (try clear hb); (try clear hb2); (try clear hk); (try clear hi); (try clear ho0); obtain ⟨Ao58, co58, eo58⟩ := Kd.R_slice HO_12.out; subst eo58) | (go_at_call 35; (with_reducible refine (obolref13_Short.calls k4 (fun k_ => some k_ = (.slice Ao58 x12_4.length co58 : Value).ownBlock) _ _ x12_4 t233 _ ?side1 A51.out).mono ?_); (case side1 => exact Kd.R_V (Kd.R_tight rfl (HO_12.out))); rintro e w59 ⟨v234, rfl, ho0, hb⟩; have n0_ := Aside0.mk (Kd.V_below (by (with_reducible repeat (first | apply Kd.V_alloc | apply Kd.V_drewN | apply Kd.V_drew)); exact HO_6.out) hb); have n1_ := Aside0.mk (Kd.R_below (by (with_reducible repeat (first | apply Kd.R_alloc | apply Kd.R_drewN | apply Kd.R_drew)); exact HO_11.out) hb); have n2_ := Aside0.mk (Kd.R_below (by (with_reducible repeat (first | apply Kd.R_alloc | apply Kd.R_drewN | apply Kd.R_drew)); exact HO_12.out) hb); have n3_ := Aside0.mk (Kd.V_below (by (with_reducible repeat (first | apply Kd.V_alloc | apply Kd.V_drewN | apply Kd.V_drew)); exact HO232.out) hb); have n4_ := Aside0.mk (Kd.V_lower (Kd.V_mono (ok' := fun k_ => some k_ ≠ (.slice (some ⟨go31, 0, none⟩) y224.length co31 : Value).ownBlock) ho0 (fun k_ hk_ => Or.elim hk_ (fun hs_ => ((HO_12.out).1 k_ hs_.symm)) (fun hn_ => (Kd.fresh' (Kd.R_lt (by (with_reducible repeat (first | apply Kd.R_alloc | apply Kd.R_drewN | apply Kd.R_drew)); exact HO_11.out)) k_ hn_)))) (below_size (by repeat (first | (with_reducible first | exact HB.out | apply below_alloc | apply pw_below_drewN | apply below_drew1) | exact HB.out)))); have n5_ := Aside0.mk (below_step (by repeat (first | (with_reducible first | exact HB.out | apply below_alloc | apply pw_below_drewN | apply below_drew1) | exact HB.out)) hb); clear HO_6; clear HO_11; clear HO_12; clear HO232; clear HB; have HO_6 := n0_; have HO_11 := n1_; have HO_12 := n2_; have HO232 := n3_; have HO235 := n4_; have HB := n5_; clear n0_ n1_ n2_ n3_ n4_ n5_; (try clear hb); (try clear hb2); (try clear hk); (try clear hi); (try clear ho0); obtain ⟨Ao60, co60, eo60⟩ := Kd.V_slice HO232.out; subst eo60; obtain ⟨Ao61, co61, eo61⟩ := Kd.V_slice HO235.out; subst eo61) | (go_at_call 33; (with_reducible refine (obolref13_Same.calls k4 _ _ t230 _ _ t233 true _ ?side1 ?side2 ?side3 ?side4 A52.out).mono ?_); (case side1 => repeat (first | exact (Kd.V_reads' HO232.out).2.2 | (with_reducible refine Kd.C_alloc ?_ _) | (with_reducible refine Kd.C_drewN ?_ _) | (with_reducible refine Kd.C_drew ?_))); (case side2 => exact (Kd.V_reads' HO232.out).2.1); (case side3 => repeat (first | exact (Kd.V_reads' HO235.out).2.2 | (with_reducible refine Kd.C_alloc ?_ _) | (with_reducible refine Kd.C_drewN ?_ _) | (with_reducible refine Kd.C_drew ?_))); (case side4 => exact (Kd.V_reads' HO235.out).2.1); rintro e w' ⟨rfl, ⟨nd, rfl⟩⟩) | (go_at_call 35; (with_reducible refine (obolref13_Short.calls k4 (fun k_ => (some k_ ≠ (.slice (some ⟨go31, 0, none⟩) y224.length co31 : Value).ownBlock ∧ some k_ ≠ (.slice Ao58 x12_4.length co58 : Value).ownBlock)) _ _ t208 t237 _ ?side1 A54.out).mono ?_); (case side1 => exact HO_6.out); rintro e w62 ⟨v238, rfl, ho0, hb⟩; have n0_ := Aside0.mk (Kd.V_below (by (with_reducible repeat (first | apply Kd.V_alloc | apply Kd.V_drewN | apply Kd.V_drew)); exact HO_6.out) hb); have n1_ := Aside0.mk (Kd.R_below (by (with_reducible repeat (first | apply Kd.R_alloc | apply Kd.R_drewN | apply Kd.R_drew)); exact HO_11.out) hb); have n2_ := Aside0.mk (Kd.R_below (by (with_reducible repeat (first | apply Kd.R_alloc | apply Kd.R_drewN | apply Kd.R_drew)); exact HO_12.out) hb); have n3_ := Aside0.mk (Kd.V_below (by (with_reducible repeat (first | apply Kd.V_alloc | apply Kd.V_drewN | apply Kd.V_drew)); exact HO232.out) hb); have n4_ := Aside0.mk (Kd.V_below (by (with_reducible repeat (first | apply Kd.V_alloc | apply Kd.V_drewN | apply Kd.V_drew)); exact HO235.out) hb); have n5_ := Aside0.mk (Kd.V_lower (Kd.V_mono (ok' := fun k_ => some k_ ≠ (.slice (some ⟨go31, 0, none⟩) y224.length co31 : Value).ownBlock ∧ some k_ ≠ (.slice Ao58 x12_4.length co58 : Value).ownBlock) ho0 (fun k_ hk_ => ⟨Or.elim hk_ (fun hs_ => hs_.1) (fun hn_ => (Kd.fresh' (Kd.R_lt (by (with_reducible repeat (first | apply Kd.R_alloc | apply Kd.R_drewN | apply Kd.R_drew)); exact HO_11.out)) k_ hn_)), Or.elim hk_ (fun hs_ => hs_.2) (fun hn_ => (Kd.fresh' (Kd.R_lt (by (with_reducible repeat (first | apply Kd.R_alloc | apply Kd.R_drewN | apply Kd.R_drew)); exact HO_12.out)) k_ hn_))⟩)) (below_size (by repeat (first | (with_reducible first | exact HB.out | apply below_alloc | apply pw_below_drewN | apply below_drew1) | exact HB.out)))); have n6_ := Aside0.mk (below_step (by repeat (first | (with_reducible first | exact HB.out | apply below_alloc | apply pw_below_drewN | apply below_drew1) | exact HB.out)) hb); clear HO_6; clear HO_11; clear HO_12; clear HO232; clear HO235; clear HB; have HO_6 := n0_; have HO_11 := n1_; have HO_12 := n2_; have HO232 := n3_; have HO235 := n4_; have HO239 := n5_; have HB := n6_; clear n0_ n1_ n2_ n3_ n4_ n5_ n6_; (try clear hb); (try clear hb2); (try clear hk); (try clear hi); (try clear ho0); obtain ⟨Ao63, co63, eo63⟩ := Kd.V_slice HO239.out; subst eo63) | (go_at_call 33; (with_reducible refine (obolref13_Same.calls k4 _ _ t208 _ _ t237 t240 _ ?side1 ?side2 ?side3 ?side4 A55.out).mono ?_); (case side1 => repeat (first | exact (Kd.V_reads' HO_6.out).2.2 | (with_reducible refine Kd.C_alloc ?_ _) | (with_reducible refine Kd.C_drewN ?_ _) | (with_reducible refine Kd.C_drew ?_))); (case side2 => exact (Kd.V_reads' HO_6.out).2.1); (case side3 => repeat (first | exact (Kd.V_reads' HO239.out).2.2 | (with_reducible refine Kd.C_alloc ?_ _) | (with_reducible refine Kd.C_drewN ?_ _) | (with_reducible refine Kd.C_drew ?_))); (case side4 => exact (Kd.V_reads' HO239.out).2.1); rintro e w' ⟨rfl, ⟨nd, rfl⟩⟩))
                                              go_ret
                                              exact ⟨by first | rfl | (simp [errW_none, errW_some] <;> rfl) | (simp only [← hji26, ← hji27]; first | rfl | (simp [errW_none, errW_some] <;> rfl)) | (simp [*, errW_none, errW_some] <;> rfl), by repeat (first | (with_reducible first | exact HB.out | apply below_alloc | apply pw_below_drewN | apply below_drew1) | exact HB.out)⟩
                                            · replace c53 := Bool.eq_false_iff.mpr c53
                                              subst c53
                                              have H1 : (none) = some r := by rw [if_neg (show ¬ (false = true) by decide)] at H; exact H
                                              clear H
                                              have H := H1
                                              clear H1
                                              exact absurd H (by simp)
                                          · have H1 : (none) = some r := by rw [if_neg (show ¬ (some q229).isNone = true by simp)] at H; exact H
                                            clear H
                                            have H := H1
                                            clear H1
                                            try simp only [errW_none, errW_some]
                                            exact absurd H (by simp)
                                        · replace c49 := Bool.eq_false_iff.mpr c49
                                          subst c49
                                          have H1 : (none) = some r := by rw [if_neg (show ¬ (false = true) by decide)] at H; exact H
                                          clear H
                                          have H := H1
                                          clear H1
                                          exact absurd H (by simp)
                                · rw [if_neg c35] at H
                                  exact absurd H (by simp)
                              · rw [if_neg c34] at H
                                exact absurd H (by simp)
                            · rw [if_neg c30] at H
                              exact absurd H (by simp)
                          · rw [if_neg c29] at H
                            exact absurd H (by simp)
                        · rw [if_neg c28] at H
                          exact absurd H (by simp)
                      · rw [if_neg c25] at H
                        exact absurd H (by simp)
                    · replace c24 := Bool.eq_false_iff.mpr c24
                      subst c24
                      have H1 : (if t207 = true then (if t211.isNone = true then (none) else (if (t211.getD 0) = 8 then (some ((t208.length : Int) == 0)) else (none))) else (none)) = some r := by rw [if_neg (show ¬ (false = true) by decide)] at H; exact H
                      clear H
                      have H := H1
                      clear H1
                      by_cases c64 : t207 = true
                      · subst c64
                        have H1 : (if t211.isNone = true then (none) else (if (t211.getD 0) = 8 then (some ((t208.length : Int) == 0)) else (none))) = some r := by rw [if_pos rfl] at H; exact H
                        clear H
                        have H := H1
                        clear H1
                        rcases t211 with _ | q217
                        · have H1 : (none) = some r := by rw [if_pos (show (none : Option Int).isNone = true by rfl)] at H; exact H
                          clear H
                          have H := H1
                          clear H1
                          try simp only [errW_none, errW_some]
                          exact absurd H (by simp)
                        · have H1 : (if q217 = 8 then (some ((t208.length : Int) == 0)) else (none)) = some r := by rw [if_neg (show ¬ (some q217).isNone = true by simp)] at H; exact H
                          clear H
                          have H := H1
                          clear H1
                          try simp only [errW_none, errW_some]
                          by_cases c65 : q217 = 8
                          · rw [if_pos c65] at H
                            have c65b0 : (q217 == 8) = true := beq_iff_eq.mpr c65
                            have c65b1 : (q217 != 8) = false := bne_eq_false_iff_eq.mpr c65
                            clear c65
                            obtain rfl := Option.some.inj H
                            obtain ⟨Ao66, co66, eo66⟩ := Kd.R_slice HO_8.out
                            subst eo66
                            obtain ⟨Ao67, co67, eo67⟩ := Kd.V_slice HO_6.out
                            subst eo67
                            go_wp2
                            go_ret
                            exact ⟨by first | rfl | (simp [errW_none, errW_some] <;> rfl) | (simp [*, errW_none, errW_some] <;> rfl), by repeat (first | (with_reducible first | exact HB.out | apply below_alloc | apply pw_below_drewN | apply below_drew1) | exact HB.out)⟩
                          · rw [if_neg c65] at H
                            exact absurd H (by simp)
                      · replace c64 := Bool.eq_false_iff.mpr c64
                        subst c64
                        have H1 : (none) = some r := by rw [if_neg (show ¬ (false = true) by decide)] at H; exact H
                        clear H
                        have H := H1
                        clear H1
                        exact absurd H (by simp)

/-- THE ONE PURE STATEMENT of obollaw13_PolyVanishes: yours. -/
def obollaw13_PolyVanishes.Pure : Prop := ∀ (l0 : List Int) (a1 : Int), l0.length ≤ maxLen → l0.length * 8 ≤ 140737488351232 → (∀ x ∈ l0, (Lit.int .u64 x).wf = true) → (Lit.int .i64 a1).wf = true → ∃ k, obollaw13_PolyVanishes.f k l0 a1 = some true
theorem obollaw13_PolyVanishes.walk (P : obollaw13_PolyVanishes.Pure) (a0 : Option Addr) (len0 cap0 : Nat) (z0 : List Int) (a1 : Int) (w : World) (w0 : (a0 = none ∧ len0 = 0 ∧ cap0 = 0 ∧ z0 = []) ∨ ∃ x, a0 = some x ∧ len0 ≤ cap0 ∧ cap0 ≤ maxLen ∧ z0.length = cap0 ∧ (∀ i, i < z0.length → w.cell? (x.add i) = some (.int .u64 (z0.getD i 0))) ∧ ∀ n ∈ z0, (Lit.int .u64 n).wf = true) (y0 : len0 * 8 ≤ 140737488351232) (w1 : (Lit.int .i64 a1).wf = true) :
    Calls Try.prog 5 #[.slice a0 len0 cap0, .int .i64 a1] w fun e w' => e = .returned (.bool true) ∧ Below w.heap.size w w' := by
  obtain ⟨l0, rfl, hr0, hm0, hw0, hc0⟩ := ReadsInt.ofRowC w0
  obtain ⟨k, h⟩ := P l0 a1 hm0 y0 hw0 w1
  refine (obollaw13_PolyVanishes.calls k _ _ l0 a1 true w (Kd.C_of_reads (d := (0 : Int)) (h1 := fun _ => rfl) hr0) hc0 h).mono ?_
  rintro e w' ⟨rfl, hd⟩
  exact ⟨rfl, hd⟩

end Go.Proofs.Ytempibbfdojfiab.PPolyVanishes
