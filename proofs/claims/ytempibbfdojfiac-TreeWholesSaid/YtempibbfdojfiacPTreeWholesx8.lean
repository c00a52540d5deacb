-- printed by a program of this session (wip/tools/mkprint.py)
import Derived.Test.YtempibbfdojfiacPTreeWholesx0
import Derived.Test.YtempibbfdojfiacPTreeWholesx5
import Derived.Test.YtempibbfdojfiacPTreeWholesx7
namespace Go.Proofs.Ytempibbfdojfiac.PTreeWholes
open Go.RowKit Go.Proofs.YtempibbfdojfiacW.PrintWords Go.Proofs.YtempibbfdojfiacW.PrintLast Go.Proofs.YtempibbfdojfiacW.PrintMore
attribute [local go_sem] max2_int min2_int max_two min_two max_three min_three max_four min_four   -- for this text's walks alone
set_option linter.unusedVariables false
set_option linter.unusedSimpArgs false

attribute [local go_sem high] errCmp_eql errCmp_neq errCmpL_eql errCmpL_neq
/-! ### obolref16_empty: function 70 -/
def obolref16_empty.l0 : Nat → Int → Int → Int → Option (Int)
  | 0, _, _, _ => none
  | k + 1, x0, x3, x4 => if x4 < x0 then ((obolref10_Two.f k x3 x3).bind fun t247 => (obolref16_empty.l0 k x0 t247 (wrap64 (x4 + 1)))) else (some x3)
def obolref16_empty.f (k : Nat) (a0 : Int) : Option (Int) := obolref16_empty.l0 k a0 0 0
theorem obolref16_empty.mono_l : ∀ k, (∀ y0 y1 y2, LeO (obolref16_empty.l0 k y0 y1 y2) (obolref16_empty.l0 (k + 1) y0 y1 y2))
  | 0 => fun _ _ _ r h => by simp [obolref16_empty.l0] at h
  | k + 1 => by
    have ih0 := obolref16_empty.mono_l k
    · intro y0 y1 y2
      unfold obolref16_empty.l0
      repeat' first
      | (with_reducible exact ih0 _ _ _)
      | (with_reducible exact obolref10_Two.mono _ _ _)
      | (with_reducible exact LeO.refl _)
      | (with_reducible exact LeO.none _)
      | (with_reducible refine LeO.ite ?_ ?_)
      | (with_reducible refine LeO.bind ?_ (fun _ => ?_))
      | exact ih0 _ _ _
      | exact obolref10_Two.mono _ _ _
      | exact LeO.none _
      | refine LeO.ite ?_ ?_
      | refine LeO.bind ?_ (fun _ => ?_)
theorem obolref16_empty.mono : ∀ a0 k, LeO (obolref16_empty.f k a0) (obolref16_empty.f (k + 1) a0) := by
  intro a0 k
  have ih0 := obolref16_empty.mono_l k
  unfold obolref16_empty.f
  repeat' first
      | (with_reducible exact ih0 _ _ _)
      | (with_reducible exact obolref10_Two.mono _ _ _)
      | (with_reducible exact LeO.refl _)
      | (with_reducible exact LeO.none _)
      | (with_reducible refine LeO.ite ?_ ?_)
      | (with_reducible refine LeO.bind ?_ (fun _ => ?_))
      | exact ih0 _ _ _
      | exact obolref10_Two.mono _ _ _
      | exact LeO.none _
      | refine LeO.ite ?_ ?_
      | refine LeO.bind ?_ (fun _ => ?_)
set_option maxHeartbeats 8000000 in
set_option maxRecDepth 100000 in
theorem obolref16_empty.calls (k : Nat) (a0 : Int) (r : Int) (w : World) (h : obolref16_empty.f k a0 = some r) :
    Calls Try.prog 70 #[.int .i64 a0] w fun e w' => e = .returned (.int .u64 r) ∧ Drawn0 w w' := by
  have H : (obolref16_empty.l0 k a0 0 0) = some r := h
  clear h
  have H' := Aside0.mk H
  clear H
  go_enter Try.func70, Try.ntmps70
  go_wp2
  go_loopg [3, 4] k (fun kq v3 v4 w' => ∃ (x3_1 : Int) (x4_1 : Int), v3 = .int .u64 x3_1 ∧ v4 = .int .i64 x4_1 ∧ Aside0 (obolref16_empty.l0 kq a0 x3_1 x4_1 = some r) ∧ Aside0 (kq ≤ k) ∧ Drawn0 w w')
  case atStart => exact ⟨(0), (0), (by first | rfl | (simp; done) | (simp [*]; done)), (by first | rfl | (simp; done) | (simp [*]; done)), H', ⟨Nat.le_refl _⟩, by repeat (first | exact Drawn0.refl _ | apply Drawn0.step)⟩
  case round =>
    clear H'
    obtain ⟨x3_1, x4_1, rfl, rfl, HA, HK1, ⟨m1, rfl⟩⟩ := hrel
    cases gk with
    | zero => exact absurd HA.out (by simp [obolref16_empty.l0])
    | succ k1 =>
      have H := HA.out
      clear HA
      simp only [obolref16_empty.l0] at H
      by_cases c2 : x4_1 < a0
      · rw [if_pos c2] at H
        have c2b0 : decide (x4_1 < a0) = true := decide_eq_true c2
        clear c2
        replace H := Option.bind_eq_some_iff.mp H
        obtain ⟨t247, A30, H⟩ := H
        replace H : (obolref16_empty.l0 k1 a0 t247 (wrap64 (x4_1 + 1))) = some r := H
        have A3 := Aside0.mk A30
        clear A30
        have H' := Aside0.mk H
        clear H
        go_wp2_with (first | ((with_reducible refine gate_callee (f := 37) rfl ?_); refine goesL_ (some 12) rfl rfl Try.func37 (by kernel_rfl) rfl #[.int .u64 x3_1, .int .u64 x3_1] rfl (by (try simp only [List.map_toArray, List.map_cons, List.map_nil]); first | done | rfl | (simp only [List.length_drop, List.length_take]; rfl)) ?_; (with_reducible refine (obolref10_Two.calls k1 x3_1 x3_1 t247 _ A3.out).mono ?_); rintro e w' ⟨rfl, ⟨nd, rfl⟩⟩; refine ⟨_, rfl, ?_⟩))
        go_roundg k1
        case measure => have := HK1.out; omega
        case rel => exact ⟨(t247), (wrap64 (x4_1 + 1)), (by first | rfl | (simp; done) | (simp [*]; done)), (by first | rfl | (simp; done) | (simp [*]; done)), H', ⟨by have := HK1.out; omega⟩, by repeat (first | exact Drawn0.refl _ | apply Drawn0.step)⟩
      · rw [if_neg c2] at H
        have c2b0 : decide (x4_1 < a0) = false := decide_eq_false c2
        clear c2
        obtain rfl := Option.some.inj H
        go_wp2
        go_ret
        exact ⟨by first | rfl | (simp; done) | (simp [*]; done), by repeat (first | exact Drawn0.refl _ | apply Drawn0.step)⟩

/-! ### obolref16_At: function 44 -/
def obolref16_At.f : Nat → List Int → Int → Int → Option (Int)
  | 0, _, _, _ => none
  | k + 1, l0, a1, a2 => if 0 ≤ a1 then (if (shl .i64 a2 a1) ≥ (l0.length : Int) then ((obolref16_empty.f k a1).bind fun t248 => (some t248)) else (if a1 = 0 then (if 0 ≤ a2 then (if a2 < (l0.length : Int) then (some (rd l0 a2)) else (none)) else (none)) else ((obolref16_At.f k l0 (wrap64 (a1 - 1)) (wrap64 (2 * a2))).bind fun t250 => ((obolref16_At.f k l0 (wrap64 (a1 - 1)) (wrap64 ((wrap64 (2 * a2)) + 1))).bind fun t251 => ((obolref10_Two.f k t250 t251).bind fun t252 => (some t252)))))) else (none)
theorem obolref16_At.mono_l : ∀ k, (∀ y0 y1 y2, LeO (obolref16_At.f k y0 y1 y2) (obolref16_At.f (k + 1) y0 y1 y2))
  | 0 => fun _ _ _ r h => by simp [obolref16_At.f] at h
  | k + 1 => by
    have ih0 := obolref16_At.mono_l k
    · intro y0 y1 y2
      unfold obolref16_At.f
      repeat' first
      | (with_reducible exact ih0 _ _ _)
      | (with_reducible exact obolref10_Two.mono _ _ _)
      | (with_reducible exact obolref16_empty.mono _ _)
      | (with_reducible exact LeO.refl _)
      | (with_reducible exact LeO.none _)
      | (with_reducible refine LeO.ite ?_ ?_)
      | (with_reducible refine LeO.bind ?_ (fun _ => ?_))
      | exact ih0 _ _ _
      | exact obolref10_Two.mono _ _ _
      | exact obolref16_empty.mono _ _
      | exact LeO.none _
      | refine LeO.ite ?_ ?_
      | refine LeO.bind ?_ (fun _ => ?_)
theorem obolref16_At.mono : ∀ a0 a1 a2 k, LeO (obolref16_At.f k a0 a1 a2) (obolref16_At.f (k + 1) a0 a1 a2) := by
  intro a0 a1 a2 k
  have ih0 := obolref16_At.mono_l k
  exact ih0 a0 a1 a2
set_option maxHeartbeats 8000000 in
set_option maxRecDepth 100000 in
theorem obolref16_At.calls (k : Nat) : ∀ (A0 : Option Addr) (c0 : Nat) (l0 : List Int) (a1 : Int) (a2 : Int) (r : Int) (w : World) (hr0 : Kd.C (Kd.int .u64) w A0 l0.length l0) (hc0 : l0.length ≤ c0) (h : obolref16_At.f k l0 a1 a2 = some r),
    Calls Try.prog 44 #[.slice A0 l0.length c0, .int .i64 a1, .int .i64 a2] w fun e w' => e = .returned (.int .u64 r) ∧ Drawn0 w w' := by
  induction k using Nat.strongRecOn with
  | _ k ih =>
  intro A0 c0 l0 a1 a2 r w hr0 hc0 h
  cases k with
  | zero => exact absurd h (by simp [obolref16_At.f])
  | succ k =>
  simp only [obolref16_At.f] at h
  have HR0 := Aside0.mk hr0
  have HC0 := Aside0.mk hc0
  clear hr0 hc0
  have H : (if 0 ≤ a1 then (if (shl .i64 a2 a1) ≥ (l0.length : Int) then ((obolref16_empty.f k a1).bind fun t248 => (some t248)) else (if a1 = 0 then (if 0 ≤ a2 then (if a2 < (l0.length : Int) then (some (rd l0 a2)) else (none)) else (none)) else ((obolref16_At.f k l0 (wrap64 (a1 - 1)) (wrap64 (2 * a2))).bind fun t250 => ((obolref16_At.f k l0 (wrap64 (a1 - 1)) (wrap64 ((wrap64 (2 * a2)) + 1))).bind fun t251 => ((obolref10_Two.f k t250 t251).bind fun t252 => (some t252)))))) else (none)) = some r := h
  clear h
  by_cases c4 : 0 ≤ a1
  · rw [if_pos c4] at H
    have c4b0 := eq_true c4
    have c4b1 : decide (0 ≤ a1) = true := decide_eq_true c4
    clear c4
    obtain ⟨ji5, hji5⟩ : ∃ j_ : Int, (shl .i64 a2 a1) = j_ := ⟨_, rfl⟩
    replace H : (if (ji5) ≥ (l0.length : Int) then ((obolref16_empty.f k a1).bind fun t248 => (some t248)) else (if a1 = 0 then (if 0 ≤ a2 then (if a2 < (l0.length : Int) then (some (rd l0 a2)) else (none)) else (none)) else ((obolref16_At.f k l0 (wrap64 (a1 - 1)) (wrap64 (2 * a2))).bind fun t250 => ((obolref16_At.f k l0 (wrap64 (a1 - 1)) (wrap64 ((wrap64 (2 * a2)) + 1))).bind fun t251 => ((obolref10_Two.f k t250 t251).bind fun t252 => (some t252)))))) = some r := by first | (rw [hji5] at H; exact H) | (simp only [hji5] at H ⊢; exact H)
    have hji5_ : (IntKind.i64.wrap (a2 * 2 ^ min a1.toNat 64)) = ji5 := hji5
    have hji5z : a1 ≤ 64 → (IntKind.i64.wrap (a2 * 2 ^ a1.toNat)) = ji5 := shl_small hji5
    have hji5y : (wrap64 (a2 * 2 ^ min a1.toNat 64)) = ji5 := (i64_w _).symm.trans hji5_
    have hji5x : a1 ≤ 64 → (wrap64 (a2 * 2 ^ a1.toNat)) = ji5 := fun h_ => (i64_w _).symm.trans (hji5z h_)
    by_cases c6 : (ji5) ≥ (l0.length : Int)
    · rw [if_pos c6] at H
      have c6b0 : decide ((l0.length : Int) ≤ (ji5)) = true := decide_eq_true c6
      clear c6
      replace H := Option.bind_eq_some_iff.mp H
      obtain ⟨t248, A70, H⟩ := H
      replace H : (some t248) = some r := H
      have A7 := Aside0.mk A70
      clear A70
      obtain rfl := Option.some.inj H
      go_enter Try.func44, Try.ntmps44
      go_wp2_with (first | ((with_reducible refine gate_callee (f := 70) rfl ?_); refine goesL_ (some 14) rfl rfl Try.func70 (by kernel_rfl) rfl #[.int .i64 a1] rfl (by (try simp only [List.map_toArray, List.map_cons, List.map_nil]); first | done | rfl | (simp only [List.length_drop, List.length_take]; rfl)) ?_; (with_reducible refine (obolref16_empty.calls k a1 t248 _ A7.out).mono ?_); rintro e w' ⟨rfl, ⟨nd, rfl⟩⟩; refine ⟨_, rfl, ?_⟩))
      go_ret
      exact ⟨by first | rfl | (simp; done) | (simp only [← hji5] <;> (first | rfl | simp)) | (simp [*]; done), by repeat (first | exact Drawn0.refl _ | apply Drawn0.step)⟩
    · rw [if_neg c6] at H
      have c6b0 : decide ((l0.length : Int) ≤ (ji5)) = false := decide_eq_false c6
      clear c6
      by_cases c8 : a1 = 0
      · rw [if_pos c8] at H
        have c8b0 : (a1 == 0) = true := beq_iff_eq.mpr c8
        have c8b1 : (a1 != 0) = false := bne_eq_false_iff_eq.mpr c8
        have c8b2 : a1 ≤ 64 := by omega
        clear c8
        by_cases c9 : 0 ≤ a2
        · rw [if_pos c9] at H
          have c9b0 : decide (0 ≤ a2) = true := decide_eq_true c9
          clear c9
          by_cases c10 : a2 < (l0.length : Int)
          · rw [if_pos c10] at H
            have c10b0 : decide (a2 < (l0.length : Int)) = true := decide_eq_true c10
            clear c10
            obtain rfl := Option.some.inj H
            have p249 : 0 ≤ (a2 : Int) := of_decide_eq_true (by first | (with_reducible assumption) | assumption)
            have q249 : a2 < (l0.length : Int) := of_decide_eq_true (by first | (with_reducible assumption) | assumption)
            obtain ⟨ad249, e249, hx249_0⟩ := Kd.at_int HR0.out a2 p249 q249
            cases e249
            replace p249 := eq_true p249
            replace q249 := eq_true q249
            go_enter Try.func44, Try.ntmps44
            go_wp2
            go_ret
            exact ⟨by first | rfl | (simp; done) | (simp only [← hji5] <;> (first | rfl | simp)) | (simp [*]; done), by repeat (first | exact Drawn0.refl _ | apply Drawn0.step)⟩
          · rw [if_neg c10] at H
            exact absurd H (by simp)
        · rw [if_neg c9] at H
          exact absurd H (by simp)
      · rw [if_neg c8] at H
        have c8b0 : (a1 == 0) = false := beq_eq_false_iff_ne.mpr c8
        have c8b1 : (a1 != 0) = true := bne_iff_ne.mpr c8
        replace H := Option.bind_eq_some_iff.mp H
        obtain ⟨t250, A110, H⟩ := H
        replace H : ((obolref16_At.f k l0 (wrap64 (a1 - 1)) (wrap64 ((wrap64 (2 * a2)) + 1))).bind fun t251 => ((obolref10_Two.f k t250 t251).bind fun t252 => (some t252))) = some r := H
        have A11 := Aside0.mk A110
        clear A110
        replace H := Option.bind_eq_some_iff.mp H
        obtain ⟨t251, A120, H⟩ := H
        replace H : ((obolref10_Two.f k t250 t251).bind fun t252 => (some t252)) = some r := H
        have A12 := Aside0.mk A120
        clear A120
        replace H := Option.bind_eq_some_iff.mp H
        obtain ⟨t252, A130, H⟩ := H
        replace H : (some t252) = some r := H
        have A13 := Aside0.mk A130
        clear A130
        obtain rfl := Option.some.inj H
        go_enter Try.func44, Try.ntmps44
        go_wp2_with (first | ((with_reducible refine gate_callee (f := 44) rfl ?_); refine goesL_ (some 26) rfl rfl Try.func44 (by kernel_rfl) rfl #[.slice A0 l0.length c0, .int .i64 (wrap64 (a1 - 1)), .int .i64 (wrap64 (2 * a2))] rfl (by (try simp only [List.map_toArray, List.map_cons, List.map_nil]); first | done | rfl | (simp only [List.length_drop, List.length_take]; rfl)) ?_; (with_reducible refine (ih k (by omega) _ _ l0 (wrap64 (a1 - 1)) (wrap64 (2 * a2)) t250 _ ?side1 ?side2 A11.out).mono ?_); (case side1 => repeat (first | exact HR0.out | (with_reducible refine Kd.C_alloc ?_ _) | (with_reducible refine Kd.C_drewN ?_ _) | (with_reducible refine Kd.C_drew ?_))); (case side2 => exact HC0.out); rintro e w' ⟨rfl, ⟨nd, rfl⟩⟩; refine ⟨_, rfl, ?_⟩) | ((with_reducible refine gate_callee (f := 44) rfl ?_); refine goesL_ (some 33) rfl rfl Try.func44 (by kernel_rfl) rfl #[.slice A0 l0.length c0, .int .i64 (wrap64 (a1 - 1)), .int .i64 (wrap64 ((wrap64 (2 * a2)) + 1))] rfl (by (try simp only [List.map_toArray, List.map_cons, List.map_nil]); first | done | rfl | (simp only [List.length_drop, List.length_take]; rfl)) ?_; (with_reducible refine (ih k (by omega) _ _ l0 (wrap64 (a1 - 1)) (wrap64 ((wrap64 (2 * a2)) + 1)) t251 _ ?side1 ?side2 A12.out).mono ?_); (case side1 => repeat (first | exact HR0.out | (with_reducible refine Kd.C_alloc ?_ _) | (with_reducible refine Kd.C_drewN ?_ _) | (with_reducible refine Kd.C_drew ?_))); (case side2 => exact HC0.out); rintro e w' ⟨rfl, ⟨nd, rfl⟩⟩; refine ⟨_, rfl, ?_⟩) | ((with_reducible refine gate_callee (f := 37) rfl ?_); refine goesL_ (some 34) rfl rfl Try.func37 (by kernel_rfl) rfl #[.int .u64 t250, .int .u64 t251] rfl (by (try simp only [List.map_toArray, List.map_cons, List.map_nil]); first | done | rfl | (simp only [List.length_drop, List.length_take]; rfl)) ?_; (with_reducible refine (obolref10_Two.calls k t250 t251 t252 _ A13.out).mono ?_); rintro e w' ⟨rfl, ⟨nd, rfl⟩⟩; refine ⟨_, rfl, ?_⟩))
        go_ret
        exact ⟨by first | rfl | (simp; done) | (simp only [← hji5] <;> (first | rfl | simp)) | (simp [*]; done), by repeat (first | exact Drawn0.refl _ | apply Drawn0.step)⟩
  · rw [if_neg c4] at H
    exact absurd H (by simp)

/-! ### obollaw16_TreeWholes: function 12 -/
def obollaw16_TreeWholes.f (k : Nat) (l0 : List Int) (a1 : Int) : Option (Bool) := (obollaw16_up.f k).bind fun t253 => (if (l0.length : Int) > 60 then (some t253) else ((tree_Whole.f k l0 a1).bind fun bt254 => ((obolref16_May.f k l0 a1).bind fun t256 => (if t256 = 0 then (if t253 = true then (if bt254.2.isNone = true then ((obolref16_At.f k l0 a1 0).bind fun t258 => (some (bt254.1 == t258))) else (none)) else (none)) else (if t253 = true then ((obollaw00_Code.f k bt254.2).bind fun t259 => (if t259 = t256 then (some (bt254.1 == 0)) else (none))) else (none))))))
theorem obollaw16_TreeWholes.mono : ∀ a0 a1 k, LeO (obollaw16_TreeWholes.f k a0 a1) (obollaw16_TreeWholes.f (k + 1) a0 a1) := by
  intro a0 a1 k
  unfold obollaw16_TreeWholes.f
  repeat' first
      | (with_reducible exact obollaw00_Code.mono _ _)
      | (with_reducible exact obollaw16_up.mono _)
      | (with_reducible exact obolref16_At.mono _ _ _ _)
      | (with_reducible exact obolref16_May.mono _ _ _)
      | (with_reducible exact tree_Whole.mono _ _ _)
      | (with_reducible exact LeO.refl _)
      | (with_reducible exact LeO.none _)
      | (with_reducible refine LeO.ite ?_ ?_)
      | (with_reducible refine LeO.bind ?_ (fun _ => ?_))
      | exact obollaw00_Code.mono _ _
      | exact obollaw16_up.mono _
      | exact obolref16_At.mono _ _ _ _
      | exact obolref16_May.mono _ _ _
      | exact tree_Whole.mono _ _ _
      | exact LeO.none _
      | refine LeO.ite ?_ ?_
      | refine LeO.bind ?_ (fun _ => ?_)
set_option maxHeartbeats 8000000 in
set_option maxRecDepth 100000 in
theorem obollaw16_TreeWholes.calls (k : Nat) (A0 : Option Addr) (c0 : Nat) (l0 : List Int) (a1 : Int) (r : Bool) (w : World) (hr0 : Kd.C (Kd.int .u64) w A0 l0.length l0) (hc0 : l0.length ≤ c0) (h : obollaw16_TreeWholes.f k l0 a1 = some r) :
    Calls Try.prog 12 #[.slice A0 l0.length c0, .int .i64 a1] w fun e w' => e = .returned (.bool r) ∧ Below w.heap.size w w' := by
  have hu25 := Try.underlying25
  have hu28 := Try.underlying28
  have HR0 := Aside0.mk hr0
  have HC0 := Aside0.mk hc0
  clear hr0 hc0
  have HB := Aside0.mk (Below.refl w.heap.size w)
  have H : ((obollaw16_up.f k).bind fun t253 => (if (l0.length : Int) > 60 then (some t253) else ((tree_Whole.f k l0 a1).bind fun bt254 => ((obolref16_May.f k l0 a1).bind fun t256 => (if t256 = 0 then (if t253 = true then (if bt254.2.isNone = true then ((obolref16_At.f k l0 a1 0).bind fun t258 => (some (bt254.1 == t258))) else (none)) else (none)) else (if t253 = true then ((obollaw00_Code.f k bt254.2).bind fun t259 => (if t259 = t256 then (some (bt254.1 == 0)) else (none))) else (none))))))) = some r := h
  clear h
  replace H := Option.bind_eq_some_iff.mp H
  obtain ⟨t253, A30, H⟩ := H
  replace H : (if (l0.length : Int) > 60 then (some t253) else ((tree_Whole.f k l0 a1).bind fun bt254 => ((obolref16_May.f k l0 a1).bind fun t256 => (if t256 = 0 then (if t253 = true then (if bt254.2.isNone = true then ((obolref16_At.f k l0 a1 0).bind fun t258 => (some (bt254.1 == t258))) else (none)) else (none)) else (if t253 = true then ((obollaw00_Code.f k bt254.2).bind fun t259 => (if t259 = t256 then (some (bt254.1 == 0)) else (none))) else (none)))))) = some r := H
  have A3 := Aside0.mk A30
  clear A30
  by_cases c4 : (l0.length : Int) > 60
  · rw [if_pos c4] at H
    have c4b0 : decide (60 < (l0.length : Int)) = true := decide_eq_true c4
    have c4b1 : decide (60 < l0.length) = true := decide_eq_true (by omega)
    clear c4
    obtain rfl := Option.some.inj H
    go_enter Try.func12, Try.ntmps12
    go_wp2_with (first | ((with_reducible refine gate_callee (f := 23) rfl ?_); refine goesL_ (some 9) rfl rfl Try.func23 (by kernel_rfl) rfl #[] rfl (by (try simp only [List.map_toArray, List.map_cons, List.map_nil]); first | done | rfl | (simp only [List.length_drop, List.length_take]; rfl)) ?_; (with_reducible refine (obollaw16_up.calls k  t253 _ A3.out).mono ?_); rintro e w5 ⟨rfl, hb⟩; refine ⟨_, rfl, ?_⟩; have n0_ := Aside0.mk (below_step (by repeat (first | (with_reducible first | exact HB.out | apply below_alloc | apply pw_below_drewN | apply below_drew1) | exact HB.out)) hb); clear HB; have HB := n0_; clear n0_; (try clear hb); (try clear hb2); (try clear hk); (try clear hi)))
    go_ret
    exact ⟨by first | rfl | (simp [errW_none, errW_some] <;> rfl) | (simp [*, errW_none, errW_some] <;> rfl), by repeat (first | (with_reducible first | exact HB.out | apply below_alloc | apply pw_below_drewN | apply below_drew1) | exact HB.out)⟩
  · rw [if_neg c4] at H
    have c4b0 : decide (60 < (l0.length : Int)) = false := decide_eq_false c4
    have c4b1 : decide (60 < l0.length) = false := decide_eq_false (by omega)
    clear c4
    replace H := Option.bind_eq_some_iff.mp H
    obtain ⟨⟨t254, t255⟩, A60, H⟩ := H
    replace H : ((obolref16_May.f k l0 a1).bind fun t256 => (if t256 = 0 then (if t253 = true then (if t255.isNone = true then ((obolref16_At.f k l0 a1 0).bind fun t258 => (some (t254 == t258))) else (none)) else (none)) else (if t253 = true then ((obollaw00_Code.f k t255).bind fun t259 => (if t259 = t256 then (some (t254 == 0)) else (none))) else (none)))) = some r := H
    have A6 := Aside0.mk A60
    clear A60
    replace H := Option.bind_eq_some_iff.mp H
    obtain ⟨t256, A70, H⟩ := H
    replace H : (if t256 = 0 then (if t253 = true then (if t255.isNone = true then ((obolref16_At.f k l0 a1 0).bind fun t258 => (some (t254 == t258))) else (none)) else (none)) else (if t253 = true then ((obollaw00_Code.f k t255).bind fun t259 => (if t259 = t256 then (some (t254 == 0)) else (none))) else (none))) = some r := H
    have A7 := Aside0.mk A70
    clear A70
    by_cases c8 : t256 = 0
    · rw [if_pos c8] at H
      have c8b0 : (t256 == 0) = true := beq_iff_eq.mpr c8
      have c8b1 : (t256 != 0) = false := bne_eq_false_iff_eq.mpr c8
      clear c8
      by_cases c9 : t253 = true
      · subst c9
        have H1 : (if t255.isNone = true then ((obolref16_At.f k l0 a1 0).bind fun t258 => (some (t254 == t258))) else (none)) = some r := by rw [if_pos rfl] at H; exact H
        clear H
        have H := H1
        clear H1
        rcases t255 with _ | q257
        · have H1 : ((obolref16_At.f k l0 a1 0).bind fun t258 => (some (t254 == t258))) = some r := by rw [if_pos (show (none : Option Int).isNone = true by rfl)] at H; exact H
          clear H
          have H := H1
          clear H1
          try simp only [errW_none, errW_some]
          replace H := Option.bind_eq_some_iff.mp H
          obtain ⟨t258, A100, H⟩ := H
          replace H : (some (t254 == t258)) = some r := H
          have A10 := Aside0.mk A100
          clear A100
          obtain rfl := Option.some.inj H
          go_enter Try.func12, Try.ntmps12
          go_wp2_with (first | ((with_reducible refine gate_callee (f := 23) rfl ?_); refine goesL_ (some 9) rfl rfl Try.func23 (by kernel_rfl) rfl #[] rfl (by (try simp only [List.map_toArray, List.map_cons, List.map_nil]); first | done | rfl | (simp only [List.length_drop, List.length_take]; rfl)) ?_; (with_reducible refine (obollaw16_up.calls k  true _ A3.out).mono ?_); rintro e w11 ⟨rfl, hb⟩; refine ⟨_, rfl, ?_⟩; have n0_ := Aside0.mk (below_step (by repeat (first | (with_reducible first | exact HB.out | apply below_alloc | apply pw_below_drewN | apply below_drew1) | exact HB.out)) hb); clear HB; have HB := n0_; clear n0_; (try clear hb); (try clear hb2); (try clear hk); (try clear hi)) | ((with_reducible refine gate_callee (f := 41) rfl ?_); refine goesL_ (some 17) rfl rfl Try.func41 (by kernel_rfl) rfl #[.slice A0 l0.length c0, .int .i64 a1] rfl (by (try simp only [List.map_toArray, List.map_cons, List.map_nil]); first | done | rfl | (simp only [List.length_drop, List.length_take]; rfl)) ?_; (with_reducible refine (tree_Whole.calls k _ _ l0 a1 t254 none _ ?side1 ?side2 A6.out).mono ?_); (case side1 => repeat (first | exact (Kd.C_below HR0.out HB.out) | (with_reducible refine Kd.C_alloc ?_ _) | (with_reducible refine Kd.C_drewN ?_ _) | (with_reducible refine Kd.C_drew ?_))); (case side2 => exact HC0.out); rintro e w12 ⟨rfl, hb⟩; refine ⟨_, rfl, ?_⟩; have n0_ := Aside0.mk (below_step (by repeat (first | (with_reducible first | exact HB.out | apply below_alloc | apply pw_below_drewN | apply below_drew1) | exact HB.out)) hb); clear HB; have HB := n0_; clear n0_; (try clear hb); (try clear hb2); (try clear hk); (try clear hi); (try simp only [errW_none, errW_some])) | ((with_reducible refine gate_callee (f := 42) rfl ?_); refine goesL_ (some 22) rfl rfl Try.func42 (by kernel_rfl) rfl #[.slice A0 l0.length c0, .int .i64 a1] rfl (by (try simp only [List.map_toArray, List.map_cons, List.map_nil]); first | done | rfl | (simp only [List.length_drop, List.length_take]; rfl)) ?_; (with_reducible refine (obolref16_May.calls k _ _ l0 a1 t256 _ ?side1 ?side2 A7.out).mono ?_); (case side1 => repeat (first | exact (Kd.C_below HR0.out HB.out) | (with_reducible refine Kd.C_alloc ?_ _) | (with_reducible refine Kd.C_drewN ?_ _) | (with_reducible refine Kd.C_drew ?_))); (case side2 => exact HC0.out); rintro e w' ⟨rfl, ⟨nd, rfl⟩⟩; refine ⟨_, rfl, ?_⟩) | (go_at_call 44; (with_reducible refine (obolref16_At.calls k _ _ l0 a1 0 t258 _ ?side1 ?side2 A10.out).mono ?_); (case side1 => repeat (first | exact (Kd.C_below HR0.out (by repeat (first | (with_reducible first | exact HB.out | apply below_alloc | apply pw_below_drewN | apply below_drew1) | exact HB.out))) | (with_reducible refine Kd.C_alloc ?_ _) | (with_reducible refine Kd.C_drewN ?_ _) | (with_reducible refine Kd.C_drew ?_))); (case side2 => exact HC0.out); rintro e w' ⟨rfl, ⟨nd, rfl⟩⟩))
          go_ret
          exact ⟨by first | rfl | (simp [errW_none, errW_some] <;> rfl) | (simp [*, errW_none, errW_some] <;> rfl), by repeat (first | (with_reducible first | exact HB.out | apply below_alloc | apply pw_below_drewN | apply below_drew1) | exact HB.out)⟩
        · have H1 : (none) = some r := by rw [if_neg (show ¬ (some q257).isNone = true by simp)] at H; exact H
          clear H
          have H := H1
          clear H1
          try simp only [errW_none, errW_some]
          exact absurd H (by simp)
      · replace c9 := Bool.eq_false_iff.mpr c9
        subst c9
        have H1 : (none) = some r := by rw [if_neg (show ¬ (false = true) by decide)] at H; exact H
        clear H
        have H := H1
        clear H1
        exact absurd H (by simp)
    · rw [if_neg c8] at H
      have c8b0 : (t256 == 0) = false := beq_eq_false_iff_ne.mpr c8
      have c8b1 : (t256 != 0) = true := bne_iff_ne.mpr c8
      by_cases c13 : t253 = true
      · subst c13
        have H1 : ((obollaw00_Code.f k t255).bind fun t259 => (if t259 = t256 then (some (t254 == 0)) else (none))) = some r := by rw [if_pos rfl] at H; exact H
        clear H
        have H := H1
        clear H1
        replace H := Option.bind_eq_some_iff.mp H
        obtain ⟨t259, A140, H⟩ := H
        replace H : (if t259 = t256 then (some (t254 == 0)) else (none)) = some r := H
        have A14 := Aside0.mk A140
        clear A140
        by_cases c15 : t259 = t256
        · rw [if_pos c15] at H
          have c15b0 : (t259 == t256) = true := beq_iff_eq.mpr c15
          have c15b1 : (t259 != t256) = false := bne_eq_false_iff_eq.mpr c15
          clear c15
          obtain rfl := Option.some.inj H
          go_enter Try.func12, Try.ntmps12
          go_wp2_with (first | ((with_reducible refine gate_callee (f := 23) rfl ?_); refine goesL_ (some 9) rfl rfl Try.func23 (by kernel_rfl) rfl #[] rfl (by (try simp only [List.map_toArray, List.map_cons, List.map_nil]); first | done | rfl | (simp only [List.length_drop, List.length_take]; rfl)) ?_; (with_reducible refine (obollaw16_up.calls k  true _ A3.out).mono ?_); rintro e w16 ⟨rfl, hb⟩; refine ⟨_, rfl, ?_⟩; have n0_ := Aside0.mk (below_step (by repeat (first | (with_reducible first | exact HB.out | apply below_alloc | apply pw_below_drewN | apply below_drew1) | exact HB.out)) hb); clear HB; have HB := n0_; clear n0_; (try clear hb); (try clear hb2); (try clear hk); (try clear hi)) | ((with_reducible refine gate_callee (f := 41) rfl ?_); refine goesL_ (some 17) rfl rfl Try.func41 (by kernel_rfl) rfl #[.slice A0 l0.length c0, .int .i64 a1] rfl (by (try simp only [List.map_toArray, List.map_cons, List.map_nil]); first | done | rfl | (simp only [List.length_drop, List.length_take]; rfl)) ?_; (with_reducible refine (tree_Whole.calls k _ _ l0 a1 t254 t255 _ ?side1 ?side2 A6.out).mono ?_); (case side1 => repeat (first | exact (Kd.C_below HR0.out HB.out) | (with_reducible refine Kd.C_alloc ?_ _) | (with_reducible refine Kd.C_drewN ?_ _) | (with_reducible refine Kd.C_drew ?_))); (case side2 => exact HC0.out); rintro e w17 ⟨rfl, hb⟩; refine ⟨_, rfl, ?_⟩; have n0_ := Aside0.mk (below_step (by repeat (first | (with_reducible first | exact HB.out | apply below_alloc | apply pw_below_drewN | apply below_drew1) | exact HB.out)) hb); clear HB; have HB := n0_; clear n0_; (try clear hb); (try clear hb2); (try clear hk); (try clear hi); (try simp only [errW_none, errW_some])) | ((with_reducible refine gate_callee (f := 42) rfl ?_); refine goesL_ (some 22) rfl rfl Try.func42 (by kernel_rfl) rfl #[.slice A0 l0.length c0, .int .i64 a1] rfl (by (try simp only [List.map_toArray, List.map_cons, List.map_nil]); first | done | rfl | (simp only [List.length_drop, List.length_take]; rfl)) ?_; (with_reducible refine (obolref16_May.calls k _ _ l0 a1 t256 _ ?side1 ?side2 A7.out).mono ?_); (case side1 => repeat (first | exact (Kd.C_below HR0.out HB.out) | (with_reducible refine Kd.C_alloc ?_ _) | (with_reducible refine Kd.C_drewN ?_ _) | (with_reducible refine Kd.C_drew ?_))); (case side2 => exact HC0.out); rintro e w' ⟨rfl, ⟨nd, rfl⟩⟩; refine ⟨_, rfl, ?_⟩; have CA14 := fun W => obollaw00_Code.calls k t255 t259 W A14.out; try simp only [errW_none, errW_some] at CA14) | (go_at_call 43; (with_reducible refine (CA14 _).mono ?_); rintro e w' ⟨rfl, ⟨nd, rfl⟩⟩))
          go_ret
          exact ⟨by first | rfl | (simp [errW_none, errW_some] <;> rfl) | (simp [*, errW_none, errW_some] <;> rfl), by repeat (first | (with_reducible first | exact HB.out | apply below_alloc | apply pw_below_drewN | apply below_drew1) | exact HB.out)⟩
        · rw [if_neg c15] at H
          exact absurd H (by simp)
      · replace c13 := Bool.eq_false_iff.mpr c13
        subst c13
        have H1 : (none) = some r := by rw [if_neg (show ¬ (false = true) by decide)] at H; exact H
        clear H
        have H := H1
        clear H1
        exact absurd H (by simp)

/-- THE ONE PURE STATEMENT of obollaw16_TreeWholes: yours. -/
def obollaw16_TreeWholes.Pure : Prop := ∀ (l0 : List Int) (a1 : Int), l0.length ≤ maxLen → l0.length * 8 ≤ 140737488351232 → (∀ x ∈ l0, (Lit.int .u64 x).wf = true) → (Lit.int .i64 a1).wf = true → ∃ k, obollaw16_TreeWholes.f k l0 a1 = some true
theorem obollaw16_TreeWholes.walk (P : obollaw16_TreeWholes.Pure) (a0 : Option Addr) (len0 cap0 : Nat) (z0 : List Int) (a1 : Int) (w : World) (w0 : (a0 = none ∧ len0 = 0 ∧ cap0 = 0 ∧ z0 = []) ∨ ∃ x, a0 = some x ∧ len0 ≤ cap0 ∧ cap0 ≤ maxLen ∧ z0.length = cap0 ∧ (∀ i, i < z0.length → w.cell? (x.add i) = some (.int .u64 (z0.getD i 0))) ∧ ∀ n ∈ z0, (Lit.int .u64 n).wf = true) (y0 : len0 * 8 ≤ 140737488351232) (w1 : (Lit.int .i64 a1).wf = true) :
    Calls Try.prog 12 #[.slice a0 len0 cap0, .int .i64 a1] w fun e w' => e = .returned (.bool true) ∧ Below w.heap.size w w' := by
  obtain ⟨l0, rfl, hr0, hm0, hw0, hc0⟩ := ReadsInt.ofRowC w0
  obtain ⟨k, h⟩ := P l0 a1 hm0 y0 hw0 w1
  refine (obollaw16_TreeWholes.calls k _ _ l0 a1 true w (Kd.C_of_reads (d := (0 : Int)) (h1 := fun _ => rfl) hr0) hc0 h).mono ?_
  rintro e w' ⟨rfl, hd⟩
  exact ⟨rfl, hd⟩

end Go.Proofs.Ytempibbfdojfiac.PTreeWholes
