-- printed by a program of this session (wip/tools/mkprint.py)
import Derived.Test.YtempibbfdojfiacPTreeOnex0
import Derived.Test.YtempibbfdojfiacPTreeOnex5
namespace Go.Proofs.Ytempibbfdojfiac.PTreeOne
open Go.RowKit Go.Proofs.YtempibbfdojfiacW.PrintWords Go.Proofs.YtempibbfdojfiacW.PrintLast Go.Proofs.YtempibbfdojfiacW.PrintMore
attribute [local go_sem] max2_int min2_int max_two min_two max_three min_three max_four min_four   -- for this text's walks alone
set_option linter.unusedVariables false
set_option linter.unusedSimpArgs false

attribute [local go_sem high] errCmp_eql errCmp_neq errCmpL_eql errCmpL_neq
/-! ### obolref10_Turn: function 66 -/
def obolref10_Turn.l0 : Nat → Int → Int → Int → Int → Option (Int)
  | 0, _, _, _, _ => none
  | k + 1, x0, x1, x5, x6 => if x6 < 3 then ((obolref07_Mul.f k x5 7).bind fun t197 => ((obolref07_Plus.f x0 t197).bind fun t198 => ((obolref07_Plus.f x1 t198).bind fun t199 => ((obolref07_Mul.f k t199 t199).bind fun t200 => ((obolref07_Mul.f k t199 t200).bind fun t201 => (obolref10_Turn.l0 k x0 t201 t197 (wrap64 (x6 + 1)))))))) else ((obolref07_Plus.f x1 x0).bind fun t196 => (some t196))
def obolref10_Turn.f (k : Nat) (a0 : Int) (a1 : Int) : Option (Int) := obolref10_Turn.l0 k a0 a1 1 0
theorem obolref10_Turn.mono_l : ∀ k, (∀ y0 y1 y2 y3, LeO (obolref10_Turn.l0 k y0 y1 y2 y3) (obolref10_Turn.l0 (k + 1) y0 y1 y2 y3))
  | 0 => fun _ _ _ _ r h => by simp [obolref10_Turn.l0] at h
  | k + 1 => by
    have ih0 := obolref10_Turn.mono_l k
    · intro y0 y1 y2 y3
      unfold obolref10_Turn.l0
      repeat' first
      | (with_reducible exact ih0 _ _ _ _)
      | (with_reducible exact obolref07_Mul.mono _ _ _)
      | (with_reducible exact LeO.refl _)
      | (with_reducible exact LeO.none _)
      | (with_reducible refine LeO.ite ?_ ?_)
      | (with_reducible refine LeO.bind ?_ (fun _ => ?_))
      | exact ih0 _ _ _ _
      | exact obolref07_Mul.mono _ _ _
      | exact LeO.none _
      | refine LeO.ite ?_ ?_
      | refine LeO.bind ?_ (fun _ => ?_)
theorem obolref10_Turn.mono : ∀ a0 a1 k, LeO (obolref10_Turn.f k a0 a1) (obolref10_Turn.f (k + 1) a0 a1) := by
  intro a0 a1 k
  have ih0 := obolref10_Turn.mono_l k
  unfold obolref10_Turn.f
  repeat' first
      | (with_reducible exact ih0 _ _ _ _)
      | (with_reducible exact obolref07_Mul.mono _ _ _)
      | (with_reducible exact LeO.refl _)
      | (with_reducible exact LeO.none _)
      | (with_reducible refine LeO.ite ?_ ?_)
      | (with_reducible refine LeO.bind ?_ (fun _ => ?_))
      | exact ih0 _ _ _ _
      | exact obolref07_Mul.mono _ _ _
      | exact LeO.none _
      | refine LeO.ite ?_ ?_
      | refine LeO.bind ?_ (fun _ => ?_)
set_option maxHeartbeats 8000000 in
set_option maxRecDepth 100000 in
theorem obolref10_Turn.calls (k : Nat) (a0 : Int) (a1 : Int) (r : Int) (w : World) (h : obolref10_Turn.f k a0 a1 = some r) :
    Calls Try.prog 66 #[.int .u64 a0, .int .u64 a1] w fun e w' => e = .returned (.int .u64 r) ∧ Drawn0 w w' := by
  have H : (obolref10_Turn.l0 k a0 a1 1 0) = some r := h
  clear h
  have H' := Aside0.mk H
  clear H
  go_enter Try.func66, Try.ntmps66
  go_wp2
  go_loopg [1, 5, 6] k (fun kq v1 v5 v6 w' => ∃ (x1_1 : Int) (x5_1 : Int) (x6_1 : Int), v1 = .int .u64 x1_1 ∧ v5 = .int .u64 x5_1 ∧ v6 = .int .i64 x6_1 ∧ Aside0 (obolref10_Turn.l0 kq a0 x1_1 x5_1 x6_1 = some r) ∧ Aside0 (kq ≤ k) ∧ Drawn0 w w')
  case atStart => exact ⟨(a1), (1), (0), (by first | rfl | (simp; done) | (simp [*]; done)), (by first | rfl | (simp; done) | (simp [*]; done)), (by first | rfl | (simp; done) | (simp [*]; done)), H', ⟨Nat.le_refl _⟩, by repeat (first | exact Drawn0.refl _ | apply Drawn0.step)⟩
  case round =>
    clear H'
    try clear p2
    obtain ⟨x1_1, x5_1, x6_1, rfl, rfl, rfl, HA, HK1, ⟨m1, rfl⟩⟩ := hrel
    cases gk with
    | zero => exact absurd HA.out (by simp [obolref10_Turn.l0])
    | succ k1 =>
      have H := HA.out
      clear HA
      simp only [obolref10_Turn.l0] at H
      by_cases c3 : x6_1 < 3
      · rw [if_pos c3] at H
        have c3b0 : decide (x6_1 < 3) = true := decide_eq_true c3
        clear c3
        replace H := Option.bind_eq_some_iff.mp H
        obtain ⟨t197, A40, H⟩ := H
        replace H : ((obolref07_Plus.f a0 t197).bind fun t198 => ((obolref07_Plus.f x1_1 t198).bind fun t199 => ((obolref07_Mul.f k1 t199 t199).bind fun t200 => ((obolref07_Mul.f k1 t199 t200).bind fun t201 => (obolref10_Turn.l0 k1 a0 t201 t197 (wrap64 (x6_1 + 1))))))) = some r := H
        have A4 := Aside0.mk A40
        clear A40
        replace H := Option.bind_eq_some_iff.mp H
        obtain ⟨t198, A50, H⟩ := H
        replace H : ((obolref07_Plus.f x1_1 t198).bind fun t199 => ((obolref07_Mul.f k1 t199 t199).bind fun t200 => ((obolref07_Mul.f k1 t199 t200).bind fun t201 => (obolref10_Turn.l0 k1 a0 t201 t197 (wrap64 (x6_1 + 1)))))) = some r := H
        have A5 := Aside0.mk A50
        clear A50
        replace H := Option.bind_eq_some_iff.mp H
        obtain ⟨t199, A60, H⟩ := H
        replace H : ((obolref07_Mul.f k1 t199 t199).bind fun t200 => ((obolref07_Mul.f k1 t199 t200).bind fun t201 => (obolref10_Turn.l0 k1 a0 t201 t197 (wrap64 (x6_1 + 1))))) = some r := H
        have A6 := Aside0.mk A60
        clear A60
        replace H := Option.bind_eq_some_iff.mp H
        obtain ⟨t200, A70, H⟩ := H
        replace H : ((obolref07_Mul.f k1 t199 t200).bind fun t201 => (obolref10_Turn.l0 k1 a0 t201 t197 (wrap64 (x6_1 + 1)))) = some r := H
        have A7 := Aside0.mk A70
        clear A70
        replace H := Option.bind_eq_some_iff.mp H
        obtain ⟨t201, A80, H⟩ := H
        replace H : (obolref10_Turn.l0 k1 a0 t201 t197 (wrap64 (x6_1 + 1))) = some r := H
        have A8 := Aside0.mk A80
        clear A80
        have H' := Aside0.mk H
        clear H
        go_wp2_with (first | ((with_reducible refine gate_callee (f := 34) rfl ?_); refine goesL_ (some 13) rfl rfl Try.func34 (by kernel_rfl) rfl #[.int .u64 x5_1, .int .u64 7] rfl (by (try simp only [List.map_toArray, List.map_cons, List.map_nil]); first | done | rfl | (simp only [List.length_drop, List.length_take]; rfl)) ?_; (with_reducible refine (obolref07_Mul.calls k1 x5_1 7 t197 _ A4.out).mono ?_); rintro e w' ⟨rfl, ⟨nd, rfl⟩⟩; refine ⟨_, rfl, ?_⟩) | ((with_reducible refine gate_callee (f := 65) rfl ?_); refine goesL_ (some 17) rfl rfl Try.func65 (by kernel_rfl) rfl #[.int .u64 a0, .int .u64 t197] rfl (by (try simp only [List.map_toArray, List.map_cons, List.map_nil]); first | done | rfl | (simp only [List.length_drop, List.length_take]; rfl)) ?_; (with_reducible refine (obolref07_Plus.calls a0 t197 t198 _ A5.out).mono ?_); rintro e w' ⟨rfl, ⟨nd, rfl⟩⟩; refine ⟨_, rfl, ?_⟩) | ((with_reducible refine gate_callee (f := 65) rfl ?_); refine goesL_ (some 18) rfl rfl Try.func65 (by kernel_rfl) rfl #[.int .u64 x1_1, .int .u64 t198] rfl (by (try simp only [List.map_toArray, List.map_cons, List.map_nil]); first | done | rfl | (simp only [List.length_drop, List.length_take]; rfl)) ?_; (with_reducible refine (obolref07_Plus.calls x1_1 t198 t199 _ A6.out).mono ?_); rintro e w' ⟨rfl, ⟨nd, rfl⟩⟩; refine ⟨_, rfl, ?_⟩) | ((with_reducible refine gate_callee (f := 34) rfl ?_); refine goesL_ (some 22) rfl rfl Try.func34 (by kernel_rfl) rfl #[.int .u64 t199, .int .u64 t199] rfl (by (try simp only [List.map_toArray, List.map_cons, List.map_nil]); first | done | rfl | (simp only [List.length_drop, List.length_take]; rfl)) ?_; (with_reducible refine (obolref07_Mul.calls k1 t199 t199 t200 _ A7.out).mono ?_); rintro e w' ⟨rfl, ⟨nd, rfl⟩⟩; refine ⟨_, rfl, ?_⟩) | ((with_reducible refine gate_callee (f := 34) rfl ?_); refine goesL_ (some 23) rfl rfl Try.func34 (by kernel_rfl) rfl #[.int .u64 t199, .int .u64 t200] rfl (by (try simp only [List.map_toArray, List.map_cons, List.map_nil]); first | done | rfl | (simp only [List.length_drop, List.length_take]; rfl)) ?_; (with_reducible refine (obolref07_Mul.calls k1 t199 t200 t201 _ A8.out).mono ?_); rintro e w' ⟨rfl, ⟨nd, rfl⟩⟩; refine ⟨_, rfl, ?_⟩))
        go_roundg k1
        case measure => have := HK1.out; omega
        case rel => exact ⟨(t201), (t197), (wrap64 (x6_1 + 1)), (by first | rfl | (simp; done) | (simp [*]; done)), (by first | rfl | (simp; done) | (simp [*]; done)), (by first | rfl | (simp; done) | (simp [*]; done)), H', ⟨by have := HK1.out; omega⟩, by repeat (first | exact Drawn0.refl _ | apply Drawn0.step)⟩
      · rw [if_neg c3] at H
        have c3b0 : decide (x6_1 < 3) = false := decide_eq_false c3
        clear c3
        replace H := Option.bind_eq_some_iff.mp H
        obtain ⟨t196, A90, H⟩ := H
        replace H : (some t196) = some r := H
        have A9 := Aside0.mk A90
        clear A90
        obtain rfl := Option.some.inj H
        go_wp2_with (first | ((with_reducible refine gate_callee (f := 65) rfl ?_); refine goesL_ (some 26) rfl rfl Try.func65 (by kernel_rfl) rfl #[.int .u64 x1_1, .int .u64 a0] rfl (by (try simp only [List.map_toArray, List.map_cons, List.map_nil]); first | done | rfl | (simp only [List.length_drop, List.length_take]; rfl)) ?_; (with_reducible refine (obolref07_Plus.calls x1_1 a0 t196 _ A9.out).mono ?_); rintro e w' ⟨rfl, ⟨nd, rfl⟩⟩; refine ⟨_, rfl, ?_⟩))
        go_ret
        exact ⟨by first | rfl | (simp; done) | (simp [*]; done), by repeat (first | exact Drawn0.refl _ | apply Drawn0.step)⟩

/-! ### obolref10_Two: function 37 -/
def obolref10_Two.f (k : Nat) (a0 : Int) (a1 : Int) : Option (Int) := (obolref10_Turn.f k a0 a1).bind fun t202 => ((obolref07_Plus.f a0 a1).bind fun t203 => ((obolref07_Plus.f t202 t203).bind fun t204 => (some t204)))
theorem obolref10_Two.mono : ∀ a0 a1 k, LeO (obolref10_Two.f k a0 a1) (obolref10_Two.f (k + 1) a0 a1) := by
  intro a0 a1 k
  unfold obolref10_Two.f
  repeat' first
      | (with_reducible exact obolref10_Turn.mono _ _ _)
      | (with_reducible exact LeO.refl _)
      | (with_reducible exact LeO.none _)
      | (with_reducible refine LeO.ite ?_ ?_)
      | (with_reducible refine LeO.bind ?_ (fun _ => ?_))
      | exact obolref10_Turn.mono _ _ _
      | exact LeO.none _
      | refine LeO.ite ?_ ?_
      | refine LeO.bind ?_ (fun _ => ?_)
set_option maxHeartbeats 8000000 in
set_option maxRecDepth 100000 in
theorem obolref10_Two.calls (k : Nat) (a0 : Int) (a1 : Int) (r : Int) (w : World) (h : obolref10_Two.f k a0 a1 = some r) :
    Calls Try.prog 37 #[.int .u64 a0, .int .u64 a1] w fun e w' => e = .returned (.int .u64 r) ∧ Drawn0 w w' := by
  have H : ((obolref10_Turn.f k a0 a1).bind fun t202 => ((obolref07_Plus.f a0 a1).bind fun t203 => ((obolref07_Plus.f t202 t203).bind fun t204 => (some t204)))) = some r := h
  clear h
  replace H := Option.bind_eq_some_iff.mp H
  obtain ⟨t202, A30, H⟩ := H
  replace H : ((obolref07_Plus.f a0 a1).bind fun t203 => ((obolref07_Plus.f t202 t203).bind fun t204 => (some t204))) = some r := H
  have A3 := Aside0.mk A30
  clear A30
  replace H := Option.bind_eq_some_iff.mp H
  obtain ⟨t203, A40, H⟩ := H
  replace H : ((obolref07_Plus.f t202 t203).bind fun t204 => (some t204)) = some r := H
  have A4 := Aside0.mk A40
  clear A40
  replace H := Option.bind_eq_some_iff.mp H
  obtain ⟨t204, A50, H⟩ := H
  replace H : (some t204) = some r := H
  have A5 := Aside0.mk A50
  clear A50
  obtain rfl := Option.some.inj H
  go_enter Try.func37, Try.ntmps37
  go_wp2_with (first | ((with_reducible refine gate_callee (f := 66) rfl ?_); refine goesL_ (some 7) rfl rfl Try.func66 (by kernel_rfl) rfl #[.int .u64 a0, .int .u64 a1] rfl (by (try simp only [List.map_toArray, List.map_cons, List.map_nil]); first | done | rfl | (simp only [List.length_drop, List.length_take]; rfl)) ?_; (with_reducible refine (obolref10_Turn.calls k a0 a1 t202 _ A3.out).mono ?_); rintro e w' ⟨rfl, ⟨nd, rfl⟩⟩; refine ⟨_, rfl, ?_⟩) | ((with_reducible refine gate_callee (f := 65) rfl ?_); refine goesL_ (some 10) rfl rfl Try.func65 (by kernel_rfl) rfl #[.int .u64 a0, .int .u64 a1] rfl (by (try simp only [List.map_toArray, List.map_cons, List.map_nil]); first | done | rfl | (simp only [List.length_drop, List.length_take]; rfl)) ?_; (with_reducible refine (obolref07_Plus.calls a0 a1 t203 _ A4.out).mono ?_); rintro e w' ⟨rfl, ⟨nd, rfl⟩⟩; refine ⟨_, rfl, ?_⟩) | ((with_reducible refine gate_callee (f := 65) rfl ?_); refine goesL_ (some 11) rfl rfl Try.func65 (by kernel_rfl) rfl #[.int .u64 t202, .int .u64 t203] rfl (by (try simp only [List.map_toArray, List.map_cons, List.map_nil]); first | done | rfl | (simp only [List.length_drop, List.length_take]; rfl)) ?_; (with_reducible refine (obolref07_Plus.calls t202 t203 t204 _ A5.out).mono ?_); rintro e w' ⟨rfl, ⟨nd, rfl⟩⟩; refine ⟨_, rfl, ?_⟩))
  go_ret
  exact ⟨by first | rfl | (simp; done) | (simp [*]; done), by repeat (first | exact Drawn0.refl _ | apply Drawn0.step)⟩

/-! ### obollaw16_TreeOne: function 10 -/
mutual
def obollaw16_TreeOne.j0 : Nat → Int → Int → Int → List Int → List Int → Bool → Bool → Option (Bool)
  | 0, _, _, _, _, _, _, _ => none
  | k + 1, x0, x1, x2, x3, x4, x11, x56 => if x56 = true then (some x11) else (obollaw16_TreeOne.l0 k x2 x3 x4 x11 (Int.tmod x0 288230376287764481) (Int.tmod x1 288230376287764481) 0)
def obollaw16_TreeOne.l0 : Nat → Int → List Int → List Int → Bool → Int → Int → Int → Option (Bool)
  | 0, _, _, _, _, _, _, _ => none
  | k + 1, x2, x3, x4, x11, x12, x13, x14 => if x14 < (x3.length : Int) then (if 0 ≤ x14 then (if x14 < (x4.length : Int) then (if (Go.bits .and .i64 (shr .i64 x2 x14) 1) = 1 then (obollaw16_TreeOne.j2 k x2 x3 x4 x11 x14 (Int.tmod (rd x3 x14) 288230376287764481) x12 (Int.tmod (rd x4 x14) 288230376287764481) x13) else (obollaw16_TreeOne.j2 k x2 x3 x4 x11 x14 x12 (Int.tmod (rd x3 x14) 288230376287764481) x13 (Int.tmod (rd x4 x14) 288230376287764481))) else (none)) else (none)) else (none)
def obollaw16_TreeOne.j2 : Nat → Int → List Int → List Int → Bool → Int → Int → Int → Int → Int → Option (Bool)
  | 0, _, _, _, _, _, _, _, _, _ => none
  | k + 1, x2, x3, x4, x11, x14, x18, x19, x20, x21 => (obolref10_Two.f k x18 x19).bind fun t210 => ((obolref10_Two.f k x20 x21).bind fun t211 => (if t210 = t211 then (if x11 = true then (if x18 = x20 then (some (x19 != x21)) else (some true)) else (none)) else (obollaw16_TreeOne.l0 k x2 x3 x4 x11 t210 t211 (wrap64 (x14 + 1)))))
end
def obollaw16_TreeOne.f (k : Nat) (a0 : Int) (a1 : Int) (a2 : Int) (l3 : List Int) (l4 : List Int) : Option (Bool) := (obollaw16_up.f k).bind fun t205 => (if (l3.length : Int) > 40 then (obollaw16_TreeOne.j0 k a0 a1 a2 l3 l4 t205 true) else (if (l4.length : Int) = (l3.length : Int) then (if a2 < 0 then (obollaw16_TreeOne.j0 k a0 a1 a2 l3 l4 t205 true) else (if (Int.tmod a0 288230376287764481) = (Int.tmod a1 288230376287764481) then (obollaw16_TreeOne.j0 k a0 a1 a2 l3 l4 t205 true) else ((tree_Climb.f k a0 a2 l3).bind fun t206 => ((tree_Climb.f k a1 a2 l4).bind fun t207 => (obollaw16_TreeOne.j0 k a0 a1 a2 l3 l4 t205 (t206 != t207)))))) else (obollaw16_TreeOne.j0 k a0 a1 a2 l3 l4 t205 true)))
theorem obollaw16_TreeOne.mono_l : ∀ k, (∀ y0 y1 y2 y3 y4 y5 y6, LeO (obollaw16_TreeOne.j0 k y0 y1 y2 y3 y4 y5 y6) (obollaw16_TreeOne.j0 (k + 1) y0 y1 y2 y3 y4 y5 y6)) ∧ (∀ y0 y1 y2 y3 y4 y5 y6, LeO (obollaw16_TreeOne.l0 k y0 y1 y2 y3 y4 y5 y6) (obollaw16_TreeOne.l0 (k + 1) y0 y1 y2 y3 y4 y5 y6)) ∧ (∀ y0 y1 y2 y3 y4 y5 y6 y7 y8, LeO (obollaw16_TreeOne.j2 k y0 y1 y2 y3 y4 y5 y6 y7 y8) (obollaw16_TreeOne.j2 (k + 1) y0 y1 y2 y3 y4 y5 y6 y7 y8))
  | 0 => ⟨fun _ _ _ _ _ _ _ r h => by simp [obollaw16_TreeOne.j0] at h, fun _ _ _ _ _ _ _ r h => by simp [obollaw16_TreeOne.l0] at h, fun _ _ _ _ _ _ _ _ _ r h => by simp [obollaw16_TreeOne.j2] at h⟩
  | k + 1 => by
    obtain ⟨ih0, ih1, ih2⟩ := obollaw16_TreeOne.mono_l k
    refine ⟨?_, ?_, ?_⟩
    · intro y0 y1 y2 y3 y4 y5 y6
      unfold obollaw16_TreeOne.j0
      repeat' first
      | (with_reducible exact ih0 _ _ _ _ _ _ _)
      | (with_reducible exact ih1 _ _ _ _ _ _ _)
      | (with_reducible exact ih2 _ _ _ _ _ _ _ _ _)
      | (with_reducible exact obollaw16_up.mono _)
      | (with_reducible exact obolref10_Two.mono _ _ _)
      | (with_reducible exact tree_Climb.mono _ _ _ _)
      | (with_reducible exact LeO.refl _)
      | (with_reducible exact LeO.none _)
      | (with_reducible refine LeO.ite ?_ ?_)
      | (with_reducible refine LeO.bind ?_ (fun _ => ?_))
      | exact ih0 _ _ _ _ _ _ _
      | exact ih1 _ _ _ _ _ _ _
      | exact ih2 _ _ _ _ _ _ _ _ _
      | exact obollaw16_up.mono _
      | exact obolref10_Two.mono _ _ _
      | exact tree_Climb.mono _ _ _ _
      | exact LeO.none _
      | refine LeO.ite ?_ ?_
      | refine LeO.bind ?_ (fun _ => ?_)
    · intro y0 y1 y2 y3 y4 y5 y6
      unfold obollaw16_TreeOne.l0
      repeat' first
      | (with_reducible exact ih0 _ _ _ _ _ _ _)
      | (with_reducible exact ih1 _ _ _ _ _ _ _)
      | (with_reducible exact ih2 _ _ _ _ _ _ _ _ _)
      | (with_reducible exact obollaw16_up.mono _)
      | (with_reducible exact obolref10_Two.mono _ _ _)
      | (with_reducible exact tree_Climb.mono _ _ _ _)
      | (with_reducible exact LeO.refl _)
      | (with_reducible exact LeO.none _)
      | (with_reducible refine LeO.ite ?_ ?_)
      | (with_reducible refine LeO.bind ?_ (fun _ => ?_))
      | exact ih0 _ _ _ _ _ _ _
      | exact ih1 _ _ _ _ _ _ _
      | exact ih2 _ _ _ _ _ _ _ _ _
      | exact obollaw16_up.mono _
      | exact obolref10_Two.mono _ _ _
      | exact tree_Climb.mono _ _ _ _
      | exact LeO.none _
      | refine LeO.ite ?_ ?_
      | refine LeO.bind ?_ (fun _ => ?_)
    · intro y0 y1 y2 y3 y4 y5 y6 y7 y8
      unfold obollaw16_TreeOne.j2
      repeat' first
      | (with_reducible exact ih0 _ _ _ _ _ _ _)
      | (with_reducible exact ih1 _ _ _ _ _ _ _)
      | (with_reducible exact ih2 _ _ _ _ _ _ _ _ _)
      | (with_reducible exact obollaw16_up.mono _)
      | (with_reducible exact obolref10_Two.mono _ _ _)
      | (with_reducible exact tree_Climb.mono _ _ _ _)
      | (with_reducible exact LeO.refl _)
      | (with_reducible exact LeO.none _)
      | (with_reducible refine LeO.ite ?_ ?_)
      | (with_reducible refine LeO.bind ?_ (fun _ => ?_))
      | exact ih0 _ _ _ _ _ _ _
      | exact ih1 _ _ _ _ _ _ _
      | exact ih2 _ _ _ _ _ _ _ _ _
      | exact obollaw16_up.mono _
      | exact obolref10_Two.mono _ _ _
      | exact tree_Climb.mono _ _ _ _
      | exact LeO.none _
      | refine LeO.ite ?_ ?_
      | refine LeO.bind ?_ (fun _ => ?_)
theorem obollaw16_TreeOne.mono : ∀ a0 a1 a2 a3 a4 k, LeO (obollaw16_TreeOne.f k a0 a1 a2 a3 a4) (obollaw16_TreeOne.f (k + 1) a0 a1 a2 a3 a4) := by
  intro a0 a1 a2 a3 a4 k
  obtain ⟨ih0, ih1, ih2⟩ := obollaw16_TreeOne.mono_l k
  unfold obollaw16_TreeOne.f
  repeat' first
      | (with_reducible exact ih0 _ _ _ _ _ _ _)
      | (with_reducible exact ih1 _ _ _ _ _ _ _)
      | (with_reducible exact ih2 _ _ _ _ _ _ _ _ _)
      | (with_reducible exact obollaw16_up.mono _)
      | (with_reducible exact obolref10_Two.mono _ _ _)
      | (with_reducible exact tree_Climb.mono _ _ _ _)
      | (with_reducible exact LeO.refl _)
      | (with_reducible exact LeO.none _)
      | (with_reducible refine LeO.ite ?_ ?_)
      | (with_reducible refine LeO.bind ?_ (fun _ => ?_))
      | exact ih0 _ _ _ _ _ _ _
      | exact ih1 _ _ _ _ _ _ _
      | exact ih2 _ _ _ _ _ _ _ _ _
      | exact obollaw16_up.mono _
      | exact obolref10_Two.mono _ _ _
      | exact tree_Climb.mono _ _ _ _
      | exact LeO.none _
      | refine LeO.ite ?_ ?_
      | refine LeO.bind ?_ (fun _ => ?_)
set_option maxHeartbeats 8000000 in
set_option maxRecDepth 100000 in
theorem obollaw16_TreeOne.calls (k : Nat) (a0 : Int) (a1 : Int) (a2 : Int) (A3 : Option Addr) (c3 : Nat) (l3 : List Int) (A4 : Option Addr) (c4 : Nat) (l4 : List Int) (r : Bool) (w : World) (hr3 : Kd.C (Kd.int .u64) w A3 l3.length l3) (hc3 : l3.length ≤ c3) (hr4 : Kd.C (Kd.int .u64) w A4 l4.length l4) (hc4 : l4.length ≤ c4) (h : obollaw16_TreeOne.f k a0 a1 a2 l3 l4 = some r) :
    Calls Try.prog 10 #[.int .u64 a0, .int .u64 a1, .int .i64 a2, .slice A3 l3.length c3, .slice A4 l4.length c4] w fun e w' => e = .returned (.bool r) ∧ Below w.heap.size w w' := by
  have HR3 := Aside0.mk hr3
  have HC3 := Aside0.mk hc3
  clear hr3 hc3
  have HR4 := Aside0.mk hr4
  have HC4 := Aside0.mk hc4
  clear hr4 hc4
  have HB := Aside0.mk (Below.refl w.heap.size w)
  have H : ((obollaw16_up.f k).bind fun t205 => (if (l3.length : Int) > 40 then (obollaw16_TreeOne.j0 k a0 a1 a2 l3 l4 t205 true) else (if (l4.length : Int) = (l3.length : Int) then (if a2 < 0 then (obollaw16_TreeOne.j0 k a0 a1 a2 l3 l4 t205 true) else (if (Int.tmod a0 288230376287764481) = (Int.tmod a1 288230376287764481) then (obollaw16_TreeOne.j0 k a0 a1 a2 l3 l4 t205 true) else ((tree_Climb.f k a0 a2 l3).bind fun t206 => ((tree_Climb.f k a1 a2 l4).bind fun t207 => (obollaw16_TreeOne.j0 k a0 a1 a2 l3 l4 t205 (t206 != t207)))))) else (obollaw16_TreeOne.j0 k a0 a1 a2 l3 l4 t205 true)))) = some r := h
  clear h
  replace H := Option.bind_eq_some_iff.mp H
  obtain ⟨t205, A60, H⟩ := H
  replace H : (if (l3.length : Int) > 40 then (obollaw16_TreeOne.j0 k a0 a1 a2 l3 l4 t205 true) else (if (l4.length : Int) = (l3.length : Int) then (if a2 < 0 then (obollaw16_TreeOne.j0 k a0 a1 a2 l3 l4 t205 true) else (if (Int.tmod a0 288230376287764481) = (Int.tmod a1 288230376287764481) then (obollaw16_TreeOne.j0 k a0 a1 a2 l3 l4 t205 true) else ((tree_Climb.f k a0 a2 l3).bind fun t206 => ((tree_Climb.f k a1 a2 l4).bind fun t207 => (obollaw16_TreeOne.j0 k a0 a1 a2 l3 l4 t205 (t206 != t207)))))) else (obollaw16_TreeOne.j0 k a0 a1 a2 l3 l4 t205 true))) = some r := H
  have A6 := Aside0.mk A60
  clear A60
  have HC7 := Aside0.mk H
  clear H
  go_enter Try.func10, Try.ntmps10
  go_upto_region 2 with (first | ((with_reducible refine gate_callee (f := 23) rfl ?_); refine goesL_ (some 24) rfl rfl Try.func23 (by kernel_rfl) rfl #[] rfl (by (try simp only [List.map_toArray, List.map_cons, List.map_nil]); first | done | rfl | (simp only [List.length_drop, List.length_take]; rfl)) ?_; (with_reducible refine (obollaw16_up.calls k  t205 _ A6.out).mono ?_); rintro e w8 ⟨rfl, hb⟩; refine ⟨_, rfl, ?_⟩; have n0_ := Aside0.mk (below_step (by repeat (first | (with_reducible first | exact HB.out | apply below_alloc | apply pw_below_drewN | apply below_drew1) | exact HB.out)) hb); clear HB; have HB := n0_; clear n0_; (try clear hb); (try clear hb2); (try clear hk); (try clear hi)))
  (try simp only [Act.put, List.setIfInBounds_toArray, List.set_cons_zero, List.set_cons_succ])
  go_cut [56] (fun v56 wc => ∃ (kq : Nat) (x56_6 : Bool), v56 = .bool x56_6 ∧ Aside0 (obollaw16_TreeOne.j0 kq a0 a1 a2 l3 l4 t205 x56_6 = some r) ∧ Aside0 (kq ≤ k) ∧ Aside0 (Below w.heap.size w wc))
  case first =>
    have H := HC7.out
    clear HC7
    by_cases c9 : (l3.length : Int) > 40
    · rw [if_pos c9] at H
      have c9b0 : decide (40 < (l3.length : Int)) = true := decide_eq_true c9
      have c9b1 : decide (40 < l3.length) = true := decide_eq_true (by omega)
      clear c9
      (first | rw [c9b0] | (simp only [i64_w, i32_w]; rw [c9b0]) | skip)
      have H' := Aside0.mk H
      clear H
      go_wp2
      (first | go_meet | (refine Met.intro ?_; go_step; (repeat apply Exists.intro); refine ⟨?rel, ?eq_⟩; (case eq_ => first | (rw [c9b0]; done) | (rw [c9b0]; rfl))))
      case rel => exact ⟨_, (true), (by first | rfl | (simp; done) | (simp [*]; done)), H', ⟨by first | omega | exact Nat.le_refl _⟩, ⟨by repeat (first | (with_reducible first | exact HB.out | apply below_alloc | apply pw_below_drewN | apply below_drew1) | exact HB.out)⟩⟩
    · rw [if_neg c9] at H
      have c9b0 : decide (40 < (l3.length : Int)) = false := decide_eq_false c9
      have c9b1 : decide (40 < l3.length) = false := decide_eq_false (by omega)
      clear c9
      (first | rw [c9b0] | (simp only [i64_w, i32_w]; rw [c9b0]) | skip)
      by_cases c10 : (l4.length : Int) = (l3.length : Int)
      · rw [if_pos c10] at H
        have c10b0 : ((l4.length : Int) == (l3.length : Int)) = true := beq_iff_eq.mpr c10
        have c10b1 : ((l4.length : Int) != (l3.length : Int)) = false := bne_eq_false_iff_eq.mpr c10
        have c10b2 : (l4.length == l3.length) = true := by first | simpa using c10 | (simp at c10 ⊢; omega)
        clear c10
        by_cases c11 : a2 < 0
        · rw [if_pos c11] at H
          have c11b0 : decide (a2 < 0) = true := decide_eq_true c11
          clear c11
          have H' := Aside0.mk H
          clear H
          go_wp2
          go_meet
          case rel => exact ⟨_, (true), (by first | rfl | (simp; done) | (simp [*]; done)), H', ⟨by first | omega | exact Nat.le_refl _⟩, ⟨by repeat (first | (with_reducible first | exact HB.out | apply below_alloc | apply pw_below_drewN | apply below_drew1) | exact HB.out)⟩⟩
        · rw [if_neg c11] at H
          have c11b0 : decide (a2 < 0) = false := decide_eq_false c11
          clear c11
          by_cases c12 : (Int.tmod a0 288230376287764481) = (Int.tmod a1 288230376287764481)
          · rw [if_pos c12] at H
            have c12b0 : ((Int.tmod a0 288230376287764481) == (Int.tmod a1 288230376287764481)) = true := beq_iff_eq.mpr c12
            have c12b1 : ((Int.tmod a0 288230376287764481) != (Int.tmod a1 288230376287764481)) = false := bne_eq_false_iff_eq.mpr c12
            clear c12
            have H' := Aside0.mk H
            clear H
            go_wp2
            go_meet
            case rel => exact ⟨_, (true), (by first | rfl | (simp; done) | (simp [*]; done)), H', ⟨by first | omega | exact Nat.le_refl _⟩, ⟨by repeat (first | (with_reducible first | exact HB.out | apply below_alloc | apply pw_below_drewN | apply below_drew1) | exact HB.out)⟩⟩
          · rw [if_neg c12] at H
            have c12b0 : ((Int.tmod a0 288230376287764481) == (Int.tmod a1 288230376287764481)) = false := beq_eq_false_iff_ne.mpr c12
            have c12b1 : ((Int.tmod a0 288230376287764481) != (Int.tmod a1 288230376287764481)) = true := bne_iff_ne.mpr c12
            replace H := Option.bind_eq_some_iff.mp H
            obtain ⟨t206, A130, H⟩ := H
            replace H : ((tree_Climb.f k a1 a2 l4).bind fun t207 => (obollaw16_TreeOne.j0 k a0 a1 a2 l3 l4 t205 (t206 != t207))) = some r := H
            have A13 := Aside0.mk A130
            clear A130
            replace H := Option.bind_eq_some_iff.mp H
            obtain ⟨t207, A140, H⟩ := H
            replace H : (obollaw16_TreeOne.j0 k a0 a1 a2 l3 l4 t205 (t206 != t207)) = some r := H
            have A14 := Aside0.mk A140
            clear A140
            have H' := Aside0.mk H
            clear H
            go_wp2_with (first | (go_at_call 35; (with_reducible refine (tree_Climb.calls k a0 a2 _ _ l3 t206 _ ?side1 ?side2 A13.out).mono ?_); (case side1 => repeat (first | exact (Kd.C_below HR3.out HB.out) | (with_reducible refine Kd.C_alloc ?_ _) | (with_reducible refine Kd.C_drewN ?_ _) | (with_reducible refine Kd.C_drew ?_))); (case side2 => exact HC3.out); rintro e w15 ⟨rfl, hb⟩; have n0_ := Aside0.mk (below_step (by repeat (first | (with_reducible first | exact HB.out | apply below_alloc | apply pw_below_drewN | apply below_drew1) | exact HB.out)) hb); clear HB; have HB := n0_; clear n0_; (try clear hb); (try clear hb2); (try clear hk); (try clear hi)) | (go_at_call 35; (with_reducible refine (tree_Climb.calls k a1 a2 _ _ l4 t207 _ ?side1 ?side2 A14.out).mono ?_); (case side1 => repeat (first | exact (Kd.C_below HR4.out HB.out) | (with_reducible refine Kd.C_alloc ?_ _) | (with_reducible refine Kd.C_drewN ?_ _) | (with_reducible refine Kd.C_drew ?_))); (case side2 => exact HC4.out); rintro e w16 ⟨rfl, hb⟩; have n0_ := Aside0.mk (below_step (by repeat (first | (with_reducible first | exact HB.out | apply below_alloc | apply pw_below_drewN | apply below_drew1) | exact HB.out)) hb); clear HB; have HB := n0_; clear n0_; (try clear hb); (try clear hb2); (try clear hk); (try clear hi)))
            go_meet
            case rel => exact ⟨_, ((t206 != t207)), (by first | rfl | (simp; done) | (simp [*]; done)), H', ⟨by first | omega | exact Nat.le_refl _⟩, ⟨by repeat (first | (with_reducible first | exact HB.out | apply below_alloc | apply pw_below_drewN | apply below_drew1) | exact HB.out)⟩⟩
      · rw [if_neg c10] at H
        have c10b0 : ((l4.length : Int) == (l3.length : Int)) = false := beq_eq_false_iff_ne.mpr c10
        have c10b1 : ((l4.length : Int) != (l3.length : Int)) = true := bne_iff_ne.mpr c10
        have c10b2 : (l4.length == l3.length) = false := by first | simpa using c10 | (simp at c10 ⊢; omega)
        have H' := Aside0.mk H
        clear H
        go_wp2
        go_meet
        case rel => exact ⟨_, (true), (by first | rfl | (simp; done) | (simp [*]; done)), H', ⟨by first | omega | exact Nat.le_refl _⟩, ⟨by repeat (first | (with_reducible first | exact HB.out | apply below_alloc | apply pw_below_drewN | apply below_drew1) | exact HB.out)⟩⟩
  case rest =>
    clear HC7
    try clear c1
    try clear c2
    try clear p2
    try clear c3
    try clear c4
    try clear c9
    try clear c9b0
    try clear c9b1
    try clear c10
    try clear c10b0
    try clear c10b1
    try clear c10b2
    try clear c11
    try clear c11b0
    try clear c12
    try clear c12b0
    try clear c12b1
    obtain ⟨kq, x56_6, rfl, HA, HJ6, HB⟩ := hcut
    cases kq with
    | zero => exact absurd HA.out (by simp [obollaw16_TreeOne.j0])
    | succ kj6 =>
      have H := HA.out
      clear HA
      simp only [obollaw16_TreeOne.j0] at H
      by_cases c17 : x56_6 = true
      · subst c17
        have H1 : (some t205) = some r := by rw [if_pos rfl] at H; exact H
        clear H
        have H := H1
        clear H1
        obtain rfl := Option.some.inj H
        go_wp2
        go_ret
        exact ⟨by first | rfl | (simp [errW_none, errW_some] <;> rfl) | (simp [*, errW_none, errW_some] <;> rfl), by repeat (first | (with_reducible first | exact HB.out | apply below_alloc | apply pw_below_drewN | apply below_drew1) | exact HB.out)⟩
      · replace c17 := Bool.eq_false_iff.mpr c17
        subst c17
        have H1 : (obollaw16_TreeOne.l0 kj6 a2 l3 l4 t205 (Int.tmod a0 288230376287764481) (Int.tmod a1 288230376287764481) 0) = some r := by rw [if_neg (show ¬ (false = true) by decide)] at H; exact H
        clear H
        have H := H1
        clear H1
        have H' := Aside0.mk H
        clear H
        go_wp2
        go_loopg [12, 13, 14] kj6 (fun kq v12 v13 v14 w' => ∃ (x12_2 : Int) (x13_2 : Int) (x14_2 : Int), v12 = .int .u64 x12_2 ∧ v13 = .int .u64 x13_2 ∧ v14 = .int .i64 x14_2 ∧ Aside0 (obollaw16_TreeOne.l0 kq a2 l3 l4 t205 x12_2 x13_2 x14_2 = some r) ∧ Aside0 (kq ≤ kj6) ∧ Aside0 (Below w.heap.size w w'))
        case atStart => exact ⟨(Int.tmod a0 288230376287764481), (Int.tmod a1 288230376287764481), (0), (by first | rfl | (simp; done) | (simp [*]; done)), (by first | rfl | (simp; done) | (simp [*]; done)), (by first | rfl | (simp; done) | (simp [*]; done)), H', ⟨Nat.le_refl _⟩, ⟨by repeat (first | (with_reducible first | exact HB.out | apply below_alloc | apply pw_below_drewN | apply below_drew1) | exact HB.out)⟩⟩
        case round =>
          clear H'
          try clear c1
          try clear c2
          try clear p2
          try clear c3
          try clear c4
          try clear c9
          try clear c9b0
          try clear c9b1
          try clear c10
          try clear c10b0
          try clear c10b1
          try clear c10b2
          try clear c11
          try clear c11b0
          try clear c12
          try clear c12b0
          try clear c12b1
          try clear c17
          try clear p2
          obtain ⟨x12_2, x13_2, x14_2, rfl, rfl, rfl, HA, HK2, HB⟩ := hrel
          cases gk with
          | zero => exact absurd HA.out (by simp [obollaw16_TreeOne.l0])
          | succ k2 =>
            have H := HA.out
            clear HA
            simp only [obollaw16_TreeOne.l0] at H
            by_cases c18 : x14_2 < (l3.length : Int)
            · rw [if_pos c18] at H
              have c18b0 : decide (x14_2 < (l3.length : Int)) = true := decide_eq_true c18
              clear c18
              by_cases c19 : 0 ≤ x14_2
              · rw [if_pos c19] at H
                have c19b0 : decide (0 ≤ x14_2) = true := decide_eq_true c19
                clear c19
                by_cases c20 : x14_2 < (l4.length : Int)
                · rw [if_pos c20] at H
                  have c20b0 : decide (x14_2 < (l4.length : Int)) = true := decide_eq_true c20
                  clear c20
                  have c21b0 := eq_true (of_decide_eq_true (by first | (with_reducible assumption) | assumption) : 0 ≤ x14_2)
                  obtain ⟨ji22, hji22⟩ : ∃ j_ : Int, (shr .i64 a2 x14_2) = j_ := ⟨_, rfl⟩
                  replace H : (if (Go.bits .and .i64 (ji22) 1) = 1 then (obollaw16_TreeOne.j2 k2 a2 l3 l4 t205 x14_2 (Int.tmod (rd l3 x14_2) 288230376287764481) x12_2 (Int.tmod (rd l4 x14_2) 288230376287764481) x13_2) else (obollaw16_TreeOne.j2 k2 a2 l3 l4 t205 x14_2 x12_2 (Int.tmod (rd l3 x14_2) 288230376287764481) x13_2 (Int.tmod (rd l4 x14_2) 288230376287764481))) = some r := by first | (rw [hji22] at H; exact H) | (simp only [hji22] at H ⊢; exact H)
                  have hji22_ : (a2 / 2 ^ min x14_2.toNat 64) = ji22 := hji22
                  have hji22z : x14_2 ≤ 64 → (a2 / 2 ^ x14_2.toNat) = ji22 := shr_small hji22
                  have HC23 := Aside0.mk H
                  clear H
                  have p208 : 0 ≤ (x14_2 : Int) := of_decide_eq_true (by first | (with_reducible assumption) | assumption)
                  have q208 : x14_2 < (l3.length : Int) := of_decide_eq_true (by first | (with_reducible assumption) | assumption)
                  obtain ⟨ad208, e208, hx208_0⟩ := Kd.at_int HR3.out x14_2 p208 q208
                  cases e208
                  replace hx208_0 := (HB.out.cell (World.block_lt_of_cell? w _ hx208_0)).trans hx208_0
                  replace p208 := eq_true p208
                  replace q208 := eq_true q208
                  have p209 : 0 ≤ (x14_2 : Int) := of_decide_eq_true (by first | (with_reducible assumption) | assumption)
                  have q209 : x14_2 < (l4.length : Int) := of_decide_eq_true (by first | (with_reducible assumption) | assumption)
                  obtain ⟨ad209, e209, hx209_0⟩ := Kd.at_int HR4.out x14_2 p209 q209
                  cases e209
                  replace hx209_0 := (HB.out.cell (World.block_lt_of_cell? w _ hx209_0)).trans hx209_0
                  replace p209 := eq_true p209
                  replace q209 := eq_true q209
                  go_upto_if 87 with (fail)
                  go_cut [18, 19, 20, 21] (fun v18 v19 v20 v21 wc => ∃ (kq : Nat) (x18_22 : Int) (x19_22 : Int) (x20_22 : Int) (x21_22 : Int), v18 = .int .u64 x18_22 ∧ v19 = .int .u64 x19_22 ∧ v20 = .int .u64 x20_22 ∧ v21 = .int .u64 x21_22 ∧ Aside0 (obollaw16_TreeOne.j2 kq a2 l3 l4 t205 x14_2 x18_22 x19_22 x20_22 x21_22 = some r) ∧ Aside0 (kq ≤ k2) ∧ Aside0 (Below w.heap.size w wc))
                  case first =>
                    have H := HC23.out
                    clear HC23
                    by_cases c24 : (Go.bits .and .i64 (ji22) 1) = 1
                    · rw [if_pos c24] at H
                      have c24b0 : ((Go.bits .and .i64 (ji22) 1) == 1) = true := beq_iff_eq.mpr c24
                      have c24b1 : ((Go.bits .and .i64 (ji22) 1) != 1) = false := bne_eq_false_iff_eq.mpr c24
                      clear c24
                      (first | rw [c24b0] | (simp only [i64_w, i32_w]; rw [c24b0]) | skip)
                      have H' := Aside0.mk H
                      clear H
                      go_wp2
                      (first | go_meet | (refine Met.intro ?_; go_step; (repeat apply Exists.intro); refine ⟨?rel, ?eq_⟩; (case eq_ => first | (rw [c24b0]; done) | (rw [c24b0]; rfl))))
                      case rel => exact ⟨_, (Int.tmod (rd l3 x14_2) 288230376287764481), (x12_2), (Int.tmod (rd l4 x14_2) 288230376287764481), (x13_2), (by first | rfl | (simp; done) | (simp [*]; done)), (by first | rfl | (simp; done) | (simp [*]; done)), (by first | rfl | (simp; done) | (simp [*]; done)), (by first | rfl | (simp; done) | (simp [*]; done)), H', ⟨by have := HJ6.out; have := HK2.out; first | omega | exact Nat.le_refl _⟩, ⟨by repeat (first | (with_reducible first | exact HB.out | apply below_alloc | apply pw_below_drewN | apply below_drew1) | exact HB.out)⟩⟩
                    · rw [if_neg c24] at H
                      have c24b0 : ((Go.bits .and .i64 (ji22) 1) == 1) = false := beq_eq_false_iff_ne.mpr c24
                      have c24b1 : ((Go.bits .and .i64 (ji22) 1) != 1) = true := bne_iff_ne.mpr c24
                      (first | rw [c24b0] | (simp only [i64_w, i32_w]; rw [c24b0]) | skip)
                      have H' := Aside0.mk H
                      clear H
                      go_wp2
                      (first | go_meet | (refine Met.intro ?_; go_step; (repeat apply Exists.intro); refine ⟨?rel, ?eq_⟩; (case eq_ => first | (rw [c24b0]; done) | (rw [c24b0]; rfl))))
                      case rel => exact ⟨_, (x12_2), (Int.tmod (rd l3 x14_2) 288230376287764481), (x13_2), (Int.tmod (rd l4 x14_2) 288230376287764481), (by first | rfl | (simp; done) | (simp [*]; done)), (by first | rfl | (simp; done) | (simp [*]; done)), (by first | rfl | (simp; done) | (simp [*]; done)), (by first | rfl | (simp; done) | (simp [*]; done)), H', ⟨by have := HJ6.out; have := HK2.out; first | omega | exact Nat.le_refl _⟩, ⟨by repeat (first | (with_reducible first | exact HB.out | apply below_alloc | apply pw_below_drewN | apply below_drew1) | exact HB.out)⟩⟩
                  case rest =>
                    clear HC23
                    try clear c1
                    try clear c2
                    try clear p2
                    try clear q2
                    try clear hx2
                    try clear c3
                    try clear c4
                    try clear c9
                    try clear c9b0
                    try clear c9b1
                    try clear c10
                    try clear c10b0
                    try clear c10b1
                    try clear c10b2
                    try clear c11
                    try clear c11b0
                    try clear c12
                    try clear c12b0
                    try clear c12b1
                    try clear c17
                    try clear c18
                    try clear c18b0
                    try clear c19
                    try clear c19b0
                    try clear c20
                    try clear c20b0
                    try clear p20
                    try clear q20
                    try clear hx20
                    try clear c21
                    try clear c21b0
                    try clear c23
                    try clear c24
                    try clear c24b0
                    try clear c24b1
                    try clear hx208_0
                    try clear hx209_0
                    try clear p2
                    try clear p208
                    try clear p209
                    try clear q208
                    try clear q209
                    obtain ⟨kq, x18_22, x19_22, x20_22, x21_22, rfl, rfl, rfl, rfl, HA, HJ22, HB⟩ := hcut
                    cases kq with
                    | zero => exact absurd HA.out (by simp [obollaw16_TreeOne.j2])
                    | succ kj22 =>
                      have H := HA.out
                      clear HA
                      simp only [obollaw16_TreeOne.j2] at H
                      replace H := Option.bind_eq_some_iff.mp H
                      obtain ⟨t210, A250, H⟩ := H
                      replace H : ((obolref10_Two.f kj22 x20_22 x21_22).bind fun t211 => (if t210 = t211 then (if t205 = true then (if x18_22 = x20_22 then (some (x19_22 != x21_22)) else (some true)) else (none)) else (obollaw16_TreeOne.l0 kj22 a2 l3 l4 t205 t210 t211 (wrap64 (x14_2 + 1))))) = some r := H
                      have A25 := Aside0.mk A250
                      clear A250
                      replace H := Option.bind_eq_some_iff.mp H
                      obtain ⟨t211, A260, H⟩ := H
                      replace H : (if t210 = t211 then (if t205 = true then (if x18_22 = x20_22 then (some (x19_22 != x21_22)) else (some true)) else (none)) else (obollaw16_TreeOne.l0 kj22 a2 l3 l4 t205 t210 t211 (wrap64 (x14_2 + 1)))) = some r := H
                      have A26 := Aside0.mk A260
                      clear A260
                      by_cases c27 : t210 = t211
                      · rw [if_pos c27] at H
                        have c27b0 : (t210 == t211) = true := beq_iff_eq.mpr c27
                        have c27b1 : (t210 != t211) = false := bne_eq_false_iff_eq.mpr c27
                        clear c27
                        by_cases c28 : t205 = true
                        · subst c28
                          have H1 : (if x18_22 = x20_22 then (some (x19_22 != x21_22)) else (some true)) = some r := by rw [if_pos rfl] at H; exact H
                          clear H
                          have H := H1
                          clear H1
                          by_cases c29 : x18_22 = x20_22
                          · rw [if_pos c29] at H
                            have c29b0 : (x18_22 == x20_22) = true := beq_iff_eq.mpr c29
                            have c29b1 : (x18_22 != x20_22) = false := bne_eq_false_iff_eq.mpr c29
                            clear c29
                            obtain rfl := Option.some.inj H
                            go_wp2_with (first | ((with_reducible refine gate_callee (f := 37) rfl ?_); refine goesL_ (some 94) rfl rfl Try.func37 (by kernel_rfl) rfl #[.int .u64 x18_22, .int .u64 x19_22] rfl (by (try simp only [List.map_toArray, List.map_cons, List.map_nil]); first | done | rfl | (simp only [List.length_drop, List.length_take]; rfl)) ?_; (with_reducible refine (obolref10_Two.calls kj22 x18_22 x19_22 t210 _ A25.out).mono ?_); rintro e w' ⟨rfl, ⟨nd, rfl⟩⟩; refine ⟨_, rfl, ?_⟩) | ((with_reducible refine gate_callee (f := 37) rfl ?_); refine goesL_ (some 97) rfl rfl Try.func37 (by kernel_rfl) rfl #[.int .u64 x20_22, .int .u64 x21_22] rfl (by (try simp only [List.map_toArray, List.map_cons, List.map_nil]); first | done | rfl | (simp only [List.length_drop, List.length_take]; rfl)) ?_; (with_reducible refine (obolref10_Two.calls kj22 x20_22 x21_22 t211 _ A26.out).mono ?_); rintro e w' ⟨rfl, ⟨nd, rfl⟩⟩; refine ⟨_, rfl, ?_⟩))
                            go_ret
                            exact ⟨by first | rfl | (simp [errW_none, errW_some] <;> rfl) | (simp only [← hji22]; first | rfl | (simp [errW_none, errW_some] <;> rfl)) | (simp [*, errW_none, errW_some] <;> rfl), by repeat (first | (with_reducible first | exact HB.out | apply below_alloc | apply pw_below_drewN | apply below_drew1) | exact HB.out)⟩
                          · rw [if_neg c29] at H
                            have c29b0 : (x18_22 == x20_22) = false := beq_eq_false_iff_ne.mpr c29
                            have c29b1 : (x18_22 != x20_22) = true := bne_iff_ne.mpr c29
                            obtain rfl := Option.some.inj H
                            go_wp2_with (first | ((with_reducible refine gate_callee (f := 37) rfl ?_); refine goesL_ (some 94) rfl rfl Try.func37 (by kernel_rfl) rfl #[.int .u64 x18_22, .int .u64 x19_22] rfl (by (try simp only [List.map_toArray, List.map_cons, List.map_nil]); first | done | rfl | (simp only [List.length_drop, List.length_take]; rfl)) ?_; (with_reducible refine (obolref10_Two.calls kj22 x18_22 x19_22 t210 _ A25.out).mono ?_); rintro e w' ⟨rfl, ⟨nd, rfl⟩⟩; refine ⟨_, rfl, ?_⟩) | ((with_reducible refine gate_callee (f := 37) rfl ?_); refine goesL_ (some 97) rfl rfl Try.func37 (by kernel_rfl) rfl #[.int .u64 x20_22, .int .u64 x21_22] rfl (by (try simp only [List.map_toArray, List.map_cons, List.map_nil]); first | done | rfl | (simp only [List.length_drop, List.length_take]; rfl)) ?_; (with_reducible refine (obolref10_Two.calls kj22 x20_22 x21_22 t211 _ A26.out).mono ?_); rintro e w' ⟨rfl, ⟨nd, rfl⟩⟩; refine ⟨_, rfl, ?_⟩))
                            go_ret
                            exact ⟨by first | rfl | (simp [errW_none, errW_some] <;> rfl) | (simp only [← hji22]; first | rfl | (simp [errW_none, errW_some] <;> rfl)) | (simp [*, errW_none, errW_some] <;> rfl), by repeat (first | (with_reducible first | exact HB.out | apply below_alloc | apply pw_below_drewN | apply below_drew1) | exact HB.out)⟩
                        · replace c28 := Bool.eq_false_iff.mpr c28
                          subst c28
                          have H1 : (none) = some r := by rw [if_neg (show ¬ (false = true) by decide)] at H; exact H
                          clear H
                          have H := H1
                          clear H1
                          exact absurd H (by simp)
                      · rw [if_neg c27] at H
                        have c27b0 : (t210 == t211) = false := beq_eq_false_iff_ne.mpr c27
                        have c27b1 : (t210 != t211) = true := bne_iff_ne.mpr c27
                        have H' := Aside0.mk H
                        clear H
                        go_wp2_with (first | ((with_reducible refine gate_callee (f := 37) rfl ?_); refine goesL_ (some 94) rfl rfl Try.func37 (by kernel_rfl) rfl #[.int .u64 x18_22, .int .u64 x19_22] rfl (by (try simp only [List.map_toArray, List.map_cons, List.map_nil]); first | done | rfl | (simp only [List.length_drop, List.length_take]; rfl)) ?_; (with_reducible refine (obolref10_Two.calls kj22 x18_22 x19_22 t210 _ A25.out).mono ?_); rintro e w' ⟨rfl, ⟨nd, rfl⟩⟩; refine ⟨_, rfl, ?_⟩) | ((with_reducible refine gate_callee (f := 37) rfl ?_); refine goesL_ (some 97) rfl rfl Try.func37 (by kernel_rfl) rfl #[.int .u64 x20_22, .int .u64 x21_22] rfl (by (try simp only [List.map_toArray, List.map_cons, List.map_nil]); first | done | rfl | (simp only [List.length_drop, List.length_take]; rfl)) ?_; (with_reducible refine (obolref10_Two.calls kj22 x20_22 x21_22 t211 _ A26.out).mono ?_); rintro e w' ⟨rfl, ⟨nd, rfl⟩⟩; refine ⟨_, rfl, ?_⟩))
                        go_roundg kj22
                        case measure => have := HJ6.out; have := HK2.out; have := HJ22.out; omega
                        case rel => exact ⟨(t210), (t211), (wrap64 (x14_2 + 1)), (by first | rfl | (simp; done) | (simp [*]; done)), (by first | rfl | (simp; done) | (simp [*]; done)), (by first | rfl | (simp; done) | (simp [*]; done)), H', ⟨by have := HJ6.out; have := HK2.out; have := HJ22.out; omega⟩, ⟨by repeat (first | (with_reducible first | exact HB.out | apply below_alloc | apply pw_below_drewN | apply below_drew1) | exact HB.out)⟩⟩
                · rw [if_neg c20] at H
                  exact absurd H (by simp)
              · rw [if_neg c19] at H
                exact absurd H (by simp)
            · rw [if_neg c18] at H
              exact absurd H (by simp)

/-- THE ONE PURE STATEMENT of obollaw16_TreeOne: yours. -/
def obollaw16_TreeOne.Pure : Prop := ∀ (a0 : Int) (a1 : Int) (a2 : Int) (l3 : List Int) (l4 : List Int), (Lit.int .u64 a0).wf = true → (Lit.int .u64 a1).wf = true → (Lit.int .i64 a2).wf = true → l3.length ≤ maxLen → l3.length * 8 ≤ 140737488351232 → (∀ x ∈ l3, (Lit.int .u64 x).wf = true) → l4.length ≤ maxLen → l4.length * 8 ≤ 140737488351232 → (∀ x ∈ l4, (Lit.int .u64 x).wf = true) → ∃ k, obollaw16_TreeOne.f k a0 a1 a2 l3 l4 = some true
theorem obollaw16_TreeOne.walk (P : obollaw16_TreeOne.Pure) (a0 : Int) (a1 : Int) (a2 : Int) (a3 : Option Addr) (len3 cap3 : Nat) (z3 : List Int) (a4 : Option Addr) (len4 cap4 : Nat) (z4 : List Int) (w : World) (w0 : (Lit.int .u64 a0).wf = true) (w1 : (Lit.int .u64 a1).wf = true) (w2 : (Lit.int .i64 a2).wf = true) (w3 : (a3 = none ∧ len3 = 0 ∧ cap3 = 0 ∧ z3 = []) ∨ ∃ x, a3 = some x ∧ len3 ≤ cap3 ∧ cap3 ≤ maxLen ∧ z3.length = cap3 ∧ (∀ i, i < z3.length → w.cell? (x.add i) = some (.int .u64 (z3.getD i 0))) ∧ ∀ n ∈ z3, (Lit.int .u64 n).wf = true) (y3 : len3 * 8 ≤ 140737488351232) (w4 : (a4 = none ∧ len4 = 0 ∧ cap4 = 0 ∧ z4 = []) ∨ ∃ x, a4 = some x ∧ len4 ≤ cap4 ∧ cap4 ≤ maxLen ∧ z4.length = cap4 ∧ (∀ i, i < z4.length → w.cell? (x.add i) = some (.int .u64 (z4.getD i 0))) ∧ ∀ n ∈ z4, (Lit.int .u64 n).wf = true) (y4 : len4 * 8 ≤ 140737488351232) :
    Calls Try.prog 10 #[.int .u64 a0, .int .u64 a1, .int .i64 a2, .slice a3 len3 cap3, .slice a4 len4 cap4] w fun e w' => e = .returned (.bool true) ∧ Below w.heap.size w w' := by
  obtain ⟨l3, rfl, hr3, hm3, hw3, hc3⟩ := ReadsInt.ofRowC w3
  obtain ⟨l4, rfl, hr4, hm4, hw4, hc4⟩ := ReadsInt.ofRowC w4
  obtain ⟨k, h⟩ := P a0 a1 a2 l3 l4 w0 w1 w2 hm3 y3 hw3 hm4 y4 hw4
  refine (obollaw16_TreeOne.calls k a0 a1 a2 _ _ l3 _ _ l4 true w (Kd.C_of_reads (d := (0 : Int)) (h1 := fun _ => rfl) hr3) hc3 (Kd.C_of_reads (d := (0 : Int)) (h1 := fun _ => rfl) hr4) hc4 h).mono ?_
  rintro e w' ⟨rfl, hd⟩
  exact ⟨rfl, hd⟩

end Go.Proofs.Ytempibbfdojfiac.PTreeOne
