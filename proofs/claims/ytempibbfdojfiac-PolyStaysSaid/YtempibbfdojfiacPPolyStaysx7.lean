-- printed by a program of this session (wip/tools/mkprint.py)
import Derived.Test.YtempibbfdojfiacPPolyStaysx0
namespace Go.Proofs.Ytempibbfdojfiac.PPolyStays
open Go.RowKit Go.Proofs.YtempibbfdojfiacW.PrintWords Go.Proofs.YtempibbfdojfiacW.PrintLast Go.Proofs.YtempibbfdojfiacW.PrintMore
attribute [local go_sem] max2_int min2_int max_two min_two max_three min_three max_four min_four   -- for this text's walks alone
set_option linter.unusedVariables false
set_option linter.unusedSimpArgs false

attribute [local go_sem high] errCmp_eql errCmp_neq errCmpL_eql errCmpL_neq
/-! ### obolref01_Mul: function 64 -/
mutual
def obolref01_Mul.l0 : Nat → Int → Int → Int → Int → Int → Option (Int)
  | 0, _, _, _, _, _ => none
  | k + 1, x0, x7, x8, x9, x10 => if x10 < 64 then (if x9 ≥ (IntKind.u64.wrap (x0 - x9)) then (obolref01_Mul.j1 k x0 x7 x8 (IntKind.u64.wrap (x9 - (IntKind.u64.wrap (x0 - x9)))) x10) else (obolref01_Mul.j1 k x0 x7 x8 (IntKind.u64.wrap (x9 + x9)) x10)) else (some x9)
def obolref01_Mul.j1 : Nat → Int → Int → Int → Int → Int → Option (Int)
  | 0, _, _, _, _, _ => none
  | k + 1, x0, x7, x8, x9, x10 => if 0 ≤ (wrap64 (63 - x10)) then (if (Go.bits .and .u64 (shr .u64 x8 (wrap64 (63 - x10))) 1) = 1 then (if x9 ≥ (IntKind.u64.wrap (x0 - x7)) then (obolref01_Mul.l0 k x0 x7 x8 (IntKind.u64.wrap (x9 - (IntKind.u64.wrap (x0 - x7)))) (wrap64 (x10 + 1))) else (obolref01_Mul.l0 k x0 x7 x8 (IntKind.u64.wrap (x9 + x7)) (wrap64 (x10 + 1)))) else (obolref01_Mul.l0 k x0 x7 x8 x9 (wrap64 (x10 + 1)))) else (none)
end
def obolref01_Mul.f (k : Nat) (a0 : Int) (a1 : Int) (a2 : Int) : Option (Int) := if a0 = 0 then (none) else (obolref01_Mul.l0 k a0 (Int.tmod a1 a0) (Int.tmod a2 a0) 0 0)
theorem obolref01_Mul.mono_l : ∀ k, (∀ y0 y1 y2 y3 y4, LeO (obolref01_Mul.l0 k y0 y1 y2 y3 y4) (obolref01_Mul.l0 (k + 1) y0 y1 y2 y3 y4)) ∧ (∀ y0 y1 y2 y3 y4, LeO (obolref01_Mul.j1 k y0 y1 y2 y3 y4) (obolref01_Mul.j1 (k + 1) y0 y1 y2 y3 y4))
  | 0 => ⟨fun _ _ _ _ _ r h => by simp [obolref01_Mul.l0] at h, fun _ _ _ _ _ r h => by simp [obolref01_Mul.j1] at h⟩
  | k + 1 => by
    obtain ⟨ih0, ih1⟩ := obolref01_Mul.mono_l k
    refine ⟨?_, ?_⟩
    · intro y0 y1 y2 y3 y4
      unfold obolref01_Mul.l0
      repeat' first
      | (with_reducible exact ih0 _ _ _ _ _)
      | (with_reducible exact ih1 _ _ _ _ _)
      | (with_reducible exact LeO.refl _)
      | (with_reducible exact LeO.none _)
      | (with_reducible refine LeO.ite ?_ ?_)
      | (with_reducible refine LeO.bind ?_ (fun _ => ?_))
      | exact ih0 _ _ _ _ _
      | exact ih1 _ _ _ _ _
      | exact LeO.none _
      | refine LeO.ite ?_ ?_
      | refine LeO.bind ?_ (fun _ => ?_)
    · intro y0 y1 y2 y3 y4
      unfold obolref01_Mul.j1
      repeat' first
      | (with_reducible exact ih0 _ _ _ _ _)
      | (with_reducible exact ih1 _ _ _ _ _)
      | (with_reducible exact LeO.refl _)
      | (with_reducible exact LeO.none _)
      | (with_reducible refine LeO.ite ?_ ?_)
      | (with_reducible refine LeO.bind ?_ (fun _ => ?_))
      | exact ih0 _ _ _ _ _
      | exact ih1 _ _ _ _ _
      | exact LeO.none _
      | refine LeO.ite ?_ ?_
      | refine LeO.bind ?_ (fun _ => ?_)
theorem obolref01_Mul.mono : ∀ a0 a1 a2 k, LeO (obolref01_Mul.f k a0 a1 a2) (obolref01_Mul.f (k + 1) a0 a1 a2) := by
  intro a0 a1 a2 k
  obtain ⟨ih0, ih1⟩ := obolref01_Mul.mono_l k
  unfold obolref01_Mul.f
  repeat' first
      | (with_reducible exact ih0 _ _ _ _ _)
      | (with_reducible exact ih1 _ _ _ _ _)
      | (with_reducible exact LeO.refl _)
      | (with_reducible exact LeO.none _)
      | (with_reducible refine LeO.ite ?_ ?_)
      | (with_reducible refine LeO.bind ?_ (fun _ => ?_))
      | exact ih0 _ _ _ _ _
      | exact ih1 _ _ _ _ _
      | exact LeO.none _
      | refine LeO.ite ?_ ?_
      | refine LeO.bind ?_ (fun _ => ?_)
set_option maxHeartbeats 8000000 in
set_option maxRecDepth 100000 in
theorem obolref01_Mul.calls (k : Nat) (a0 : Int) (a1 : Int) (a2 : Int) (r : Int) (w : World) (h : obolref01_Mul.f k a0 a1 a2 = some r) :
    Calls Try.prog 64 #[.int .u64 a0, .int .u64 a1, .int .u64 a2] w fun e w' => e = .returned (.int .u64 r) ∧ Drawn0 w w' := by
  have H : (if a0 = 0 then (none) else (obolref01_Mul.l0 k a0 (Int.tmod a1 a0) (Int.tmod a2 a0) 0 0)) = some r := h
  clear h
  by_cases c4 : a0 = 0
  · rw [if_pos c4] at H
    exact absurd H (by simp)
  · rw [if_neg c4] at H
    have c4b0 : (a0 == 0) = false := beq_eq_false_iff_ne.mpr c4
    have c4b1 : (a0 != 0) = true := bne_iff_ne.mpr c4
    have H' := Aside0.mk H
    clear H
    go_enter Try.func64, Try.ntmps64
    go_wp2
    go_loopg [9, 10] k (fun kq v9 v10 w' => ∃ (x9_1 : Int) (x10_1 : Int), v9 = .int .u64 x9_1 ∧ v10 = .int .i64 x10_1 ∧ Aside0 (obolref01_Mul.l0 kq a0 (Int.tmod a1 a0) (Int.tmod a2 a0) x9_1 x10_1 = some r) ∧ Aside0 (kq ≤ k) ∧ Drawn0 w w')
    case atStart => exact ⟨(0), (0), (by first | rfl | (simp; done) | (simp [*]; done)), (by first | rfl | (simp; done) | (simp [*]; done)), H', ⟨Nat.le_refl _⟩, by repeat (first | exact Drawn0.refl _ | apply Drawn0.step)⟩
    case round =>
      clear H'
      try clear p2
      try clear c4
      try clear c4b0
      try clear c4b1
      obtain ⟨x9_1, x10_1, rfl, rfl, HA, HK1, ⟨m1, rfl⟩⟩ := hrel
      cases gk with
      | zero => exact absurd HA.out (by simp [obolref01_Mul.l0])
      | succ k1 =>
        have H := HA.out
        clear HA
        simp only [obolref01_Mul.l0] at H
        by_cases c5 : x10_1 < 64
        · rw [if_pos c5] at H
          have c5b0 : decide (x10_1 < 64) = true := decide_eq_true c5
          clear c5
          have HC6 := Aside0.mk H
          clear H
          go_upto_if 25 with (fail)
          go_cut [9] (fun v9 wc => ∃ (kq : Nat) (x9_5 : Int), v9 = .int .u64 x9_5 ∧ Aside0 (obolref01_Mul.j1 kq a0 (Int.tmod a1 a0) (Int.tmod a2 a0) x9_5 x10_1 = some r) ∧ Aside0 (kq ≤ k1) ∧ Drawn0 w wc)
          case first =>
            have H := HC6.out
            clear HC6
            by_cases c7 : x9_1 ≥ (IntKind.u64.wrap (a0 - x9_1))
            · rw [if_pos c7] at H
              have c7b0 : decide ((IntKind.u64.wrap (a0 - x9_1)) ≤ x9_1) = true := decide_eq_true c7
              clear c7
              (first | rw [c7b0] | (simp only [i64_w, i32_w]; rw [c7b0]) | skip)
              have H' := Aside0.mk H
              clear H
              go_wp2
              go_meet
              case rel => exact ⟨_, (IntKind.u64.wrap (x9_1 - (IntKind.u64.wrap (a0 - x9_1)))), (by first | rfl | (simp; done) | (simp [*]; done)), H', ⟨by have := HK1.out; first | omega | exact Nat.le_refl _⟩, by repeat (first | exact Drawn0.refl _ | apply Drawn0.step)⟩
            · rw [if_neg c7] at H
              have c7b0 : decide ((IntKind.u64.wrap (a0 - x9_1)) ≤ x9_1) = false := decide_eq_false c7
              clear c7
              (first | rw [c7b0] | (simp only [i64_w, i32_w]; rw [c7b0]) | skip)
              have H' := Aside0.mk H
              clear H
              go_wp2
              go_meet
              case rel => exact ⟨_, (IntKind.u64.wrap (x9_1 + x9_1)), (by first | rfl | (simp; done) | (simp [*]; done)), H', ⟨by have := HK1.out; first | omega | exact Nat.le_refl _⟩, by repeat (first | exact Drawn0.refl _ | apply Drawn0.step)⟩
          case rest =>
            clear HC6
            try clear p2
            try clear c4
            try clear c4b0
            try clear c4b1
            try clear c5
            try clear c5b0
            try clear c6
            try clear c7
            try clear c7b0
            try clear p2
            obtain ⟨kq, x9_5, rfl, HA, HJ5, ⟨mc5, rfl⟩⟩ := hcut
            cases kq with
            | zero => exact absurd HA.out (by simp [obolref01_Mul.j1])
            | succ kj5 =>
              have H := HA.out
              clear HA
              simp only [obolref01_Mul.j1] at H
              obtain ⟨ji8, hji8⟩ : ∃ j_ : Int, (wrap64 (63 - x10_1)) = j_ := ⟨_, rfl⟩
              replace H : (if 0 ≤ (ji8) then (if (Go.bits .and .u64 (shr .u64 (Int.tmod a2 a0) (ji8)) 1) = 1 then (if x9_5 ≥ (IntKind.u64.wrap (a0 - (Int.tmod a1 a0))) then (obolref01_Mul.l0 kj5 a0 (Int.tmod a1 a0) (Int.tmod a2 a0) (IntKind.u64.wrap (x9_5 - (IntKind.u64.wrap (a0 - (Int.tmod a1 a0))))) (wrap64 (x10_1 + 1))) else (obolref01_Mul.l0 kj5 a0 (Int.tmod a1 a0) (Int.tmod a2 a0) (IntKind.u64.wrap (x9_5 + (Int.tmod a1 a0))) (wrap64 (x10_1 + 1)))) else (obolref01_Mul.l0 kj5 a0 (Int.tmod a1 a0) (Int.tmod a2 a0) x9_5 (wrap64 (x10_1 + 1)))) else (none)) = some r := by first | (rw [hji8] at H; exact H) | (simp only [hji8] at H ⊢; exact H)
              have hji8w : (IntKind.i64.wrap (63 - x10_1)) = ji8 := (i64_w _).trans hji8
              by_cases c9 : 0 ≤ (ji8)
              · rw [if_pos c9] at H
                have c9b0 := eq_true c9
                have c9b1 : decide (0 ≤ (ji8)) = true := decide_eq_true c9
                clear c9
                obtain ⟨ji10, hji10⟩ : ∃ j_ : Int, (shr .u64 (Int.tmod a2 a0) (ji8)) = j_ := ⟨_, rfl⟩
                replace H : (if (Go.bits .and .u64 (ji10) 1) = 1 then (if x9_5 ≥ (IntKind.u64.wrap (a0 - (Int.tmod a1 a0))) then (obolref01_Mul.l0 kj5 a0 (Int.tmod a1 a0) (Int.tmod a2 a0) (IntKind.u64.wrap (x9_5 - (IntKind.u64.wrap (a0 - (Int.tmod a1 a0))))) (wrap64 (x10_1 + 1))) else (obolref01_Mul.l0 kj5 a0 (Int.tmod a1 a0) (Int.tmod a2 a0) (IntKind.u64.wrap (x9_5 + (Int.tmod a1 a0))) (wrap64 (x10_1 + 1)))) else (obolref01_Mul.l0 kj5 a0 (Int.tmod a1 a0) (Int.tmod a2 a0) x9_5 (wrap64 (x10_1 + 1)))) = some r := by first | (rw [hji10] at H; exact H) | (simp only [hji10] at H ⊢; exact H)
                have hji10_ : ((Int.tmod a2 a0) / 2 ^ min (ji8).toNat 64) = ji10 := hji10
                have hji10z : (ji8) ≤ 64 → ((Int.tmod a2 a0) / 2 ^ (ji8).toNat) = ji10 := shr_small hji10
                by_cases c11 : (Go.bits .and .u64 (ji10) 1) = 1
                · rw [if_pos c11] at H
                  have c11b0 : ((Go.bits .and .u64 (ji10) 1) == 1) = true := beq_iff_eq.mpr c11
                  have c11b1 : ((Go.bits .and .u64 (ji10) 1) != 1) = false := bne_eq_false_iff_eq.mpr c11
                  clear c11
                  by_cases c12 : x9_5 ≥ (IntKind.u64.wrap (a0 - (Int.tmod a1 a0)))
                  · rw [if_pos c12] at H
                    have c12b0 : decide ((IntKind.u64.wrap (a0 - (Int.tmod a1 a0))) ≤ x9_5) = true := decide_eq_true c12
                    clear c12
                    have H' := Aside0.mk H
                    clear H
                    go_wp2
                    go_roundg kj5
                    case measure => have := HK1.out; have := HJ5.out; omega
                    case rel => exact ⟨(IntKind.u64.wrap (x9_5 - (IntKind.u64.wrap (a0 - (Int.tmod a1 a0))))), (wrap64 (x10_1 + 1)), (by first | rfl | (simp; done) | (simp [*]; done)), (by first | rfl | (simp; done) | (simp [*]; done)), H', ⟨by have := HK1.out; have := HJ5.out; omega⟩, by repeat (first | exact Drawn0.refl _ | apply Drawn0.step)⟩
                  · rw [if_neg c12] at H
                    have c12b0 : decide ((IntKind.u64.wrap (a0 - (Int.tmod a1 a0))) ≤ x9_5) = false := decide_eq_false c12
                    clear c12
                    have H' := Aside0.mk H
                    clear H
                    go_wp2
                    go_roundg kj5
                    case measure => have := HK1.out; have := HJ5.out; omega
                    case rel => exact ⟨(IntKind.u64.wrap (x9_5 + (Int.tmod a1 a0))), (wrap64 (x10_1 + 1)), (by first | rfl | (simp; done) | (simp [*]; done)), (by first | rfl | (simp; done) | (simp [*]; done)), H', ⟨by have := HK1.out; have := HJ5.out; omega⟩, by repeat (first | exact Drawn0.refl _ | apply Drawn0.step)⟩
                · rw [if_neg c11] at H
                  have c11b0 : ((Go.bits .and .u64 (ji10) 1) == 1) = false := beq_eq_false_iff_ne.mpr c11
                  have c11b1 : ((Go.bits .and .u64 (ji10) 1) != 1) = true := bne_iff_ne.mpr c11
                  have H' := Aside0.mk H
                  clear H
                  go_wp2
                  go_roundg kj5
                  case measure => have := HK1.out; have := HJ5.out; omega
                  case rel => exact ⟨(x9_5), (wrap64 (x10_1 + 1)), (by first | rfl | (simp; done) | (simp [*]; done)), (by first | rfl | (simp; done) | (simp [*]; done)), H', ⟨by have := HK1.out; have := HJ5.out; omega⟩, by repeat (first | exact Drawn0.refl _ | apply Drawn0.step)⟩
              · rw [if_neg c9] at H
                exact absurd H (by simp)
        · rw [if_neg c5] at H
          have c5b0 : decide (x10_1 < 64) = false := decide_eq_false c5
          clear c5
          obtain rfl := Option.some.inj H
          go_wp2
          go_ret
          exact ⟨by first | rfl | (simp; done) | (simp [*]; done), by repeat (first | exact Drawn0.refl _ | apply Drawn0.step)⟩

/-! ### obolref07_Mul: function 34 -/
def obolref07_Mul.f (k : Nat) (a0 : Int) (a1 : Int) : Option (Int) := (obolref01_Mul.f k 288230376287764481 a0 a1).bind fun t223 => (some t223)
theorem obolref07_Mul.mono : ∀ a0 a1 k, LeO (obolref07_Mul.f k a0 a1) (obolref07_Mul.f (k + 1) a0 a1) := by
  intro a0 a1 k
  unfold obolref07_Mul.f
  repeat' first
      | (with_reducible exact obolref01_Mul.mono _ _ _ _)
      | (with_reducible exact LeO.refl _)
      | (with_reducible exact LeO.none _)
      | (with_reducible refine LeO.ite ?_ ?_)
      | (with_reducible refine LeO.bind ?_ (fun _ => ?_))
      | exact obolref01_Mul.mono _ _ _ _
      | exact LeO.none _
      | refine LeO.ite ?_ ?_
      | refine LeO.bind ?_ (fun _ => ?_)
set_option maxHeartbeats 8000000 in
set_option maxRecDepth 100000 in
theorem obolref07_Mul.calls (k : Nat) (a0 : Int) (a1 : Int) (r : Int) (w : World) (h : obolref07_Mul.f k a0 a1 = some r) :
    Calls Try.prog 34 #[.int .u64 a0, .int .u64 a1] w fun e w' => e = .returned (.int .u64 r) ∧ Drawn0 w w' := by
  have H : ((obolref01_Mul.f k 288230376287764481 a0 a1).bind fun t223 => (some t223)) = some r := h
  clear h
  replace H := Option.bind_eq_some_iff.mp H
  obtain ⟨t223, A30, H⟩ := H
  replace H : (some t223) = some r := H
  have A3 := Aside0.mk A30
  clear A30
  obtain rfl := Option.some.inj H
  go_enter Try.func34, Try.ntmps34
  go_wp2_with (first | ((with_reducible refine gate_callee (f := 64) rfl ?_); refine goesL_ (some 7) rfl rfl Try.func64 (by kernel_rfl) rfl #[.int .u64 288230376287764481, .int .u64 a0, .int .u64 a1] rfl (by (try simp only [List.map_toArray, List.map_cons, List.map_nil]); first | done | rfl | (simp only [List.length_drop, List.length_take]; rfl)) ?_; (with_reducible refine (obolref01_Mul.calls k 288230376287764481 a0 a1 t223 _ A3.out).mono ?_); rintro e w' ⟨rfl, ⟨nd, rfl⟩⟩; refine ⟨_, rfl, ?_⟩))
  go_ret
  exact ⟨by first | rfl | (simp; done) | (simp [*]; done), by repeat (first | exact Drawn0.refl _ | apply Drawn0.step)⟩

/-! ### obolref01_Add: function 77 -/
def obolref01_Add.f (a0 : Int) (a1 : Int) (a2 : Int) : Option (Int) := if a0 = 0 then (none) else (if (Int.tmod a1 a0) ≥ (IntKind.u64.wrap (a0 - (Int.tmod a2 a0))) then (some (IntKind.u64.wrap ((Int.tmod a1 a0) - (IntKind.u64.wrap (a0 - (Int.tmod a2 a0)))))) else (some (IntKind.u64.wrap ((Int.tmod a1 a0) + (Int.tmod a2 a0)))))
set_option maxHeartbeats 8000000 in
set_option maxRecDepth 100000 in
theorem obolref01_Add.calls (a0 : Int) (a1 : Int) (a2 : Int) (r : Int) (w : World) (h : obolref01_Add.f a0 a1 a2 = some r) :
    Calls Try.prog 77 #[.int .u64 a0, .int .u64 a1, .int .u64 a2] w fun e w' => e = .returned (.int .u64 r) ∧ Drawn0 w w' := by
  have H : (if a0 = 0 then (none) else (if (Int.tmod a1 a0) ≥ (IntKind.u64.wrap (a0 - (Int.tmod a2 a0))) then (some (IntKind.u64.wrap ((Int.tmod a1 a0) - (IntKind.u64.wrap (a0 - (Int.tmod a2 a0)))))) else (some (IntKind.u64.wrap ((Int.tmod a1 a0) + (Int.tmod a2 a0)))))) = some r := h
  clear h
  by_cases c4 : a0 = 0
  · rw [if_pos c4] at H
    exact absurd H (by simp)
  · rw [if_neg c4] at H
    have c4b0 : (a0 == 0) = false := beq_eq_false_iff_ne.mpr c4
    have c4b1 : (a0 != 0) = true := bne_iff_ne.mpr c4
    by_cases c5 : (Int.tmod a1 a0) ≥ (IntKind.u64.wrap (a0 - (Int.tmod a2 a0)))
    · rw [if_pos c5] at H
      have c5b0 : decide ((IntKind.u64.wrap (a0 - (Int.tmod a2 a0))) ≤ (Int.tmod a1 a0)) = true := decide_eq_true c5
      clear c5
      obtain rfl := Option.some.inj H
      go_enter Try.func77, Try.ntmps77
      go_wp2
      go_ret
      exact ⟨by first | rfl | (simp; done) | (simp [*]; done), by repeat (first | exact Drawn0.refl _ | apply Drawn0.step)⟩
    · rw [if_neg c5] at H
      have c5b0 : decide ((IntKind.u64.wrap (a0 - (Int.tmod a2 a0))) ≤ (Int.tmod a1 a0)) = false := decide_eq_false c5
      clear c5
      obtain rfl := Option.some.inj H
      go_enter Try.func77, Try.ntmps77
      go_wp2
      go_ret
      exact ⟨by first | rfl | (simp; done) | (simp [*]; done), by repeat (first | exact Drawn0.refl _ | apply Drawn0.step)⟩

/-! ### obolref07_Plus: function 65 -/
def obolref07_Plus.f (a0 : Int) (a1 : Int) : Option (Int) := (obolref01_Add.f 288230376287764481 a0 a1).bind fun t224 => (some t224)
set_option maxHeartbeats 8000000 in
set_option maxRecDepth 100000 in
theorem obolref07_Plus.calls (a0 : Int) (a1 : Int) (r : Int) (w : World) (h : obolref07_Plus.f a0 a1 = some r) :
    Calls Try.prog 65 #[.int .u64 a0, .int .u64 a1] w fun e w' => e = .returned (.int .u64 r) ∧ Drawn0 w w' := by
  have H : ((obolref01_Add.f 288230376287764481 a0 a1).bind fun t224 => (some t224)) = some r := h
  clear h
  replace H := Option.bind_eq_some_iff.mp H
  obtain ⟨t224, A30, H⟩ := H
  replace H : (some t224) = some r := H
  have A3 := Aside0.mk A30
  clear A30
  obtain rfl := Option.some.inj H
  go_enter Try.func65, Try.ntmps65
  go_wp2_with (first | ((with_reducible refine gate_callee (f := 77) rfl ?_); refine goesL_ (some 7) rfl rfl Try.func77 (by kernel_rfl) rfl #[.int .u64 288230376287764481, .int .u64 a0, .int .u64 a1] rfl (by (try simp only [List.map_toArray, List.map_cons, List.map_nil]); first | done | rfl | (simp only [List.length_drop, List.length_take]; rfl)) ?_; (with_reducible refine (obolref01_Add.calls 288230376287764481 a0 a1 t224 _ A3.out).mono ?_); rintro e w' ⟨rfl, ⟨nd, rfl⟩⟩; refine ⟨_, rfl, ?_⟩))
  go_ret
  exact ⟨by first | rfl | (simp; done) | (simp [*]; done), by repeat (first | exact Drawn0.refl _ | apply Drawn0.step)⟩

/-! ### obolref13_Short: function 67 -/
def obolref13_Short.l0 : Nat → List Int → Int → Option (List Int)
  | 0, _, _ => none
  | k + 1, x0, x3 => if x3 > 0 then (if 0 ≤ (wrap64 (x3 - 1)) then (if (wrap64 (x3 - 1)) < (x0.length : Int) then (if (rd x0 (wrap64 (x3 - 1))) = 0 then (obolref13_Short.l0 k x0 (wrap64 (x3 - 1))) else (if 0 ≤ x3 then (if x3 ≤ (x0.length : Int) then (some (x0.take (x3 : Int).toNat)) else (none)) else (none))) else (none)) else (none)) else (if 0 ≤ x3 then (if x3 ≤ (x0.length : Int) then (some (x0.take (x3 : Int).toNat)) else (none)) else (none))
def obolref13_Short.f (k : Nat) (l0 : List Int) : Option (List Int) := obolref13_Short.l0 k l0 (l0.length : Int)
theorem obolref13_Short.mono_l : ∀ k, (∀ y0 y1, LeO (obolref13_Short.l0 k y0 y1) (obolref13_Short.l0 (k + 1) y0 y1))
  | 0 => fun _ _ r h => by simp [obolref13_Short.l0] at h
  | k + 1 => by
    have ih0 := obolref13_Short.mono_l k
    · intro y0 y1
      unfold obolref13_Short.l0
      repeat' first
      | (with_reducible exact ih0 _ _)
      | (with_reducible exact LeO.refl _)
      | (with_reducible exact LeO.none _)
      | (with_reducible refine LeO.ite ?_ ?_)
      | (with_reducible refine LeO.bind ?_ (fun _ => ?_))
      | exact ih0 _ _
      | exact LeO.none _
      | refine LeO.ite ?_ ?_
      | refine LeO.bind ?_ (fun _ => ?_)
theorem obolref13_Short.mono : ∀ a0 k, LeO (obolref13_Short.f k a0) (obolref13_Short.f (k + 1) a0) := by
  intro a0 k
  have ih0 := obolref13_Short.mono_l k
  unfold obolref13_Short.f
  repeat' first
      | (with_reducible exact ih0 _ _)
      | (with_reducible exact LeO.refl _)
      | (with_reducible exact LeO.none _)
      | (with_reducible refine LeO.ite ?_ ?_)
      | (with_reducible refine LeO.bind ?_ (fun _ => ?_))
      | exact ih0 _ _
      | exact LeO.none _
      | refine LeO.ite ?_ ?_
      | refine LeO.bind ?_ (fun _ => ?_)
set_option maxHeartbeats 8000000 in
set_option maxRecDepth 100000 in
theorem obolref13_Short.calls (k : Nat) (P0_ : Nat → Prop) (u9000_ : Value) (l0 : List Int) (r : List Int) (w0 w : World) (hB : Below w0.heap.size w0 w) (ho0 : Kd.R (Kd.int .u64) 30 w w0.heap.size P0_ u9000_ l0) (h : obolref13_Short.f k l0 = some r) :
    Calls Try.prog 67 #[u9000_] w fun e w' => ∃ v0_ : Value, e = .returned (v0_) ∧ Kd.R (Kd.int .u64) 30 w' w0.heap.size (fun k_ => (P0_ k_ ∨ w.heap.size ≤ k_)) v0_ r ∧ Below w0.heap.size w0 w' ∧ Kept w w' (fun k_ => P0_ k_) := by
  have HO0 := Aside0.mk (show Kd.R (Kd.int .u64) 30 w w0.heap.size (fun k_ => (P0_ k_ ∨ w.heap.size ≤ k_)) u9000_ l0 from Kd.R_mono ho0 (fun k_ hk => (.inl hk)))
  have HK := Aside0.mk (Kept.refl w (fun k_ => P0_ k_))
  have HW0 := Aside0.mk hB.size
  have HB := Aside0.mk hB
  clear hB
  have H : (obolref13_Short.l0 k l0 (l0.length : Int)) = some r := h
  clear h
  have H' := Aside0.mk H
  clear H
  obtain ⟨Ao2, co2, eo2⟩ := Kd.R_slice HO0.out
  subst eo2
  go_enter Try.func67, Try.ntmps67
  go_wp2
  go_loopg [3] k (fun kq v3 w' => ∃ (x3_1 : Int), v3 = .int .i64 x3_1 ∧ Aside0 (obolref13_Short.l0 kq l0 x3_1 = some r) ∧ Aside0 (kq ≤ k) ∧ Aside0 (Kd.R (Kd.int .u64) 30 w' w0.heap.size (fun k_ => (P0_ k_ ∨ w.heap.size ≤ k_)) (.slice Ao2 l0.length co2) l0) ∧ Aside0 (Kept w w' (fun k_ => P0_ k_)) ∧ Aside0 (Below w0.heap.size w0 w'))
  case atStart => exact ⟨((l0.length : Int)), (by first | rfl | (simp; done) | (simp [*]; done)), H', ⟨Nat.le_refl _⟩, ⟨by (with_reducible repeat (first | apply Kd.R_alloc | apply Kd.R_drewN | apply Kd.R_drew)); exact HO0.out⟩, ⟨by repeat (first | (with_reducible first | exact HK.out | apply Kept.alloc | apply Kept.drewN | apply Kept.drew) | exact HK.out)⟩, ⟨by repeat (first | (with_reducible first | exact HB.out | apply below_alloc | apply pw_below_drewN | apply below_drew1) | exact HB.out)⟩⟩
  case round =>
    clear H'
    try clear p2
    obtain ⟨x3_1, rfl, HA, HK1, HO_0, HK, HB⟩ := hrel
    cases gk with
    | zero => exact absurd HA.out (by simp [obolref13_Short.l0])
    | succ k1 =>
      have H := HA.out
      clear HA
      simp only [obolref13_Short.l0] at H
      by_cases c3 : x3_1 > 0
      · rw [if_pos c3] at H
        have c3b0 : decide (0 < x3_1) = true := decide_eq_true c3
        clear c3
        obtain ⟨ji4, hji4⟩ : ∃ j_ : Int, (wrap64 (x3_1 - 1)) = j_ := ⟨_, rfl⟩
        replace H : (if 0 ≤ (ji4) then (if (ji4) < (l0.length : Int) then (if (rd l0 (ji4)) = 0 then (obolref13_Short.l0 k1 l0 ji4) else (if 0 ≤ x3_1 then (if x3_1 ≤ (l0.length : Int) then (some (l0.take (x3_1 : Int).toNat)) else (none)) else (none))) else (none)) else (none)) = some r := by first | (rw [hji4] at H; exact H) | (simp only [hji4] at H ⊢; exact H)
        have hji4w : (IntKind.i64.wrap (x3_1 - 1)) = ji4 := (i64_w _).trans hji4
        by_cases c5 : 0 ≤ (ji4)
        · rw [if_pos c5] at H
          have c5b0 : decide (0 ≤ (ji4)) = true := decide_eq_true c5
          clear c5
          by_cases c6 : (ji4) < (l0.length : Int)
          · rw [if_pos c6] at H
            have c6b0 : decide ((ji4) < (l0.length : Int)) = true := decide_eq_true c6
            clear c6
            by_cases c7 : (rd l0 (ji4)) = 0
            · rw [if_pos c7] at H
              have c7b0 : ((rd l0 (ji4)) == 0) = true := beq_iff_eq.mpr c7
              have c7b1 : ((rd l0 (ji4)) != 0) = false := bne_eq_false_iff_eq.mpr c7
              clear c7
              have H' := Aside0.mk H
              clear H
              have p225 : 0 ≤ ((ji4) : Int) := of_decide_eq_true (by first | (with_reducible assumption) | assumption)
              have q225 : (ji4) < (l0.length : Int) := of_decide_eq_true (by first | (with_reducible assumption) | assumption)
              obtain ⟨ad225, e225, hx225_0⟩ := Kd.at_int (Kd.R_reads' HO_0.out).2.2 (ji4) p225 q225
              cases e225
              replace p225 := eq_true p225
              replace q225 := eq_true q225
              go_wp2
              go_roundg k1
              case measure => have := HK1.out; omega
              case rel => exact ⟨(ji4), (by first | rfl | (simp; done) | (simp only [← hji4] <;> (first | rfl | simp)) | (simp [*]; done)), H', ⟨by have := HK1.out; omega⟩, ⟨by (with_reducible repeat (first | apply Kd.R_alloc | apply Kd.R_drewN | apply Kd.R_drew)); exact HO_0.out⟩, ⟨by repeat (first | (with_reducible first | exact HK.out | apply Kept.alloc | apply Kept.drewN | apply Kept.drew) | exact HK.out)⟩, ⟨by repeat (first | (with_reducible first | exact HB.out | apply below_alloc | apply pw_below_drewN | apply below_drew1) | exact HB.out)⟩⟩
            · rw [if_neg c7] at H
              have c7b0 : ((rd l0 (ji4)) == 0) = false := beq_eq_false_iff_ne.mpr c7
              have c7b1 : ((rd l0 (ji4)) != 0) = true := bne_iff_ne.mpr c7
              by_cases c8 : 0 ≤ x3_1
              · rw [if_pos c8] at H
                have c8b0 := eq_true c8
                have c8b1 : decide (0 ≤ x3_1) = true := decide_eq_true c8
                clear c8
                by_cases c9 : x3_1 ≤ (l0.length : Int)
                · rw [if_pos c9] at H
                  have c9b0 := eq_true c9
                  have c9b1 : decide (x3_1 ≤ (l0.length : Int)) = true := decide_eq_true c9
                  clear c9
                  obtain ⟨y226, hy226⟩ : ∃ y_ : List Int, y_ = (l0.take (x3_1 : Int).toNat) := ⟨_, rfl⟩
                  replace H : (some y226) = some r := by first | (rw [hy226]; with_reducible exact H) | (have H2_ := (Option.bind_some _ _).symm.trans H; rw [hy226]; with_reducible exact H2_) | (have H2_ := (Option.bind_some _ _).symm.trans H; with_reducible exact H2_) | with_reducible exact H | (rw [hy226]; exact H) | exact H
                  have Ny226 := Aside0.mk hy226
                  clear hy226
                  obtain rfl := Option.some.inj H
                  have p225 : 0 ≤ ((ji4) : Int) := of_decide_eq_true (by first | (with_reducible assumption) | assumption)
                  have q225 : (ji4) < (l0.length : Int) := of_decide_eq_true (by first | (with_reducible assumption) | assumption)
                  obtain ⟨ad225, e225, hx225_0⟩ := Kd.at_int (Kd.R_reads' HO_0.out).2.2 (ji4) p225 q225
                  cases e225
                  replace p225 := eq_true p225
                  replace q225 := eq_true q225
                  have q10 : (x3_1 : Int) ≤ ((l0.length : Int) : Int) := of_decide_eq_true (by first | (with_reducible assumption) | assumption)
                  obtain ⟨i010, hi010, _, hsz10, _⟩ := info_parts info30
                  have hcut10 := cut_to (P := Try.prog) 22 30 .i64 Try.underlying22 hi010 (some ad225) l0.length co2 x3_1 (of_decide_eq_true (by first | (with_reducible assumption) | assumption)) q10 (Kd.R_reads' HO_0.out).2.1
                  have hr10 := Kd.R_take (m := (x3_1 : Int).toNat) HO_0.out (by omega)
                  have hy10 : y226.length = (x3_1 : Int).toNat := (by rw [Ny226.out, List.length_take]; omega)
                  rw [← Ny226.out] at hr10
                  rw [← hy10] at hr10 hcut10
                  clear hy10 hi010 hsz10 HO_0
                  have HO228 := Aside0.mk hr10
                  clear hr10
                  replace q10 := eq_true q10
                  go_wp2
                  go_ret
                  exact ⟨_, by first | rfl | (simp [errW_none, errW_some] <;> rfl) | (simp only [← hji4]; first | rfl | (simp [errW_none, errW_some] <;> rfl)) | (simp [*, errW_none, errW_some] <;> rfl), by (with_reducible repeat (first | apply Kd.R_alloc | apply Kd.R_drewN | apply Kd.R_drew)); exact HO228.out, by repeat (first | (with_reducible first | exact HB.out | apply below_alloc | apply pw_below_drewN | apply below_drew1) | exact HB.out), by repeat (first | (with_reducible first | exact HK.out | apply Kept.alloc | apply Kept.drewN | apply Kept.drew) | exact HK.out)⟩
                · rw [if_neg c9] at H
                  exact absurd H (by simp)
              · rw [if_neg c8] at H
                exact absurd H (by simp)
          · rw [if_neg c6] at H
            exact absurd H (by simp)
        · rw [if_neg c5] at H
          exact absurd H (by simp)
      · rw [if_neg c3] at H
        have c3b0 : decide (0 < x3_1) = false := decide_eq_false c3
        clear c3
        by_cases c11 : 0 ≤ x3_1
        · rw [if_pos c11] at H
          have c11b0 := eq_true c11
          have c11b1 : decide (0 ≤ x3_1) = true := decide_eq_true c11
          clear c11
          by_cases c12 : x3_1 ≤ (l0.length : Int)
          · rw [if_pos c12] at H
            have c12b0 := eq_true c12
            have c12b1 : decide (x3_1 ≤ (l0.length : Int)) = true := decide_eq_true c12
            clear c12
            obtain ⟨y229, hy229⟩ : ∃ y_ : List Int, y_ = (l0.take (x3_1 : Int).toNat) := ⟨_, rfl⟩
            replace H : (some y229) = some r := by first | (rw [hy229]; with_reducible exact H) | (have H2_ := (Option.bind_some _ _).symm.trans H; rw [hy229]; with_reducible exact H2_) | (have H2_ := (Option.bind_some _ _).symm.trans H; with_reducible exact H2_) | with_reducible exact H | (rw [hy229]; exact H) | exact H
            have Ny229 := Aside0.mk hy229
            clear hy229
            obtain rfl := Option.some.inj H
            have q13 : (x3_1 : Int) ≤ ((l0.length : Int) : Int) := of_decide_eq_true (by first | (with_reducible assumption) | assumption)
            obtain ⟨i013, hi013, _, hsz13, _⟩ := info_parts info30
            have hcut13 := cut_to (P := Try.prog) 22 30 .i64 Try.underlying22 hi013 Ao2 l0.length co2 x3_1 (of_decide_eq_true (by first | (with_reducible assumption) | assumption)) q13 (Kd.R_reads' HO_0.out).2.1
            have hr13 := Kd.R_take (m := (x3_1 : Int).toNat) HO_0.out (by omega)
            have hy13 : y229.length = (x3_1 : Int).toNat := (by rw [Ny229.out, List.length_take]; omega)
            rw [← Ny229.out] at hr13
            rw [← hy13] at hr13 hcut13
            clear hy13 hi013 hsz13 HO_0
            have HO231 := Aside0.mk hr13
            clear hr13
            replace q13 := eq_true q13
            go_wp2
            go_ret
            exact ⟨_, by first | rfl | (simp [errW_none, errW_some] <;> rfl) | (simp [*, errW_none, errW_some] <;> rfl), by (with_reducible repeat (first | apply Kd.R_alloc | apply Kd.R_drewN | apply Kd.R_drew)); exact HO231.out, by repeat (first | (with_reducible first | exact HB.out | apply below_alloc | apply pw_below_drewN | apply below_drew1) | exact HB.out), by repeat (first | (with_reducible first | exact HK.out | apply Kept.alloc | apply Kept.drewN | apply Kept.drew) | exact HK.out)⟩
          · rw [if_neg c12] at H
            exact absurd H (by simp)
        · rw [if_neg c11] at H
          exact absurd H (by simp)

/-! ### obolref13_Mul: function 40 -/
mutual
def obolref13_Mul.l0 : Nat → List Int → List Int → List Int → Int → Option (List Int)
  | 0, _, _, _, _ => none
  | k + 1, x0, x1, x5, x6 => if x6 < (wrap64 ((wrap64 ((x0.length : Int) + (x1.length : Int))) - 1)) then (if (x0.length : Int) > 0 then (obolref13_Mul.j1 k x0 x1 x5 x6 (decide ((x1.length : Int) > 0))) else (obolref13_Mul.j1 k x0 x1 x5 x6 false)) else (obolref13_Mul.j1 k x0 x1 x5 x6 false)
def obolref13_Mul.j1 : Nat → List Int → List Int → List Int → Int → Bool → Option (List Int)
  | 0, _, _, _, _, _ => none
  | k + 1, x0, x1, x5, x6, x26 => if x26 = true then (obolref13_Mul.l1 k x0 x1 x5 x6 0 0) else ((obolref13_Short.f k x5).bind fun t232 => (some t232))
def obolref13_Mul.l1 : Nat → List Int → List Int → List Int → Int → Int → Int → Option (List Int)
  | 0, _, _, _, _, _, _ => none
  | k + 1, x0, x1, x5, x6, x7, x8 => if x8 ≤ x6 then (if x8 < (x0.length : Int) then (obolref13_Mul.j3 k x0 x1 x5 x6 x7 x8 (decide ((wrap64 (x6 - x8)) < (x1.length : Int)))) else (obolref13_Mul.j3 k x0 x1 x5 x6 x7 x8 false)) else (if x5.length < 17592186044416 then (obolref13_Mul.l0 k x0 x1 (x5 ++ [x7]) (wrap64 (x6 + 1))) else (none))
def obolref13_Mul.j3 : Nat → List Int → List Int → List Int → Int → Int → Int → Bool → Option (List Int)
  | 0, _, _, _, _, _, _, _ => none
  | k + 1, x0, x1, x5, x6, x7, x8, x45 => if x45 = true then (if 0 ≤ x8 then (if x8 < (x0.length : Int) then (if 0 ≤ (wrap64 (x6 - x8)) then (if (wrap64 (x6 - x8)) < (x1.length : Int) then ((obolref07_Mul.f k (rd x0 x8) (rd x1 (wrap64 (x6 - x8)))).bind fun t240 => ((obolref07_Plus.f x7 t240).bind fun t241 => (obolref13_Mul.l1 k x0 x1 x5 x6 t241 (wrap64 (x8 + 1))))) else (none)) else (none)) else (none)) else (none)) else (obolref13_Mul.l1 k x0 x1 x5 x6 x7 (wrap64 (x8 + 1)))
end
def obolref13_Mul.f (k : Nat) (l0 : List Int) (l1 : List Int) : Option (List Int) := obolref13_Mul.l0 k l0 l1 ([] : List Int) 0
theorem obolref13_Mul.mono_l : ∀ k, (∀ y0 y1 y2 y3, LeO (obolref13_Mul.l0 k y0 y1 y2 y3) (obolref13_Mul.l0 (k + 1) y0 y1 y2 y3)) ∧ (∀ y0 y1 y2 y3 y4, LeO (obolref13_Mul.j1 k y0 y1 y2 y3 y4) (obolref13_Mul.j1 (k + 1) y0 y1 y2 y3 y4)) ∧ (∀ y0 y1 y2 y3 y4 y5, LeO (obolref13_Mul.l1 k y0 y1 y2 y3 y4 y5) (obolref13_Mul.l1 (k + 1) y0 y1 y2 y3 y4 y5)) ∧ (∀ y0 y1 y2 y3 y4 y5 y6, LeO (obolref13_Mul.j3 k y0 y1 y2 y3 y4 y5 y6) (obolref13_Mul.j3 (k + 1) y0 y1 y2 y3 y4 y5 y6))
  | 0 => ⟨fun _ _ _ _ r h => by simp [obolref13_Mul.l0] at h, fun _ _ _ _ _ r h => by simp [obolref13_Mul.j1] at h, fun _ _ _ _ _ _ r h => by simp [obolref13_Mul.l1] at h, fun _ _ _ _ _ _ _ r h => by simp [obolref13_Mul.j3] at h⟩
  | k + 1 => by
    obtain ⟨ih0, ih1, ih2, ih3⟩ := obolref13_Mul.mono_l k
    refine ⟨?_, ?_, ?_, ?_⟩
    · intro y0 y1 y2 y3
      unfold obolref13_Mul.l0
      repeat' first
      | (with_reducible exact ih0 _ _ _ _)
      | (with_reducible exact ih1 _ _ _ _ _)
      | (with_reducible exact ih2 _ _ _ _ _ _)
      | (with_reducible exact ih3 _ _ _ _ _ _ _)
      | (with_reducible exact obolref07_Mul.mono _ _ _)
      | (with_reducible exact obolref13_Short.mono _ _)
      | (with_reducible exact LeO.refl _)
      | (with_reducible exact LeO.none _)
      | (with_reducible refine LeO.ite ?_ ?_)
      | (with_reducible refine LeO.bind ?_ (fun _ => ?_))
      | exact ih0 _ _ _ _
      | exact ih1 _ _ _ _ _
      | exact ih2 _ _ _ _ _ _
      | exact ih3 _ _ _ _ _ _ _
      | exact obolref07_Mul.mono _ _ _
      | exact obolref13_Short.mono _ _
      | exact LeO.none _
      | refine LeO.ite ?_ ?_
      | refine LeO.bind ?_ (fun _ => ?_)
    · intro y0 y1 y2 y3 y4
      unfold obolref13_Mul.j1
      repeat' first
      | (with_reducible exact ih0 _ _ _ _)
      | (with_reducible exact ih1 _ _ _ _ _)
      | (with_reducible exact ih2 _ _ _ _ _ _)
      | (with_reducible exact ih3 _ _ _ _ _ _ _)
      | (with_reducible exact obolref07_Mul.mono _ _ _)
      | (with_reducible exact obolref13_Short.mono _ _)
      | (with_reducible exact LeO.refl _)
      | (with_reducible exact LeO.none _)
      | (with_reducible refine LeO.ite ?_ ?_)
      | (with_reducible refine LeO.bind ?_ (fun _ => ?_))
      | exact ih0 _ _ _ _
      | exact ih1 _ _ _ _ _
      | exact ih2 _ _ _ _ _ _
      | exact ih3 _ _ _ _ _ _ _
      | exact obolref07_Mul.mono _ _ _
      | exact obolref13_Short.mono _ _
      | exact LeO.none _
      | refine LeO.ite ?_ ?_
      | refine LeO.bind ?_ (fun _ => ?_)
    · intro y0 y1 y2 y3 y4 y5
      unfold obolref13_Mul.l1
      repeat' first
      | (with_reducible exact ih0 _ _ _ _)
      | (with_reducible exact ih1 _ _ _ _ _)
      | (with_reducible exact ih2 _ _ _ _ _ _)
      | (with_reducible exact ih3 _ _ _ _ _ _ _)
      | (with_reducible exact obolref07_Mul.mono _ _ _)
      | (with_reducible exact obolref13_Short.mono _ _)
      | (with_reducible exact LeO.refl _)
      | (with_reducible exact LeO.none _)
      | (with_reducible refine LeO.ite ?_ ?_)
      | (with_reducible refine LeO.bind ?_ (fun _ => ?_))
      | exact ih0 _ _ _ _
      | exact ih1 _ _ _ _ _
      | exact ih2 _ _ _ _ _ _
      | exact ih3 _ _ _ _ _ _ _
      | exact obolref07_Mul.mono _ _ _
      | exact obolref13_Short.mono _ _
      | exact LeO.none _
      | refine LeO.ite ?_ ?_
      | refine LeO.bind ?_ (fun _ => ?_)
    · intro y0 y1 y2 y3 y4 y5 y6
      unfold obolref13_Mul.j3
      repeat' first
      | (with_reducible exact ih0 _ _ _ _)
      | (with_reducible exact ih1 _ _ _ _ _)
      | (with_reducible exact ih2 _ _ _ _ _ _)
      | (with_reducible exact ih3 _ _ _ _ _ _ _)
      | (with_reducible exact obolref07_Mul.mono _ _ _)
      | (with_reducible exact obolref13_Short.mono _ _)
      | (with_reducible exact LeO.refl _)
      | (with_reducible exact LeO.none _)
      | (with_reducible refine LeO.ite ?_ ?_)
      | (with_reducible refine LeO.bind ?_ (fun _ => ?_))
      | exact ih0 _ _ _ _
      | exact ih1 _ _ _ _ _
      | exact ih2 _ _ _ _ _ _
      | exact ih3 _ _ _ _ _ _ _
      | exact obolref07_Mul.mono _ _ _
      | exact obolref13_Short.mono _ _
      | exact LeO.none _
      | refine LeO.ite ?_ ?_
      | refine LeO.bind ?_ (fun _ => ?_)
theorem obolref13_Mul.mono : ∀ a0 a1 k, LeO (obolref13_Mul.f k a0 a1) (obolref13_Mul.f (k + 1) a0 a1) := by
  intro a0 a1 k
  obtain ⟨ih0, ih1, ih2, ih3⟩ := obolref13_Mul.mono_l k
  unfold obolref13_Mul.f
  repeat' first
      | (with_reducible exact ih0 _ _ _ _)
      | (with_reducible exact ih1 _ _ _ _ _)
      | (with_reducible exact ih2 _ _ _ _ _ _)
      | (with_reducible exact ih3 _ _ _ _ _ _ _)
      | (with_reducible exact obolref07_Mul.mono _ _ _)
      | (with_reducible exact obolref13_Short.mono _ _)
      | (with_reducible exact LeO.refl _)
      | (with_reducible exact LeO.none _)
      | (with_reducible refine LeO.ite ?_ ?_)
      | (with_reducible refine LeO.bind ?_ (fun _ => ?_))
      | exact ih0 _ _ _ _
      | exact ih1 _ _ _ _ _
      | exact ih2 _ _ _ _ _ _
      | exact ih3 _ _ _ _ _ _ _
      | exact obolref07_Mul.mono _ _ _
      | exact obolref13_Short.mono _ _
      | exact LeO.none _
      | refine LeO.ite ?_ ?_
      | refine LeO.bind ?_ (fun _ => ?_)
set_option maxHeartbeats 8000000 in
set_option maxRecDepth 100000 in
theorem obolref13_Mul.calls (k : Nat) (A0 : Option Addr) (c0 : Nat) (l0 : List Int) (A1 : Option Addr) (c1 : Nat) (l1 : List Int) (r : List Int) (w : World) (hr0 : Kd.C (Kd.int .u64) w A0 l0.length l0) (hc0 : l0.length ≤ c0) (hr1 : Kd.C (Kd.int .u64) w A1 l1.length l1) (hc1 : l1.length ≤ c1) (h : obolref13_Mul.f k l0 l1 = some r) :
    Calls Try.prog 40 #[.slice A0 l0.length c0, .slice A1 l1.length c1] w fun e w' => ∃ v0_ : Value, e = .returned (v0_) ∧ Kd.R (Kd.int .u64) 30 w' w.heap.size (fun _ => True) v0_ r ∧ Below w.heap.size w w' := by
  have HR0 := Aside0.mk hr0
  have HC0 := Aside0.mk hc0
  clear hr0 hc0
  have HR1 := Aside0.mk hr1
  have HC1 := Aside0.mk hc1
  clear hr1 hc1
  have HB := Aside0.mk (Below.refl w.heap.size w)
  have H : (obolref13_Mul.l0 k l0 l1 ([] : List Int) 0) = some r := h
  clear h
  have H' := Aside0.mk H
  clear H
  go_enter Try.func40, Try.ntmps40
  go_wp2
  repeat (go_quiet (fail); try go_wp2)
  go_loopg [5, 6] k (fun kq v5 v6 w' => ∃ (x5_1 : List Int) (x6_1 : Int), v6 = .int .i64 x6_1 ∧ Aside0 (obolref13_Mul.l0 kq l0 l1 x5_1 x6_1 = some r) ∧ Aside0 (kq ≤ k) ∧ Aside0 (Kd.R (Kd.int .u64) 30 w' w.heap.size (fun _ => True) v5 x5_1) ∧ Aside0 (Below w.heap.size w w'))
  case atStart => exact ⟨(([] : List Int)), (0), (by first | rfl | (simp; done) | (simp [*]; done)), H', ⟨Nat.le_refl _⟩, ⟨by first | exact Kd.R_nil _ _ _ _ _ | exact Kd.N_nil _ _ _ _ _ | exact Kd.V_nil _ _ _ _ _ | exact Kd.Q_nil _ _ _ _ _ | exact Kd.S_nil _ _ _ _ _⟩, ⟨by repeat (first | (with_reducible first | exact HB.out | apply below_alloc | apply pw_below_drewN | apply below_drew1) | exact HB.out)⟩⟩
  case round =>
    clear H'
    try clear c1
    try clear p2
    obtain ⟨x5_1, x6_1, rfl, HA, HK1, HO_5, HB⟩ := hrel
    cases gk with
    | zero => exact absurd HA.out (by simp [obolref13_Mul.l0])
    | succ k1 =>
      have H := HA.out
      clear HA
      simp only [obolref13_Mul.l0] at H
      have HC3 := Aside0.mk H
      clear H
      go_upto_region 3 with (fail)
      repeat (go_quiet (fail); go_upto_region 3 with (fail))
      go_cut [26] (fun v26 wc => ∃ (kq : Nat) (x26_2 : Bool), v26 = .bool x26_2 ∧ Aside0 (obolref13_Mul.j1 kq l0 l1 x5_1 x6_1 x26_2 = some r) ∧ Aside0 (kq ≤ k1) ∧ Aside0 (Kd.R (Kd.int .u64) 30 wc w.heap.size (fun _ => True) u5 x5_1) ∧ Aside0 (Below w.heap.size w wc))
      case first =>
        have H := HC3.out
        clear HC3
        by_cases c4 : x6_1 < (wrap64 ((wrap64 ((l0.length : Int) + (l1.length : Int))) - 1))
        · rw [if_pos c4] at H
          have c4b0 : decide (x6_1 < (wrap64 ((wrap64 ((l0.length : Int) + (l1.length : Int))) - 1))) = true := decide_eq_true c4
          clear c4
          (first | rw [c4b0] | (simp only [i64_w, i32_w]; rw [c4b0]) | skip)
          by_cases c5 : (l0.length : Int) > 0
          · rw [if_pos c5] at H
            have c5b0 : decide (0 < (l0.length : Int)) = true := decide_eq_true c5
            have c5b1 : decide (0 < l0.length) = true := decide_eq_true (by omega)
            clear c5
            have H' := Aside0.mk H
            clear H
            go_wp2
            repeat (go_quiet (fail); try go_wp2)
            go_meet
            case rel => exact ⟨_, (decide ((l1.length : Int) > 0)), (by first | rfl | (simp; done) | (simp [*]; done)), H', ⟨by have := HK1.out; first | omega | exact Nat.le_refl _⟩, ⟨by (with_reducible repeat (first | apply Kd.R_alloc | apply Kd.R_drewN | apply Kd.R_drew)); exact HO_5.out⟩, ⟨by repeat (first | (with_reducible first | exact HB.out | apply below_alloc | apply pw_below_drewN | apply below_drew1) | exact HB.out)⟩⟩
          · rw [if_neg c5] at H
            have c5b0 : decide (0 < (l0.length : Int)) = false := decide_eq_false c5
            have c5b1 : decide (0 < l0.length) = false := decide_eq_false (by omega)
            clear c5
            have H' := Aside0.mk H
            clear H
            go_wp2
            repeat (go_quiet (fail); try go_wp2)
            go_meet
            case rel => exact ⟨_, (false), (by first | rfl | (simp; done) | (simp [*]; done)), H', ⟨by have := HK1.out; first | omega | exact Nat.le_refl _⟩, ⟨by (with_reducible repeat (first | apply Kd.R_alloc | apply Kd.R_drewN | apply Kd.R_drew)); exact HO_5.out⟩, ⟨by repeat (first | (with_reducible first | exact HB.out | apply below_alloc | apply pw_below_drewN | apply below_drew1) | exact HB.out)⟩⟩
        · rw [if_neg c4] at H
          have c4b0 : decide (x6_1 < (wrap64 ((wrap64 ((l0.length : Int) + (l1.length : Int))) - 1))) = false := decide_eq_false c4
          clear c4
          (first | rw [c4b0] | (simp only [i64_w, i32_w]; rw [c4b0]) | skip)
          have H' := Aside0.mk H
          clear H
          go_wp2
          repeat (go_quiet (fail); try go_wp2)
          go_meet
          case rel => exact ⟨_, (false), (by first | rfl | (simp; done) | (simp [*]; done)), H', ⟨by have := HK1.out; first | omega | exact Nat.le_refl _⟩, ⟨by (with_reducible repeat (first | apply Kd.R_alloc | apply Kd.R_drewN | apply Kd.R_drew)); exact HO_5.out⟩, ⟨by repeat (first | (with_reducible first | exact HB.out | apply below_alloc | apply pw_below_drewN | apply below_drew1) | exact HB.out)⟩⟩
      case rest =>
        clear HC3
        try clear c1
        try clear p2
        try clear c4
        try clear c4b0
        try clear c5
        try clear c5b0
        try clear c5b1
        try clear p2
        obtain ⟨kq, x26_2, rfl, HA, HJ2, HO_5, HB⟩ := hcut
        cases kq with
        | zero => exact absurd HA.out (by simp [obolref13_Mul.j1])
        | succ kj2 =>
          have H := HA.out
          clear HA
          simp only [obolref13_Mul.j1] at H
          by_cases c6 : x26_2 = true
          · subst c6
            have H1 : (obolref13_Mul.l1 kj2 l0 l1 x5_1 x6_1 0 0) = some r := by rw [if_pos rfl] at H; exact H
            clear H
            have H := H1
            clear H1
            have H' := Aside0.mk H
            clear H
            go_wp2
            repeat (go_quiet (fail); try go_wp2)
            go_loopg [7, 8] kj2 (fun kq v7 v8 w' => ∃ (x7_3 : Int) (x8_3 : Int), v7 = .int .u64 x7_3 ∧ v8 = .int .i64 x8_3 ∧ Aside0 (obolref13_Mul.l1 kq l0 l1 x5_1 x6_1 x7_3 x8_3 = some r) ∧ Aside0 (kq ≤ kj2) ∧ Aside0 (Kd.R (Kd.int .u64) 30 w' w.heap.size (fun _ => True) u5 x5_1) ∧ Aside0 (Below w.heap.size w w'))
            case atStart => exact ⟨(0), (0), (by first | rfl | (simp; done) | (simp [*]; done)), (by first | rfl | (simp; done) | (simp [*]; done)), H', ⟨Nat.le_refl _⟩, ⟨by (with_reducible repeat (first | apply Kd.R_alloc | apply Kd.R_drewN | apply Kd.R_drew)); exact HO_5.out⟩, ⟨by repeat (first | (with_reducible first | exact HB.out | apply below_alloc | apply pw_below_drewN | apply below_drew1) | exact HB.out)⟩⟩
            case round =>
              clear H'
              try clear c1
              try clear p2
              try clear c4
              try clear c4b0
              try clear c5
              try clear c5b0
              try clear c5b1
              try clear c6
              try clear p6
              try clear p2
              obtain ⟨x7_3, x8_3, rfl, rfl, HA, HK3, HO_5, HB⟩ := hrel
              cases gk with
              | zero => exact absurd HA.out (by simp [obolref13_Mul.l1])
              | succ k3 =>
                have H := HA.out
                clear HA
                simp only [obolref13_Mul.l1] at H
                by_cases c7 : x8_3 ≤ x6_1
                · rw [if_pos c7] at H
                  have c7b0 : decide (x8_3 ≤ x6_1) = true := decide_eq_true c7
                  clear c7
                  have HC8 := Aside0.mk H
                  clear H
                  go_upto_region 9 with (fail)
                  repeat (go_quiet (fail); go_upto_region 9 with (fail))
                  go_cut [45] (fun v45 wc => ∃ (kq : Nat) (x45_7 : Bool), v45 = .bool x45_7 ∧ Aside0 (obolref13_Mul.j3 kq l0 l1 x5_1 x6_1 x7_3 x8_3 x45_7 = some r) ∧ Aside0 (kq ≤ k3) ∧ Aside0 (Kd.R (Kd.int .u64) 30 wc w.heap.size (fun _ => True) u5 x5_1) ∧ Aside0 (Below w.heap.size w wc))
                  case first =>
                    have H := HC8.out
                    clear HC8
                    by_cases c9 : x8_3 < (l0.length : Int)
                    · rw [if_pos c9] at H
                      have c9b0 : decide (x8_3 < (l0.length : Int)) = true := decide_eq_true c9
                      clear c9
                      (first | rw [c9b0] | (simp only [i64_w, i32_w]; rw [c9b0]) | skip)
                      have H' := Aside0.mk H
                      clear H
                      go_wp2
                      repeat (go_quiet (fail); try go_wp2)
                      go_meet
                      case rel => exact ⟨_, (decide ((wrap64 (x6_1 - x8_3)) < (l1.length : Int))), (by first | rfl | (simp; done) | (simp [*]; done)), H', ⟨by have := HK1.out; have := HJ2.out; have := HK3.out; first | omega | exact Nat.le_refl _⟩, ⟨by (with_reducible repeat (first | apply Kd.R_alloc | apply Kd.R_drewN | apply Kd.R_drew)); exact HO_5.out⟩, ⟨by repeat (first | (with_reducible first | exact HB.out | apply below_alloc | apply pw_below_drewN | apply below_drew1) | exact HB.out)⟩⟩
                    · rw [if_neg c9] at H
                      have c9b0 : decide (x8_3 < (l0.length : Int)) = false := decide_eq_false c9
                      clear c9
                      (first | rw [c9b0] | (simp only [i64_w, i32_w]; rw [c9b0]) | skip)
                      have H' := Aside0.mk H
                      clear H
                      go_wp2
                      repeat (go_quiet (fail); try go_wp2)
                      go_meet
                      case rel => exact ⟨_, (false), (by first | rfl | (simp; done) | (simp [*]; done)), H', ⟨by have := HK1.out; have := HJ2.out; have := HK3.out; first | omega | exact Nat.le_refl _⟩, ⟨by (with_reducible repeat (first | apply Kd.R_alloc | apply Kd.R_drewN | apply Kd.R_drew)); exact HO_5.out⟩, ⟨by repeat (first | (with_reducible first | exact HB.out | apply below_alloc | apply pw_below_drewN | apply below_drew1) | exact HB.out)⟩⟩
                  case rest =>
                    clear HC8
                    try clear c1
                    try clear p2
                    try clear c4
                    try clear c4b0
                    try clear c5
                    try clear c5b0
                    try clear c5b1
                    try clear c6
                    try clear p6
                    try clear c7
                    try clear c7b0
                    try clear c9
                    try clear c9b0
                    try clear p2
                    try clear p6
                    obtain ⟨kq, x45_7, rfl, HA, HJ7, HO_5, HB⟩ := hcut
                    cases kq with
                    | zero => exact absurd HA.out (by simp [obolref13_Mul.j3])
                    | succ kj7 =>
                      have H := HA.out
                      clear HA
                      simp only [obolref13_Mul.j3] at H
                      by_cases c10 : x45_7 = true
                      · subst c10
                        have H1 : (if 0 ≤ x8_3 then (if x8_3 < (l0.length : Int) then (if 0 ≤ (wrap64 (x6_1 - x8_3)) then (if (wrap64 (x6_1 - x8_3)) < (l1.length : Int) then ((obolref07_Mul.f kj7 (rd l0 x8_3) (rd l1 (wrap64 (x6_1 - x8_3)))).bind fun t240 => ((obolref07_Plus.f x7_3 t240).bind fun t241 => (obolref13_Mul.l1 kj7 l0 l1 x5_1 x6_1 t241 (wrap64 (x8_3 + 1))))) else (none)) else (none)) else (none)) else (none)) = some r := by rw [if_pos rfl] at H; exact H
                        clear H
                        have H := H1
                        clear H1
                        by_cases c11 : 0 ≤ x8_3
                        · rw [if_pos c11] at H
                          have c11b0 : decide (0 ≤ x8_3) = true := decide_eq_true c11
                          clear c11
                          by_cases c12 : x8_3 < (l0.length : Int)
                          · rw [if_pos c12] at H
                            have c12b0 : decide (x8_3 < (l0.length : Int)) = true := decide_eq_true c12
                            clear c12
                            obtain ⟨ji13, hji13⟩ : ∃ j_ : Int, (wrap64 (x6_1 - x8_3)) = j_ := ⟨_, rfl⟩
                            replace H : (if 0 ≤ (ji13) then (if (ji13) < (l1.length : Int) then ((obolref07_Mul.f kj7 (rd l0 x8_3) (rd l1 (ji13))).bind fun t240 => ((obolref07_Plus.f x7_3 t240).bind fun t241 => (obolref13_Mul.l1 kj7 l0 l1 x5_1 x6_1 t241 (wrap64 (x8_3 + 1))))) else (none)) else (none)) = some r := by first | (rw [hji13] at H; exact H) | (simp only [hji13] at H ⊢; exact H)
                            have hji13w : (IntKind.i64.wrap (x6_1 - x8_3)) = ji13 := (i64_w _).trans hji13
                            by_cases c14 : 0 ≤ (ji13)
                            · rw [if_pos c14] at H
                              have c14b0 : decide (0 ≤ (ji13)) = true := decide_eq_true c14
                              clear c14
                              by_cases c15 : (ji13) < (l1.length : Int)
                              · rw [if_pos c15] at H
                                have c15b0 : decide ((ji13) < (l1.length : Int)) = true := decide_eq_true c15
                                clear c15
                                replace H := Option.bind_eq_some_iff.mp H
                                obtain ⟨t240, A160, H⟩ := H
                                replace H : ((obolref07_Plus.f x7_3 t240).bind fun t241 => (obolref13_Mul.l1 kj7 l0 l1 x5_1 x6_1 t241 (wrap64 (x8_3 + 1)))) = some r := H
                                have A16 := Aside0.mk A160
                                clear A160
                                replace H := Option.bind_eq_some_iff.mp H
                                obtain ⟨t241, A170, H⟩ := H
                                replace H : (obolref13_Mul.l1 kj7 l0 l1 x5_1 x6_1 t241 (wrap64 (x8_3 + 1))) = some r := H
                                have A17 := Aside0.mk A170
                                clear A170
                                have H' := Aside0.mk H
                                clear H
                                have p238 : 0 ≤ (x8_3 : Int) := of_decide_eq_true (by first | (with_reducible assumption) | assumption)
                                have q238 : x8_3 < (l0.length : Int) := of_decide_eq_true (by first | (with_reducible assumption) | assumption)
                                obtain ⟨ad238, e238, hx238_0⟩ := Kd.at_int HR0.out x8_3 p238 q238
                                cases e238
                                replace hx238_0 := (HB.out.cell (World.block_lt_of_cell? w _ hx238_0)).trans hx238_0
                                replace p238 := eq_true p238
                                replace q238 := eq_true q238
                                have p239 : 0 ≤ ((ji13) : Int) := of_decide_eq_true (by first | (with_reducible assumption) | assumption)
                                have q239 : (ji13) < (l1.length : Int) := of_decide_eq_true (by first | (with_reducible assumption) | assumption)
                                obtain ⟨ad239, e239, hx239_0⟩ := Kd.at_int HR1.out (ji13) p239 q239
                                cases e239
                                replace hx239_0 := (HB.out.cell (World.block_lt_of_cell? w _ hx239_0)).trans hx239_0
                                replace p239 := eq_true p239
                                replace q239 := eq_true q239
                                go_wp2_with (first | (go_at_call 34; (with_reducible refine (obolref07_Mul.calls kj7 (rd l0 x8_3) (rd l1 (ji13)) t240 _ A16.out).mono ?_); rintro e w' ⟨rfl, ⟨nd, rfl⟩⟩; (try first | exact ⟨rfl, _, World.drewN_drewN _ _ _⟩ | exact ⟨rfl, _, Eq.trans (World.drewN_drewN _ _ _) (congrArg (World.drewN _) (Nat.add_assoc _ _ _))⟩)) | (go_at_call 65; (with_reducible refine (obolref07_Plus.calls x7_3 t240 t241 _ A17.out).mono ?_); rintro e w' ⟨rfl, ⟨nd, rfl⟩⟩; (try first | exact ⟨rfl, _, World.drewN_drewN _ _ _⟩ | exact ⟨rfl, _, Eq.trans (World.drewN_drewN _ _ _) (congrArg (World.drewN _) (Nat.add_assoc _ _ _))⟩)))
                                repeat (go_quiet (first | (go_at_call 34; (with_reducible refine (obolref07_Mul.calls kj7 (rd l0 x8_3) (rd l1 (ji13)) t240 _ A16.out).mono ?_); rintro e w' ⟨rfl, ⟨nd, rfl⟩⟩; (try first | exact ⟨rfl, _, World.drewN_drewN _ _ _⟩ | exact ⟨rfl, _, Eq.trans (World.drewN_drewN _ _ _) (congrArg (World.drewN _) (Nat.add_assoc _ _ _))⟩)) | (go_at_call 65; (with_reducible refine (obolref07_Plus.calls x7_3 t240 t241 _ A17.out).mono ?_); rintro e w' ⟨rfl, ⟨nd, rfl⟩⟩; (try first | exact ⟨rfl, _, World.drewN_drewN _ _ _⟩ | exact ⟨rfl, _, Eq.trans (World.drewN_drewN _ _ _) (congrArg (World.drewN _) (Nat.add_assoc _ _ _))⟩))); try go_wp2_with (first | (go_at_call 34; (with_reducible refine (obolref07_Mul.calls kj7 (rd l0 x8_3) (rd l1 (ji13)) t240 _ A16.out).mono ?_); rintro e w' ⟨rfl, ⟨nd, rfl⟩⟩; (try first | exact ⟨rfl, _, World.drewN_drewN _ _ _⟩ | exact ⟨rfl, _, Eq.trans (World.drewN_drewN _ _ _) (congrArg (World.drewN _) (Nat.add_assoc _ _ _))⟩)) | (go_at_call 65; (with_reducible refine (obolref07_Plus.calls x7_3 t240 t241 _ A17.out).mono ?_); rintro e w' ⟨rfl, ⟨nd, rfl⟩⟩; (try first | exact ⟨rfl, _, World.drewN_drewN _ _ _⟩ | exact ⟨rfl, _, Eq.trans (World.drewN_drewN _ _ _) (congrArg (World.drewN _) (Nat.add_assoc _ _ _))⟩))))
                                go_roundg kj7
                                case measure => have := HK1.out; have := HJ2.out; have := HK3.out; have := HJ7.out; omega
                                case rel => exact ⟨(t241), (wrap64 (x8_3 + 1)), (by first | rfl | (simp; done) | (simp [*]; done)), (by first | rfl | (simp; done) | (simp [*]; done)), H', ⟨by have := HK1.out; have := HJ2.out; have := HK3.out; have := HJ7.out; omega⟩, ⟨by (with_reducible repeat (first | apply Kd.R_alloc | apply Kd.R_drewN | apply Kd.R_drew)); exact HO_5.out⟩, ⟨by repeat (first | (with_reducible first | exact HB.out | apply below_alloc | apply pw_below_drewN | apply below_drew1) | exact HB.out)⟩⟩
                              · rw [if_neg c15] at H
                                exact absurd H (by simp)
                            · rw [if_neg c14] at H
                              exact absurd H (by simp)
                          · rw [if_neg c12] at H
                            exact absurd H (by simp)
                        · rw [if_neg c11] at H
                          exact absurd H (by simp)
                      · replace c10 := Bool.eq_false_iff.mpr c10
                        subst c10
                        have H1 : (obolref13_Mul.l1 kj7 l0 l1 x5_1 x6_1 x7_3 (wrap64 (x8_3 + 1))) = some r := by rw [if_neg (show ¬ (false = true) by decide)] at H; exact H
                        clear H
                        have H := H1
                        clear H1
                        have H' := Aside0.mk H
                        clear H
                        go_wp2
                        repeat (go_quiet (fail); try go_wp2)
                        go_roundg kj7
                        case measure => have := HK1.out; have := HJ2.out; have := HK3.out; have := HJ7.out; omega
                        case rel => exact ⟨(x7_3), (wrap64 (x8_3 + 1)), (by first | rfl | (simp; done) | (simp [*]; done)), (by first | rfl | (simp; done) | (simp [*]; done)), H', ⟨by have := HK1.out; have := HJ2.out; have := HK3.out; have := HJ7.out; omega⟩, ⟨by (with_reducible repeat (first | apply Kd.R_alloc | apply Kd.R_drewN | apply Kd.R_drew)); exact HO_5.out⟩, ⟨by repeat (first | (with_reducible first | exact HB.out | apply below_alloc | apply pw_below_drewN | apply below_drew1) | exact HB.out)⟩⟩
                · rw [if_neg c7] at H
                  have c7b0 : decide (x8_3 ≤ x6_1) = false := decide_eq_false c7
                  clear c7
                  by_cases c18 : x5_1.length < 17592186044416
                  · rw [if_pos c18] at H
                    have LMc18 := Aside0.mk c18
                    clear c18
                    obtain ⟨y235, hy235⟩ : ∃ y_ : List Int, y_ = (x5_1 ++ [x7_3]) := ⟨_, rfl⟩
                    replace H : (obolref13_Mul.l0 k3 l0 l1 y235 (wrap64 (x6_1 + 1))) = some r := by first | (rw [hy235]; with_reducible exact H) | (have H2_ := (Option.bind_some _ _).symm.trans H; rw [hy235]; with_reducible exact H2_) | (have H2_ := (Option.bind_some _ _).symm.trans H; with_reducible exact H2_) | with_reducible exact H | (rw [hy235]; exact H) | exact H
                    have Ny235 := Aside0.mk hy235
                    clear hy235
                    have H' := Aside0.mk H
                    clear H
                    go_wp2_with (first | ((with_reducible refine gate_builtin (b := .append) (xs := #[.tmp 59, .tmp 61]) rfl ?_); (try (refine gate_guard (by rfl) ?_; dsimp only)); at_builtin; refine Kd.R_append (Kd.int .u64) (w0 := w) w.heap.size rfl (.tmp 59) (.tmp 61) 22 30 (.int .u64 0) 8 rfl Try.underlying22 info30 rfl (by decide) (by omega) u5 x5_1 x7_3 [.int .u64 x7_3] (fun _ => True) (fun _ => False) rfl rfl ?aP (fun _ hk => hk.elim) ?aF ?aO ?aB ?aS ?aL ?_; (case aP => exact rfl); (case aB => exact (by repeat (first | (with_reducible first | exact HB.out | apply below_alloc | apply pw_below_drewN | apply below_drew1) | exact HB.out))); (case aF => exact (fun _ _ => trivial)); (case aO => exact (by (with_reducible repeat (first | apply Kd.R_alloc | apply Kd.R_drewN | apply Kd.R_drew)); exact HO_5.out)); (case aS => exact (below_size (by repeat (first | (with_reducible first | exact HB.out | apply below_alloc | apply pw_below_drewN | apply below_drew1) | exact HB.out)))); (case aL => have := LMc18.out; omega); intro v236 w19 ho hb hg hat; rw [← Ny235.out] at ho; have n0_ := Aside0.mk (hb); have n1_ := Aside0.mk (ho); clear HB; clear HO_5; have HB := n0_; have HO237 := n1_; clear n0_ n1_; clear ho hb hg hat))
                    repeat (go_quiet (first | ((with_reducible refine gate_builtin (b := .append) (xs := #[.tmp 59, .tmp 61]) rfl ?_); (try (refine gate_guard (by rfl) ?_; dsimp only)); at_builtin; refine Kd.R_append (Kd.int .u64) (w0 := w) w.heap.size rfl (.tmp 59) (.tmp 61) 22 30 (.int .u64 0) 8 rfl Try.underlying22 info30 rfl (by decide) (by omega) u5 x5_1 x7_3 [.int .u64 x7_3] (fun _ => True) (fun _ => False) rfl rfl ?aP (fun _ hk => hk.elim) ?aF ?aO ?aB ?aS ?aL ?_; (case aP => exact rfl); (case aB => exact (by repeat (first | (with_reducible first | exact HB.out | apply below_alloc | apply pw_below_drewN | apply below_drew1) | exact HB.out))); (case aF => exact (fun _ _ => trivial)); (case aO => exact (by (with_reducible repeat (first | apply Kd.R_alloc | apply Kd.R_drewN | apply Kd.R_drew)); exact HO_5.out)); (case aS => exact (below_size (by repeat (first | (with_reducible first | exact HB.out | apply below_alloc | apply pw_below_drewN | apply below_drew1) | exact HB.out)))); (case aL => have := LMc18.out; omega); intro v236 w19 ho hb hg hat; rw [← Ny235.out] at ho; have n0_ := Aside0.mk (hb); have n1_ := Aside0.mk (ho); clear HB; clear HO_5; have HB := n0_; have HO237 := n1_; clear n0_ n1_; clear ho hb hg hat)); try go_wp2_with (first | ((with_reducible refine gate_builtin (b := .append) (xs := #[.tmp 59, .tmp 61]) rfl ?_); (try (refine gate_guard (by rfl) ?_; dsimp only)); at_builtin; refine Kd.R_append (Kd.int .u64) (w0 := w) w.heap.size rfl (.tmp 59) (.tmp 61) 22 30 (.int .u64 0) 8 rfl Try.underlying22 info30 rfl (by decide) (by omega) u5 x5_1 x7_3 [.int .u64 x7_3] (fun _ => True) (fun _ => False) rfl rfl ?aP (fun _ hk => hk.elim) ?aF ?aO ?aB ?aS ?aL ?_; (case aP => exact rfl); (case aB => exact (by repeat (first | (with_reducible first | exact HB.out | apply below_alloc | apply pw_below_drewN | apply below_drew1) | exact HB.out))); (case aF => exact (fun _ _ => trivial)); (case aO => exact (by (with_reducible repeat (first | apply Kd.R_alloc | apply Kd.R_drewN | apply Kd.R_drew)); exact HO_5.out)); (case aS => exact (below_size (by repeat (first | (with_reducible first | exact HB.out | apply below_alloc | apply pw_below_drewN | apply below_drew1) | exact HB.out)))); (case aL => have := LMc18.out; omega); intro v236 w19 ho hb hg hat; rw [← Ny235.out] at ho; have n0_ := Aside0.mk (hb); have n1_ := Aside0.mk (ho); clear HB; clear HO_5; have HB := n0_; have HO237 := n1_; clear n0_ n1_; clear ho hb hg hat)))
                    go_roundg k3
                    case measure => have := HK1.out; have := HJ2.out; have := HK3.out; omega
                    case rel => exact ⟨(y235), (wrap64 (x6_1 + 1)), (by first | rfl | (simp; done) | (simp [*]; done)), H', ⟨by have := HK1.out; have := HJ2.out; have := HK3.out; omega⟩, ⟨by (with_reducible repeat (first | apply Kd.R_alloc | apply Kd.R_drewN | apply Kd.R_drew)); exact HO237.out⟩, ⟨by repeat (first | (with_reducible first | exact HB.out | apply below_alloc | apply pw_below_drewN | apply below_drew1) | exact HB.out)⟩⟩
                  · rw [if_neg c18] at H
                    exact absurd H (by simp)
          · replace c6 := Bool.eq_false_iff.mpr c6
            subst c6
            have H1 : ((obolref13_Short.f kj2 x5_1).bind fun t232 => (some t232)) = some r := by rw [if_neg (show ¬ (false = true) by decide)] at H; exact H
            clear H
            have H := H1
            clear H1
            replace H := Option.bind_eq_some_iff.mp H
            obtain ⟨t232, A200, H⟩ := H
            replace H : (some t232) = some r := H
            have A20 := Aside0.mk A200
            clear A200
            obtain rfl := Option.some.inj H
            obtain ⟨Ao21, co21, eo21⟩ := Kd.R_slice HO_5.out
            subst eo21
            go_wp2_with (first | (go_at_call 67; (with_reducible refine (obolref13_Short.calls kj2 (fun k_ => some k_ = (.slice Ao21 x5_1.length co21 : Value).ownBlock) (.slice Ao21 x5_1.length co21) x5_1 t232 w _ ?side1 ?side2 A20.out).mono ?_); (case side1 => repeat (first | (with_reducible first | exact HB.out | apply below_alloc | apply pw_below_drewN | apply below_drew1) | exact HB.out)); (case side2 => exact Kd.R_tight rfl HO_5.out); rintro e w22 ⟨v233, rfl, ho0, hb, hkp⟩; have n0_ := Aside0.mk (Kd.R_mono (ok' := fun k_ => True) ho0 (fun k_ hk_ => trivial)); have n1_ := Aside0.mk (hb); clear HB; clear HO_5; have HO234 := n0_; have HB := n1_; clear n0_ n1_; (try clear hb); (try clear hkp); (try clear ho0)))
            repeat (go_quiet (first | (go_at_call 67; (with_reducible refine (obolref13_Short.calls kj2 (fun k_ => some k_ = (.slice Ao21 x5_1.length co21 : Value).ownBlock) (.slice Ao21 x5_1.length co21) x5_1 t232 w _ ?side1 ?side2 A20.out).mono ?_); (case side1 => repeat (first | (with_reducible first | exact HB.out | apply below_alloc | apply pw_below_drewN | apply below_drew1) | exact HB.out)); (case side2 => exact Kd.R_tight rfl HO_5.out); rintro e w22 ⟨v233, rfl, ho0, hb, hkp⟩; have n0_ := Aside0.mk (Kd.R_mono (ok' := fun k_ => True) ho0 (fun k_ hk_ => trivial)); have n1_ := Aside0.mk (hb); clear HB; clear HO_5; have HO234 := n0_; have HB := n1_; clear n0_ n1_; (try clear hb); (try clear hkp); (try clear ho0))); try go_wp2_with (first | (go_at_call 67; (with_reducible refine (obolref13_Short.calls kj2 (fun k_ => some k_ = (.slice Ao21 x5_1.length co21 : Value).ownBlock) (.slice Ao21 x5_1.length co21) x5_1 t232 w _ ?side1 ?side2 A20.out).mono ?_); (case side1 => repeat (first | (with_reducible first | exact HB.out | apply below_alloc | apply pw_below_drewN | apply below_drew1) | exact HB.out)); (case side2 => exact Kd.R_tight rfl HO_5.out); rintro e w22 ⟨v233, rfl, ho0, hb, hkp⟩; have n0_ := Aside0.mk (Kd.R_mono (ok' := fun k_ => True) ho0 (fun k_ hk_ => trivial)); have n1_ := Aside0.mk (hb); clear HB; clear HO_5; have HO234 := n0_; have HB := n1_; clear n0_ n1_; (try clear hb); (try clear hkp); (try clear ho0))))
            go_ret
            exact ⟨_, by first | rfl | (simp [errW_none, errW_some] <;> rfl) | (simp [*, errW_none, errW_some] <;> rfl), by (with_reducible repeat (first | apply Kd.R_alloc | apply Kd.R_drewN | apply Kd.R_drew)); exact HO234.out, by repeat (first | (with_reducible first | exact HB.out | apply below_alloc | apply pw_below_drewN | apply below_drew1) | exact HB.out)⟩

end Go.Proofs.Ytempibbfdojfiac.PPolyStays
