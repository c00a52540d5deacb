-- printed by a program of this session (wip/tools/mkprint.py)
import Derived.Test.YtempibbfdojfiaaPCubeOnex0
import Derived.Test.YtempibbfdojfiaaPCubeOnex3
namespace Go.Proofs.Ytempibbfdojfiaa.PCubeOne
open Go.RowKit Go.Proofs.YtempibbfdojfiaaW.PrintWords Go.Proofs.YtempibbfdojfiaaW.PrintLast Go.Proofs.YtempibbfdojfiaaW.PrintMore
attribute [local go_sem] max2_int min2_int max_two min_two max_three min_three max_four min_four   -- for this text's walks alone
set_option linter.unusedVariables false
set_option linter.unusedSimpArgs false

/-! ### obolref10_Third: function 36 -/
def obolref10_Third.f (k : Nat) (a0 : Int) : Option (Int) := (obolref01_Pow.f k 288230376287764481 a0 192153584191842987).bind fun t147 => (some t147)
theorem obolref10_Third.mono : ∀ a0 k, LeO (obolref10_Third.f k a0) (obolref10_Third.f (k + 1) a0) := by
  intro a0 k
  unfold obolref10_Third.f
  repeat' first
      | (with_reducible exact obolref01_Pow.mono _ _ _ _)
      | (with_reducible exact LeO.refl _)
      | (with_reducible exact LeO.none _)
      | (with_reducible refine LeO.ite ?_ ?_)
      | (with_reducible refine LeO.bind ?_ (fun _ => ?_))
      | exact obolref01_Pow.mono _ _ _ _
      | exact LeO.none _
      | refine LeO.ite ?_ ?_
      | refine LeO.bind ?_ (fun _ => ?_)
set_option maxHeartbeats 8000000 in
set_option maxRecDepth 100000 in
theorem obolref10_Third.calls (k : Nat) (a0 : Int) (r : Int) (w : World) (h : obolref10_Third.f k a0 = some r) :
    Calls Try.prog 36 #[.int .u64 a0] w fun e w' => e = .returned (.int .u64 r) ∧ Drawn0 w w' := by
  have H : ((obolref01_Pow.f k 288230376287764481 a0 192153584191842987).bind fun t147 => (some t147)) = some r := h
  clear h
  replace H := Option.bind_eq_some_iff.mp H
  obtain ⟨t147, A20, H⟩ := H
  replace H : (some t147) = some r := H
  have A2 := Aside0.mk A20
  clear A20
  obtain rfl := Option.some.inj H
  go_enter Try.func36, Try.ntmps36
  go_wp2_with (first | ((with_reducible refine gate_callee (f := 20) rfl ?_); refine goesL_ (some 4) rfl rfl Try.func20 (by kernel_rfl) rfl #[.int .u64 288230376287764481, .int .u64 a0, .int .u64 192153584191842987] rfl (by (try simp only [List.map_toArray, List.map_cons, List.map_nil]); first | done | rfl | (simp only [List.length_drop, List.length_take]; rfl)) ?_; (with_reducible refine (obolref01_Pow.calls k 288230376287764481 a0 192153584191842987 t147 _ A2.out).mono ?_); rintro e w' ⟨rfl, ⟨nd, rfl⟩⟩; refine ⟨_, rfl, ?_⟩))
  go_ret
  exact ⟨by first | rfl | (simp; done) | (simp [*]; done), by repeat (first | exact Drawn0.refl _ | apply Drawn0.step)⟩

/-! ### obolref07_Mul: function 37 -/
def obolref07_Mul.f (k : Nat) (a0 : Int) (a1 : Int) : Option (Int) := (obolref01_Mul.f k 288230376287764481 a0 a1).bind fun t148 => (some t148)
theorem obolref07_Mul.mono : ∀ a0 a1 k, LeO (obolref07_Mul.f k a0 a1) (obolref07_Mul.f (k + 1) a0 a1) := by
  intro a0 a1 k
  unfold obolref07_Mul.f
  repeat' first
      | (with_reducible exact obolref01_Mul.mono _ _ _ _)
      | (with_reducible exact LeO.refl _)
      | (with_reducible exact LeO.none _)
      | (with_reducible refine LeO.ite ?_ ?_)
      | (with_reducible refine LeO.bind ?_ (fun _ => ?_))
      | exact obolref01_Mul.mono _ _ _ _
      | exact LeO.none _
      | refine LeO.ite ?_ ?_
      | refine LeO.bind ?_ (fun _ => ?_)
set_option maxHeartbeats 8000000 in
set_option maxRecDepth 100000 in
theorem obolref07_Mul.calls (k : Nat) (a0 : Int) (a1 : Int) (r : Int) (w : World) (h : obolref07_Mul.f k a0 a1 = some r) :
    Calls Try.prog 37 #[.int .u64 a0, .int .u64 a1] w fun e w' => e = .returned (.int .u64 r) ∧ Drawn0 w w' := by
  have H : ((obolref01_Mul.f k 288230376287764481 a0 a1).bind fun t148 => (some t148)) = some r := h
  clear h
  replace H := Option.bind_eq_some_iff.mp H
  obtain ⟨t148, A30, H⟩ := H
  replace H : (some t148) = some r := H
  have A3 := Aside0.mk A30
  clear A30
  obtain rfl := Option.some.inj H
  go_enter Try.func37, Try.ntmps37
  go_wp2_with (first | ((with_reducible refine gate_callee (f := 50) rfl ?_); refine goesL_ (some 7) rfl rfl Try.func50 (by kernel_rfl) rfl #[.int .u64 288230376287764481, .int .u64 a0, .int .u64 a1] rfl (by (try simp only [List.map_toArray, List.map_cons, List.map_nil]); first | done | rfl | (simp only [List.length_drop, List.length_take]; rfl)) ?_; (with_reducible refine (obolref01_Mul.calls k 288230376287764481 a0 a1 t148 _ A3.out).mono ?_); rintro e w' ⟨rfl, ⟨nd, rfl⟩⟩; refine ⟨_, rfl, ?_⟩))
  go_ret
  exact ⟨by first | rfl | (simp; done) | (simp [*]; done), by repeat (first | exact Drawn0.refl _ | apply Drawn0.step)⟩

/-! ### obollaw10_CubeOne: function 11 -/
def obollaw10_CubeOne.f (k : Nat) (a0 : Int) (a1 : Int) (a2 : Int) : Option (Bool) := (obollaw10_up.f k).bind fun t149 => ((obolref10_Third.f k a1).bind fun t150 => (if t149 = true then ((cube_Turn.f k a0 a1).bind fun t151 => ((cube_Turn.f k a0 a2).bind fun t152 => (if ((t151 == t152) == ((Int.tmod a1 288230376287764481) == (Int.tmod a2 288230376287764481))) = true then ((obolref07_Mul.f k t150 t150).bind fun t153 => ((obolref07_Mul.f k t150 t153).bind fun t154 => (some (t154 == (Int.tmod a1 288230376287764481))))) else (some false)))) else (some false)))
theorem obollaw10_CubeOne.mono : ∀ a0 a1 a2 k, LeO (obollaw10_CubeOne.f k a0 a1 a2) (obollaw10_CubeOne.f (k + 1) a0 a1 a2) := by
  intro a0 a1 a2 k
  unfold obollaw10_CubeOne.f
  repeat' first
      | (with_reducible exact cube_Turn.mono _ _ _)
      | (with_reducible exact obollaw10_up.mono _)
      | (with_reducible exact obolref07_Mul.mono _ _ _)
      | (with_reducible exact obolref10_Third.mono _ _)
      | (with_reducible exact LeO.refl _)
      | (with_reducible exact LeO.none _)
      | (with_reducible refine LeO.ite ?_ ?_)
      | (with_reducible refine LeO.bind ?_ (fun _ => ?_))
      | exact cube_Turn.mono _ _ _
      | exact obollaw10_up.mono _
      | exact obolref07_Mul.mono _ _ _
      | exact obolref10_Third.mono _ _
      | exact LeO.none _
      | refine LeO.ite ?_ ?_
      | refine LeO.bind ?_ (fun _ => ?_)
set_option maxHeartbeats 8000000 in
set_option maxRecDepth 100000 in
theorem obollaw10_CubeOne.calls (k : Nat) (a0 : Int) (a1 : Int) (a2 : Int) (r : Bool) (w : World) (h : obollaw10_CubeOne.f k a0 a1 a2 = some r) :
    Calls Try.prog 11 #[.int .u64 a0, .int .u64 a1, .int .u64 a2] w fun e w' => e = .returned (.bool r) ∧ Below w.heap.size w w' := by
  have HB := Aside0.mk (Below.refl w.heap.size w)
  have H : ((obollaw10_up.f k).bind fun t149 => ((obolref10_Third.f k a1).bind fun t150 => (if t149 = true then ((cube_Turn.f k a0 a1).bind fun t151 => ((cube_Turn.f k a0 a2).bind fun t152 => (if ((t151 == t152) == ((Int.tmod a1 288230376287764481) == (Int.tmod a2 288230376287764481))) = true then ((obolref07_Mul.f k t150 t150).bind fun t153 => ((obolref07_Mul.f k t150 t153).bind fun t154 => (some (t154 == (Int.tmod a1 288230376287764481))))) else (some false)))) else (some false)))) = some r := h
  clear h
  replace H := Option.bind_eq_some_iff.mp H
  obtain ⟨t149, A40, H⟩ := H
  replace H : ((obolref10_Third.f k a1).bind fun t150 => (if t149 = true then ((cube_Turn.f k a0 a1).bind fun t151 => ((cube_Turn.f k a0 a2).bind fun t152 => (if ((t151 == t152) == ((Int.tmod a1 288230376287764481) == (Int.tmod a2 288230376287764481))) = true then ((obolref07_Mul.f k t150 t150).bind fun t153 => ((obolref07_Mul.f k t150 t153).bind fun t154 => (some (t154 == (Int.tmod a1 288230376287764481))))) else (some false)))) else (some false))) = some r := H
  have A4 := Aside0.mk A40
  clear A40
  replace H := Option.bind_eq_some_iff.mp H
  obtain ⟨t150, A50, H⟩ := H
  replace H : (if t149 = true then ((cube_Turn.f k a0 a1).bind fun t151 => ((cube_Turn.f k a0 a2).bind fun t152 => (if ((t151 == t152) == ((Int.tmod a1 288230376287764481) == (Int.tmod a2 288230376287764481))) = true then ((obolref07_Mul.f k t150 t150).bind fun t153 => ((obolref07_Mul.f k t150 t153).bind fun t154 => (some (t154 == (Int.tmod a1 288230376287764481))))) else (some false)))) else (some false)) = some r := H
  have A5 := Aside0.mk A50
  clear A50
  by_cases c6 : t149 = true
  · subst c6
    have H1 : ((cube_Turn.f k a0 a1).bind fun t151 => ((cube_Turn.f k a0 a2).bind fun t152 => (if ((t151 == t152) == ((Int.tmod a1 288230376287764481) == (Int.tmod a2 288230376287764481))) = true then ((obolref07_Mul.f k t150 t150).bind fun t153 => ((obolref07_Mul.f k t150 t153).bind fun t154 => (some (t154 == (Int.tmod a1 288230376287764481))))) else (some false)))) = some r := by rw [if_pos rfl] at H; exact H
    clear H
    have H := H1
    clear H1
    replace H := Option.bind_eq_some_iff.mp H
    obtain ⟨t151, A70, H⟩ := H
    replace H : ((cube_Turn.f k a0 a2).bind fun t152 => (if ((t151 == t152) == ((Int.tmod a1 288230376287764481) == (Int.tmod a2 288230376287764481))) = true then ((obolref07_Mul.f k t150 t150).bind fun t153 => ((obolref07_Mul.f k t150 t153).bind fun t154 => (some (t154 == (Int.tmod a1 288230376287764481))))) else (some false))) = some r := H
    have A7 := Aside0.mk A70
    clear A70
    replace H := Option.bind_eq_some_iff.mp H
    obtain ⟨t152, A80, H⟩ := H
    replace H : (if ((t151 == t152) == ((Int.tmod a1 288230376287764481) == (Int.tmod a2 288230376287764481))) = true then ((obolref07_Mul.f k t150 t150).bind fun t153 => ((obolref07_Mul.f k t150 t153).bind fun t154 => (some (t154 == (Int.tmod a1 288230376287764481))))) else (some false)) = some r := H
    have A8 := Aside0.mk A80
    clear A80
    by_cases c9 : ((t151 == t152) == ((Int.tmod a1 288230376287764481) == (Int.tmod a2 288230376287764481))) = true
    · rw [if_pos c9] at H
      have c9b0 : ((t151 == t152) == ((Int.tmod a1 288230376287764481) == (Int.tmod a2 288230376287764481))) = true := c9
      (try (have c9b1 : decide ((t151 == t152) = ((Int.tmod a1 288230376287764481) == (Int.tmod a2 288230376287764481))) = true := by simpa using c9))
      (try (have c9b2 : ((t151 == t152) == ((Int.tmod a1 288230376287764481) == (Int.tmod a2 288230376287764481))) = true := by simpa using c9))
      clear c9
      replace H := Option.bind_eq_some_iff.mp H
      obtain ⟨t153, A100, H⟩ := H
      replace H : ((obolref07_Mul.f k t150 t153).bind fun t154 => (some (t154 == (Int.tmod a1 288230376287764481)))) = some r := H
      have A10 := Aside0.mk A100
      clear A100
      replace H := Option.bind_eq_some_iff.mp H
      obtain ⟨t154, A110, H⟩ := H
      replace H : (some (t154 == (Int.tmod a1 288230376287764481))) = some r := H
      have A11 := Aside0.mk A110
      clear A110
      obtain rfl := Option.some.inj H
      go_enter Try.func11, Try.ntmps11
      go_wp2_with (first | ((with_reducible refine gate_callee (f := 28) rfl ?_); refine goesL_ (some 10) rfl rfl Try.func28 (by kernel_rfl) rfl #[] rfl (by (try simp only [List.map_toArray, List.map_cons, List.map_nil]); first | done | rfl | (simp only [List.length_drop, List.length_take]; rfl)) ?_; (with_reducible refine (obollaw10_up.calls k  true _ A4.out).mono ?_); rintro e w12 ⟨rfl, hb⟩; refine ⟨_, rfl, ?_⟩; have n0_ := Aside0.mk (below_step (by repeat (first | (with_reducible first | exact HB.out | apply below_alloc | apply pw_below_drewN | apply below_drew1) | exact HB.out)) hb); clear HB; have HB := n0_; clear n0_; (try clear hb); (try clear hb2); (try clear hk); (try clear hi)) | ((with_reducible refine gate_callee (f := 36) rfl ?_); refine goesL_ (some 12) rfl rfl Try.func36 (by kernel_rfl) rfl #[.int .u64 a1] rfl (by (try simp only [List.map_toArray, List.map_cons, List.map_nil]); first | done | rfl | (simp only [List.length_drop, List.length_take]; rfl)) ?_; (with_reducible refine (obolref10_Third.calls k a1 t150 _ A5.out).mono ?_); rintro e w' ⟨rfl, ⟨nd, rfl⟩⟩; refine ⟨_, rfl, ?_⟩) | (go_at_call 29; (with_reducible refine (cube_Turn.calls k a0 a1 t151 _ A7.out).mono ?_); rintro e w' ⟨rfl, ⟨nd, rfl⟩⟩) | (go_at_call 29; (with_reducible refine (cube_Turn.calls k a0 a2 t152 _ A8.out).mono ?_); rintro e w' ⟨rfl, ⟨nd, rfl⟩⟩) | (go_at_call 37; (with_reducible refine (obolref07_Mul.calls k t150 t150 t153 _ A10.out).mono ?_); rintro e w' ⟨rfl, ⟨nd, rfl⟩⟩) | (go_at_call 37; (with_reducible refine (obolref07_Mul.calls k t150 t153 t154 _ A11.out).mono ?_); rintro e w' ⟨rfl, ⟨nd, rfl⟩⟩))
      go_ret
      exact ⟨by first | rfl | (simp [errW_none, errW_some] <;> rfl) | (simp [*, errW_none, errW_some] <;> rfl), by repeat (first | (with_reducible first | exact HB.out | apply below_alloc | apply pw_below_drewN | apply below_drew1) | exact HB.out)⟩
    · rw [if_neg c9] at H
      have c9b0 : ((t151 == t152) == ((Int.tmod a1 288230376287764481) == (Int.tmod a2 288230376287764481))) = false := by simpa using c9
      (try (have c9b1 : decide ((t151 == t152) = ((Int.tmod a1 288230376287764481) == (Int.tmod a2 288230376287764481))) = false := by simpa using c9))
      (try (have c9b2 : ((t151 == t152) == ((Int.tmod a1 288230376287764481) == (Int.tmod a2 288230376287764481))) = false := by simpa using c9))
      (try (have c9b3 : ¬ ((t151 == t152) = ((Int.tmod a1 288230376287764481) == (Int.tmod a2 288230376287764481))) := by simpa using c9))
      clear c9
      obtain rfl := Option.some.inj H
      go_enter Try.func11, Try.ntmps11
      go_wp2_with (first | ((with_reducible refine gate_callee (f := 28) rfl ?_); refine goesL_ (some 10) rfl rfl Try.func28 (by kernel_rfl) rfl #[] rfl (by (try simp only [List.map_toArray, List.map_cons, List.map_nil]); first | done | rfl | (simp only [List.length_drop, List.length_take]; rfl)) ?_; (with_reducible refine (obollaw10_up.calls k  true _ A4.out).mono ?_); rintro e w13 ⟨rfl, hb⟩; refine ⟨_, rfl, ?_⟩; have n0_ := Aside0.mk (below_step (by repeat (first | (with_reducible first | exact HB.out | apply below_alloc | apply pw_below_drewN | apply below_drew1) | exact HB.out)) hb); clear HB; have HB := n0_; clear n0_; (try clear hb); (try clear hb2); (try clear hk); (try clear hi)) | ((with_reducible refine gate_callee (f := 36) rfl ?_); refine goesL_ (some 12) rfl rfl Try.func36 (by kernel_rfl) rfl #[.int .u64 a1] rfl (by (try simp only [List.map_toArray, List.map_cons, List.map_nil]); first | done | rfl | (simp only [List.length_drop, List.length_take]; rfl)) ?_; (with_reducible refine (obolref10_Third.calls k a1 t150 _ A5.out).mono ?_); rintro e w' ⟨rfl, ⟨nd, rfl⟩⟩; refine ⟨_, rfl, ?_⟩) | (go_at_call 29; (with_reducible refine (cube_Turn.calls k a0 a1 t151 _ A7.out).mono ?_); rintro e w' ⟨rfl, ⟨nd, rfl⟩⟩) | (go_at_call 29; (with_reducible refine (cube_Turn.calls k a0 a2 t152 _ A8.out).mono ?_); rintro e w' ⟨rfl, ⟨nd, rfl⟩⟩))
      go_ret
      exact ⟨by first | rfl | (simp [errW_none, errW_some] <;> rfl) | (simp [*, errW_none, errW_some] <;> rfl), by repeat (first | (with_reducible first | exact HB.out | apply below_alloc | apply pw_below_drewN | apply below_drew1) | exact HB.out)⟩
  · replace c6 := Bool.eq_false_iff.mpr c6
    subst c6
    have H1 : (some false) = some r := by rw [if_neg (show ¬ (false = true) by decide)] at H; exact H
    clear H
    have H := H1
    clear H1
    obtain rfl := Option.some.inj H
    go_enter Try.func11, Try.ntmps11
    go_wp2_with (first | ((with_reducible refine gate_callee (f := 28) rfl ?_); refine goesL_ (some 10) rfl rfl Try.func28 (by kernel_rfl) rfl #[] rfl (by (try simp only [List.map_toArray, List.map_cons, List.map_nil]); first | done | rfl | (simp only [List.length_drop, List.length_take]; rfl)) ?_; (with_reducible refine (obollaw10_up.calls k  false _ A4.out).mono ?_); rintro e w14 ⟨rfl, hb⟩; refine ⟨_, rfl, ?_⟩; have n0_ := Aside0.mk (below_step (by repeat (first | (with_reducible first | exact HB.out | apply below_alloc | apply pw_below_drewN | apply below_drew1) | exact HB.out)) hb); clear HB; have HB := n0_; clear n0_; (try clear hb); (try clear hb2); (try clear hk); (try clear hi)) | ((with_reducible refine gate_callee (f := 36) rfl ?_); refine goesL_ (some 12) rfl rfl Try.func36 (by kernel_rfl) rfl #[.int .u64 a1] rfl (by (try simp only [List.map_toArray, List.map_cons, List.map_nil]); first | done | rfl | (simp only [List.length_drop, List.length_take]; rfl)) ?_; (with_reducible refine (obolref10_Third.calls k a1 t150 _ A5.out).mono ?_); rintro e w' ⟨rfl, ⟨nd, rfl⟩⟩; refine ⟨_, rfl, ?_⟩))
    go_ret
    exact ⟨by first | rfl | (simp [errW_none, errW_some] <;> rfl) | (simp [*, errW_none, errW_some] <;> rfl), by repeat (first | (with_reducible first | exact HB.out | apply below_alloc | apply pw_below_drewN | apply below_drew1) | exact HB.out)⟩

/-- THE ONE PURE STATEMENT of obollaw10_CubeOne: yours. -/
def obollaw10_CubeOne.Pure : Prop := ∀ (a0 : Int) (a1 : Int) (a2 : Int), (Lit.int .u64 a0).wf = true → (Lit.int .u64 a1).wf = true → (Lit.int .u64 a2).wf = true → ∃ k, obollaw10_CubeOne.f k a0 a1 a2 = some true
theorem obollaw10_CubeOne.walk (P : obollaw10_CubeOne.Pure) (a0 : Int) (a1 : Int) (a2 : Int) (w : World) (w0 : (Lit.int .u64 a0).wf = true) (w1 : (Lit.int .u64 a1).wf = true) (w2 : (Lit.int .u64 a2).wf = true) :
    Calls Try.prog 11 #[.int .u64 a0, .int .u64 a1, .int .u64 a2] w fun e w' => e = .returned (.bool true) ∧ Below w.heap.size w w' := by
  obtain ⟨k, h⟩ := P a0 a1 a2 w0 w1 w2
  refine (obollaw10_CubeOne.calls k a0 a1 a2 true w h).mono ?_
  rintro e w' ⟨rfl, hd⟩
  exact ⟨rfl, hd⟩

end Go.Proofs.Ytempibbfdojfiaa.PCubeOne
