-- printed by a program of this session (wip/tools/mkprint.py)
import Derived.Test.YtempibbfdojfiaaPPolyRootsx0
import Derived.Test.YtempibbfdojfiaaPPolyRootsx3
namespace Go.Proofs.Ytempibbfdojfiaa.PPolyRoots
open Go.RowKit Go.Proofs.YtempibbfdojfiaaW.PrintWords Go.Proofs.YtempibbfdojfiaaW.PrintLast Go.Proofs.YtempibbfdojfiaaW.PrintMore
attribute [local go_sem] max2_int min2_int max_two min_two max_three min_three max_four min_four   -- for this text's walks alone
set_option linter.unusedVariables false
set_option linter.unusedSimpArgs false

attribute [local go_sem high] errCmp_eql errCmp_neq errCmpL_eql errCmpL_neq
/-! ### obollaw13_PolyRoots: function 4 -/
def obollaw13_PolyRoots.j0 : Nat → Int → Bool → Int → Option Int → Bool → Option (Bool)
  | 0, _, _, _, _, _ => none
  | k + 1, x0, x3, x4, x5, x18 => if x18 = true then (if x3 = true then (if x5.isNone = true then (some false) else (if (x5.getD 0) = 1 then (some (x4 == 0)) else (some false))) else (some false)) else (if 0 ≤ x0 then (if x3 = true then (if x5.isNone = true then ((obolref13_Root.f k x0).bind fun t136 => (if x4 = t136 then ((obolref01_Pow.f k 288230376287764481 x4 (shl .u64 1 x0)).bind fun t137 => (if t137 = 1 then (if x0 = 0 then (some true) else ((obolref01_Pow.f k 288230376287764481 x4 ((shl .u64 1 x0) / 2)).bind fun t138 => (some (t138 != 1)))) else (some false))) else (some false))) else (some false)) else (some false)) else (none))
def obollaw13_PolyRoots.f (k : Nat) (a0 : Int) : Option (Bool) := (obollaw13_up.f k).bind fun t131 => ((poly_Root.f k a0).bind fun bt132 => (if a0 < 0 then (obollaw13_PolyRoots.j0 k a0 t131 bt132.1 bt132.2 true) else (obollaw13_PolyRoots.j0 k a0 t131 bt132.1 bt132.2 (decide (a0 > 12)))))
theorem obollaw13_PolyRoots.mono_l : ∀ k, (∀ y0 y1 y2 y3 y4, LeO (obollaw13_PolyRoots.j0 k y0 y1 y2 y3 y4) (obollaw13_PolyRoots.j0 (k + 1) y0 y1 y2 y3 y4))
  | 0 => fun _ _ _ _ _ r h => by simp [obollaw13_PolyRoots.j0] at h
  | k + 1 => by
    have ih0 := obollaw13_PolyRoots.mono_l k
    · intro y0 y1 y2 y3 y4
      unfold obollaw13_PolyRoots.j0
      repeat' first
      | (with_reducible exact ih0 _ _ _ _ _)
      | (with_reducible exact obollaw13_up.mono _)
      | (with_reducible exact obolref01_Pow.mono _ _ _ _)
      | (with_reducible exact obolref13_Root.mono _ _)
      | (with_reducible exact poly_Root.mono _ _)
      | (with_reducible exact LeO.refl _)
      | (with_reducible exact LeO.none _)
      | (with_reducible refine LeO.ite ?_ ?_)
      | (with_reducible refine LeO.bind ?_ (fun _ => ?_))
      | exact ih0 _ _ _ _ _
      | exact obollaw13_up.mono _
      | exact obolref01_Pow.mono _ _ _ _
      | exact obolref13_Root.mono _ _
      | exact poly_Root.mono _ _
      | exact LeO.none _
      | refine LeO.ite ?_ ?_
      | refine LeO.bind ?_ (fun _ => ?_)
theorem obollaw13_PolyRoots.mono : ∀ a0 k, LeO (obollaw13_PolyRoots.f k a0) (obollaw13_PolyRoots.f (k + 1) a0) := by
  intro a0 k
  have ih0 := obollaw13_PolyRoots.mono_l k
  unfold obollaw13_PolyRoots.f
  repeat' first
      | (with_reducible exact ih0 _ _ _ _ _)
      | (with_reducible exact obollaw13_up.mono _)
      | (with_reducible exact obolref01_Pow.mono _ _ _ _)
      | (with_reducible exact obolref13_Root.mono _ _)
      | (with_reducible exact poly_Root.mono _ _)
      | (with_reducible exact LeO.refl _)
      | (with_reducible exact LeO.none _)
      | (with_reducible refine LeO.ite ?_ ?_)
      | (with_reducible refine LeO.bind ?_ (fun _ => ?_))
      | exact ih0 _ _ _ _ _
      | exact obollaw13_up.mono _
      | exact obolref01_Pow.mono _ _ _ _
      | exact obolref13_Root.mono _ _
      | exact poly_Root.mono _ _
      | exact LeO.none _
      | refine LeO.ite ?_ ?_
      | refine LeO.bind ?_ (fun _ => ?_)
set_option maxHeartbeats 8000000 in
set_option maxRecDepth 100000 in
theorem obollaw13_PolyRoots.calls (k : Nat) (a0 : Int) (r : Bool) (w : World) (h : obollaw13_PolyRoots.f k a0 = some r) :
    Calls Try.prog 4 #[.int .i64 a0] w fun e w' => e = .returned (.bool r) ∧ Below w.heap.size w w' := by
  have hu28 := Try.underlying28
  have hu31 := Try.underlying31
  have HB := Aside0.mk (Below.refl w.heap.size w)
  have H : ((obollaw13_up.f k).bind fun t131 => ((poly_Root.f k a0).bind fun bt132 => (if a0 < 0 then (obollaw13_PolyRoots.j0 k a0 t131 bt132.1 bt132.2 true) else (obollaw13_PolyRoots.j0 k a0 t131 bt132.1 bt132.2 (decide (a0 > 12)))))) = some r := h
  clear h
  replace H := Option.bind_eq_some_iff.mp H
  obtain ⟨t131, A20, H⟩ := H
  replace H : ((poly_Root.f k a0).bind fun bt132 => (if a0 < 0 then (obollaw13_PolyRoots.j0 k a0 t131 bt132.1 bt132.2 true) else (obollaw13_PolyRoots.j0 k a0 t131 bt132.1 bt132.2 (decide (a0 > 12))))) = some r := H
  have A2 := Aside0.mk A20
  clear A20
  replace H := Option.bind_eq_some_iff.mp H
  obtain ⟨⟨t132, t133⟩, A30, H⟩ := H
  replace H : (if a0 < 0 then (obollaw13_PolyRoots.j0 k a0 t131 t132 t133 true) else (obollaw13_PolyRoots.j0 k a0 t131 t132 t133 (decide (a0 > 12)))) = some r := H
  have A3 := Aside0.mk A30
  clear A30
  have HC4 := Aside0.mk H
  clear H
  go_enter Try.func4, Try.ntmps4
  go_upto_region 3 with (first | ((with_reducible refine gate_callee (f := 15) rfl ?_); refine goesL_ (some 7) rfl rfl Try.func15 (by kernel_rfl) rfl #[] rfl (by (try simp only [List.map_toArray, List.map_cons, List.map_nil]); first | done | rfl | (simp only [List.length_drop, List.length_take]; rfl)) ?_; (with_reducible refine (obollaw13_up.calls k  t131 _ A2.out).mono ?_); rintro e w5 ⟨rfl, hb⟩; refine ⟨_, rfl, ?_⟩; have n0_ := Aside0.mk (below_step (by repeat (first | (with_reducible first | exact HB.out | apply below_alloc | apply pw_below_drewN | apply below_drew1) | exact HB.out)) hb); clear HB; have HB := n0_; clear n0_; (try clear hb); (try clear hb2); (try clear hk); (try clear hi)) | ((with_reducible refine gate_callee (f := 18) rfl ?_); refine goesL_ (some 10) rfl rfl Try.func18 (by kernel_rfl) rfl #[.int .i64 a0] rfl (by (try simp only [List.map_toArray, List.map_cons, List.map_nil]); first | done | rfl | (simp only [List.length_drop, List.length_take]; rfl)) ?_; (with_reducible refine (poly_Root.calls k a0 t132 t133 _ A3.out).mono ?_); rintro e w' ⟨rfl, ⟨nd, rfl⟩⟩; refine ⟨_, rfl, ?_⟩; (try simp only [errW_none, errW_some])))
  (try simp only [Act.put, List.setIfInBounds_toArray, List.set_cons_zero, List.set_cons_succ])
  go_cut [18] (fun v18 wc => ∃ (kq : Nat) (x18_3 : Bool), v18 = .bool x18_3 ∧ Aside0 (obollaw13_PolyRoots.j0 kq a0 t131 t132 t133 x18_3 = some r) ∧ Aside0 (kq ≤ k) ∧ Aside0 (Below w.heap.size w wc))
  case first =>
    have H := HC4.out
    clear HC4
    by_cases c6 : a0 < 0
    · rw [if_pos c6] at H
      have c6b0 : decide (a0 < 0) = true := decide_eq_true c6
      clear c6
      (first | rw [c6b0] | (simp only [i64_w, i32_w]; rw [c6b0]) | skip)
      have H' := Aside0.mk H
      clear H
      go_wp2
      go_meet
      case rel => exact ⟨_, (true), (by first | rfl | (simp; done) | (simp [*]; done)), H', ⟨by first | omega | exact Nat.le_refl _⟩, ⟨by repeat (first | (with_reducible first | exact HB.out | apply below_alloc | apply pw_below_drewN | apply below_drew1) | exact HB.out)⟩⟩
    · rw [if_neg c6] at H
      have c6b0 : decide (a0 < 0) = false := decide_eq_false c6
      clear c6
      (first | rw [c6b0] | (simp only [i64_w, i32_w]; rw [c6b0]) | skip)
      have H' := Aside0.mk H
      clear H
      go_wp2
      go_meet
      case rel => exact ⟨_, (decide (a0 > 12)), (by first | rfl | (simp; done) | (simp [*]; done)), H', ⟨by first | omega | exact Nat.le_refl _⟩, ⟨by repeat (first | (with_reducible first | exact HB.out | apply below_alloc | apply pw_below_drewN | apply below_drew1) | exact HB.out)⟩⟩
  case rest =>
    clear HC4
    try clear c1
    try clear p2
    try clear c4
    try clear c6
    try clear c6b0
    obtain ⟨kq, x18_3, rfl, HA, HJ3, HB⟩ := hcut
    cases kq with
    | zero => exact absurd HA.out (by simp [obollaw13_PolyRoots.j0])
    | succ kj3 =>
      have H := HA.out
      clear HA
      simp only [obollaw13_PolyRoots.j0] at H
      by_cases c7 : x18_3 = true
      · subst c7
        have H1 : (if t131 = true then (if t133.isNone = true then (some false) else (if (t133.getD 0) = 1 then (some (t132 == 0)) else (some false))) else (some false)) = some r := by rw [if_pos rfl] at H; exact H
        clear H
        have H := H1
        clear H1
        by_cases c8 : t131 = true
        · subst c8
          have H1 : (if t133.isNone = true then (some false) else (if (t133.getD 0) = 1 then (some (t132 == 0)) else (some false))) = some r := by rw [if_pos rfl] at H; exact H
          clear H
          have H := H1
          clear H1
          rcases t133 with _ | q134
          · have H1 : (some false) = some r := by rw [if_pos (show (none : Option Int).isNone = true by rfl)] at H; exact H
            clear H
            have H := H1
            clear H1
            try simp only [errW_none, errW_some]
            obtain rfl := Option.some.inj H
            go_wp2
            go_ret
            exact ⟨by first | rfl | (simp [errW_none, errW_some] <;> rfl) | (simp [*, errW_none, errW_some] <;> rfl), by repeat (first | (with_reducible first | exact HB.out | apply below_alloc | apply pw_below_drewN | apply below_drew1) | exact HB.out)⟩
          · have H1 : (if q134 = 1 then (some (t132 == 0)) else (some false)) = some r := by rw [if_neg (show ¬ (some q134).isNone = true by simp)] at H; exact H
            clear H
            have H := H1
            clear H1
            try simp only [errW_none, errW_some]
            by_cases c9 : q134 = 1
            · rw [if_pos c9] at H
              have c9b0 : (q134 == 1) = true := beq_iff_eq.mpr c9
              have c9b1 : (q134 != 1) = false := bne_eq_false_iff_eq.mpr c9
              clear c9
              obtain rfl := Option.some.inj H
              go_wp2
              go_ret
              exact ⟨by first | rfl | (simp [errW_none, errW_some] <;> rfl) | (simp [*, errW_none, errW_some] <;> rfl), by repeat (first | (with_reducible first | exact HB.out | apply below_alloc | apply pw_below_drewN | apply below_drew1) | exact HB.out)⟩
            · rw [if_neg c9] at H
              have c9b0 : (q134 == 1) = false := beq_eq_false_iff_ne.mpr c9
              have c9b1 : (q134 != 1) = true := bne_iff_ne.mpr c9
              obtain rfl := Option.some.inj H
              go_wp2
              go_ret
              exact ⟨by first | rfl | (simp [errW_none, errW_some] <;> rfl) | (simp [*, errW_none, errW_some] <;> rfl), by repeat (first | (with_reducible first | exact HB.out | apply below_alloc | apply pw_below_drewN | apply below_drew1) | exact HB.out)⟩
        · replace c8 := Bool.eq_false_iff.mpr c8
          subst c8
          have H1 : (some false) = some r := by rw [if_neg (show ¬ (false = true) by decide)] at H; exact H
          clear H
          have H := H1
          clear H1
          obtain rfl := Option.some.inj H
          go_wp2
          go_ret
          exact ⟨by first | rfl | (simp [errW_none, errW_some] <;> rfl) | (simp [*, errW_none, errW_some] <;> rfl), by repeat (first | (with_reducible first | exact HB.out | apply below_alloc | apply pw_below_drewN | apply below_drew1) | exact HB.out)⟩
      · replace c7 := Bool.eq_false_iff.mpr c7
        subst c7
        have H1 : (if 0 ≤ a0 then (if t131 = true then (if t133.isNone = true then ((obolref13_Root.f kj3 a0).bind fun t136 => (if t132 = t136 then ((obolref01_Pow.f kj3 288230376287764481 t132 (shl .u64 1 a0)).bind fun t137 => (if t137 = 1 then (if a0 = 0 then (some true) else ((obolref01_Pow.f kj3 288230376287764481 t132 ((shl .u64 1 a0) / 2)).bind fun t138 => (some (t138 != 1)))) else (some false))) else (some false))) else (some false)) else (some false)) else (none)) = some r := by rw [if_neg (show ¬ (false = true) by decide)] at H; exact H
        clear H
        have H := H1
        clear H1
        by_cases c10 : 0 ≤ a0
        · rw [if_pos c10] at H
          have c10b0 := eq_true c10
          have c10b1 : decide (0 ≤ a0) = true := decide_eq_true c10
          clear c10
          obtain ⟨ji11, hji11⟩ : ∃ j_ : Int, (shl .u64 1 a0) = j_ := ⟨_, rfl⟩
          replace H : (if t131 = true then (if t133.isNone = true then ((obolref13_Root.f kj3 a0).bind fun t136 => (if t132 = t136 then ((obolref01_Pow.f kj3 288230376287764481 t132 (ji11)).bind fun t137 => (if t137 = 1 then (if a0 = 0 then (some true) else ((obolref01_Pow.f kj3 288230376287764481 t132 ((ji11) / 2)).bind fun t138 => (some (t138 != 1)))) else (some false))) else (some false))) else (some false)) else (some false)) = some r := by first | (rw [hji11] at H; exact H) | (simp only [hji11] at H ⊢; exact H)
          have hji11_ : (IntKind.u64.wrap (1 * 2 ^ min a0.toNat 64)) = ji11 := hji11
          have hji11z : a0 ≤ 64 → (IntKind.u64.wrap (1 * 2 ^ a0.toNat)) = ji11 := shl_small hji11
          have hji11n : 0 ≤ ji11 := by rw [← hji11]; exact (shl_u64_range _ _).1
          have hji11m : ji11 ≤ 18446744073709551615 := by rw [← hji11]; exact (shl_u64_range _ _).2
          have hji11u : (IntKind.u64.wrap (2 ^ min a0.toNat 64)) = ji11 := by have h_ := hji11_; rw [Int.one_mul] at h_; exact h_
          have hji11v : a0 ≤ 64 → (IntKind.u64.wrap (2 ^ a0.toNat)) = ji11 := fun hle_ => by have h_ := hji11z hle_; rw [Int.one_mul] at h_; exact h_
          by_cases c12 : t131 = true
          · subst c12
            have H1 : (if t133.isNone = true then ((obolref13_Root.f kj3 a0).bind fun t136 => (if t132 = t136 then ((obolref01_Pow.f kj3 288230376287764481 t132 (ji11)).bind fun t137 => (if t137 = 1 then (if a0 = 0 then (some true) else ((obolref01_Pow.f kj3 288230376287764481 t132 ((ji11) / 2)).bind fun t138 => (some (t138 != 1)))) else (some false))) else (some false))) else (some false)) = some r := by rw [if_pos rfl] at H; exact H
            clear H
            have H := H1
            clear H1
            rcases t133 with _ | q135
            · have H1 : ((obolref13_Root.f kj3 a0).bind fun t136 => (if t132 = t136 then ((obolref01_Pow.f kj3 288230376287764481 t132 (ji11)).bind fun t137 => (if t137 = 1 then (if a0 = 0 then (some true) else ((obolref01_Pow.f kj3 288230376287764481 t132 ((ji11) / 2)).bind fun t138 => (some (t138 != 1)))) else (some false))) else (some false))) = some r := by rw [if_pos (show (none : Option Int).isNone = true by rfl)] at H; exact H
              clear H
              have H := H1
              clear H1
              try simp only [errW_none, errW_some]
              replace H := Option.bind_eq_some_iff.mp H
              obtain ⟨t136, A130, H⟩ := H
              replace H : (if t132 = t136 then ((obolref01_Pow.f kj3 288230376287764481 t132 (ji11)).bind fun t137 => (if t137 = 1 then (if a0 = 0 then (some true) else ((obolref01_Pow.f kj3 288230376287764481 t132 ((ji11) / 2)).bind fun t138 => (some (t138 != 1)))) else (some false))) else (some false)) = some r := H
              have A13 := Aside0.mk A130
              clear A130
              by_cases c14 : t132 = t136
              · rw [if_pos c14] at H
                have c14b0 : (t132 == t136) = true := beq_iff_eq.mpr c14
                have c14b1 : (t132 != t136) = false := bne_eq_false_iff_eq.mpr c14
                clear c14
                replace H := Option.bind_eq_some_iff.mp H
                obtain ⟨t137, A150, H⟩ := H
                replace H : (if t137 = 1 then (if a0 = 0 then (some true) else ((obolref01_Pow.f kj3 288230376287764481 t132 ((ji11) / 2)).bind fun t138 => (some (t138 != 1)))) else (some false)) = some r := H
                have A15 := Aside0.mk A150
                clear A150
                by_cases c16 : t137 = 1
                · rw [if_pos c16] at H
                  have c16b0 : (t137 == 1) = true := beq_iff_eq.mpr c16
                  have c16b1 : (t137 != 1) = false := bne_eq_false_iff_eq.mpr c16
                  clear c16
                  by_cases c17 : a0 = 0
                  · rw [if_pos c17] at H
                    have c17b0 : (a0 == 0) = true := beq_iff_eq.mpr c17
                    have c17b1 : (a0 != 0) = false := bne_eq_false_iff_eq.mpr c17
                    have c17b2 : a0 ≤ 64 := by omega
                    clear c17
                    obtain rfl := Option.some.inj H
                    go_wp2_with (first | (go_at_call 19; (with_reducible refine (obolref13_Root.calls kj3 a0 t136 _ A13.out).mono ?_); rintro e w' ⟨rfl, ⟨nd, rfl⟩⟩) | (go_at_call 20; (with_reducible refine (obolref01_Pow.calls kj3 288230376287764481 t132 ji11 t137 _ A15.out).mono ?_); rintro e w' ⟨rfl, ⟨nd, rfl⟩⟩))
                    go_ret
                    exact ⟨by first | rfl | (simp [errW_none, errW_some] <;> rfl) | (simp only [← hji11]; first | rfl | (simp [errW_none, errW_some] <;> rfl)) | (simp [*, errW_none, errW_some] <;> rfl), by repeat (first | (with_reducible first | exact HB.out | apply below_alloc | apply pw_below_drewN | apply below_drew1) | exact HB.out)⟩
                  · rw [if_neg c17] at H
                    have c17b0 : (a0 == 0) = false := beq_eq_false_iff_ne.mpr c17
                    have c17b1 : (a0 != 0) = true := bne_iff_ne.mpr c17
                    replace H := Option.bind_eq_some_iff.mp H
                    obtain ⟨t138, A180, H⟩ := H
                    replace H : (some (t138 != 1)) = some r := H
                    have A18 := Aside0.mk A180
                    clear A180
                    obtain rfl := Option.some.inj H
                    go_wp2_with (first | (go_at_call 19; (with_reducible refine (obolref13_Root.calls kj3 a0 t136 _ A13.out).mono ?_); rintro e w' ⟨rfl, ⟨nd, rfl⟩⟩) | (go_at_call 20; (with_reducible refine (obolref01_Pow.calls kj3 288230376287764481 t132 ji11 t137 _ A15.out).mono ?_); rintro e w' ⟨rfl, ⟨nd, rfl⟩⟩) | (go_at_call 20; (with_reducible refine (obolref01_Pow.calls kj3 288230376287764481 t132 ((ji11) / 2) t138 _ A18.out).mono ?_); rintro e w' ⟨rfl, ⟨nd, rfl⟩⟩))
                    go_ret
                    exact ⟨by first | rfl | (simp [errW_none, errW_some] <;> rfl) | (simp only [← hji11]; first | rfl | (simp [errW_none, errW_some] <;> rfl)) | (simp [*, errW_none, errW_some] <;> rfl), by repeat (first | (with_reducible first | exact HB.out | apply below_alloc | apply pw_below_drewN | apply below_drew1) | exact HB.out)⟩
                · rw [if_neg c16] at H
                  have c16b0 : (t137 == 1) = false := beq_eq_false_iff_ne.mpr c16
                  have c16b1 : (t137 != 1) = true := bne_iff_ne.mpr c16
                  obtain rfl := Option.some.inj H
                  go_wp2_with (first | (go_at_call 19; (with_reducible refine (obolref13_Root.calls kj3 a0 t136 _ A13.out).mono ?_); rintro e w' ⟨rfl, ⟨nd, rfl⟩⟩) | (go_at_call 20; (with_reducible refine (obolref01_Pow.calls kj3 288230376287764481 t132 ji11 t137 _ A15.out).mono ?_); rintro e w' ⟨rfl, ⟨nd, rfl⟩⟩))
                  go_ret
                  exact ⟨by first | rfl | (simp [errW_none, errW_some] <;> rfl) | (simp only [← hji11]; first | rfl | (simp [errW_none, errW_some] <;> rfl)) | (simp [*, errW_none, errW_some] <;> rfl), by repeat (first | (with_reducible first | exact HB.out | apply below_alloc | apply pw_below_drewN | apply below_drew1) | exact HB.out)⟩
              · rw [if_neg c14] at H
                have c14b0 : (t132 == t136) = false := beq_eq_false_iff_ne.mpr c14
                have c14b1 : (t132 != t136) = true := bne_iff_ne.mpr c14
                obtain rfl := Option.some.inj H
                go_wp2_with (first | (go_at_call 19; (with_reducible refine (obolref13_Root.calls kj3 a0 t136 _ A13.out).mono ?_); rintro e w' ⟨rfl, ⟨nd, rfl⟩⟩))
                go_ret
                exact ⟨by first | rfl | (simp [errW_none, errW_some] <;> rfl) | (simp only [← hji11]; first | rfl | (simp [errW_none, errW_some] <;> rfl)) | (simp [*, errW_none, errW_some] <;> rfl), by repeat (first | (with_reducible first | exact HB.out | apply below_alloc | apply pw_below_drewN | apply below_drew1) | exact HB.out)⟩
            · have H1 : (some false) = some r := by rw [if_neg (show ¬ (some q135).isNone = true by simp)] at H; exact H
              clear H
              have H := H1
              clear H1
              try simp only [errW_none, errW_some]
              obtain rfl := Option.some.inj H
              go_wp2
              go_ret
              exact ⟨by first | rfl | (simp [errW_none, errW_some] <;> rfl) | (simp only [← hji11]; first | rfl | (simp [errW_none, errW_some] <;> rfl)) | (simp [*, errW_none, errW_some] <;> rfl), by repeat (first | (with_reducible first | exact HB.out | apply below_alloc | apply pw_below_drewN | apply below_drew1) | exact HB.out)⟩
          · replace c12 := Bool.eq_false_iff.mpr c12
            subst c12
            have H1 : (some false) = some r := by rw [if_neg (show ¬ (false = true) by decide)] at H; exact H
            clear H
            have H := H1
            clear H1
            obtain rfl := Option.some.inj H
            go_wp2
            go_ret
            exact ⟨by first | rfl | (simp [errW_none, errW_some] <;> rfl) | (simp only [← hji11]; first | rfl | (simp [errW_none, errW_some] <;> rfl)) | (simp [*, errW_none, errW_some] <;> rfl), by repeat (first | (with_reducible first | exact HB.out | apply below_alloc | apply pw_below_drewN | apply below_drew1) | exact HB.out)⟩
        · rw [if_neg c10] at H
          exact absurd H (by simp)

/-- THE ONE PURE STATEMENT of obollaw13_PolyRoots: yours. -/
def obollaw13_PolyRoots.Pure : Prop := ∀ (a0 : Int), (Lit.int .i64 a0).wf = true → ∃ k, obollaw13_PolyRoots.f k a0 = some true
theorem obollaw13_PolyRoots.walk (P : obollaw13_PolyRoots.Pure) (a0 : Int) (w : World) (w0 : (Lit.int .i64 a0).wf = true) :
    Calls Try.prog 4 #[.int .i64 a0] w fun e w' => e = .returned (.bool true) ∧ Below w.heap.size w w' := by
  obtain ⟨k, h⟩ := P a0 w0
  refine (obollaw13_PolyRoots.calls k a0 true w h).mono ?_
  rintro e w' ⟨rfl, hd⟩
  exact ⟨rfl, hd⟩

end Go.Proofs.Ytempibbfdojfiaa.PPolyRoots
