-- printed by a program of this session (wip/tools/mkprint.py)
import Derived.Test.YtempibbfdojfiacPPolyBackx0
import Derived.Test.YtempibbfdojfiacPPolyBackx2
import Derived.Test.YtempibbfdojfiacPPolyBackx3
namespace Go.Proofs.Ytempibbfdojfiac.PPolyBack
open Go.RowKit Go.Proofs.YtempibbfdojfiacW.PrintWords Go.Proofs.YtempibbfdojfiacW.PrintLast Go.Proofs.YtempibbfdojfiacW.PrintMore
attribute [local go_sem] max2_int min2_int max_two min_two max_three min_three max_four min_four   -- for this text's walks alone
set_option linter.unusedVariables false
set_option linter.unusedSimpArgs false

attribute [local go_sem high] errCmp_eql errCmp_neq errCmpL_eql errCmpL_neq
/-! ### poly_Inverse: function 15 -/
mutual
def poly_Inverse.j0 : Nat → List Int → Int → Int → Bool → Option (List Int × Option Int)
  | 0, _, _, _, _ => none
  | k + 1, x0, x1, x6, x24 => if x24 = true then (some (([] : List Int), some 1)) else ((modular_Pow.f k 288230376287764481 x6 288230376287764479).bind fun t163 => ((poly_turn.f k x0 t163).bind fun t164 => (if 0 ≤ x1 then ((modular_Pow.f k 288230376287764481 (shl .u64 1 x1) 288230376287764479).bind fun t167 => (poly_Inverse.l0 k t164 t167 (t164.length : Int) 0)) else (none))))
def poly_Inverse.l0 : Nat → List Int → Int → Int → Int → Option (List Int × Option Int)
  | 0, _, _, _, _ => none
  | k + 1, x8, x9, x34, x35 => if x35 < x34 then (if 0 ≤ x35 then (if x35 < (x8.length : Int) then ((poly_mul.f k (rd x8 x35) x9).bind fun t169 => (poly_Inverse.l0 k (x8.set (x35 : Int).toNat t169) x9 x34 (wrap64 (x35 + 1)))) else (none)) else (none)) else (some (x8, none))
end
def poly_Inverse.f (k : Nat) (l0 : List Int) (a1 : Int) : Option (List Int × Option Int) := (poly_Root.f k a1).bind fun bt160 => (if bt160.2.isNone = true then (if 0 ≤ a1 then (poly_Inverse.j0 k l0 a1 bt160.1 ((l0.length : Int) != (shl .i64 1 a1))) else (none)) else (poly_Inverse.j0 k l0 a1 bt160.1 true))
theorem poly_Inverse.mono_l : ∀ k, (∀ y0 y1 y2 y3, LeO (poly_Inverse.j0 k y0 y1 y2 y3) (poly_Inverse.j0 (k + 1) y0 y1 y2 y3)) ∧ (∀ y0 y1 y2 y3, LeO (poly_Inverse.l0 k y0 y1 y2 y3) (poly_Inverse.l0 (k + 1) y0 y1 y2 y3))
  | 0 => ⟨fun _ _ _ _ r h => by simp [poly_Inverse.j0] at h, fun _ _ _ _ r h => by simp [poly_Inverse.l0] at h⟩
  | k + 1 => by
    obtain ⟨ih0, ih1⟩ := poly_Inverse.mono_l k
    refine ⟨?_, ?_⟩
    · intro y0 y1 y2 y3
      unfold poly_Inverse.j0
      repeat' first
      | (with_reducible exact ih0 _ _ _ _)
      | (with_reducible exact ih1 _ _ _ _)
      | (with_reducible exact modular_Pow.mono _ _ _ _)
      | (with_reducible exact poly_Root.mono _ _)
      | (with_reducible exact poly_mul.mono _ _ _)
      | (with_reducible exact poly_turn.mono _ _ _)
      | (with_reducible exact LeO.refl _)
      | (with_reducible exact LeO.none _)
      | (with_reducible refine LeO.ite ?_ ?_)
      | (with_reducible refine LeO.bind ?_ (fun _ => ?_))
      | exact ih0 _ _ _ _
      | exact ih1 _ _ _ _
      | exact modular_Pow.mono _ _ _ _
      | exact poly_Root.mono _ _
      | exact poly_mul.mono _ _ _
      | exact poly_turn.mono _ _ _
      | exact LeO.none _
      | refine LeO.ite ?_ ?_
      | refine LeO.bind ?_ (fun _ => ?_)
    · intro y0 y1 y2 y3
      unfold poly_Inverse.l0
      repeat' first
      | (with_reducible exact ih0 _ _ _ _)
      | (with_reducible exact ih1 _ _ _ _)
      | (with_reducible exact modular_Pow.mono _ _ _ _)
      | (with_reducible exact poly_Root.mono _ _)
      | (with_reducible exact poly_mul.mono _ _ _)
      | (with_reducible exact poly_turn.mono _ _ _)
      | (with_reducible exact LeO.refl _)
      | (with_reducible exact LeO.none _)
      | (with_reducible refine LeO.ite ?_ ?_)
      | (with_reducible refine LeO.bind ?_ (fun _ => ?_))
      | exact ih0 _ _ _ _
      | exact ih1 _ _ _ _
      | exact modular_Pow.mono _ _ _ _
      | exact poly_Root.mono _ _
      | exact poly_mul.mono _ _ _
      | exact poly_turn.mono _ _ _
      | exact LeO.none _
      | refine LeO.ite ?_ ?_
      | refine LeO.bind ?_ (fun _ => ?_)
theorem poly_Inverse.mono : ∀ a0 a1 k, LeO (poly_Inverse.f k a0 a1) (poly_Inverse.f (k + 1) a0 a1) := by
  intro a0 a1 k
  obtain ⟨ih0, ih1⟩ := poly_Inverse.mono_l k
  unfold poly_Inverse.f
  repeat' first
      | (with_reducible exact ih0 _ _ _ _)
      | (with_reducible exact ih1 _ _ _ _)
      | (with_reducible exact modular_Pow.mono _ _ _ _)
      | (with_reducible exact poly_Root.mono _ _)
      | (with_reducible exact poly_mul.mono _ _ _)
      | (with_reducible exact poly_turn.mono _ _ _)
      | (with_reducible exact LeO.refl _)
      | (with_reducible exact LeO.none _)
      | (with_reducible refine LeO.ite ?_ ?_)
      | (with_reducible refine LeO.bind ?_ (fun _ => ?_))
      | exact ih0 _ _ _ _
      | exact ih1 _ _ _ _
      | exact modular_Pow.mono _ _ _ _
      | exact poly_Root.mono _ _
      | exact poly_mul.mono _ _ _
      | exact poly_turn.mono _ _ _
      | exact LeO.none _
      | refine LeO.ite ?_ ?_
      | refine LeO.bind ?_ (fun _ => ?_)
set_option maxHeartbeats 8000000 in
set_option maxRecDepth 100000 in
theorem poly_Inverse.calls (k : Nat) (A0 : Option Addr) (c0 : Nat) (l0 : List Int) (a1 : Int) (r1 : List Int) (r2 : Option Int) (w : World) (hr0 : Kd.C (Kd.int .u64) w A0 l0.length l0) (hc0 : l0.length ≤ c0) (h : poly_Inverse.f k l0 a1 = some (r1, r2)) :
    Calls Try.prog 15 #[.slice A0 l0.length c0, .int .i64 a1] w fun e w' => ∃ v0_ : Value, e = .returned (.tuple #[v0_, errW r2]) ∧ Kd.R (Kd.int .u64) 30 w' w.heap.size (fun _ => True) v0_ r1 ∧ Below w.heap.size w w' := by
  have hu25 := Try.underlying25
  have hu28 := Try.underlying28
  have HR0 := Aside0.mk hr0
  have HC0 := Aside0.mk hc0
  clear hr0 hc0
  have HB := Aside0.mk (Below.refl w.heap.size w)
  have H : ((poly_Root.f k a1).bind fun bt160 => (if bt160.2.isNone = true then (if 0 ≤ a1 then (poly_Inverse.j0 k l0 a1 bt160.1 ((l0.length : Int) != (shl .i64 1 a1))) else (none)) else (poly_Inverse.j0 k l0 a1 bt160.1 true))) = some (r1, r2) := h
  clear h
  replace H := Option.bind_eq_some_iff.mp H
  obtain ⟨⟨t160, t161⟩, A30, H⟩ := H
  replace H : (if t161.isNone = true then (if 0 ≤ a1 then (poly_Inverse.j0 k l0 a1 t160 ((l0.length : Int) != (shl .i64 1 a1))) else (none)) else (poly_Inverse.j0 k l0 a1 t160 true)) = some (r1, r2) := H
  have A3 := Aside0.mk A30
  clear A30
  have HC4 := Aside0.mk H
  clear H
  go_enter Try.func15, Try.ntmps15
  go_upto_region 2 with (first | ((with_reducible refine gate_callee (f := 46) rfl ?_); refine goesL_ (some 13) rfl rfl Try.func46 (by kernel_rfl) rfl #[.int .i64 a1] rfl (by (try simp only [List.map_toArray, List.map_cons, List.map_nil]); first | done | rfl | (simp only [List.length_drop, List.length_take]; rfl)) ?_; (with_reducible refine (poly_Root.calls k a1 t160 t161 _ A3.out).mono ?_); rintro e w' ⟨rfl, ⟨nd, rfl⟩⟩; refine ⟨_, rfl, ?_⟩; (try simp only [errW_none, errW_some])))
  (try simp only [Act.put, List.setIfInBounds_toArray, List.set_cons_zero, List.set_cons_succ])
  go_cut [24] (fun v24 wc => ∃ (kq : Nat) (x24_3 : Bool), v24 = .bool x24_3 ∧ Aside0 (poly_Inverse.j0 kq l0 a1 t160 x24_3 = some (r1, r2)) ∧ Aside0 (kq ≤ k) ∧ Aside0 (Below w.heap.size w wc))
  case first =>
    have H := HC4.out
    clear HC4
    rcases t161 with _ | q162
    · have H1 : (if 0 ≤ a1 then (poly_Inverse.j0 k l0 a1 t160 ((l0.length : Int) != (shl .i64 1 a1))) else (none)) = some (r1, r2) := by rw [if_pos (show (none : Option Int).isNone = true by rfl)] at H; exact H
      clear H
      have H := H1
      clear H1
      try simp only [errW_none, errW_some]
      by_cases c5 : 0 ≤ a1
      · rw [if_pos c5] at H
        have c5b0 := eq_true c5
        have c5b1 : decide (0 ≤ a1) = true := decide_eq_true c5
        clear c5
        obtain ⟨ji6, hji6⟩ : ∃ j_ : Int, (shl .i64 1 a1) = j_ := ⟨_, rfl⟩
        replace H : (poly_Inverse.j0 k l0 a1 t160 ((l0.length : Int) != (ji6))) = some (r1, r2) := by first | (rw [hji6] at H; exact H) | (simp only [hji6] at H ⊢; exact H)
        have hji6_ : (IntKind.i64.wrap (1 * 2 ^ min a1.toNat 64)) = ji6 := hji6
        have hji6z : a1 ≤ 64 → (IntKind.i64.wrap (1 * 2 ^ a1.toNat)) = ji6 := shl_small hji6
        have hji6u : (IntKind.i64.wrap (2 ^ min a1.toNat 64)) = ji6 := by have h_ := hji6_; rw [Int.one_mul] at h_; exact h_
        have hji6v : a1 ≤ 64 → (IntKind.i64.wrap (2 ^ a1.toNat)) = ji6 := fun hle_ => by have h_ := hji6z hle_; rw [Int.one_mul] at h_; exact h_
        have hji6y : (wrap64 (1 * 2 ^ min a1.toNat 64)) = ji6 := (i64_w _).symm.trans hji6_
        have hji6x : a1 ≤ 64 → (wrap64 (1 * 2 ^ a1.toNat)) = ji6 := fun h_ => (i64_w _).symm.trans (hji6z h_)
        have H' := Aside0.mk H
        clear H
        go_wp2
        go_meet
        case rel => exact ⟨_, (((l0.length : Int) != (ji6))), (by first | rfl | (simp; done) | (simp only [← hji6] <;> (first | rfl | simp)) | (simp [*]; done)), H', ⟨by first | omega | exact Nat.le_refl _⟩, ⟨by repeat (first | (with_reducible first | exact HB.out | apply below_alloc | apply pw_below_drewN | apply below_drew1) | exact HB.out)⟩⟩
      · rw [if_neg c5] at H
        exact absurd H (by simp)
    · have H1 : (poly_Inverse.j0 k l0 a1 t160 true) = some (r1, r2) := by rw [if_neg (show ¬ (some q162).isNone = true by simp)] at H; exact H
      clear H
      have H := H1
      clear H1
      try simp only [errW_none, errW_some]
      have H' := Aside0.mk H
      clear H
      go_wp2
      go_meet
      case rel => exact ⟨_, (true), (by first | rfl | (simp; done) | (simp [*]; done)), H', ⟨by first | omega | exact Nat.le_refl _⟩, ⟨by repeat (first | (with_reducible first | exact HB.out | apply below_alloc | apply pw_below_drewN | apply below_drew1) | exact HB.out)⟩⟩
  case rest =>
    clear HC4
    try clear c1
    try clear q1
    try clear p2
    try clear c4
    try clear c5
    try clear c5b0
    try clear c5b1
    try clear p6
    try clear q162
    obtain ⟨kq, x24_3, rfl, HA, HJ3, HB⟩ := hcut
    cases kq with
    | zero => exact absurd HA.out (by simp [poly_Inverse.j0])
    | succ kj3 =>
      have H := HA.out
      clear HA
      simp only [poly_Inverse.j0] at H
      by_cases c7 : x24_3 = true
      · subst c7
        have H1 : (some (([] : List Int), some 1)) = some (r1, r2) := by rw [if_pos rfl] at H; exact H
        clear H
        have H := H1
        clear H1
        simp only [Option.some.injEq, Prod.mk.injEq] at H
        obtain ⟨rfl, rfl⟩ := H
        go_wp2
        go_ret2
        exact ⟨_, by first | rfl | (simp [errW_none, errW_some] <;> rfl) | (simp [*, errW_none, errW_some] <;> rfl), by first | exact Kd.R_nil _ _ _ _ _ | exact Kd.N_nil _ _ _ _ _ | exact Kd.V_nil _ _ _ _ _ | exact Kd.Q_nil _ _ _ _ _ | exact Kd.S_nil _ _ _ _ _, by repeat (first | (with_reducible first | exact HB.out | apply below_alloc | apply pw_below_drewN | apply below_drew1) | exact HB.out)⟩
      · replace c7 := Bool.eq_false_iff.mpr c7
        subst c7
        have H1 : ((modular_Pow.f kj3 288230376287764481 t160 288230376287764479).bind fun t163 => ((poly_turn.f kj3 l0 t163).bind fun t164 => (if 0 ≤ a1 then ((modular_Pow.f kj3 288230376287764481 (shl .u64 1 a1) 288230376287764479).bind fun t167 => (poly_Inverse.l0 kj3 t164 t167 (t164.length : Int) 0)) else (none)))) = some (r1, r2) := by rw [if_neg (show ¬ (false = true) by decide)] at H; exact H
        clear H
        have H := H1
        clear H1
        replace H := Option.bind_eq_some_iff.mp H
        obtain ⟨t163, A80, H⟩ := H
        replace H : ((poly_turn.f kj3 l0 t163).bind fun t164 => (if 0 ≤ a1 then ((modular_Pow.f kj3 288230376287764481 (shl .u64 1 a1) 288230376287764479).bind fun t167 => (poly_Inverse.l0 kj3 t164 t167 (t164.length : Int) 0)) else (none))) = some (r1, r2) := H
        have A8 := Aside0.mk A80
        clear A80
        replace H := Option.bind_eq_some_iff.mp H
        obtain ⟨t164, A90, H⟩ := H
        replace H : (if 0 ≤ a1 then ((modular_Pow.f kj3 288230376287764481 (shl .u64 1 a1) 288230376287764479).bind fun t167 => (poly_Inverse.l0 kj3 t164 t167 (t164.length : Int) 0)) else (none)) = some (r1, r2) := H
        have A9 := Aside0.mk A90
        clear A90
        by_cases c10 : 0 ≤ a1
        · rw [if_pos c10] at H
          have c10b0 := eq_true c10
          have c10b1 : decide (0 ≤ a1) = true := decide_eq_true c10
          clear c10
          obtain ⟨ji11, hji11⟩ : ∃ j_ : Int, (shl .u64 1 a1) = j_ := ⟨_, rfl⟩
          replace H : ((modular_Pow.f kj3 288230376287764481 (ji11) 288230376287764479).bind fun t167 => (poly_Inverse.l0 kj3 t164 t167 (t164.length : Int) 0)) = some (r1, r2) := by first | (rw [hji11] at H; exact H) | (simp only [hji11] at H ⊢; exact H)
          (try rw [hji11] at A8)
          (try rw [hji11] at A9)
          have hji11_ : (IntKind.u64.wrap (1 * 2 ^ min a1.toNat 64)) = ji11 := hji11
          have hji11z : a1 ≤ 64 → (IntKind.u64.wrap (1 * 2 ^ a1.toNat)) = ji11 := shl_small hji11
          have hji11n : 0 ≤ ji11 := by rw [← hji11]; exact (shl_u64_range _ _).1
          have hji11m : ji11 ≤ 18446744073709551615 := by rw [← hji11]; exact (shl_u64_range _ _).2
          have hji11u : (IntKind.u64.wrap (2 ^ min a1.toNat 64)) = ji11 := by have h_ := hji11_; rw [Int.one_mul] at h_; exact h_
          have hji11v : a1 ≤ 64 → (IntKind.u64.wrap (2 ^ a1.toNat)) = ji11 := fun hle_ => by have h_ := hji11z hle_; rw [Int.one_mul] at h_; exact h_
          replace H := Option.bind_eq_some_iff.mp H
          obtain ⟨t167, A120, H⟩ := H
          replace H : (poly_Inverse.l0 kj3 t164 t167 (t164.length : Int) 0) = some (r1, r2) := H
          have A12 := Aside0.mk A120
          clear A120
          have H' := Aside0.mk H
          clear H
          go_wp2_with (first | ((with_reducible refine gate_callee (f := 49) rfl ?_); refine goesL_ (some 28) rfl rfl Try.func49 (by kernel_rfl) rfl #[.int .u64 288230376287764481, .int .u64 t160, .int .u64 288230376287764479] rfl (by (try simp only [List.map_toArray, List.map_cons, List.map_nil]); first | done | rfl | (simp only [List.length_drop, List.length_take]; rfl)) ?_; (with_reducible refine (modular_Pow.calls kj3 288230376287764481 t160 288230376287764479 t163 _ A8.out).mono ?_); rintro e w' ⟨rfl, ⟨nd, rfl⟩⟩; refine ⟨_, rfl, ?_⟩) | ((with_reducible refine gate_callee (f := 48) rfl ?_); refine goesL_ (some 29) rfl rfl Try.func48 (by kernel_rfl) rfl #[.slice A0 l0.length c0, .int .u64 t163] rfl (by (try simp only [List.map_toArray, List.map_cons, List.map_nil]); first | done | rfl | (simp only [List.length_drop, List.length_take]; rfl)) ?_; (with_reducible refine (poly_turn.calls kj3 _ _ l0 t163 t164 _ ?side1 ?side2 A9.out).mono ?_); (case side1 => repeat (first | exact (Kd.C_below HR0.out (by repeat (first | (with_reducible first | exact HB.out | apply below_alloc | apply pw_below_drewN | apply below_drew1) | exact HB.out))) | (with_reducible refine Kd.C_alloc ?_ _) | (with_reducible refine Kd.C_drewN ?_ _) | (with_reducible refine Kd.C_drew ?_))); (case side2 => exact HC0.out); rintro e w13 ⟨v165, rfl, ho0, hb⟩; refine ⟨_, rfl, ?_⟩; have n0_ := Aside0.mk (Kd.R_lower ho0 (below_size (by repeat (first | (with_reducible first | exact HB.out | apply below_alloc | apply pw_below_drewN | apply below_drew1) | exact HB.out)))); have n1_ := Aside0.mk (below_step (by repeat (first | (with_reducible first | exact HB.out | apply below_alloc | apply pw_below_drewN | apply below_drew1) | exact HB.out)) hb); clear HB; have HO166 := n0_; have HB := n1_; clear n0_ n1_; (try clear hb); (try clear hb2); (try clear hk); (try clear hi); (try clear ho0)) | ((with_reducible refine gate_callee (f := 49) rfl ?_); refine goesL_ (some 32) rfl rfl Try.func49 (by kernel_rfl) rfl #[.int .u64 288230376287764481, .int .u64 ji11, .int .u64 288230376287764479] rfl (by (try simp only [List.map_toArray, List.map_cons, List.map_nil]); first | done | (simp only [hji11]; rfl) | rfl | (simp only [List.length_drop, List.length_take]; rfl)) ?_; (with_reducible refine (modular_Pow.calls kj3 288230376287764481 ji11 288230376287764479 t167 _ A12.out).mono ?_); rintro e w' ⟨rfl, ⟨nd, rfl⟩⟩; refine ⟨_, rfl, ?_⟩; obtain ⟨Ao14, co14, eo14⟩ := Kd.R_slice HO166.out; subst eo14))
          go_loopg [35] kj3 (fun kq v35 w' => ∃ (x8_2 : List Int) (x35_2 : Int), v35 = .int .i64 x35_2 ∧ Aside0 (poly_Inverse.l0 kq x8_2 t167 (t164.length : Int) x35_2 = some (r1, r2)) ∧ Aside0 (kq ≤ kj3) ∧ Aside0 (Kd.R (Kd.int .u64) 30 w' w.heap.size (fun _ => True) (.slice Ao14 t164.length co14) x8_2) ∧ Aside0 (Below w.heap.size w w'))
          case atStart => exact ⟨(t164), (0), (by first | rfl | (simp; done) | (simp [*]; done)), H', ⟨Nat.le_refl _⟩, ⟨by (with_reducible repeat (first | apply Kd.R_alloc | apply Kd.R_drewN | apply Kd.R_drew)); exact HO166.out⟩, ⟨by repeat (first | (with_reducible first | exact HB.out | apply below_alloc | apply pw_below_drewN | apply below_drew1) | exact HB.out)⟩⟩
          case round =>
            clear H'
            try clear c1
            try clear q1
            try clear p2
            try clear c4
            try clear c5
            try clear c5b0
            try clear c5b1
            try clear p6
            try clear c7
            try clear c10
            try clear c10b0
            try clear c10b1
            try clear p2
            try clear p6
            try clear q1
            try clear q162
            obtain ⟨x8_2, x35_2, rfl, HA, HK2, HO_8, HB⟩ := hrel
            have hl8_2 := (Kd.R_reads' HO_8.out).1
            rw [hl8_2] at HO_8
            (try simp only [hl8_2])
            cases gk with
            | zero => exact absurd HA.out (by simp [poly_Inverse.l0])
            | succ k2 =>
              have H := HA.out
              clear HA
              simp only [poly_Inverse.l0] at H
              by_cases c15 : x35_2 < (t164.length : Int)
              · rw [if_pos c15] at H
                have c15b0 : decide (x35_2 < (t164.length : Int)) = true := decide_eq_true c15
                (try (have c15Lhl8_2 := c15b0; simp only [hl8_2] at c15Lhl8_2))
                clear c15
                by_cases c16 : 0 ≤ x35_2
                · rw [if_pos c16] at H
                  have c16b0 : decide (0 ≤ x35_2) = true := decide_eq_true c16
                  (try (have c16Lhl8_2 := c16b0; simp only [hl8_2] at c16Lhl8_2))
                  clear c16
                  by_cases c17 : x35_2 < (x8_2.length : Int)
                  · rw [if_pos c17] at H
                    have c17b0 : decide (x35_2 < (x8_2.length : Int)) = true := decide_eq_true c17
                    (try (have c17Lhl8_2 := c17b0; simp only [hl8_2] at c17Lhl8_2))
                    clear c17
                    replace H := Option.bind_eq_some_iff.mp H
                    obtain ⟨t169, A180, H⟩ := H
                    replace H : (poly_Inverse.l0 k2 (x8_2.set (x35_2 : Int).toNat t169) t167 (t164.length : Int) (wrap64 (x35_2 + 1))) = some (r1, r2) := H
                    have A18 := Aside0.mk A180
                    clear A180
                    obtain ⟨y170, hy170⟩ : ∃ y_ : List Int, y_ = (x8_2.set (x35_2 : Int).toNat t169) := ⟨_, rfl⟩
                    replace H : (poly_Inverse.l0 k2 y170 t167 (t164.length : Int) (wrap64 (x35_2 + 1))) = some (r1, r2) := by first | (rw [hy170]; with_reducible exact H) | (have H2_ := (Option.bind_some _ _).symm.trans H; rw [hy170]; with_reducible exact H2_) | (have H2_ := (Option.bind_some _ _).symm.trans H; with_reducible exact H2_) | with_reducible exact H | (rw [hy170]; exact H) | exact H
                    have Ny170 := Aside0.mk hy170
                    clear hy170
                    have H' := Aside0.mk H
                    clear H
                    have p168 : 0 ≤ (x35_2 : Int) := of_decide_eq_true (by first | (with_reducible assumption) | assumption)
                    have q168 : x35_2 < (x8_2.length : Int) := of_decide_eq_true (by first | (with_reducible assumption) | assumption)
                    obtain ⟨ad168, e168, hx168_0⟩ := Kd.at_int (Kd.R_reads' HO_8.out).2.2 x35_2 p168 q168
                    cases e168
                    replace p168 := eq_true p168
                    replace q168 := eq_true q168
                    go_wp2_with (first | ((with_reducible refine gate_callee (f := 50) rfl ?_); refine goesL_ (some 45) rfl rfl Try.func50 (by kernel_rfl) rfl #[.int .u64 (rd x8_2 x35_2), .int .u64 t167] rfl (by (try simp only [List.map_toArray, List.map_cons, List.map_nil]); first | done | rfl | (simp only [List.length_drop, List.length_take]; rfl)) ?_; (with_reducible refine (poly_mul.calls k2 (rd x8_2 x35_2) t167 t169 _ A18.out).mono ?_); rintro e w' ⟨rfl, ⟨nd, rfl⟩⟩; refine ⟨_, rfl, ?_⟩; (try (rw [drewN_self wr]; generalize hq_ : World.drewN wr _ = wr; have n0_ : Aside0 (Kd.R (Kd.int .u64) 30 wr w.heap.size (fun _ => True) (.slice (some ad168) x8_2.length co14) x8_2) := ⟨by rw [← hq_]; exact (by (with_reducible repeat (first | apply Kd.R_alloc | apply Kd.R_drewN | apply Kd.R_drew)); exact HO_8.out)⟩; have n1_ : Aside0 (Below w.heap.size w wr) := ⟨by rw [← hq_]; exact (by repeat (first | (with_reducible first | exact HB.out | apply below_alloc | apply pw_below_drewN | apply below_drew1) | exact HB.out))⟩; clear HO_8 HB hq_; have HO_8 := n0_; have HB := n1_; clear n0_ n1_)); have p19 : 0 ≤ (x35_2 : Int) := of_decide_eq_true (by first | (with_reducible assumption) | assumption); have q19 : (x35_2 : Int) < ((x8_2.length : Int) : Int) := of_decide_eq_true (by first | (with_reducible assumption) | assumption); obtain ⟨go19, co19, eo19, gb19, gl19, cl19, HG19⟩ := Kd.R_form HO_8.out (by omega); (first | cases eo19 | (injection eo19 with ea_ en_ ec_; (first | subst ea_ | (injection ea_ with ea_; subst ea_)); subst ec_; clear en_)); have GB19 := Aside0.mk gb19; have GG19 := Aside0.mk HG19; clear gb19 gl19 HG19; (first | simp only [add_plain] at hx168_0 | skip); obtain ⟨hx19_0, hf19_0⟩ := Kd.R_celln 0 HO_8.out (x35_2 : Int) p19 q19; replace p19 := eq_true p19; replace q19 := eq_true q19; obtain ⟨hy20_, hz20_⟩ := Kd.R_celln 0 HO_8.out (x35_2 : Int) (of_decide_eq_true (by first | (with_reducible assumption) | assumption)) (of_decide_eq_true (by first | (with_reducible assumption) | assumption)); have HP20 := Kd.R_putg HO_8.out (x35_2 : Int) t169) | ((with_reducible refine gate_store (t := 30) (p := 46) rfl ?_); (try (rw [drewN_self wr]; generalize hq_ : World.drewN wr _ = wr; have n0_ := Aside0.mk (Kd.R_at hq_ HO_8.out); have n1_ := Aside0.mk (below_at hq_ HB.out); clear hq_ HO_8 HB; have HO_8 := n0_; have HB := n1_; clear n0_ n1_; (try (obtain ⟨hy20_, hz20_⟩ := Kd.R_celln 0 HO_8.out (x35_2 : Int) (of_decide_eq_true (by first | (with_reducible assumption) | assumption)) (of_decide_eq_true (by first | (with_reducible assumption) | assumption)))); (try (have HP20 := Kd.R_putg HO_8.out (x35_2 : Int) t169)))); refine store_event (t := 30) (p := 46) (v := ?vo_w21) (w1 := (wr.setCell ⟨go19, (x35_2 : Int).toNat, none⟩ (.int .u64 t169))) ?hg ?ho ?hn ?hr ?_; (case ho => rfl); (case hg => rfl); (case hn => rfl); (case hr => first | (go_simp; done) | (go_simp; rfl)); intro w21 hw; have hg : wr.grownBy w21 (some go19) := (by rw [hw]; exact HP20.2); have hp_ : Kd.R (Kd.int .u64) 30 w21 w.heap.size (fun _ => True) (.slice (some ⟨go19, 0, none⟩) x8_2.length co14) y170 := (by rw [hw, Ny170.out]; exact HP20.1); clear HP20; have n0_ := Aside0.mk (hp_); have n1_ := Aside0.mk ((by rw [hw]; exact below_set (HB.out) GB19.out : Below w.heap.size w w21)); clear HO_8; clear HB; have HO_8 := n0_; have HB := n1_; clear n0_ n1_; clear hg hw hp_))
                    (try simp only [← hl8_2])
                    go_roundg k2
                    case measure => have := HJ3.out; have := HK2.out; omega
                    case rel => exact ⟨(y170), (wrap64 (x35_2 + 1)), (by first | rfl | (simp; done) | (simp [*]; done)), H', ⟨by have := HJ3.out; have := HK2.out; omega⟩, ⟨by (try simp only [hl8_2]); (with_reducible repeat (first | apply Kd.R_alloc | apply Kd.R_drewN | apply Kd.R_drew)); exact HO_8.out⟩, ⟨by repeat (first | (with_reducible first | exact HB.out | apply below_alloc | apply pw_below_drewN | apply below_drew1) | exact HB.out)⟩⟩
                  · rw [if_neg c17] at H
                    exact absurd H (by simp)
                · rw [if_neg c16] at H
                  exact absurd H (by simp)
              · rw [if_neg c15] at H
                have c15b0 : decide (x35_2 < (t164.length : Int)) = false := decide_eq_false c15
                (try (have c15Lhl8_2 := c15b0; simp only [hl8_2] at c15Lhl8_2))
                clear c15
                simp only [Option.some.injEq, Prod.mk.injEq] at H
                obtain ⟨rfl, rfl⟩ := H
                go_wp2
                go_ret2
                exact ⟨_, by first | rfl | (simp [errW_none, errW_some] <;> rfl) | (simp only [← hji11]; first | rfl | (simp [errW_none, errW_some] <;> rfl)) | (simp [*, errW_none, errW_some] <;> rfl), by (with_reducible repeat (first | apply Kd.R_alloc | apply Kd.R_drewN | apply Kd.R_drew)); exact HO_8.out, by repeat (first | (with_reducible first | exact HB.out | apply below_alloc | apply pw_below_drewN | apply below_drew1) | exact HB.out)⟩
        · rw [if_neg c10] at H
          exact absurd H (by simp)

/-! ### poly_Forward: function 32 -/
def poly_Forward.f (k : Nat) (l0 : List Int) (a1 : Int) : Option (List Int × Option Int) := (poly_Root.f k a1).bind fun bt171 => (if bt171.2.isNone = true then (if 0 ≤ a1 then (if (l0.length : Int) > (shl .i64 1 a1) then (some (([] : List Int), some 1)) else (if 0 ≤ (shl .i64 1 a1) then (if (shl .i64 1 a1 : Int).toNat ≤ 35184372088832 then ((poly_turn.f k (cpy (List.replicate (shl .i64 1 a1 : Int).toNat 0) l0) bt171.1).bind fun t178 => (some (t178, none))) else (none)) else (none))) else (none)) else (some (([] : List Int), some 1)))
theorem poly_Forward.mono : ∀ a0 a1 k, LeO (poly_Forward.f k a0 a1) (poly_Forward.f (k + 1) a0 a1) := by
  intro a0 a1 k
  unfold poly_Forward.f
  repeat' first
      | (with_reducible exact poly_Root.mono _ _)
      | (with_reducible exact poly_turn.mono _ _ _)
      | (with_reducible exact LeO.refl _)
      | (with_reducible exact LeO.none _)
      | (with_reducible refine LeO.ite ?_ ?_)
      | (with_reducible refine LeO.bind ?_ (fun _ => ?_))
      | exact poly_Root.mono _ _
      | exact poly_turn.mono _ _ _
      | exact LeO.none _
      | refine LeO.ite ?_ ?_
      | refine LeO.bind ?_ (fun _ => ?_)
set_option maxHeartbeats 8000000 in
set_option maxRecDepth 100000 in
theorem poly_Forward.calls (k : Nat) (A0 : Option Addr) (c0 : Nat) (l0 : List Int) (a1 : Int) (r1 : List Int) (r2 : Option Int) (w : World) (hr0 : Kd.C (Kd.int .u64) w A0 l0.length l0) (hc0 : l0.length ≤ c0) (h : poly_Forward.f k l0 a1 = some (r1, r2)) :
    Calls Try.prog 32 #[.slice A0 l0.length c0, .int .i64 a1] w fun e w' => ∃ v0_ : Value, e = .returned (.tuple #[v0_, errW r2]) ∧ Kd.R (Kd.int .u64) 30 w' w.heap.size (fun _ => True) v0_ r1 ∧ Below w.heap.size w w' := by
  have hu25 := Try.underlying25
  have hu28 := Try.underlying28
  have HR0 := Aside0.mk hr0
  have HC0 := Aside0.mk hc0
  clear hr0 hc0
  have HB := Aside0.mk (Below.refl w.heap.size w)
  have H : ((poly_Root.f k a1).bind fun bt171 => (if bt171.2.isNone = true then (if 0 ≤ a1 then (if (l0.length : Int) > (shl .i64 1 a1) then (some (([] : List Int), some 1)) else (if 0 ≤ (shl .i64 1 a1) then (if (shl .i64 1 a1 : Int).toNat ≤ 35184372088832 then ((poly_turn.f k (cpy (List.replicate (shl .i64 1 a1 : Int).toNat 0) l0) bt171.1).bind fun t178 => (some (t178, none))) else (none)) else (none))) else (none)) else (some (([] : List Int), some 1)))) = some (r1, r2) := h
  clear h
  replace H := Option.bind_eq_some_iff.mp H
  obtain ⟨⟨t171, t172⟩, A30, H⟩ := H
  replace H : (if t172.isNone = true then (if 0 ≤ a1 then (if (l0.length : Int) > (shl .i64 1 a1) then (some (([] : List Int), some 1)) else (if 0 ≤ (shl .i64 1 a1) then (if (shl .i64 1 a1 : Int).toNat ≤ 35184372088832 then ((poly_turn.f k (cpy (List.replicate (shl .i64 1 a1 : Int).toNat 0) l0) t171).bind fun t178 => (some (t178, none))) else (none)) else (none))) else (none)) else (some (([] : List Int), some 1))) = some (r1, r2) := H
  have A3 := Aside0.mk A30
  clear A30
  rcases t172 with _ | q173
  · have H1 : (if 0 ≤ a1 then (if (l0.length : Int) > (shl .i64 1 a1) then (some (([] : List Int), some 1)) else (if 0 ≤ (shl .i64 1 a1) then (if (shl .i64 1 a1 : Int).toNat ≤ 35184372088832 then ((poly_turn.f k (cpy (List.replicate (shl .i64 1 a1 : Int).toNat 0) l0) t171).bind fun t178 => (some (t178, none))) else (none)) else (none))) else (none)) = some (r1, r2) := by rw [if_pos (show (none : Option Int).isNone = true by rfl)] at H; exact H
    clear H
    have H := H1
    clear H1
    try simp only [errW_none, errW_some]
    by_cases c4 : 0 ≤ a1
    · rw [if_pos c4] at H
      have c4b0 := eq_true c4
      have c4b1 : decide (0 ≤ a1) = true := decide_eq_true c4
      clear c4
      obtain ⟨ji5, hji5⟩ : ∃ j_ : Int, (shl .i64 1 a1) = j_ := ⟨_, rfl⟩
      replace H : (if (l0.length : Int) > (ji5) then (some (([] : List Int), some 1)) else (if 0 ≤ (ji5) then (if (ji5 : Int).toNat ≤ 35184372088832 then ((poly_turn.f k (cpy (List.replicate (ji5 : Int).toNat 0) l0) t171).bind fun t178 => (some (t178, none))) else (none)) else (none))) = some (r1, r2) := by first | (rw [hji5] at H; exact H) | (simp only [hji5] at H ⊢; exact H)
      (try rw [hji5] at A3)
      have hji5_ : (IntKind.i64.wrap (1 * 2 ^ min a1.toNat 64)) = ji5 := hji5
      have hji5z : a1 ≤ 64 → (IntKind.i64.wrap (1 * 2 ^ a1.toNat)) = ji5 := shl_small hji5
      have hji5u : (IntKind.i64.wrap (2 ^ min a1.toNat 64)) = ji5 := by have h_ := hji5_; rw [Int.one_mul] at h_; exact h_
      have hji5v : a1 ≤ 64 → (IntKind.i64.wrap (2 ^ a1.toNat)) = ji5 := fun hle_ => by have h_ := hji5z hle_; rw [Int.one_mul] at h_; exact h_
      have hji5y : (wrap64 (1 * 2 ^ min a1.toNat 64)) = ji5 := (i64_w _).symm.trans hji5_
      have hji5x : a1 ≤ 64 → (wrap64 (1 * 2 ^ a1.toNat)) = ji5 := fun h_ => (i64_w _).symm.trans (hji5z h_)
      by_cases c6 : (l0.length : Int) > (ji5)
      · rw [if_pos c6] at H
        have c6b0 : decide ((ji5) < (l0.length : Int)) = true := decide_eq_true c6
        clear c6
        simp only [Option.some.injEq, Prod.mk.injEq] at H
        obtain ⟨rfl, rfl⟩ := H
        go_enter Try.func32, Try.ntmps32
        go_wp2_with (first | ((with_reducible refine gate_callee (f := 46) rfl ?_); refine goesL_ (some 11) rfl rfl Try.func46 (by kernel_rfl) rfl #[.int .i64 a1] rfl (by (try simp only [List.map_toArray, List.map_cons, List.map_nil]); first | done | rfl | (simp only [List.length_drop, List.length_take]; rfl)) ?_; (with_reducible refine (poly_Root.calls k a1 t171 none _ A3.out).mono ?_); rintro e w' ⟨rfl, ⟨nd, rfl⟩⟩; refine ⟨_, rfl, ?_⟩; (try simp only [errW_none, errW_some])))
        go_ret2
        exact ⟨_, by first | rfl | (simp [errW_none, errW_some] <;> rfl) | (simp only [← hji5]; first | rfl | (simp [errW_none, errW_some] <;> rfl)) | (simp [*, errW_none, errW_some] <;> rfl), by first | exact Kd.R_nil _ _ _ _ _ | exact Kd.N_nil _ _ _ _ _ | exact Kd.V_nil _ _ _ _ _ | exact Kd.Q_nil _ _ _ _ _ | exact Kd.S_nil _ _ _ _ _, by repeat (first | (with_reducible first | exact HB.out | apply below_alloc | apply pw_below_drewN | apply below_drew1) | exact HB.out)⟩
      · rw [if_neg c6] at H
        have c6b0 : decide ((ji5) < (l0.length : Int)) = false := decide_eq_false c6
        clear c6
        have c7b0 := eq_true (of_decide_eq_true (by first | (with_reducible assumption) | assumption) : 0 ≤ a1)
        by_cases c8 : 0 ≤ (ji5)
        · rw [if_pos c8] at H
          have c8b0 := eq_true c8
          have c8b1 : decide (0 ≤ (ji5)) = true := decide_eq_true c8
          clear c8
          by_cases c9 : (ji5 : Int).toNat ≤ 35184372088832
          · rw [if_pos c9] at H
            have c9b0 := eq_true c9
            have c9b1 : decide ((ji5 : Int).toNat ≤ 35184372088832) = true := decide_eq_true c9
            clear c9
            obtain ⟨y174, hy174⟩ : ∃ y_ : List Int, y_ = (List.replicate (ji5 : Int).toNat 0) := ⟨_, rfl⟩
            replace H : ((poly_turn.f k (cpy y174 l0) t171).bind fun t178 => (some (t178, none))) = some (r1, r2) := by first | (rw [hy174]; with_reducible exact H) | (have H2_ := (Option.bind_some _ _).symm.trans H; rw [hy174]; with_reducible exact H2_) | (have H2_ := (Option.bind_some _ _).symm.trans H; with_reducible exact H2_) | with_reducible exact H | (rw [hy174]; exact H) | exact H
            have Ny174 := Aside0.mk hy174
            clear hy174
            obtain ⟨y177, hy177⟩ : ∃ y_ : List Int, y_ = (cpy y174 l0) := ⟨_, rfl⟩
            replace H : ((poly_turn.f k y177 t171).bind fun t178 => (some (t178, none))) = some (r1, r2) := by first | (rw [hy177]; with_reducible exact H) | (have H2_ := (Option.bind_some _ _).symm.trans H; rw [hy177]; with_reducible exact H2_) | (have H2_ := (Option.bind_some _ _).symm.trans H; with_reducible exact H2_) | with_reducible exact H | (rw [hy177]; exact H) | exact H
            have Ny177 := Aside0.mk hy177
            clear hy177
            replace H := Option.bind_eq_some_iff.mp H
            obtain ⟨t178, A100, H⟩ := H
            replace H : (some (t178, none)) = some (r1, r2) := H
            have A10 := Aside0.mk A100
            clear A100
            simp only [Option.some.injEq, Prod.mk.injEq] at H
            obtain ⟨rfl, rfl⟩ := H
            go_enter Try.func32, Try.ntmps32
            go_wp2_with (first | ((with_reducible refine gate_callee (f := 46) rfl ?_); refine goesL_ (some 11) rfl rfl Try.func46 (by kernel_rfl) rfl #[.int .i64 a1] rfl (by (try simp only [List.map_toArray, List.map_cons, List.map_nil]); first | done | rfl | (simp only [List.length_drop, List.length_take]; rfl)) ?_; (with_reducible refine (poly_Root.calls k a1 t171 none _ A3.out).mono ?_); rintro e w' ⟨rfl, ⟨nd, rfl⟩⟩; refine ⟨_, rfl, ?_⟩; (try simp only [errW_none, errW_some])) | ((with_reducible refine gate_dst (N := 26) rfl ?_); (try (refine gate_guard (by rfl) ?_; dsimp only)); refine Kd.R_make (Kd.int .u64) _ 30 rfl (N := 26) rfl 22 _ _ rfl ji5 rfl rfl Try.underlying22 (.int .u64 0) 8 info30 rfl (by decide) (by omega) 0 (ok := fun _ => True) (okp := fun _ => True) rfl (fun _ hk => hk) trivial (of_decide_eq_true (by first | (with_reducible assumption) | assumption)) (Nat.le_trans (Nat.mul_le_mul_right _ (of_decide_eq_true (by first | (with_reducible assumption) | assumption) : ji5.toNat ≤ 35184372088832)) (by omega)) (Below.refl _ _) (Nat.le_refl _) ?_; intro v175 w11 ho12 hb hg_ hnew_; clear hg_ hnew_; (first | rw [← Ny174.out] at ho12 | (simp only [Int.reduceToNat] at ho12; rw [← Ny174.out] at ho12)); have n0_ := Aside0.mk (Kd.R_lower ho12 (below_size (by repeat (first | (with_reducible first | exact HB.out | apply below_alloc | apply pw_below_drewN | apply below_drew1) | exact HB.out)))); have n1_ := Aside0.mk (below_step (by repeat (first | (with_reducible first | exact HB.out | apply below_alloc | apply pw_below_drewN | apply below_drew1) | exact HB.out)) hb); clear HB; have HO176 := n0_; have HB := n1_; clear n0_ n1_; clear hb ho12) | ((with_reducible refine gate_builtin (b := .copy) (xs := #[.tmp 27, .tmp 28]) rfl ?_); (try (refine gate_guard (by rfl) ?_; dsimp only)); refine Kd.R_cpy (Kd.int .u64) rfl (w0 := w) w.heap.size 30 rfl (.tmp 27) (.tmp 28) 22 rfl Try.underlying22 (.int .u64 0) 8 info30 v175 y174 l0 _ _ _ (fun _ => True) rfl rfl ?aO ?aR ?aB ?_; (case aO => exact (by (with_reducible repeat (first | apply Kd.R_alloc | apply Kd.R_drewN | apply Kd.R_drew)); exact HO176.out)); (case aR => repeat (first | exact (Kd.C_below HR0.out HB.out) | (with_reducible refine Kd.C_alloc ?_ _) | (with_reducible refine Kd.C_drewN ?_ _) | (with_reducible refine Kd.C_drew ?_))); (case aB => exact (by repeat (first | (with_reducible first | exact HB.out | apply below_alloc | apply pw_below_drewN | apply below_drew1) | exact HB.out))); intro w13 ho hb hg; rw [← Ny177.out] at ho; have n0_ := Aside0.mk (ho); have n1_ := Aside0.mk (hb); clear HO176; clear HB; have HO176 := n0_; have HB := n1_; clear n0_ n1_; clear hg hb ho; obtain ⟨Ao14, co14, eo14⟩ := Kd.R_slice HO176.out; subst eo14) | ((with_reducible refine gate_callee (f := 48) rfl ?_); refine goesL_ (some 32) rfl rfl Try.func48 (by kernel_rfl) rfl #[.slice Ao14 y177.length co14, .int .u64 t171] rfl (by (try simp only [List.map_toArray, List.map_cons, List.map_nil]); first | done | rfl | (simp only [List.length_drop, List.length_take]; rfl)) ?_; (with_reducible refine (poly_turn.calls k _ _ y177 t171 t178 _ ?side1 ?side2 A10.out).mono ?_); (case side1 => repeat (first | exact (Kd.R_reads' HO176.out).2.2 | (with_reducible refine Kd.C_alloc ?_ _) | (with_reducible refine Kd.C_drewN ?_ _) | (with_reducible refine Kd.C_drew ?_))); (case side2 => exact (Kd.R_reads' HO176.out).2.1); rintro e w15 ⟨v179, rfl, ho0, hb⟩; refine ⟨_, rfl, ?_⟩; have n0_ := Aside0.mk (Kd.R_elder' (by (with_reducible repeat (first | apply Kd.R_alloc | apply Kd.R_drewN | apply Kd.R_drew)); exact HO176.out) (Kd.R_base ho0) hb); have n1_ := Aside0.mk (Kd.R_lower (Kd.R_new' ho0 (Kd.R_lt (by (with_reducible repeat (first | apply Kd.R_alloc | apply Kd.R_drewN | apply Kd.R_drew)); exact HO176.out))) (below_size (by repeat (first | (with_reducible first | exact HB.out | apply below_alloc | apply pw_below_drewN | apply below_drew1) | exact HB.out)))); have n2_ := Aside0.mk (below_step (by repeat (first | (with_reducible first | exact HB.out | apply below_alloc | apply pw_below_drewN | apply below_drew1) | exact HB.out)) hb); clear HO176; clear HB; have HO176 := n0_; have HO180 := n1_; have HB := n2_; clear n0_ n1_ n2_; (try clear hb); (try clear hb2); (try clear hk); (try clear hi); (try clear ho0)))
            go_ret2
            exact ⟨_, by first | rfl | (simp [errW_none, errW_some] <;> rfl) | (simp only [← hji5]; first | rfl | (simp [errW_none, errW_some] <;> rfl)) | (simp [*, errW_none, errW_some] <;> rfl), by (with_reducible repeat (first | apply Kd.R_alloc | apply Kd.R_drewN | apply Kd.R_drew)); exact Kd.R_mono HO180.out (fun _ hk => trivial), by repeat (first | (with_reducible first | exact HB.out | apply below_alloc | apply pw_below_drewN | apply below_drew1) | exact HB.out)⟩
          · rw [if_neg c9] at H
            exact absurd H (by simp)
        · rw [if_neg c8] at H
          exact absurd H (by simp)
    · rw [if_neg c4] at H
      exact absurd H (by simp)
  · have H1 : (some (([] : List Int), some 1)) = some (r1, r2) := by rw [if_neg (show ¬ (some q173).isNone = true by simp)] at H; exact H
    clear H
    have H := H1
    clear H1
    try simp only [errW_none, errW_some]
    simp only [Option.some.injEq, Prod.mk.injEq] at H
    obtain ⟨rfl, rfl⟩ := H
    go_enter Try.func32, Try.ntmps32
    go_wp2_with (first | ((with_reducible refine gate_callee (f := 46) rfl ?_); refine goesL_ (some 11) rfl rfl Try.func46 (by kernel_rfl) rfl #[.int .i64 a1] rfl (by (try simp only [List.map_toArray, List.map_cons, List.map_nil]); first | done | rfl | (simp only [List.length_drop, List.length_take]; rfl)) ?_; (with_reducible refine (poly_Root.calls k a1 t171 (some q173) _ A3.out).mono ?_); rintro e w' ⟨rfl, ⟨nd, rfl⟩⟩; refine ⟨_, rfl, ?_⟩; (try simp only [errW_none, errW_some])))
    go_ret2
    exact ⟨_, by first | rfl | (simp [errW_none, errW_some] <;> rfl) | (simp [*, errW_none, errW_some] <;> rfl), by first | exact Kd.R_nil _ _ _ _ _ | exact Kd.N_nil _ _ _ _ _ | exact Kd.V_nil _ _ _ _ _ | exact Kd.Q_nil _ _ _ _ _ | exact Kd.S_nil _ _ _ _ _, by repeat (first | (with_reducible first | exact HB.out | apply below_alloc | apply pw_below_drewN | apply below_drew1) | exact HB.out)⟩

/-! ### poly_short: function 63 -/
def poly_short.l0 : Nat → List Int → Option (List Int)
  | 0, _ => none
  | k + 1, x0 => if (x0.length : Int) > 0 then (if 0 ≤ (wrap64 ((x0.length : Int) - 1)) then (if (wrap64 ((x0.length : Int) - 1)) < (x0.length : Int) then (if (rd x0 (wrap64 ((x0.length : Int) - 1))) = 0 then (if (wrap64 ((x0.length : Int) - 1)) ≤ (x0.length : Int) then (poly_short.l0 k (x0.take ((wrap64 ((x0.length : Int) - 1)) : Int).toNat)) else (none)) else (some x0)) else (none)) else (none)) else (some x0)
def poly_short.f (k : Nat) (l0 : List Int) : Option (List Int) := poly_short.l0 k l0
theorem poly_short.mono_l : ∀ k, (∀ y0, LeO (poly_short.l0 k y0) (poly_short.l0 (k + 1) y0))
  | 0 => fun _ r h => by simp [poly_short.l0] at h
  | k + 1 => by
    have ih0 := poly_short.mono_l k
    · intro y0
      unfold poly_short.l0
      repeat' first
      | (with_reducible exact ih0 _)
      | (with_reducible exact LeO.refl _)
      | (with_reducible exact LeO.none _)
      | (with_reducible refine LeO.ite ?_ ?_)
      | (with_reducible refine LeO.bind ?_ (fun _ => ?_))
      | exact ih0 _
      | exact LeO.none _
      | refine LeO.ite ?_ ?_
      | refine LeO.bind ?_ (fun _ => ?_)
theorem poly_short.mono : ∀ a0 k, LeO (poly_short.f k a0) (poly_short.f (k + 1) a0) := by
  intro a0 k
  have ih0 := poly_short.mono_l k
  unfold poly_short.f
  repeat' first
      | (with_reducible exact ih0 _)
      | (with_reducible exact LeO.refl _)
      | (with_reducible exact LeO.none _)
      | (with_reducible refine LeO.ite ?_ ?_)
      | (with_reducible refine LeO.bind ?_ (fun _ => ?_))
      | exact ih0 _
      | exact LeO.none _
      | refine LeO.ite ?_ ?_
      | refine LeO.bind ?_ (fun _ => ?_)
set_option maxHeartbeats 8000000 in
set_option maxRecDepth 100000 in
theorem poly_short.calls (k : Nat) (P0_ : Nat → Prop) (A0 : Option Addr) (c0 : Nat) (l0 : List Int) (r : List Int) (w : World) (hs0 : Kd.V (Kd.int .u64) 30 w w.heap.size (fun k_ => P0_ k_) (.slice A0 l0.length c0) l0) (h : poly_short.f k l0 = some r) :
    Calls Try.prog 63 #[.slice A0 l0.length c0] w fun e w' => ∃ v0_ : Value, e = .returned (v0_) ∧ Kd.V (Kd.int .u64) 30 w' w.heap.size (fun k_ => (P0_ k_ ∨ w.heap.size ≤ k_)) v0_ r ∧ Below w.heap.size w w' := by
  have HO0 := Aside0.mk (show Kd.V (Kd.int .u64) 30 w w.heap.size (fun k_ => (P0_ k_ ∨ w.heap.size ≤ k_)) (.slice A0 l0.length c0) l0 from Kd.V_mono hs0 (fun k_ hk => .inl hk))
  have HB := Aside0.mk (Below.refl w.heap.size w)
  have H : (poly_short.l0 k l0) = some r := h
  clear h
  have H' := Aside0.mk H
  clear H
  go_enter Try.func63, Try.ntmps63
  go_wp2
  go_loopg [0] k (fun kq v0 w' => ∃ (x0_1 : List Int), Aside0 (poly_short.l0 kq x0_1 = some r) ∧ Aside0 (kq ≤ k) ∧ Aside0 (Kd.V (Kd.int .u64) 30 w' w.heap.size (fun k_ => (P0_ k_ ∨ w.heap.size ≤ k_)) v0 x0_1) ∧ Aside0 (Below w.heap.size w w'))
  case atStart => exact ⟨(l0), H', ⟨Nat.le_refl _⟩, ⟨by (with_reducible repeat (first | apply Kd.V_alloc | apply Kd.V_drewN | apply Kd.V_drew)); exact HO0.out⟩, ⟨by repeat (first | (with_reducible first | exact HB.out | apply below_alloc | apply pw_below_drewN | apply below_drew1) | exact HB.out)⟩⟩
  case round =>
    clear H'
    obtain ⟨x0_1, HA, HK1, HO_0, HB⟩ := hrel
    cases gk with
    | zero => exact absurd HA.out (by simp [poly_short.l0])
    | succ k1 =>
      have H := HA.out
      clear HA
      simp only [poly_short.l0] at H
      by_cases c2 : (x0_1.length : Int) > 0
      · rw [if_pos c2] at H
        have c2b0 : decide (0 < (x0_1.length : Int)) = true := decide_eq_true c2
        have c2b1 : decide (0 < x0_1.length) = true := decide_eq_true (by omega)
        clear c2
        obtain ⟨ji3, hji3⟩ : ∃ j_ : Int, (wrap64 ((x0_1.length : Int) - 1)) = j_ := ⟨_, rfl⟩
        replace H : (if 0 ≤ (ji3) then (if (ji3) < (x0_1.length : Int) then (if (rd x0_1 (ji3)) = 0 then (if (ji3) ≤ (x0_1.length : Int) then (poly_short.l0 k1 (x0_1.take ((ji3) : Int).toNat)) else (none)) else (some x0_1)) else (none)) else (none)) = some r := by first | (rw [hji3] at H; exact H) | (simp only [hji3] at H ⊢; exact H)
        have hji3w : (IntKind.i64.wrap ((x0_1.length : Int) - 1)) = ji3 := (i64_w _).trans hji3
        by_cases c4 : 0 ≤ (ji3)
        · rw [if_pos c4] at H
          have c4b0 : decide (0 ≤ (ji3)) = true := decide_eq_true c4
          clear c4
          by_cases c5 : (ji3) < (x0_1.length : Int)
          · rw [if_pos c5] at H
            have c5b0 : decide ((ji3) < (x0_1.length : Int)) = true := decide_eq_true c5
            clear c5
            by_cases c6 : (rd x0_1 (ji3)) = 0
            · rw [if_pos c6] at H
              have c6b0 : ((rd x0_1 (ji3)) == 0) = true := beq_iff_eq.mpr c6
              have c6b1 : ((rd x0_1 (ji3)) != 0) = false := bne_eq_false_iff_eq.mpr c6
              clear c6
              have c7b0 := eq_true (of_decide_eq_true (by first | (with_reducible assumption) | assumption) : 0 ≤ (ji3))
              by_cases c8 : (ji3) ≤ (x0_1.length : Int)
              · rw [if_pos c8] at H
                have c8b0 := eq_true c8
                have c8b1 : decide ((ji3) ≤ (x0_1.length : Int)) = true := decide_eq_true c8
                clear c8
                obtain ⟨y182, hy182⟩ : ∃ y_ : List Int, y_ = (x0_1.take ((ji3) : Int).toNat) := ⟨_, rfl⟩
                replace H : (poly_short.l0 k1 y182) = some r := by first | (rw [hy182]; with_reducible exact H) | (have H2_ := (Option.bind_some _ _).symm.trans H; rw [hy182]; with_reducible exact H2_) | (have H2_ := (Option.bind_some _ _).symm.trans H; with_reducible exact H2_) | with_reducible exact H | (rw [hy182]; exact H) | exact H
                have Ny182 := Aside0.mk hy182
                clear hy182
                have H' := Aside0.mk H
                clear H
                obtain ⟨Ao9, co9, eo9⟩ := Kd.V_slice HO_0.out
                subst eo9
                have p181 : 0 ≤ ((ji3) : Int) := of_decide_eq_true (by first | (with_reducible assumption) | assumption)
                have q181 : (ji3) < (x0_1.length : Int) := of_decide_eq_true (by first | (with_reducible assumption) | assumption)
                obtain ⟨ad181, e181, hx181_0⟩ := Kd.at_int (Kd.V_reads' HO_0.out).2.2 (ji3) p181 q181
                cases e181
                replace p181 := eq_true p181
                replace q181 := eq_true q181
                have q10 : ((ji3) : Int) ≤ ((x0_1.length : Int) : Int) := of_decide_eq_true (by first | (with_reducible assumption) | assumption)
                obtain ⟨i010, hi010, _, hsz10, _⟩ := info_parts info30
                have hroom10 : x0_1.length ≤ co9 := (Kd.V_reads' HO_0.out).2.1
                have hC10 : Kd.F (Kd.int .u64) _ _ (some ad181) x0_1.length x0_1 := (Kd.V_at (base := w.heap.size) HO_0.out).2.2
                have hcut10 := cut_to (P := Try.prog) 22 30 .i64 Try.underlying22 hi010 (some ad181) x0_1.length co9 (ji3) (of_decide_eq_true (by first | (with_reducible assumption) | assumption)) q10 hroom10
                have hr10 := Kd.F_take (m := ((ji3) : Int).toNat) hC10 (by omega)
                have hy10 : y182.length = ((ji3) : Int).toNat := (by rw [Ny182.out, List.length_take]; omega)
                rw [← Ny182.out] at hr10
                rw [← hy10] at hcut10
                have HO186 := Aside0.mk (show Kd.V (Kd.int .u64) 30 _ w.heap.size _ (.slice (some ad181) y182.length co9) y182 from Kd.V_mk (by omega) hr10)
                have HC186 := Aside0.mk (show y182.length ≤ co9 from by omega)
                clear hr10 hC10 hroom10 hi010 hsz10
                have KY10 := Aside0.mk hy10
                clear hy10
                replace q10 := eq_true q10
                go_wp2
                go_roundg k1
                case measure => have := HK1.out; omega
                case rel => exact ⟨(y182), H', ⟨by have := HK1.out; omega⟩, ⟨by (with_reducible repeat (first | apply Kd.V_alloc | apply Kd.V_drewN | apply Kd.V_drew)); exact HO186.out⟩, ⟨by repeat (first | (with_reducible first | exact HB.out | apply below_alloc | apply pw_below_drewN | apply below_drew1) | exact HB.out)⟩⟩
              · rw [if_neg c8] at H
                exact absurd H (by simp)
            · rw [if_neg c6] at H
              have c6b0 : ((rd x0_1 (ji3)) == 0) = false := beq_eq_false_iff_ne.mpr c6
              have c6b1 : ((rd x0_1 (ji3)) != 0) = true := bne_iff_ne.mpr c6
              obtain rfl := Option.some.inj H
              obtain ⟨Ao11, co11, eo11⟩ := Kd.V_slice HO_0.out
              subst eo11
              have p181 : 0 ≤ ((ji3) : Int) := of_decide_eq_true (by first | (with_reducible assumption) | assumption)
              have q181 : (ji3) < (x0_1.length : Int) := of_decide_eq_true (by first | (with_reducible assumption) | assumption)
              obtain ⟨ad181, e181, hx181_0⟩ := Kd.at_int (Kd.V_reads' HO_0.out).2.2 (ji3) p181 q181
              cases e181
              replace p181 := eq_true p181
              replace q181 := eq_true q181
              go_wp2
              go_ret
              exact ⟨_, by first | rfl | (simp [errW_none, errW_some] <;> rfl) | (simp only [← hji3]; first | rfl | (simp [errW_none, errW_some] <;> rfl)) | (simp [*, errW_none, errW_some] <;> rfl), by (with_reducible repeat (first | apply Kd.V_alloc | apply Kd.V_drewN | apply Kd.V_drew)); exact HO_0.out, by repeat (first | (with_reducible first | exact HB.out | apply below_alloc | apply pw_below_drewN | apply below_drew1) | exact HB.out)⟩
          · rw [if_neg c5] at H
            exact absurd H (by simp)
        · rw [if_neg c4] at H
          exact absurd H (by simp)
      · rw [if_neg c2] at H
        have c2b0 : decide (0 < (x0_1.length : Int)) = false := decide_eq_false c2
        have c2b1 : decide (0 < x0_1.length) = false := decide_eq_false (by omega)
        clear c2
        obtain rfl := Option.some.inj H
        obtain ⟨Ao12, co12, eo12⟩ := Kd.V_slice HO_0.out
        subst eo12
        go_wp2
        go_ret
        exact ⟨_, by first | rfl | (simp [errW_none, errW_some] <;> rfl) | (simp [*, errW_none, errW_some] <;> rfl), by (with_reducible repeat (first | apply Kd.V_alloc | apply Kd.V_drewN | apply Kd.V_drew)); exact HO_0.out, by repeat (first | (with_reducible first | exact HB.out | apply below_alloc | apply pw_below_drewN | apply below_drew1) | exact HB.out)⟩

end Go.Proofs.Ytempibbfdojfiac.PPolyBack
