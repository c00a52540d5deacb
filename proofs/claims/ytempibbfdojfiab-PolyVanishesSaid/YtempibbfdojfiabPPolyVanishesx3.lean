-- printed by a program of this session (wip/tools/mkprint.py)
import Derived.Test.YtempibbfdojfiabPPolyVanishesx0
import Derived.Test.YtempibbfdojfiabPPolyVanishesx2
namespace Go.Proofs.Ytempibbfdojfiab.PPolyVanishes
open Go.RowKit Go.Proofs.YtempibbfdojfiabW.PrintWords Go.Proofs.YtempibbfdojfiabW.PrintLast Go.Proofs.YtempibbfdojfiabW.PrintMore
attribute [local go_sem] max2_int min2_int max_two min_two max_three min_three max_four min_four   -- for this text's walks alone
set_option linter.unusedVariables false
set_option linter.unusedSimpArgs false

attribute [local go_sem high] errCmp_eql errCmp_neq errCmpL_eql errCmpL_neq
/-! ### poly_Vanish: function 30 -/
mutual
def poly_Vanish.l0 : Nat → List Int → Int → List Int → List Int → Int → Int → Option (List Int × Option Int)
  | 0, _, _, _, _, _, _ => none
  | k + 1, x0, x8, x9, x27, x28, x29 => if x29 < x28 then (if 0 ≤ x29 then (if x29 < (x27.length : Int) then (if x29 < (x9.length : Int) then (poly_Vanish.l0 k x0 x8 (x9.set (x29 : Int).toNat (Int.tmod (rd x27 x29) 288230376287764481)) x27 x28 (wrap64 (x29 + 1))) else (none)) else (none)) else (none)) else (if 0 ≤ (mx (wrap64 ((x0.length : Int) - x8)) 0) then (if (mx (wrap64 ((x0.length : Int) - x8)) 0 : Int).toNat ≤ 35184372088832 then (poly_Vanish.l1 k x8 x9 (List.replicate (mx (wrap64 ((x0.length : Int) - x8)) 0 : Int).toNat 0) (wrap64 ((x0.length : Int) - 1))) else (none)) else (none))
def poly_Vanish.l1 : Nat → Int → List Int → List Int → Int → Option (List Int × Option Int)
  | 0, _, _, _, _ => none
  | k + 1, x8, x9, x12, x13 => if x13 ≥ x8 then (if 0 ≤ x13 then (if x13 < (x9.length : Int) then (if 0 ≤ (wrap64 (x13 - x8)) then (if (wrap64 (x13 - x8)) < (x12.length : Int) then (if (wrap64 (x13 - x8)) < (x9.length : Int) then ((modular_Add.f 288230376287764481 (rd x9 (wrap64 (x13 - x8))) (rd x9 x13)).bind fun t149 => (poly_Vanish.l1 k x8 ((x9.set ((wrap64 (x13 - x8)) : Int).toNat t149).set (x13 : Int).toNat 0) (x12.set ((wrap64 (x13 - x8)) : Int).toNat (rd x9 x13)) (wrap64 (x13 - 1)))) else (none)) else (none)) else (none)) else (none)) else (none)) else ((poly_short.f k x9).bind fun t152 => (if (t152.length : Int) > 0 then (some (([] : List Int), some 8)) else ((poly_short.f k x12).bind fun t155 => (some (t155, none)))))
end
def poly_Vanish.f (k : Nat) (l0 : List Int) (a1 : Int) : Option (List Int × Option Int) := (poly_Root.f k a1).bind fun bt134 => (if bt134.2.isNone = true then (if 0 ≤ a1 then (if 0 ≤ (l0.length : Int) then (if ((l0.length : Int) : Int).toNat ≤ 35184372088832 then (poly_Vanish.l0 k l0 (shl .i64 1 a1) (List.replicate ((l0.length : Int) : Int).toNat 0) l0 (l0.length : Int) 0) else (none)) else (none)) else (none)) else (some (([] : List Int), some (bt134.2.getD 0))))
theorem poly_Vanish.mono_l : ∀ k, (∀ y0 y1 y2 y3 y4 y5, LeO (poly_Vanish.l0 k y0 y1 y2 y3 y4 y5) (poly_Vanish.l0 (k + 1) y0 y1 y2 y3 y4 y5)) ∧ (∀ y0 y1 y2 y3, LeO (poly_Vanish.l1 k y0 y1 y2 y3) (poly_Vanish.l1 (k + 1) y0 y1 y2 y3))
  | 0 => ⟨fun _ _ _ _ _ _ r h => by simp [poly_Vanish.l0] at h, fun _ _ _ _ r h => by simp [poly_Vanish.l1] at h⟩
  | k + 1 => by
    obtain ⟨ih0, ih1⟩ := poly_Vanish.mono_l k
    refine ⟨?_, ?_⟩
    · intro y0 y1 y2 y3 y4 y5
      unfold poly_Vanish.l0
      repeat' first
      | (with_reducible exact ih0 _ _ _ _ _ _)
      | (with_reducible exact ih1 _ _ _ _)
      | (with_reducible exact poly_Root.mono _ _)
      | (with_reducible exact poly_short.mono _ _)
      | (with_reducible exact LeO.refl _)
      | (with_reducible exact LeO.none _)
      | (with_reducible refine LeO.ite ?_ ?_)
      | (with_reducible refine LeO.bind ?_ (fun _ => ?_))
      | exact ih0 _ _ _ _ _ _
      | exact ih1 _ _ _ _
      | exact poly_Root.mono _ _
      | exact poly_short.mono _ _
      | exact LeO.none _
      | refine LeO.ite ?_ ?_
      | refine LeO.bind ?_ (fun _ => ?_)
    · intro y0 y1 y2 y3
      unfold poly_Vanish.l1
      repeat' first
      | (with_reducible exact ih0 _ _ _ _ _ _)
      | (with_reducible exact ih1 _ _ _ _)
      | (with_reducible exact poly_Root.mono _ _)
      | (with_reducible exact poly_short.mono _ _)
      | (with_reducible exact LeO.refl _)
      | (with_reducible exact LeO.none _)
      | (with_reducible refine LeO.ite ?_ ?_)
      | (with_reducible refine LeO.bind ?_ (fun _ => ?_))
      | exact ih0 _ _ _ _ _ _
      | exact ih1 _ _ _ _
      | exact poly_Root.mono _ _
      | exact poly_short.mono _ _
      | exact LeO.none _
      | refine LeO.ite ?_ ?_
      | refine LeO.bind ?_ (fun _ => ?_)
theorem poly_Vanish.mono : ∀ a0 a1 k, LeO (poly_Vanish.f k a0 a1) (poly_Vanish.f (k + 1) a0 a1) := by
  intro a0 a1 k
  obtain ⟨ih0, ih1⟩ := poly_Vanish.mono_l k
  unfold poly_Vanish.f
  repeat' first
      | (with_reducible exact ih0 _ _ _ _ _ _)
      | (with_reducible exact ih1 _ _ _ _)
      | (with_reducible exact poly_Root.mono _ _)
      | (with_reducible exact poly_short.mono _ _)
      | (with_reducible exact LeO.refl _)
      | (with_reducible exact LeO.none _)
      | (with_reducible refine LeO.ite ?_ ?_)
      | (with_reducible refine LeO.bind ?_ (fun _ => ?_))
      | exact ih0 _ _ _ _ _ _
      | exact ih1 _ _ _ _
      | exact poly_Root.mono _ _
      | exact poly_short.mono _ _
      | exact LeO.none _
      | refine LeO.ite ?_ ?_
      | refine LeO.bind ?_ (fun _ => ?_)
def poly_Vanish.T16 : Bool × List (List Nat × List Nat) := (true, [([], []), ([], []), ([], []), ([1, 2], [1, 2]), ([], []), ([], []), ([], []), ([5, 6], [5, 6]), ([4, 7], [4, 7]), ([8], [8]), ([], []), ([], []), ([10, 11], [10, 11]), ([12], [12]), ([9, 13], [9, 13]), ([0, 3, 0, 1, 2, 3, 4, 5, 6, 7, 8, 9, 10, 11, 12, 13, 14], [0, 3]), ([15, 14, 14, 0, 1, 2, 3, 4, 5, 6, 7, 8, 9, 10, 11, 12, 13, 14], [14, 15])])
def poly_Vanish.B16 : List Nat := [0, 0, 0, 6, 0, 0, 0, 96, 240, 496, 0, 0, 3072, 7168, 16368, 32767, 65535]
theorem poly_Vanish.tab16 : rtab .any (opsOf Try.f30 16) = poly_Vanish.T16 := by kernel_rfl
theorem poly_Vanish.bits16 : waitsOk poly_Vanish.T16.2 poly_Vanish.B16 = true := by kernel_rfl
set_option maxHeartbeats 8000000 in
set_option maxRecDepth 100000 in
theorem poly_Vanish.calls (k : Nat) (A0 : Option Addr) (c0 : Nat) (l0 : List Int) (a1 : Int) (r1 : List Int) (r2 : Option Int) (w : World) (hr0 : Kd.C (Kd.int .u64) w A0 l0.length l0) (hc0 : l0.length ≤ c0) (h : poly_Vanish.f k l0 a1 = some (r1, r2)) :
    Calls Try.prog 30 #[.slice A0 l0.length c0, .int .i64 a1] w fun e w' => ∃ v0_ : Value, e = .returned (.tuple #[v0_, errW r2]) ∧ Kd.V (Kd.int .u64) 22 w' w.heap.size (fun k_ => (w.heap.size ≤ k_)) v0_ r1 ∧ Below w.heap.size w w' := by
  have hu32 := Try.underlying32
  have hu46 := Try.underlying46
  have HR0 := Aside0.mk hr0
  have HC0 := Aside0.mk hc0
  clear hr0 hc0
  have HB := Aside0.mk (Below.refl w.heap.size w)
  have H : ((poly_Root.f k a1).bind fun bt134 => (if bt134.2.isNone = true then (if 0 ≤ a1 then (if 0 ≤ (l0.length : Int) then (if ((l0.length : Int) : Int).toNat ≤ 35184372088832 then (poly_Vanish.l0 k l0 (shl .i64 1 a1) (List.replicate ((l0.length : Int) : Int).toNat 0) l0 (l0.length : Int) 0) else (none)) else (none)) else (none)) else (some (([] : List Int), some (bt134.2.getD 0))))) = some (r1, r2) := h
  clear h
  replace H := Option.bind_eq_some_iff.mp H
  obtain ⟨⟨t134, t135⟩, A30, H⟩ := H
  replace H : (if t135.isNone = true then (if 0 ≤ a1 then (if 0 ≤ (l0.length : Int) then (if ((l0.length : Int) : Int).toNat ≤ 35184372088832 then (poly_Vanish.l0 k l0 (shl .i64 1 a1) (List.replicate ((l0.length : Int) : Int).toNat 0) l0 (l0.length : Int) 0) else (none)) else (none)) else (none)) else (some (([] : List Int), some (t135.getD 0)))) = some (r1, r2) := H
  have A3 := Aside0.mk A30
  clear A30
  rcases t135 with _ | q136
  · have H1 : (if 0 ≤ a1 then (if 0 ≤ (l0.length : Int) then (if ((l0.length : Int) : Int).toNat ≤ 35184372088832 then (poly_Vanish.l0 k l0 (shl .i64 1 a1) (List.replicate ((l0.length : Int) : Int).toNat 0) l0 (l0.length : Int) 0) else (none)) else (none)) else (none)) = some (r1, r2) := by rw [if_pos (show (none : Option Int).isNone = true by rfl)] at H; exact H
    clear H
    have H := H1
    clear H1
    try simp only [errW_none, errW_some]
    by_cases c4 : 0 ≤ a1
    · rw [if_pos c4] at H
      have c4b0 := eq_true c4
      have c4b1 : decide (0 ≤ a1) = true := decide_eq_true c4
      clear c4
      obtain ⟨ji5, hji5⟩ : ∃ j_ : Int, (shl .i64 1 a1) = j_ := ⟨_, rfl⟩
      replace H : (if 0 ≤ (l0.length : Int) then (if ((l0.length : Int) : Int).toNat ≤ 35184372088832 then (poly_Vanish.l0 k l0 ji5 (List.replicate ((l0.length : Int) : Int).toNat 0) l0 (l0.length : Int) 0) else (none)) else (none)) = some (r1, r2) := by first | (rw [hji5] at H; exact H) | (simp only [hji5] at H ⊢; exact H)
      (try rw [hji5] at A3)
      have hji5_ : (IntKind.i64.wrap (1 * 2 ^ min a1.toNat 64)) = ji5 := hji5
      have hji5z : a1 ≤ 64 → (IntKind.i64.wrap (1 * 2 ^ a1.toNat)) = ji5 := shl_small hji5
      have hji5u : (IntKind.i64.wrap (2 ^ min a1.toNat 64)) = ji5 := by have h_ := hji5_; rw [Int.one_mul] at h_; exact h_
      have hji5v : a1 ≤ 64 → (IntKind.i64.wrap (2 ^ a1.toNat)) = ji5 := fun hle_ => by have h_ := hji5z hle_; rw [Int.one_mul] at h_; exact h_
      have hji5y : (wrap64 (1 * 2 ^ min a1.toNat 64)) = ji5 := (i64_w _).symm.trans hji5_
      have hji5x : a1 ≤ 64 → (wrap64 (1 * 2 ^ a1.toNat)) = ji5 := fun h_ => (i64_w _).symm.trans (hji5z h_)
      by_cases c6 : 0 ≤ (l0.length : Int)
      · rw [if_pos c6] at H
        have c6b0 := eq_true c6
        have c6b1 : decide (0 ≤ (l0.length : Int)) = true := decide_eq_true c6
        clear c6
        by_cases c7 : ((l0.length : Int) : Int).toNat ≤ 35184372088832
        · rw [if_pos c7] at H
          have c7b0 := eq_true c7
          have c7b1 : decide (((l0.length : Int) : Int).toNat ≤ 35184372088832) = true := decide_eq_true c7
          clear c7
          obtain ⟨y137, hy137⟩ : ∃ y_ : List Int, y_ = (List.replicate ((l0.length : Int) : Int).toNat 0) := ⟨_, rfl⟩
          replace H : (poly_Vanish.l0 k l0 ji5 y137 l0 (l0.length : Int) 0) = some (r1, r2) := by first | (rw [hy137]; with_reducible exact H) | (have H2_ := (Option.bind_some _ _).symm.trans H; rw [hy137]; with_reducible exact H2_) | (have H2_ := (Option.bind_some _ _).symm.trans H; with_reducible exact H2_) | with_reducible exact H | (rw [hy137]; exact H) | exact H
          have Ny137 := Aside0.mk hy137
          clear hy137
          have H' := Aside0.mk H
          clear H
          go_enter Try.func30, Try.ntmps30
          go_wp2_with (first | ((with_reducible refine gate_callee (f := 64) rfl ?_); refine goesL_ (some 16) rfl rfl Try.func64 (by kernel_rfl) rfl #[.int .i64 a1] rfl (by (try simp only [List.map_toArray, List.map_cons, List.map_nil]); first | done | rfl | (simp only [List.length_drop, List.length_take]; rfl)) ?_; (with_reducible refine (poly_Root.calls k a1 t134 none _ A3.out).mono ?_); rintro e w' ⟨rfl, ⟨nd, rfl⟩⟩; refine ⟨_, rfl, ?_⟩; (try simp only [errW_none, errW_some])) | ((with_reducible refine gate_dst (N := 26) rfl ?_); refine Kd.R_make (Kd.int .u64) _ 22 rfl (N := 26) rfl 30 _ _ rfl (l0.length : Int) rfl rfl Try.underlying30 (.int .u64 0) 8 info22 rfl (by decide) (by omega) 0 (ok := fun _ => True) (okp := fun _ => True) rfl (fun _ hk => hk) trivial (of_decide_eq_true (by first | (with_reducible assumption) | assumption)) (Nat.le_trans (Nat.mul_le_mul_right _ (of_decide_eq_true (by first | (with_reducible assumption) | assumption) : (l0.length : Int).toNat ≤ 35184372088832)) (by omega)) (Below.refl _ _) (Nat.le_refl _) ?_; intro v138 w8 ho9 hb hg_ hnew_; clear hg_ hnew_; (first | rw [← Ny137.out] at ho9 | (simp only [Int.reduceToNat] at ho9; rw [← Ny137.out] at ho9)); have n0_ := Aside0.mk (Kd.R_lower (Kd.R_newM (M := fun k_ => (w.heap.size ≤ k_)) ho9 (below_size (by repeat (first | (with_reducible first | exact HB.out | apply below_alloc | apply pw_below_drewN | apply below_drew1) | exact HB.out))) (fun k_ h_ => h_)) (below_size (by repeat (first | (with_reducible first | exact HB.out | apply below_alloc | apply pw_below_drewN | apply below_drew1) | exact HB.out)))); have n1_ := Aside0.mk (below_step (by repeat (first | (with_reducible first | exact HB.out | apply below_alloc | apply pw_below_drewN | apply below_drew1) | exact HB.out)) hb); clear HB; have HO139 := n0_; have HB := n1_; clear n0_ n1_; clear hb ho9))
          go_loopg [29] k (fun kq v29 w' => ∃ (x9_1 : List Int) (x29_1 : Int), v29 = .int .i64 x29_1 ∧ Aside0 (poly_Vanish.l0 kq l0 ji5 x9_1 l0 (l0.length : Int) x29_1 = some (r1, r2)) ∧ Aside0 (kq ≤ k) ∧ Aside0 (Kd.R (Kd.int .u64) 22 w' w.heap.size (fun k_ => (w.heap.size ≤ k_)) v138 x9_1) ∧ Aside0 (Below w.heap.size w w'))
          case atStart => exact ⟨(y137), (0), (by first | rfl | (simp; done) | (simp [*]; done)), H', ⟨Nat.le_refl _⟩, ⟨by (with_reducible repeat (first | apply Kd.R_alloc | apply Kd.R_drewN | apply Kd.R_drew)); exact Kd.R_mono HO139.out (fun _ hk => hk.1)⟩, ⟨by repeat (first | (with_reducible first | exact HB.out | apply below_alloc | apply pw_below_drewN | apply below_drew1) | exact HB.out)⟩⟩
          case round =>
            clear H'
            try clear q1
            try clear p2
            try clear c3
            try clear c4
            try clear c4b0
            try clear c4b1
            try clear c6
            try clear c6b0
            try clear c6b1
            try clear p6
            try clear c7
            try clear c7b0
            try clear c7b1
            try clear q136
            obtain ⟨x9_1, x29_1, rfl, HA, HK1, HO_9, HB⟩ := hrel
            cases gk with
            | zero => exact absurd HA.out (by simp [poly_Vanish.l0])
            | succ k1 =>
              have H := HA.out
              clear HA
              simp only [poly_Vanish.l0] at H
              by_cases c10 : x29_1 < (l0.length : Int)
              · rw [if_pos c10] at H
                have c10b0 : decide (x29_1 < (l0.length : Int)) = true := decide_eq_true c10
                clear c10
                by_cases c11 : 0 ≤ x29_1
                · rw [if_pos c11] at H
                  have c11b0 : decide (0 ≤ x29_1) = true := decide_eq_true c11
                  clear c11
                  by_cases c12 : x29_1 < (l0.length : Int)
                  · rw [if_pos c12] at H
                    have c12b0 : decide (x29_1 < (l0.length : Int)) = true := decide_eq_true c12
                    clear c12
                    by_cases c13 : x29_1 < (x9_1.length : Int)
                    · rw [if_pos c13] at H
                      have c13b0 : decide (x29_1 < (x9_1.length : Int)) = true := decide_eq_true c13
                      clear c13
                      obtain ⟨y141, hy141⟩ : ∃ y_ : List Int, y_ = (x9_1.set (x29_1 : Int).toNat (Int.tmod (rd l0 x29_1) 288230376287764481)) := ⟨_, rfl⟩
                      replace H : (poly_Vanish.l0 k1 l0 ji5 y141 l0 (l0.length : Int) (wrap64 (x29_1 + 1))) = some (r1, r2) := by first | (rw [hy141]; with_reducible exact H) | (have H2_ := (Option.bind_some _ _).symm.trans H; rw [hy141]; with_reducible exact H2_) | (have H2_ := (Option.bind_some _ _).symm.trans H; with_reducible exact H2_) | with_reducible exact H | (rw [hy141]; exact H) | exact H
                      have Ny141 := Aside0.mk hy141
                      clear hy141
                      have H' := Aside0.mk H
                      clear H
                      have p140 : 0 ≤ (x29_1 : Int) := of_decide_eq_true (by first | (with_reducible assumption) | assumption)
                      have q140 : x29_1 < (l0.length : Int) := of_decide_eq_true (by first | (with_reducible assumption) | assumption)
                      obtain ⟨ad140, e140, hx140_0⟩ := Kd.at_int HR0.out x29_1 p140 q140
                      cases e140
                      replace hx140_0 := (HB.out.cell (World.block_lt_of_cell? w _ hx140_0)).trans hx140_0
                      replace p140 := eq_true p140
                      replace q140 := eq_true q140
                      have p14 : 0 ≤ (x29_1 : Int) := of_decide_eq_true (by first | (with_reducible assumption) | assumption)
                      have q14 : (x29_1 : Int) < ((x9_1.length : Int) : Int) := of_decide_eq_true (by first | (with_reducible assumption) | assumption)
                      obtain ⟨go14, co14, eo14, gb14, gl14, cl14, HG14⟩ := Kd.R_form HO_9.out (by omega)
                      (first | cases eo14 | (injection eo14 with ea_ en_ ec_; (first | subst ea_ | (injection ea_ with ea_; subst ea_)); subst ec_; clear en_))
                      have GB14 := Aside0.mk gb14
                      have GG14 := Aside0.mk HG14
                      clear gb14 gl14 HG14
                      obtain ⟨hx14_0, hf14_0⟩ := Kd.R_celln 0 HO_9.out (x29_1 : Int) p14 q14
                      replace p14 := eq_true p14
                      replace q14 := eq_true q14
                      have HP15 := Kd.R_putg HO_9.out (x29_1 : Int) (Int.tmod (rd l0 x29_1) 288230376287764481)
                      go_wp2_with (first | ((with_reducible refine gate_store (t := 22) (p := 38) rfl ?_); (try (rw [drewN_self wr]; generalize hq_ : World.drewN wr _ = wr; have n0_ := Aside0.mk (Kd.R_at hq_ HO_9.out); have n1_ := Aside0.mk (below_at hq_ HB.out); clear hq_ HO_9 HB; have HO_9 := n0_; have HB := n1_; clear n0_ n1_; (try (have HP15 := Kd.R_putg HO_9.out (x29_1 : Int) (Int.tmod (rd l0 x29_1) 288230376287764481))))); refine store_event (t := 22) (p := 38) (v := ?vo_w16) (w1 := (wr.setCell ⟨go14, (x29_1 : Int).toNat, none⟩ (.int .u64 (Int.tmod (rd l0 x29_1) 288230376287764481)))) ?hg ?ho ?hn ?hr ?_; (case ho => rfl); (case hg => rfl); (case hn => rfl); (case hr => first | (go_simp; done) | (go_simp; rfl)); intro w16 hw; have hg : wr.grownBy w16 (some go14) := (by rw [hw]; exact HP15.2); have hp_ : Kd.R (Kd.int .u64) 22 w16 w.heap.size (fun k_ => (w.heap.size ≤ k_)) (.slice (some ⟨go14, 0, none⟩) x9_1.length co14) y141 := (by rw [hw, Ny141.out]; exact HP15.1); clear HP15; have n0_ := Aside0.mk (hp_); have n1_ := Aside0.mk ((by rw [hw]; exact below_set (HB.out) GB14.out : Below w.heap.size w w16)); clear HO_9; clear HB; have HO_9 := n0_; have HB := n1_; clear n0_ n1_; clear hg hw hp_))
                      go_roundg k1
                      case measure => have := HK1.out; omega
                      case rel => exact ⟨(y141), (wrap64 (x29_1 + 1)), (by first | rfl | (simp; done) | (simp [*]; done)), H', ⟨by have := HK1.out; omega⟩, ⟨by (with_reducible repeat (first | apply Kd.R_alloc | apply Kd.R_drewN | apply Kd.R_drew)); exact HO_9.out⟩, ⟨by repeat (first | (with_reducible first | exact HB.out | apply below_alloc | apply pw_below_drewN | apply below_drew1) | exact HB.out)⟩⟩
                    · rw [if_neg c13] at H
                      exact absurd H (by simp)
                  · rw [if_neg c12] at H
                    exact absurd H (by simp)
                · rw [if_neg c11] at H
                  exact absurd H (by simp)
              · rw [if_neg c10] at H
                have c10b0 : decide (x29_1 < (l0.length : Int)) = false := decide_eq_false c10
                clear c10
                obtain ⟨ji17, hji17⟩ : ∃ j_ : Int, (mx (wrap64 ((l0.length : Int) - ji5)) 0) = j_ := ⟨_, rfl⟩
                replace H : (if 0 ≤ (ji17) then (if (ji17 : Int).toNat ≤ 35184372088832 then (poly_Vanish.l1 k1 ji5 x9_1 (List.replicate (ji17 : Int).toNat 0) (wrap64 ((l0.length : Int) - 1))) else (none)) else (none)) = some (r1, r2) := by first | (rw [hji17] at H; exact H) | (simp only [hji17] at H ⊢; exact H)
                have hji17_ : (if (wrap64 ((l0.length : Int) - ji5)) < 0 then 0 else (wrap64 ((l0.length : Int) - ji5))) = ji17 := hji17
                by_cases c18 : 0 ≤ (ji17)
                · rw [if_pos c18] at H
                  have c18b0 := eq_true c18
                  have c18b1 : decide (0 ≤ (ji17)) = true := decide_eq_true c18
                  clear c18
                  by_cases c19 : (ji17 : Int).toNat ≤ 35184372088832
                  · rw [if_pos c19] at H
                    have c19b0 := eq_true c19
                    have c19b1 : decide ((ji17 : Int).toNat ≤ 35184372088832) = true := decide_eq_true c19
                    clear c19
                    obtain ⟨y142, hy142⟩ : ∃ y_ : List Int, y_ = (List.replicate (ji17 : Int).toNat 0) := ⟨_, rfl⟩
                    replace H : (poly_Vanish.l1 k1 ji5 x9_1 y142 (wrap64 ((l0.length : Int) - 1))) = some (r1, r2) := by first | (rw [hy142]; with_reducible exact H) | (have H2_ := (Option.bind_some _ _).symm.trans H; rw [hy142]; with_reducible exact H2_) | (have H2_ := (Option.bind_some _ _).symm.trans H; with_reducible exact H2_) | with_reducible exact H | (rw [hy142]; exact H) | exact H
                    have Ny142 := Aside0.mk hy142
                    clear hy142
                    have H' := Aside0.mk H
                    clear H
                    go_wp2_with (first | ((with_reducible refine gate_dst (N := 45) rfl ?_); refine Kd.R_make (Kd.int .u64) _ 22 rfl (N := 45) rfl 30 _ _ rfl ji17 rfl rfl Try.underlying30 (.int .u64 0) 8 info22 rfl (by decide) (by omega) 0 (ok := fun _ => True) (okp := fun _ => True) rfl (fun _ hk => hk) trivial (of_decide_eq_true (by first | (with_reducible assumption) | assumption)) (Nat.le_trans (Nat.mul_le_mul_right _ (of_decide_eq_true (by first | (with_reducible assumption) | assumption) : ji17.toNat ≤ 35184372088832)) (by omega)) (Below.refl _ _) (Nat.le_refl _) ?_; intro v143 w20 ho21 hb hg_ hnew_; clear hg_ hnew_; (first | rw [← Ny142.out] at ho21 | (simp only [Int.reduceToNat] at ho21; rw [← Ny142.out] at ho21)); have n0_ := Aside0.mk (Kd.R_elder' (by (with_reducible repeat (first | apply Kd.R_alloc | apply Kd.R_drewN | apply Kd.R_drew)); exact HO_9.out) (Kd.R_base ho21) hb); have n1_ := Aside0.mk (Kd.R_lower (Kd.R_new' (Kd.R_newM (M := fun k_ => (w.heap.size ≤ k_)) ho21 (below_size (by repeat (first | (with_reducible first | exact HB.out | apply below_alloc | apply pw_below_drewN | apply below_drew1) | exact HB.out))) (fun k_ h_ => h_)) (Kd.R_lt (by (with_reducible repeat (first | apply Kd.R_alloc | apply Kd.R_drewN | apply Kd.R_drew)); exact HO_9.out))) (below_size (by repeat (first | (with_reducible first | exact HB.out | apply below_alloc | apply pw_below_drewN | apply below_drew1) | exact HB.out)))); have n2_ := Aside0.mk (below_step (by repeat (first | (with_reducible first | exact HB.out | apply below_alloc | apply pw_below_drewN | apply below_drew1) | exact HB.out)) hb); clear HO_9; clear HB; have HO_9 := n0_; have HO144 := n1_; have HB := n2_; clear n0_ n1_ n2_; clear hb ho21))
                    go_loopg [13] k1 (fun kq v13 w' => ∃ (x9_2 : List Int) (x12_2 : List Int) (x13_2 : Int), v13 = .int .i64 x13_2 ∧ Aside0 (poly_Vanish.l1 kq ji5 x9_2 x12_2 x13_2 = some (r1, r2)) ∧ Aside0 (kq ≤ k1) ∧ Aside0 (Kd.R (Kd.int .u64) 22 w' w.heap.size (fun k_ => (w.heap.size ≤ k_) ∧ some k_ ≠ (v143 : Value).ownBlock) v138 x9_2) ∧ Aside0 (Kd.R (Kd.int .u64) 22 w' w.heap.size (fun k_ => (w.heap.size ≤ k_) ∧ some k_ ≠ (v138 : Value).ownBlock) v143 x12_2) ∧ Aside0 (Below w.heap.size w w'))
                    case atStart => exact ⟨(x9_1), (y142), (wrap64 ((l0.length : Int) - 1)), (by first | rfl | (simp; done) | (simp [*]; done)), H', ⟨Nat.le_refl _⟩, ⟨by (with_reducible repeat (first | apply Kd.R_alloc | apply Kd.R_drewN | apply Kd.R_drew)); exact HO_9.out⟩, ⟨by (with_reducible repeat (first | apply Kd.R_alloc | apply Kd.R_drewN | apply Kd.R_drew)); exact Kd.R_mono HO144.out (fun _ hk => ⟨hk.1.1, hk.2⟩)⟩, ⟨by repeat (first | (with_reducible first | exact HB.out | apply below_alloc | apply pw_below_drewN | apply below_drew1) | exact HB.out)⟩⟩
                    case round =>
                      clear H'
                      try clear c1
                      try clear p1
                      try clear q1
                      try clear hx1
                      try clear p2
                      try clear c3
                      try clear c4
                      try clear c4b0
                      try clear c4b1
                      try clear c6
                      try clear c6b0
                      try clear c6b1
                      try clear p6
                      try clear c7
                      try clear c7b0
                      try clear c7b1
                      try clear c10
                      try clear c10b0
                      try clear c11
                      try clear c11b0
                      try clear c12
                      try clear c12b0
                      try clear c13
                      try clear c13b0
                      try clear q13
                      try clear p14
                      try clear q14
                      try clear hx14
                      try clear hf14
                      try clear c18
                      try clear c18b0
                      try clear c18b1
                      try clear c19
                      try clear c19b0
                      try clear c19b1
                      try clear hx140_0
                      try clear hx14_0
                      try clear p14
                      try clear p140
                      try clear p2
                      try clear p6
                      try clear q1
                      try clear q136
                      try clear q14
                      try clear q140
                      obtain ⟨x9_2, x12_2, x13_2, rfl, HA, HK2, HO_9, HO_12, HB⟩ := hrel
                      cases gk with
                      | zero => exact absurd HA.out (by simp [poly_Vanish.l1])
                      | succ k2 =>
                        have H := HA.out
                        clear HA
                        simp only [poly_Vanish.l1] at H
                        by_cases c22 : x13_2 ≥ ji5
                        · rw [if_pos c22] at H
                          have c22b0 : decide (ji5 ≤ x13_2) = true := decide_eq_true c22
                          clear c22
                          by_cases c23 : 0 ≤ x13_2
                          · rw [if_pos c23] at H
                            have c23b0 : decide (0 ≤ x13_2) = true := decide_eq_true c23
                            clear c23
                            by_cases c24 : x13_2 < (x9_2.length : Int)
                            · rw [if_pos c24] at H
                              have c24b0 : decide (x13_2 < (x9_2.length : Int)) = true := decide_eq_true c24
                              clear c24
                              obtain ⟨ji25, hji25⟩ : ∃ j_ : Int, (wrap64 (x13_2 - ji5)) = j_ := ⟨_, rfl⟩
                              replace H : (if 0 ≤ (ji25) then (if (ji25) < (x12_2.length : Int) then (if (ji25) < (x9_2.length : Int) then ((modular_Add.f 288230376287764481 (rd x9_2 (ji25)) (rd x9_2 x13_2)).bind fun t149 => (poly_Vanish.l1 k2 ji5 ((x9_2.set ((ji25) : Int).toNat t149).set (x13_2 : Int).toNat 0) (x12_2.set ((ji25) : Int).toNat (rd x9_2 x13_2)) (wrap64 (x13_2 - 1)))) else (none)) else (none)) else (none)) = some (r1, r2) := by first | (rw [hji25] at H; exact H) | (simp only [hji25] at H ⊢; exact H)
                              have hji25w : (IntKind.i64.wrap (x13_2 - ji5)) = ji25 := (i64_w _).trans hji25
                              by_cases c26 : 0 ≤ (ji25)
                              · rw [if_pos c26] at H
                                have c26b0 : decide (0 ≤ (ji25)) = true := decide_eq_true c26
                                clear c26
                                by_cases c27 : (ji25) < (x12_2.length : Int)
                                · rw [if_pos c27] at H
                                  have c27b0 : decide ((ji25) < (x12_2.length : Int)) = true := decide_eq_true c27
                                  clear c27
                                  obtain ⟨y146, hy146⟩ : ∃ y_ : List Int, y_ = (x12_2.set ((ji25) : Int).toNat (rd x9_2 x13_2)) := ⟨_, rfl⟩
                                  replace H : (if (ji25) < (x9_2.length : Int) then ((modular_Add.f 288230376287764481 (rd x9_2 (ji25)) (rd x9_2 x13_2)).bind fun t149 => (poly_Vanish.l1 k2 ji5 ((x9_2.set ((ji25) : Int).toNat t149).set (x13_2 : Int).toNat 0) y146 (wrap64 (x13_2 - 1)))) else (none)) = some (r1, r2) := by first | (rw [hy146]; with_reducible exact H) | (have H2_ := (Option.bind_some _ _).symm.trans H; rw [hy146]; with_reducible exact H2_) | (have H2_ := (Option.bind_some _ _).symm.trans H; with_reducible exact H2_) | with_reducible exact H | (rw [hy146]; exact H) | exact H
                                  have Ny146 := Aside0.mk hy146
                                  clear hy146
                                  by_cases c29 : (ji25) < (x9_2.length : Int)
                                  · rw [if_pos c29] at H
                                    have c29b0 : decide ((ji25) < (x9_2.length : Int)) = true := decide_eq_true c29
                                    clear c29
                                    replace H := Option.bind_eq_some_iff.mp H
                                    obtain ⟨t149, A300, H⟩ := H
                                    replace H : (poly_Vanish.l1 k2 ji5 ((x9_2.set ((ji25) : Int).toNat t149).set (x13_2 : Int).toNat 0) y146 (wrap64 (x13_2 - 1))) = some (r1, r2) := H
                                    have A30 := Aside0.mk A300
                                    clear A300
                                    obtain ⟨y150, hy150⟩ : ∃ y_ : List Int, y_ = (x9_2.set ((ji25) : Int).toNat t149) := ⟨_, rfl⟩
                                    replace H : (poly_Vanish.l1 k2 ji5 (y150.set (x13_2 : Int).toNat 0) y146 (wrap64 (x13_2 - 1))) = some (r1, r2) := by first | (rw [hy150]; with_reducible exact H) | (have H2_ := (Option.bind_some _ _).symm.trans H; rw [hy150]; with_reducible exact H2_) | (have H2_ := (Option.bind_some _ _).symm.trans H; with_reducible exact H2_) | with_reducible exact H | (rw [hy150]; exact H) | exact H
                                    have Ny150 := Aside0.mk hy150
                                    clear hy150
                                    obtain ⟨y151, hy151⟩ : ∃ y_ : List Int, y_ = (y150.set (x13_2 : Int).toNat 0) := ⟨_, rfl⟩
                                    replace H : (poly_Vanish.l1 k2 ji5 y151 y146 (wrap64 (x13_2 - 1))) = some (r1, r2) := by first | (rw [hy151]; with_reducible exact H) | (have H2_ := (Option.bind_some _ _).symm.trans H; rw [hy151]; with_reducible exact H2_) | (have H2_ := (Option.bind_some _ _).symm.trans H; with_reducible exact H2_) | with_reducible exact H | (rw [hy151]; exact H) | exact H
                                    have Ny151 := Aside0.mk hy151
                                    clear hy151
                                    have H' := Aside0.mk H
                                    clear H
                                    obtain ⟨Ao33, co33, eo33⟩ := Kd.R_slice HO_9.out
                                    subst eo33
                                    have p145 : 0 ≤ (x13_2 : Int) := of_decide_eq_true (by first | (with_reducible assumption) | assumption)
                                    have q145 : x13_2 < (x9_2.length : Int) := of_decide_eq_true (by first | (with_reducible assumption) | assumption)
                                    obtain ⟨ad145, e145, hx145_0⟩ := Kd.at_int (Kd.R_reads' HO_9.out).2.2 x13_2 p145 q145
                                    cases e145
                                    replace p145 := eq_true p145
                                    replace q145 := eq_true q145
                                    have p28 : 0 ≤ ((ji25) : Int) := of_decide_eq_true (by first | (with_reducible assumption) | assumption)
                                    have q28 : ((ji25) : Int) < ((x12_2.length : Int) : Int) := of_decide_eq_true (by first | (with_reducible assumption) | assumption)
                                    obtain ⟨go28, co28, eo28, gb28, gl28, cl28, HG28⟩ := Kd.R_form HO_12.out (by omega)
                                    (first | cases eo28 | (injection eo28 with ea_ en_ ec_; (first | subst ea_ | (injection ea_ with ea_; subst ea_)); subst ec_; clear en_))
                                    have GB28 := Aside0.mk gb28
                                    have GG28 := Aside0.mk HG28
                                    clear gb28 gl28 HG28
                                    obtain ⟨hx28_0, hf28_0⟩ := Kd.R_celln 0 HO_12.out ((ji25) : Int) p28 q28
                                    replace p28 := eq_true p28
                                    replace q28 := eq_true q28
                                    have HP34 := Kd.R_putg HO_12.out ((ji25) : Int) (rd x9_2 x13_2)
                                    try go_wp2_with (first | ((with_reducible refine gate_store (t := 22) (p := 62) rfl ?_); (try (rw [drewN_self wr]; generalize hq_ : World.drewN wr _ = wr; have n0_ := Aside0.mk (Kd.R_at hq_ HO_9.out); have n1_ := Aside0.mk (Kd.R_at hq_ HO_12.out); have n2_ := Aside0.mk (below_at hq_ HB.out); clear hq_ HO_9 HO_12 HB; have HO_9 := n0_; have HO_12 := n1_; have HB := n2_; clear n0_ n1_ n2_; (try (have HP34 := Kd.R_putg HO_12.out ((ji25) : Int) (rd x9_2 x13_2))))); refine store_event (t := 22) (p := 62) (v := ?vo_w35) (w1 := (wr.setCell ⟨go28, ((ji25) : Int).toNat, none⟩ (.int .u64 (rd x9_2 x13_2)))) ?hg ?ho ?hn ?hr ?_; (case ho => rfl); (case hg => rfl); (case hn => rfl); (case hr => first | (go_simp; done) | (go_simp; rfl)); intro w35 hw; have hg : wr.grownBy w35 (some go28) := (by rw [hw]; exact HP34.2); have hp_ : Kd.R (Kd.int .u64) 22 w35 w.heap.size (fun k_ => (w.heap.size ≤ k_) ∧ some k_ ≠ (.slice (some ad145) x9_2.length co33 : Value).ownBlock) (.slice (some ⟨go28, 0, none⟩) x12_2.length co28) y146 := (by rw [hw, Ny146.out]; exact HP34.1); clear HP34; have n0_ := Aside0.mk (Kd.R_after (v := (.slice (some ⟨go28, 0, none⟩) x12_2.length co28)) (v1 := (.slice (some ⟨go28, 0, none⟩) x12_2.length co28)) (ok := (fun k_ => (w.heap.size ≤ k_))) (by (with_reducible repeat (first | apply Kd.R_alloc | apply Kd.R_drewN | apply Kd.R_drew)); exact HO_9.out) hg (.inl rfl)); have n1_ := Aside0.mk (hp_); have n2_ := Aside0.mk ((by rw [hw]; exact below_set (HB.out) GB28.out : Below w.heap.size w w35)); clear HO_9; clear HO_12; clear HB; have HO_9 := n0_; have HO_12 := n1_; have HB := n2_; clear n0_ n1_ n2_; clear hg hw hp_))
                                    have n0_ := Aside0.mk (Kd.R_drew HO_9.out)
                                    have n1_ := Aside0.mk (Kd.R_drew HO_12.out)
                                    have n2_ := Aside0.mk (below_drew1 HB.out)
                                    clear HO_9
                                    clear HO_12
                                    clear HB
                                    have HO_9 := n0_
                                    have HO_12 := n1_
                                    have HB := n2_
                                    clear n0_ n1_ n2_
                                    have p147 : 0 ≤ ((ji25) : Int) := of_decide_eq_true (by first | (with_reducible assumption) | assumption)
                                    have q147 : (ji25) < (x9_2.length : Int) := of_decide_eq_true (by first | (with_reducible assumption) | assumption)
                                    obtain ⟨ad147, e147, hx147_0⟩ := Kd.at_int (Kd.R_reads' HO_9.out).2.2 (ji25) p147 q147
                                    obtain rfl : ad145 = ad147 := (by injection e147)
                                    replace p147 := eq_true p147
                                    replace q147 := eq_true q147
                                    have p148 : 0 ≤ (x13_2 : Int) := of_decide_eq_true (by first | (with_reducible assumption) | assumption)
                                    have q148 : x13_2 < (x9_2.length : Int) := of_decide_eq_true (by first | (with_reducible assumption) | assumption)
                                    obtain ⟨ad148, e148, hx148_0⟩ := Kd.at_int (Kd.R_reads' HO_9.out).2.2 x13_2 p148 q148
                                    obtain rfl : ad145 = ad148 := (by injection e148)
                                    replace p148 := eq_true p148
                                    replace q148 := eq_true q148
                                    refine start_ (n := 17) (S := fun w' => w'.cell? (ad145.add ((ji25)).toNat) = some (.int .u64 (rd x9_2 (ji25))) ∧ w'.cell? (ad145.add (x13_2).toNat) = some (.int .u64 (rd x9_2 x13_2))) (ds := [16]) #[false, false, false, false, false, false, false, false, false, false, false, false, false, false, false, false, false] (by kernel_rfl) rfl rfl ⟨hx147_0, hx148_0⟩ (fun hHeld => ?_); refine with_tabW poly_Vanish.tab16 poly_Vanish.bits16 (fun HT_ HW_ => ?_)
                                    generalize w35.drew = w36 at HO_9 HO_12 HB hx147_0 hx148_0 hHeld ⊢
                                    refine pure_ (i := 0) (N := some 63) (v := ?_) (a' := ?_) #[true, false, false, false, false, false, false, false, false, false, false, false, false, false, false, false, false] rfl rfl (any_of HT_.out (by kernel_rfl)) (fun _ _ _ h => h) (Or.inl ⟨by rfl, ?_⟩) ?_ ?_
                                    rotate_left
                                    · intro w'
                                      go_simp
                                      with_reducible rfl
                                    rotate_left
                                    · simp only [Act.put, List.setIfInBounds_toArray, List.set_cons_zero, List.set_cons_succ, i64_w, i32_w]
                                      rfl
                                    refine pure_ (i := 1) (N := some 64) (v := ?_) (a' := ?_) #[true, true, false, false, false, false, false, false, false, false, false, false, false, false, false, false, false] rfl rfl (any_of HT_.out (by kernel_rfl)) (fun _ _ _ h => h) (Or.inl ⟨by rfl, ?_⟩) ?_ ?_
                                    rotate_left
                                    · intro w'
                                      go_simp
                                      with_reducible rfl
                                    rotate_left
                                    · simp only [Act.put, List.setIfInBounds_toArray, List.set_cons_zero, List.set_cons_succ, i64_w, i32_w]
                                      rfl
                                    refine pure_ (i := 2) (N := some 65) (v := ?_) (a' := ?_) #[true, true, true, false, false, false, false, false, false, false, false, false, false, false, false, false, false] rfl rfl (any_of HT_.out (by kernel_rfl)) (fun _ _ _ h => h) (Or.inl ⟨by rfl, ?_⟩) ?_ ?_
                                    rotate_left
                                    · intro w'
                                      go_simp
                                      with_reducible rfl
                                    rotate_left
                                    · simp only [Act.put, List.setIfInBounds_toArray, List.set_cons_zero, List.set_cons_succ, i64_w, i32_w]
                                      rfl
                                    refine pure_ (i := 3) (N := some 66) (v := ?_) (a' := ?_) #[true, true, true, true, false, false, false, false, false, false, false, false, false, false, false, false, false] rfl rfl (any_of HT_.out (by kernel_rfl)) (fun _ _ _ h => h) (Or.inl ⟨by rfl, ?_⟩) ?_ ?_
                                    rotate_left
                                    · intro w'
                                      go_simp
                                      with_reducible rfl
                                    rotate_left
                                    · simp only [Act.put, List.setIfInBounds_toArray, List.set_cons_zero, List.set_cons_succ, i64_w, i32_w]
                                      rfl
                                    refine pure_ (i := 4) (N := some 67) (v := ?_) (a' := ?_) #[true, true, true, true, true, false, false, false, false, false, false, false, false, false, false, false, false] rfl rfl (any_of HT_.out (by kernel_rfl)) (fun _ _ _ h => h) (Or.inl ⟨by rfl, ?_⟩) ?_ ?_
                                    rotate_left
                                    · intro w'
                                      go_simp
                                      with_reducible rfl
                                    rotate_left
                                    · simp only [Act.put, List.setIfInBounds_toArray, List.set_cons_zero, List.set_cons_succ, i64_w, i32_w]
                                      rfl
                                    refine pure_ (i := 5) (N := some 68) (v := ?_) (a' := ?_) #[true, true, true, true, true, true, false, false, false, false, false, false, false, false, false, false, false] rfl rfl (any_of HT_.out (by kernel_rfl)) (fun _ _ _ h => h) (Or.inl ⟨by rfl, ?_⟩) ?_ ?_
                                    rotate_left
                                    · intro w'
                                      go_simp
                                      with_reducible rfl
                                    rotate_left
                                    · simp only [Act.put, List.setIfInBounds_toArray, List.set_cons_zero, List.set_cons_succ, i64_w, i32_w]
                                      rfl
                                    refine pure_ (i := 6) (N := some 69) (v := ?_) (a' := ?_) #[true, true, true, true, true, true, true, false, false, false, false, false, false, false, false, false, false] rfl rfl (any_of HT_.out (by kernel_rfl)) (fun _ _ _ h => h) (Or.inl ⟨by rfl, ?_⟩) ?_ ?_
                                    rotate_left
                                    · intro w'
                                      go_simp
                                      with_reducible rfl
                                    rotate_left
                                    · simp only [Act.put, List.setIfInBounds_toArray, List.set_cons_zero, List.set_cons_succ, i64_w, i32_w]
                                      rfl
                                    refine pure_ (i := 7) (N := some 70) (v := ?_) (a' := ?_) #[true, true, true, true, true, true, true, true, false, false, false, false, false, false, false, false, false] rfl rfl (any_of HT_.out (by kernel_rfl)) (fun _ _ _ h => h) (Or.inl ⟨by rfl, ?_⟩) ?_ ?_
                                    rotate_left
                                    · intro w'
                                      go_simp
                                      with_reducible rfl
                                    rotate_left
                                    · simp only [Act.put, List.setIfInBounds_toArray, List.set_cons_zero, List.set_cons_succ, i64_w, i32_w]
                                      rfl
                                    refine pure_ (i := 8) (N := some 71) (v := ?_) (a' := ?_) #[true, true, true, true, true, true, true, true, true, false, false, false, false, false, false, false, false] rfl rfl (any_of HT_.out (by kernel_rfl)) (fun _ _ _ h => h) (Or.inl ⟨by rfl, ?_⟩) ?_ ?_
                                    rotate_left
                                    · intro w'
                                      go_simp
                                      with_reducible rfl
                                    rotate_left
                                    · simp only [Act.put, List.setIfInBounds_toArray, List.set_cons_zero, List.set_cons_succ, i64_w, i32_w]
                                      rfl
                                    refine pure_ (i := 10) (N := some 73) (v := ?_) (a' := ?_) #[true, true, true, true, true, true, true, true, true, false, true, false, false, false, false, false, false] rfl rfl (any_of HT_.out (by kernel_rfl)) (fun _ _ _ h => h) (Or.inl ⟨by rfl, ?_⟩) ?_ ?_
                                    rotate_left
                                    · intro w'
                                      go_simp
                                      with_reducible rfl
                                    rotate_left
                                    · simp only [Act.put, List.setIfInBounds_toArray, List.set_cons_zero, List.set_cons_succ, i64_w, i32_w]
                                      rfl
                                    refine pure_ (i := 11) (N := some 74) (v := ?_) (a' := ?_) #[true, true, true, true, true, true, true, true, true, false, true, true, false, false, false, false, false] rfl rfl (any_of HT_.out (by kernel_rfl)) (fun _ _ _ h => h) (Or.inl ⟨by rfl, ?_⟩) ?_ ?_
                                    rotate_left
                                    · intro w'
                                      go_simp
                                      with_reducible rfl
                                    rotate_left
                                    · simp only [Act.put, List.setIfInBounds_toArray, List.set_cons_zero, List.set_cons_succ, i64_w, i32_w]
                                      rfl
                                    refine pure_ (i := 12) (N := some 75) (v := ?_) (a' := ?_) #[true, true, true, true, true, true, true, true, true, false, true, true, true, false, false, false, false] rfl rfl (any_of HT_.out (by kernel_rfl)) (fun _ _ _ h => h) (Or.inl ⟨by rfl, ?_⟩) ?_ ?_
                                    rotate_left
                                    · intro w'
                                      go_simp
                                      with_reducible rfl
                                    rotate_left
                                    · simp only [Act.put, List.setIfInBounds_toArray, List.set_cons_zero, List.set_cons_succ, i64_w, i32_w]
                                      rfl
                                    refine take_ (i := 9) (N := some 72) (v := ?_) (a' := ?_) #[true, true, true, true, true, true, true, true, true, true, true, true, true, false, false, false, false] rfl rfl (take_ofW HT_.out HW_.out (by kernel_rfl)) (fun _ _ _ h => h) (Or.inl ⟨by rfl, ?_⟩) hHeld ?_ ?_
                                    rotate_left
                                    · rintro w' ⟨s0, s1⟩
                                      go_simp
                                      with_reducible rfl
                                    rotate_left
                                    · simp only [Act.put, List.setIfInBounds_toArray, List.set_cons_zero, List.set_cons_succ, i64_w, i32_w]
                                      rfl
                                    refine take_ (i := 13) (N := some 76) (v := ?_) (a' := ?_) #[true, true, true, true, true, true, true, true, true, true, true, true, true, true, false, false, false] rfl rfl (take_ofW HT_.out HW_.out (by kernel_rfl)) (fun _ _ _ h => h) (Or.inl ⟨by rfl, ?_⟩) hHeld ?_ ?_
                                    rotate_left
                                    · rintro w' ⟨s0, s1⟩
                                      go_simp
                                      with_reducible rfl
                                    rotate_left
                                    · simp only [Act.put, List.setIfInBounds_toArray, List.set_cons_zero, List.set_cons_succ, i64_w, i32_w]
                                      rfl
                                    refine one_ (i := 14) (N := some 77) #[true, true, true, true, true, true, true, true, true, true, true, true, true, true, true, false, false] rfl rfl (one_of HT_.out (by kernel_rfl)) (by decide) (fun K hK => ?_)
                                    refine goes_ Try.func51 (by kernel_rfl) rfl #[.int .u64 288230376287764481, .int .u64 (rd x9_2 (ji25)), .int .u64 (rd x9_2 x13_2)] (by rfl) rfl rfl (by (try simp only [List.map_toArray, List.map_cons, List.map_nil]); first | done | (simp only [hji25]; rfl) | rfl | (simp only [List.length_drop, List.length_take]; rfl)) ?_
                                    with_reducible refine (modular_Add.calls 288230376287764481 (rd x9_2 (ji25)) (rd x9_2 x13_2) t149 _ A30.out).mono ?_
                                    rintro e w' ⟨rfl, ⟨nd, rfl⟩⟩
                                    refine ⟨_, rfl, ?_⟩
                                    have p31 : 0 ≤ ((ji25) : Int) := of_decide_eq_true (by first | (with_reducible assumption) | assumption)
                                    have q31 : ((ji25) : Int) < ((x9_2.length : Int) : Int) := of_decide_eq_true (by first | (with_reducible assumption) | assumption)
                                    obtain ⟨go31, co31, eo31, gb31, gl31, cl31, HG31⟩ := Kd.R_form HO_9.out (by omega)
                                    (first | cases eo31 | (injection eo31 with ea_ en_ ec_; (first | subst ea_ | (injection ea_ with ea_; subst ea_)); subst ec_; clear en_))
                                    have GB31 := Aside0.mk gb31
                                    have GG31 := Aside0.mk HG31
                                    clear gb31 gl31 HG31
                                    (first | simp only [add_plain] at hx145_0 | skip)
                                    (first | simp only [add_plain] at hx147_0 | skip)
                                    (first | simp only [add_plain] at hx148_0 | skip)
                                    obtain ⟨hx31_0, hf31_0⟩ := Kd.R_celln 0 HO_9.out ((ji25) : Int) p31 q31
                                    replace p31 := eq_true p31
                                    replace q31 := eq_true q31
                                    have HP37 := Kd.R_putn HO_9.out ((ji25) : Int) t149
                                    rw [← Ny150.out] at HP37
                                    have HQ37 := Aside0.mk HP37
                                    clear HP37
                                    refine hK.out _ _ ⟨hHeld.1, hHeld.2⟩ (fun hHeld => ?_)
                                    clear hK K
                                    refine norm_ (a' := ?_) ?_ ?_
                                    rotate_left
                                    · show Act.put _ (some 77) _ = _
                                      simp only [Act.put, List.setIfInBounds_toArray, List.set_cons_zero, List.set_cons_succ, i64_w, i32_w]
                                      rfl
                                    refine pure_ (i := 15) (N := some 78) (v := ?_) (a' := ?_) #[true, true, true, true, true, true, true, true, true, true, true, true, true, true, true, true, false] rfl rfl (any_of HT_.out (by kernel_rfl)) (fun _ _ _ h => h) (Or.inl ⟨by rfl, ?_⟩) ?_ ?_
                                    rotate_left
                                    · intro w'
                                      go_simp
                                      with_reducible rfl
                                    rotate_left
                                    · simp only [Act.put, List.setIfInBounds_toArray, List.set_cons_zero, List.set_cons_succ, i64_w, i32_w]
                                      rfl
                                    refine last_ (i := 16) (N := none) #[true, true, true, true, true, true, true, true, true, true, true, true, true, true, true, true, true] rfl rfl (one_of HT_.out (by kernel_rfl)) (by decide) (fun K hK => ?_)
                                    refine skip_ (w1 := ?_) (by rfl) rfl ?_ ?_
                                    rotate_left
                                    · first
                                      | (go_simp; simp only [setCell_drewN_]; rfl; done)
                                      | (go_simp; rfl; done)
                                      | (simp only [setCell_drewN_]; go_simp; rfl)
                                    refine hK.out _ _ ?_
                                    clear hK K
                                    refine done_ (done_of HT_.out (by kernel_rfl)) ?_
                                    have n0_ : Aside0 (Kd.R (Kd.int .u64) 22 (w36.setCell ⟨go31, ((ji25) : Int).toNat, none⟩ (.int .u64 t149)) w.heap.size (fun k_ => (w.heap.size ≤ k_) ∧ some k_ ≠ (.slice (some ⟨go28, 0, none⟩) x12_2.length co28 : Value).ownBlock) (.slice (some ⟨go31, 0, none⟩) x9_2.length co33) y150) := ⟨by (with_reducible repeat (first | apply Kd.R_alloc | apply Kd.R_drewN | apply Kd.R_drew)); exact HQ37.out⟩
                                    have n1_ : Aside0 (Kd.R (Kd.int .u64) 22 (w36.setCell ⟨go31, ((ji25) : Int).toNat, none⟩ (.int .u64 t149)) w.heap.size (fun k_ => (w.heap.size ≤ k_) ∧ some k_ ≠ (.slice (some ⟨go31, 0, none⟩) x9_2.length co33 : Value).ownBlock) (.slice (some ⟨go28, 0, none⟩) x12_2.length co28) y146) := ⟨by (with_reducible repeat (first | apply Kd.R_alloc | apply Kd.R_drewN | apply Kd.R_drew)); exact Kd.R_mono (Kd.R_far (p := ⟨go31, ((ji25) : Int).toNat, none⟩) (Kd.R_mono HO_12.out (fun k_ hk => (⟨hk, fun e_ => hk.2 (by rw [e_]; rfl)⟩ : _ ∧ k_ ≠ go31))) (fun _ hk => hk.2) (.int .u64 t149)) (fun _ hk => ⟨hk.1.1, hk.1.2⟩)⟩
                                    have n2_ : Aside0 (Below w.heap.size w (w36.setCell ⟨go31, ((ji25) : Int).toNat, none⟩ (.int .u64 t149))) := ⟨by repeat (first | (with_reducible first | exact HB.out | apply below_alloc | apply pw_below_drewN | apply below_drew1 | refine below_set ?_ GB31.out) | exact HB.out)⟩
                                    (try clear HO_9)
                                    (try clear HO_12)
                                    (try clear HB)
                                    generalize (w36.setCell ⟨go31, ((ji25) : Int).toNat, none⟩ (.int .u64 t149)) = w38 at n0_ n1_ n2_ ⊢
                                    have HO_9 := n0_
                                    have HO_12 := n1_
                                    have HB := n2_
                                    clear n0_ n1_ n2_
                                    have p32 : 0 ≤ (x13_2 : Int) := of_decide_eq_true (by first | (with_reducible assumption) | assumption)
                                    have q32 : (x13_2 : Int) < ((x9_2.length : Int) : Int) := of_decide_eq_true (by first | (with_reducible assumption) | assumption)
                                    obtain ⟨hx32_0, hf32_0⟩ := Kd.R_celln 0 HO_9.out (x13_2 : Int) p32 q32
                                    replace p32 := eq_true p32
                                    replace q32 := eq_true q32
                                    obtain ⟨hy39_, hz39_⟩ := Kd.R_celln 0 HO_9.out (x13_2 : Int) (of_decide_eq_true (by first | (with_reducible assumption) | assumption)) (of_decide_eq_true (by first | (with_reducible assumption) | assumption))
                                    have HP39 := Kd.R_putg HO_9.out (x13_2 : Int) 0
                                    try go_wp2_with (first | ((with_reducible refine gate_store (t := 22) (p := 81) rfl ?_); (try (rw [drewN_self w38]; generalize hq_ : World.drewN w38 _ = w38; have n0_ := Aside0.mk (Kd.R_at hq_ HO_9.out); have n1_ := Aside0.mk (Kd.R_at hq_ HO_12.out); have n2_ := Aside0.mk (below_at hq_ HB.out); clear hq_ HO_9 HO_12 HB; have HO_9 := n0_; have HO_12 := n1_; have HB := n2_; clear n0_ n1_ n2_; (try (obtain ⟨hy39_, hz39_⟩ := Kd.R_celln 0 HO_9.out (x13_2 : Int) (of_decide_eq_true (by first | (with_reducible assumption) | assumption)) (of_decide_eq_true (by first | (with_reducible assumption) | assumption)))); (try (have HP39 := Kd.R_putg HO_9.out (x13_2 : Int) 0)))); refine store_event (t := 22) (p := 81) (v := ?vo_w40) (w1 := (w38.setCell ⟨go31, (x13_2 : Int).toNat, none⟩ (.int .u64 0))) ?hg ?ho ?hn ?hr ?_; (case ho => rfl); (case hg => rfl); (case hn => rfl); (case hr => first | (go_simp; done) | (go_simp; rfl)); intro w40 hw; have hg : w38.grownBy w40 (some go31) := (by rw [hw]; exact HP39.2); have hp_ : Kd.R (Kd.int .u64) 22 w40 w.heap.size (fun k_ => (w.heap.size ≤ k_) ∧ some k_ ≠ (.slice (some ⟨go28, 0, none⟩) x12_2.length co28 : Value).ownBlock) (.slice (some ⟨go31, 0, none⟩) x9_2.length co33) y151 := (by rw [hw, Ny151.out]; exact HP39.1); clear HP39; have n0_ := Aside0.mk (hp_); have n1_ := Aside0.mk (Kd.R_after (v := (.slice (some ⟨go31, 0, none⟩) x9_2.length co33)) (v1 := (.slice (some ⟨go31, 0, none⟩) x9_2.length co33)) (ok := (fun k_ => (w.heap.size ≤ k_))) (by (with_reducible repeat (first | apply Kd.R_alloc | apply Kd.R_drewN | apply Kd.R_drew)); exact HO_12.out) hg (.inl rfl)); have n2_ := Aside0.mk ((by rw [hw]; exact below_set (HB.out) GB31.out : Below w.heap.size w w40)); clear HO_9; clear HO_12; clear HB; have HO_9 := n0_; have HO_12 := n1_; have HB := n2_; clear n0_ n1_ n2_; clear hg hw hp_))
                                    go_roundg k2
                                    case measure => have := HK1.out; have := HK2.out; omega
                                    case rel => exact ⟨(y151), (y146), (wrap64 (x13_2 - 1)), (by first | rfl | (simp; done) | (simp [*]; done)), H', ⟨by have := HK1.out; have := HK2.out; omega⟩, ⟨by (with_reducible repeat (first | apply Kd.R_alloc | apply Kd.R_drewN | apply Kd.R_drew)); exact HO_9.out⟩, ⟨by (with_reducible repeat (first | apply Kd.R_alloc | apply Kd.R_drewN | apply Kd.R_drew)); exact HO_12.out⟩, ⟨by repeat (first | (with_reducible first | exact HB.out | apply below_alloc | apply pw_below_drewN | apply below_drew1) | exact HB.out)⟩⟩
                                  · rw [if_neg c29] at H
                                    exact absurd H (by simp)
                                · rw [if_neg c27] at H
                                  exact absurd H (by simp)
                              · rw [if_neg c26] at H
                                exact absurd H (by simp)
                            · rw [if_neg c24] at H
                              exact absurd H (by simp)
                          · rw [if_neg c23] at H
                            exact absurd H (by simp)
                        · rw [if_neg c22] at H
                          have c22b0 : decide (ji5 ≤ x13_2) = false := decide_eq_false c22
                          clear c22
                          replace H := Option.bind_eq_some_iff.mp H
                          obtain ⟨t152, A410, H⟩ := H
                          replace H : (if (t152.length : Int) > 0 then (some (([] : List Int), some 8)) else ((poly_short.f k2 x12_2).bind fun t155 => (some (t155, none)))) = some (r1, r2) := H
                          have A41 := Aside0.mk A410
                          clear A410
                          by_cases c42 : (t152.length : Int) > 0
                          · rw [if_pos c42] at H
                            have c42b0 : decide (0 < (t152.length : Int)) = true := decide_eq_true c42
                            have c42b1 : decide (0 < t152.length) = true := decide_eq_true (by omega)
                            clear c42
                            simp only [Option.some.injEq, Prod.mk.injEq] at H
                            obtain ⟨rfl, rfl⟩ := H
                            obtain ⟨Ao43, co43, eo43⟩ := Kd.R_slice HO_9.out
                            subst eo43
                            go_wp2_with (first | ((with_reducible refine gate_callee (f := 66) rfl ?_); refine goesL_ (some 83) rfl rfl Try.func66 (by kernel_rfl) rfl #[.slice Ao43 x9_2.length co43] rfl (by (try simp only [List.map_toArray, List.map_cons, List.map_nil]); first | done | rfl | (simp only [List.length_drop, List.length_take]; rfl)) ?_; (with_reducible refine (poly_short.calls k2 (fun k_ => some k_ = (.slice Ao43 x9_2.length co43 : Value).ownBlock) _ _ x9_2 t152 _ ?side1 A41.out).mono ?_); (case side1 => exact Kd.R_V (Kd.R_tight rfl (HO_9.out))); rintro e w44 ⟨v153, rfl, ho0, hb⟩; refine ⟨_, rfl, ?_⟩; have n0_ := Aside0.mk (Kd.R_below (by (with_reducible repeat (first | apply Kd.R_alloc | apply Kd.R_drewN | apply Kd.R_drew)); exact HO_9.out) hb); have n1_ := Aside0.mk (Kd.R_below (by (with_reducible repeat (first | apply Kd.R_alloc | apply Kd.R_drewN | apply Kd.R_drew)); exact HO_12.out) hb); have n2_ := Aside0.mk (Kd.V_lower (Kd.V_mono (ok' := fun k_ => (w.heap.size ≤ k_) ∧ some k_ ≠ (v143 : Value).ownBlock) ho0 (fun k_ hk_ => ⟨Or.elim hk_ (fun hs_ => ((HO_9.out).1 k_ hs_.symm).1) (fun hn_ => (Nat.le_trans (below_size (by repeat (first | (with_reducible first | exact HB.out | apply below_alloc | apply pw_below_drewN | apply below_drew1) | exact HB.out))) hn_)), Or.elim hk_ (fun hs_ => ((HO_9.out).1 k_ hs_.symm).2) (fun hn_ => (Kd.fresh' (Kd.R_lt (by (with_reducible repeat (first | apply Kd.R_alloc | apply Kd.R_drewN | apply Kd.R_drew)); exact HO_12.out)) k_ hn_))⟩)) (below_size (by repeat (first | (with_reducible first | exact HB.out | apply below_alloc | apply pw_below_drewN | apply below_drew1) | exact HB.out)))); have n3_ := Aside0.mk (below_step (by repeat (first | (with_reducible first | exact HB.out | apply below_alloc | apply pw_below_drewN | apply below_drew1) | exact HB.out)) hb); clear HO_9; clear HO_12; clear HB; have HO_9 := n0_; have HO_12 := n1_; have HO154 := n2_; have HB := n3_; clear n0_ n1_ n2_ n3_; (try clear hb); (try clear hb2); (try clear hk); (try clear hi); (try clear ho0); obtain ⟨Ao45, co45, eo45⟩ := Kd.V_slice HO154.out; subst eo45))
                            go_ret2
                            exact ⟨_, by first | rfl | (simp [errW_none, errW_some] <;> rfl) | (simp only [← hji5, ← hji17]; first | rfl | (simp [errW_none, errW_some] <;> rfl)) | (simp [*, errW_none, errW_some] <;> rfl), Kd.V_nil _ _ _ _ _, by repeat (first | (with_reducible first | exact HB.out | apply below_alloc | apply pw_below_drewN | apply below_drew1) | exact HB.out)⟩
                          · rw [if_neg c42] at H
                            have c42b0 : decide (0 < (t152.length : Int)) = false := decide_eq_false c42
                            have c42b1 : decide (0 < t152.length) = false := decide_eq_false (by omega)
                            clear c42
                            replace H := Option.bind_eq_some_iff.mp H
                            obtain ⟨t155, A460, H⟩ := H
                            replace H : (some (t155, none)) = some (r1, r2) := H
                            have A46 := Aside0.mk A460
                            clear A460
                            simp only [Option.some.injEq, Prod.mk.injEq] at H
                            obtain ⟨rfl, rfl⟩ := H
                            obtain ⟨Ao47, co47, eo47⟩ := Kd.R_slice HO_9.out
                            subst eo47
                            go_wp2_with (first | ((with_reducible refine gate_callee (f := 66) rfl ?_); refine goesL_ (some 83) rfl rfl Try.func66 (by kernel_rfl) rfl #[.slice Ao47 x9_2.length co47] rfl (by (try simp only [List.map_toArray, List.map_cons, List.map_nil]); first | done | rfl | (simp only [List.length_drop, List.length_take]; rfl)) ?_; (with_reducible refine (poly_short.calls k2 (fun k_ => some k_ = (.slice Ao47 x9_2.length co47 : Value).ownBlock) _ _ x9_2 t152 _ ?side1 A41.out).mono ?_); (case side1 => exact Kd.R_V (Kd.R_tight rfl (HO_9.out))); rintro e w48 ⟨v153, rfl, ho0, hb⟩; refine ⟨_, rfl, ?_⟩; have n0_ := Aside0.mk (Kd.R_below (by (with_reducible repeat (first | apply Kd.R_alloc | apply Kd.R_drewN | apply Kd.R_drew)); exact HO_9.out) hb); have n1_ := Aside0.mk (Kd.R_below (by (with_reducible repeat (first | apply Kd.R_alloc | apply Kd.R_drewN | apply Kd.R_drew)); exact HO_12.out) hb); have n2_ := Aside0.mk (Kd.V_lower (Kd.V_mono (ok' := fun k_ => (w.heap.size ≤ k_) ∧ some k_ ≠ (v143 : Value).ownBlock) ho0 (fun k_ hk_ => ⟨Or.elim hk_ (fun hs_ => ((HO_9.out).1 k_ hs_.symm).1) (fun hn_ => (Nat.le_trans (below_size (by repeat (first | (with_reducible first | exact HB.out | apply below_alloc | apply pw_below_drewN | apply below_drew1) | exact HB.out))) hn_)), Or.elim hk_ (fun hs_ => ((HO_9.out).1 k_ hs_.symm).2) (fun hn_ => (Kd.fresh' (Kd.R_lt (by (with_reducible repeat (first | apply Kd.R_alloc | apply Kd.R_drewN | apply Kd.R_drew)); exact HO_12.out)) k_ hn_))⟩)) (below_size (by repeat (first | (with_reducible first | exact HB.out | apply below_alloc | apply pw_below_drewN | apply below_drew1) | exact HB.out)))); have n3_ := Aside0.mk (below_step (by repeat (first | (with_reducible first | exact HB.out | apply below_alloc | apply pw_below_drewN | apply below_drew1) | exact HB.out)) hb); clear HO_9; clear HO_12; clear HB; have HO_9 := n0_; have HO_12 := n1_; have HO154 := n2_; have HB := n3_; clear n0_ n1_ n2_ n3_; (try clear hb); (try clear hb2); (try clear hk); (try clear hi); (try clear ho0); obtain ⟨Ao49, co49, eo49⟩ := Kd.V_slice HO154.out; subst eo49; obtain ⟨Ao50, co50, eo50⟩ := Kd.R_slice HO_12.out; subst eo50) | ((with_reducible refine gate_callee (f := 66) rfl ?_); refine goesL_ (some 88) rfl rfl Try.func66 (by kernel_rfl) rfl #[.slice Ao50 x12_2.length co50] rfl (by (try simp only [List.map_toArray, List.map_cons, List.map_nil]); first | done | rfl | (simp only [List.length_drop, List.length_take]; rfl)) ?_; (with_reducible refine (poly_short.calls k2 (fun k_ => some k_ = (.slice Ao50 x12_2.length co50 : Value).ownBlock) _ _ x12_2 t155 _ ?side1 A46.out).mono ?_); (case side1 => exact Kd.R_V (Kd.R_tight rfl (HO_12.out))); rintro e w51 ⟨v156, rfl, ho0, hb⟩; refine ⟨_, rfl, ?_⟩; have n0_ := Aside0.mk (Kd.R_below (by (with_reducible repeat (first | apply Kd.R_alloc | apply Kd.R_drewN | apply Kd.R_drew)); exact HO_9.out) hb); have n1_ := Aside0.mk (Kd.R_below (by (with_reducible repeat (first | apply Kd.R_alloc | apply Kd.R_drewN | apply Kd.R_drew)); exact HO_12.out) hb); have n2_ := Aside0.mk (Kd.V_below (by (with_reducible repeat (first | apply Kd.V_alloc | apply Kd.V_drewN | apply Kd.V_drew)); exact HO154.out) hb); have n3_ := Aside0.mk (Kd.V_lower (Kd.V_mono (ok' := fun k_ => (w.heap.size ≤ k_) ∧ some k_ ≠ (.slice Ao47 x9_2.length co47 : Value).ownBlock) ho0 (fun k_ hk_ => ⟨Or.elim hk_ (fun hs_ => ((HO_12.out).1 k_ hs_.symm).1) (fun hn_ => (Nat.le_trans (below_size (by repeat (first | (with_reducible first | exact HB.out | apply below_alloc | apply pw_below_drewN | apply below_drew1) | exact HB.out))) hn_)), Or.elim hk_ (fun hs_ => ((HO_12.out).1 k_ hs_.symm).2) (fun hn_ => (Kd.fresh' (Kd.R_lt (by (with_reducible repeat (first | apply Kd.R_alloc | apply Kd.R_drewN | apply Kd.R_drew)); exact HO_9.out)) k_ hn_))⟩)) (below_size (by repeat (first | (with_reducible first | exact HB.out | apply below_alloc | apply pw_below_drewN | apply below_drew1) | exact HB.out)))); have n4_ := Aside0.mk (below_step (by repeat (first | (with_reducible first | exact HB.out | apply below_alloc | apply pw_below_drewN | apply below_drew1) | exact HB.out)) hb); clear HO_9; clear HO_12; clear HO154; clear HB; have HO_9 := n0_; have HO_12 := n1_; have HO154 := n2_; have HO157 := n3_; have HB := n4_; clear n0_ n1_ n2_ n3_ n4_; (try clear hb); (try clear hb2); (try clear hk); (try clear hi); (try clear ho0)))
                            go_ret2
                            exact ⟨_, by first | rfl | (simp [errW_none, errW_some] <;> rfl) | (simp only [← hji5, ← hji17]; first | rfl | (simp [errW_none, errW_some] <;> rfl)) | (simp [*, errW_none, errW_some] <;> rfl), by (with_reducible repeat (first | apply Kd.V_alloc | apply Kd.V_drewN | apply Kd.V_drew)); exact Kd.V_mono HO157.out (fun _ hk => hk.1), by repeat (first | (with_reducible first | exact HB.out | apply below_alloc | apply pw_below_drewN | apply below_drew1) | exact HB.out)⟩
                  · rw [if_neg c19] at H
                    exact absurd H (by simp)
                · rw [if_neg c18] at H
                  exact absurd H (by simp)
        · rw [if_neg c7] at H
          exact absurd H (by simp)
      · rw [if_neg c6] at H
        exact absurd H (by simp)
    · rw [if_neg c4] at H
      exact absurd H (by simp)
  · have H1 : (some (([] : List Int), some q136)) = some (r1, r2) := by rw [if_neg (show ¬ (some q136).isNone = true by simp)] at H; exact H
    clear H
    have H := H1
    clear H1
    try simp only [errW_none, errW_some]
    simp only [Option.some.injEq, Prod.mk.injEq] at H
    obtain ⟨rfl, rfl⟩ := H
    go_enter Try.func30, Try.ntmps30
    go_wp2_with (first | ((with_reducible refine gate_callee (f := 64) rfl ?_); refine goesL_ (some 16) rfl rfl Try.func64 (by kernel_rfl) rfl #[.int .i64 a1] rfl (by (try simp only [List.map_toArray, List.map_cons, List.map_nil]); first | done | rfl | (simp only [List.length_drop, List.length_take]; rfl)) ?_; (with_reducible refine (poly_Root.calls k a1 t134 (some q136) _ A3.out).mono ?_); rintro e w' ⟨rfl, ⟨nd, rfl⟩⟩; refine ⟨_, rfl, ?_⟩; (try simp only [errW_none, errW_some])))
    go_ret2
    exact ⟨_, by first | rfl | (simp [errW_none, errW_some] <;> rfl) | (simp [*, errW_none, errW_some] <;> rfl), Kd.V_nil _ _ _ _ _, by repeat (first | (with_reducible first | exact HB.out | apply below_alloc | apply pw_below_drewN | apply below_drew1) | exact HB.out)⟩

/-! ### obolref01_Mul: function 44 -/
mutual
def obolref01_Mul.l0 : Nat → Int → Int → Int → Int → Int → Option (Int)
  | 0, _, _, _, _, _ => none
  | k + 1, x0, x7, x8, x9, x10 => if x10 < 64 then (if x9 ≥ (IntKind.u64.wrap (x0 - x9)) then (obolref01_Mul.j1 k x0 x7 x8 (IntKind.u64.wrap (x9 - (IntKind.u64.wrap (x0 - x9)))) x10) else (obolref01_Mul.j1 k x0 x7 x8 (IntKind.u64.wrap (x9 + x9)) x10)) else (some x9)
def obolref01_Mul.j1 : Nat → Int → Int → Int → Int → Int → Option (Int)
  | 0, _, _, _, _, _ => none
  | k + 1, x0, x7, x8, x9, x10 => if 0 ≤ (wrap64 (63 - x10)) then (if (Go.bits .and .u64 (shr .u64 x8 (wrap64 (63 - x10))) 1) = 1 then (if x9 ≥ (IntKind.u64.wrap (x0 - x7)) then (obolref01_Mul.l0 k x0 x7 x8 (IntKind.u64.wrap (x9 - (IntKind.u64.wrap (x0 - x7)))) (wrap64 (x10 + 1))) else (obolref01_Mul.l0 k x0 x7 x8 (IntKind.u64.wrap (x9 + x7)) (wrap64 (x10 + 1)))) else (obolref01_Mul.l0 k x0 x7 x8 x9 (wrap64 (x10 + 1)))) else (none)
end
def obolref01_Mul.f (k : Nat) (a0 : Int) (a1 : Int) (a2 : Int) : Option (Int) := if a0 = 0 then (none) else (obolref01_Mul.l0 k a0 (Int.tmod a1 a0) (Int.tmod a2 a0) 0 0)
theorem obolref01_Mul.mono_l : ∀ k, (∀ y0 y1 y2 y3 y4, LeO (obolref01_Mul.l0 k y0 y1 y2 y3 y4) (obolref01_Mul.l0 (k + 1) y0 y1 y2 y3 y4)) ∧ (∀ y0 y1 y2 y3 y4, LeO (obolref01_Mul.j1 k y0 y1 y2 y3 y4) (obolref01_Mul.j1 (k + 1) y0 y1 y2 y3 y4))
  | 0 => ⟨fun _ _ _ _ _ r h => by simp [obolref01_Mul.l0] at h, fun _ _ _ _ _ r h => by simp [obolref01_Mul.j1] at h⟩
  | k + 1 => by
    obtain ⟨ih0, ih1⟩ := obolref01_Mul.mono_l k
    refine ⟨?_, ?_⟩
    · intro y0 y1 y2 y3 y4
      unfold obolref01_Mul.l0
      repeat' first
      | (with_reducible exact ih0 _ _ _ _ _)
      | (with_reducible exact ih1 _ _ _ _ _)
      | (with_reducible exact LeO.refl _)
      | (with_reducible exact LeO.none _)
      | (with_reducible refine LeO.ite ?_ ?_)
      | (with_reducible refine LeO.bind ?_ (fun _ => ?_))
      | exact ih0 _ _ _ _ _
      | exact ih1 _ _ _ _ _
      | exact LeO.none _
      | refine LeO.ite ?_ ?_
      | refine LeO.bind ?_ (fun _ => ?_)
    · intro y0 y1 y2 y3 y4
      unfold obolref01_Mul.j1
      repeat' first
      | (with_reducible exact ih0 _ _ _ _ _)
      | (with_reducible exact ih1 _ _ _ _ _)
      | (with_reducible exact LeO.refl _)
      | (with_reducible exact LeO.none _)
      | (with_reducible refine LeO.ite ?_ ?_)
      | (with_reducible refine LeO.bind ?_ (fun _ => ?_))
      | exact ih0 _ _ _ _ _
      | exact ih1 _ _ _ _ _
      | exact LeO.none _
      | refine LeO.ite ?_ ?_
      | refine LeO.bind ?_ (fun _ => ?_)
theorem obolref01_Mul.mono : ∀ a0 a1 a2 k, LeO (obolref01_Mul.f k a0 a1 a2) (obolref01_Mul.f (k + 1) a0 a1 a2) := by
  intro a0 a1 a2 k
  obtain ⟨ih0, ih1⟩ := obolref01_Mul.mono_l k
  unfold obolref01_Mul.f
  repeat' first
      | (with_reducible exact ih0 _ _ _ _ _)
      | (with_reducible exact ih1 _ _ _ _ _)
      | (with_reducible exact LeO.refl _)
      | (with_reducible exact LeO.none _)
      | (with_reducible refine LeO.ite ?_ ?_)
      | (with_reducible refine LeO.bind ?_ (fun _ => ?_))
      | exact ih0 _ _ _ _ _
      | exact ih1 _ _ _ _ _
      | exact LeO.none _
      | refine LeO.ite ?_ ?_
      | refine LeO.bind ?_ (fun _ => ?_)
set_option maxHeartbeats 8000000 in
set_option maxRecDepth 100000 in
theorem obolref01_Mul.calls (k : Nat) (a0 : Int) (a1 : Int) (a2 : Int) (r : Int) (w : World) (h : obolref01_Mul.f k a0 a1 a2 = some r) :
    Calls Try.prog 44 #[.int .u64 a0, .int .u64 a1, .int .u64 a2] w fun e w' => e = .returned (.int .u64 r) ∧ Drawn0 w w' := by
  have H : (if a0 = 0 then (none) else (obolref01_Mul.l0 k a0 (Int.tmod a1 a0) (Int.tmod a2 a0) 0 0)) = some r := h
  clear h
  by_cases c4 : a0 = 0
  · rw [if_pos c4] at H
    exact absurd H (by simp)
  · rw [if_neg c4] at H
    have c4b0 : (a0 == 0) = false := beq_eq_false_iff_ne.mpr c4
    have c4b1 : (a0 != 0) = true := bne_iff_ne.mpr c4
    have H' := Aside0.mk H
    clear H
    go_enter Try.func44, Try.ntmps44
    go_wp2
    go_loopg [9, 10] k (fun kq v9 v10 w' => ∃ (x9_1 : Int) (x10_1 : Int), v9 = .int .u64 x9_1 ∧ v10 = .int .i64 x10_1 ∧ Aside0 (obolref01_Mul.l0 kq a0 (Int.tmod a1 a0) (Int.tmod a2 a0) x9_1 x10_1 = some r) ∧ Aside0 (kq ≤ k) ∧ Drawn0 w w')
    case atStart => exact ⟨(0), (0), (by first | rfl | (simp; done) | (simp [*]; done)), (by first | rfl | (simp; done) | (simp [*]; done)), H', ⟨Nat.le_refl _⟩, by repeat (first | exact Drawn0.refl _ | apply Drawn0.step)⟩
    case round =>
      clear H'
      try clear p2
      try clear c4
      try clear c4b0
      try clear c4b1
      obtain ⟨x9_1, x10_1, rfl, rfl, HA, HK1, ⟨m1, rfl⟩⟩ := hrel
      cases gk with
      | zero => exact absurd HA.out (by simp [obolref01_Mul.l0])
      | succ k1 =>
        have H := HA.out
        clear HA
        simp only [obolref01_Mul.l0] at H
        by_cases c5 : x10_1 < 64
        · rw [if_pos c5] at H
          have c5b0 : decide (x10_1 < 64) = true := decide_eq_true c5
          clear c5
          have HC6 := Aside0.mk H
          clear H
          go_upto_if 25 with (fail)
          go_cut [9] (fun v9 wc => ∃ (kq : Nat) (x9_5 : Int), v9 = .int .u64 x9_5 ∧ Aside0 (obolref01_Mul.j1 kq a0 (Int.tmod a1 a0) (Int.tmod a2 a0) x9_5 x10_1 = some r) ∧ Aside0 (kq ≤ k1) ∧ Drawn0 w wc)
          case first =>
            have H := HC6.out
            clear HC6
            by_cases c7 : x9_1 ≥ (IntKind.u64.wrap (a0 - x9_1))
            · rw [if_pos c7] at H
              have c7b0 : decide ((IntKind.u64.wrap (a0 - x9_1)) ≤ x9_1) = true := decide_eq_true c7
              clear c7
              (first | rw [c7b0] | (simp only [i64_w, i32_w]; rw [c7b0]) | skip)
              have H' := Aside0.mk H
              clear H
              go_wp2
              go_meet
              case rel => exact ⟨_, (IntKind.u64.wrap (x9_1 - (IntKind.u64.wrap (a0 - x9_1)))), (by first | rfl | (simp; done) | (simp [*]; done)), H', ⟨by have := HK1.out; first | omega | exact Nat.le_refl _⟩, by repeat (first | exact Drawn0.refl _ | apply Drawn0.step)⟩
            · rw [if_neg c7] at H
              have c7b0 : decide ((IntKind.u64.wrap (a0 - x9_1)) ≤ x9_1) = false := decide_eq_false c7
              clear c7
              (first | rw [c7b0] | (simp only [i64_w, i32_w]; rw [c7b0]) | skip)
              have H' := Aside0.mk H
              clear H
              go_wp2
              go_meet
              case rel => exact ⟨_, (IntKind.u64.wrap (x9_1 + x9_1)), (by first | rfl | (simp; done) | (simp [*]; done)), H', ⟨by have := HK1.out; first | omega | exact Nat.le_refl _⟩, by repeat (first | exact Drawn0.refl _ | apply Drawn0.step)⟩
          case rest =>
            clear HC6
            try clear p2
            try clear c4
            try clear c4b0
            try clear c4b1
            try clear c5
            try clear c5b0
            try clear c7
            try clear c7b0
            try clear p2
            obtain ⟨kq, x9_5, rfl, HA, HJ5, ⟨mc5, rfl⟩⟩ := hcut
            cases kq with
            | zero => exact absurd HA.out (by simp [obolref01_Mul.j1])
            | succ kj5 =>
              have H := HA.out
              clear HA
              simp only [obolref01_Mul.j1] at H
              obtain ⟨ji8, hji8⟩ : ∃ j_ : Int, (wrap64 (63 - x10_1)) = j_ := ⟨_, rfl⟩
              replace H : (if 0 ≤ (ji8) then (if (Go.bits .and .u64 (shr .u64 (Int.tmod a2 a0) (ji8)) 1) = 1 then (if x9_5 ≥ (IntKind.u64.wrap (a0 - (Int.tmod a1 a0))) then (obolref01_Mul.l0 kj5 a0 (Int.tmod a1 a0) (Int.tmod a2 a0) (IntKind.u64.wrap (x9_5 - (IntKind.u64.wrap (a0 - (Int.tmod a1 a0))))) (wrap64 (x10_1 + 1))) else (obolref01_Mul.l0 kj5 a0 (Int.tmod a1 a0) (Int.tmod a2 a0) (IntKind.u64.wrap (x9_5 + (Int.tmod a1 a0))) (wrap64 (x10_1 + 1)))) else (obolref01_Mul.l0 kj5 a0 (Int.tmod a1 a0) (Int.tmod a2 a0) x9_5 (wrap64 (x10_1 + 1)))) else (none)) = some r := by first | (rw [hji8] at H; exact H) | (simp only [hji8] at H ⊢; exact H)
              have hji8w : (IntKind.i64.wrap (63 - x10_1)) = ji8 := (i64_w _).trans hji8
              by_cases c9 : 0 ≤ (ji8)
              · rw [if_pos c9] at H
                have c9b0 := eq_true c9
                have c9b1 : decide (0 ≤ (ji8)) = true := decide_eq_true c9
                clear c9
                obtain ⟨ji10, hji10⟩ : ∃ j_ : Int, (shr .u64 (Int.tmod a2 a0) (ji8)) = j_ := ⟨_, rfl⟩
                replace H : (if (Go.bits .and .u64 (ji10) 1) = 1 then (if x9_5 ≥ (IntKind.u64.wrap (a0 - (Int.tmod a1 a0))) then (obolref01_Mul.l0 kj5 a0 (Int.tmod a1 a0) (Int.tmod a2 a0) (IntKind.u64.wrap (x9_5 - (IntKind.u64.wrap (a0 - (Int.tmod a1 a0))))) (wrap64 (x10_1 + 1))) else (obolref01_Mul.l0 kj5 a0 (Int.tmod a1 a0) (Int.tmod a2 a0) (IntKind.u64.wrap (x9_5 + (Int.tmod a1 a0))) (wrap64 (x10_1 + 1)))) else (obolref01_Mul.l0 kj5 a0 (Int.tmod a1 a0) (Int.tmod a2 a0) x9_5 (wrap64 (x10_1 + 1)))) = some r := by first | (rw [hji10] at H; exact H) | (simp only [hji10] at H ⊢; exact H)
                have hji10_ : ((Int.tmod a2 a0) / 2 ^ min (ji8).toNat 64) = ji10 := hji10
                have hji10z : (ji8) ≤ 64 → ((Int.tmod a2 a0) / 2 ^ (ji8).toNat) = ji10 := shr_small hji10
                by_cases c11 : (Go.bits .and .u64 (ji10) 1) = 1
                · rw [if_pos c11] at H
                  have c11b0 : ((Go.bits .and .u64 (ji10) 1) == 1) = true := beq_iff_eq.mpr c11
                  have c11b1 : ((Go.bits .and .u64 (ji10) 1) != 1) = false := bne_eq_false_iff_eq.mpr c11
                  clear c11
                  by_cases c12 : x9_5 ≥ (IntKind.u64.wrap (a0 - (Int.tmod a1 a0)))
                  · rw [if_pos c12] at H
                    have c12b0 : decide ((IntKind.u64.wrap (a0 - (Int.tmod a1 a0))) ≤ x9_5) = true := decide_eq_true c12
                    clear c12
                    have H' := Aside0.mk H
                    clear H
                    go_wp2
                    go_roundg kj5
                    case measure => have := HK1.out; have := HJ5.out; omega
                    case rel => exact ⟨(IntKind.u64.wrap (x9_5 - (IntKind.u64.wrap (a0 - (Int.tmod a1 a0))))), (wrap64 (x10_1 + 1)), (by first | rfl | (simp; done) | (simp [*]; done)), (by first | rfl | (simp; done) | (simp [*]; done)), H', ⟨by have := HK1.out; have := HJ5.out; omega⟩, by repeat (first | exact Drawn0.refl _ | apply Drawn0.step)⟩
                  · rw [if_neg c12] at H
                    have c12b0 : decide ((IntKind.u64.wrap (a0 - (Int.tmod a1 a0))) ≤ x9_5) = false := decide_eq_false c12
                    clear c12
                    have H' := Aside0.mk H
                    clear H
                    go_wp2
                    go_roundg kj5
                    case measure => have := HK1.out; have := HJ5.out; omega
                    case rel => exact ⟨(IntKind.u64.wrap (x9_5 + (Int.tmod a1 a0))), (wrap64 (x10_1 + 1)), (by first | rfl | (simp; done) | (simp [*]; done)), (by first | rfl | (simp; done) | (simp [*]; done)), H', ⟨by have := HK1.out; have := HJ5.out; omega⟩, by repeat (first | exact Drawn0.refl _ | apply Drawn0.step)⟩
                · rw [if_neg c11] at H
                  have c11b0 : ((Go.bits .and .u64 (ji10) 1) == 1) = false := beq_eq_false_iff_ne.mpr c11
                  have c11b1 : ((Go.bits .and .u64 (ji10) 1) != 1) = true := bne_iff_ne.mpr c11
                  have H' := Aside0.mk H
                  clear H
                  go_wp2
                  go_roundg kj5
                  case measure => have := HK1.out; have := HJ5.out; omega
                  case rel => exact ⟨(x9_5), (wrap64 (x10_1 + 1)), (by first | rfl | (simp; done) | (simp [*]; done)), (by first | rfl | (simp; done) | (simp [*]; done)), H', ⟨by have := HK1.out; have := HJ5.out; omega⟩, by repeat (first | exact Drawn0.refl _ | apply Drawn0.step)⟩
              · rw [if_neg c9] at H
                exact absurd H (by simp)
        · rw [if_neg c5] at H
          have c5b0 : decide (x10_1 < 64) = false := decide_eq_false c5
          clear c5
          obtain rfl := Option.some.inj H
          go_wp2
          go_ret
          exact ⟨by first | rfl | (simp; done) | (simp [*]; done), by repeat (first | exact Drawn0.refl _ | apply Drawn0.step)⟩

/-! ### obolref07_Mul: function 69 -/
def obolref07_Mul.f (k : Nat) (a0 : Int) (a1 : Int) : Option (Int) := (obolref01_Mul.f k 288230376287764481 a0 a1).bind fun t158 => (some t158)
theorem obolref07_Mul.mono : ∀ a0 a1 k, LeO (obolref07_Mul.f k a0 a1) (obolref07_Mul.f (k + 1) a0 a1) := by
  intro a0 a1 k
  unfold obolref07_Mul.f
  repeat' first
      | (with_reducible exact obolref01_Mul.mono _ _ _ _)
      | (with_reducible exact LeO.refl _)
      | (with_reducible exact LeO.none _)
      | (with_reducible refine LeO.ite ?_ ?_)
      | (with_reducible refine LeO.bind ?_ (fun _ => ?_))
      | exact obolref01_Mul.mono _ _ _ _
      | exact LeO.none _
      | refine LeO.ite ?_ ?_
      | refine LeO.bind ?_ (fun _ => ?_)
set_option maxHeartbeats 8000000 in
set_option maxRecDepth 100000 in
theorem obolref07_Mul.calls (k : Nat) (a0 : Int) (a1 : Int) (r : Int) (w : World) (h : obolref07_Mul.f k a0 a1 = some r) :
    Calls Try.prog 69 #[.int .u64 a0, .int .u64 a1] w fun e w' => e = .returned (.int .u64 r) ∧ Drawn0 w w' := by
  have H : ((obolref01_Mul.f k 288230376287764481 a0 a1).bind fun t158 => (some t158)) = some r := h
  clear h
  replace H := Option.bind_eq_some_iff.mp H
  obtain ⟨t158, A30, H⟩ := H
  replace H : (some t158) = some r := H
  have A3 := Aside0.mk A30
  clear A30
  obtain rfl := Option.some.inj H
  go_enter Try.func69, Try.ntmps69
  go_wp2_with (first | ((with_reducible refine gate_callee (f := 44) rfl ?_); refine goesL_ (some 7) rfl rfl Try.func44 (by kernel_rfl) rfl #[.int .u64 288230376287764481, .int .u64 a0, .int .u64 a1] rfl (by (try simp only [List.map_toArray, List.map_cons, List.map_nil]); first | done | rfl | (simp only [List.length_drop, List.length_take]; rfl)) ?_; (with_reducible refine (obolref01_Mul.calls k 288230376287764481 a0 a1 t158 _ A3.out).mono ?_); rintro e w' ⟨rfl, ⟨nd, rfl⟩⟩; refine ⟨_, rfl, ?_⟩))
  go_ret
  exact ⟨by first | rfl | (simp; done) | (simp [*]; done), by repeat (first | exact Drawn0.refl _ | apply Drawn0.step)⟩

end Go.Proofs.Ytempibbfdojfiab.PPolyVanishes
