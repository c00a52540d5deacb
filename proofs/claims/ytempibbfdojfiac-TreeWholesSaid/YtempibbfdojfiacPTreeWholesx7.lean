-- printed by a program of this session (wip/tools/mkprint.py)
import Derived.Test.YtempibbfdojfiacPTreeWholesx0
import Derived.Test.YtempibbfdojfiacPTreeWholesx5
import Derived.Test.YtempibbfdojfiacPTreeWholesx6
namespace Go.Proofs.Ytempibbfdojfiac.PTreeWholes
open Go.RowKit Go.Proofs.YtempibbfdojfiacW.PrintWords Go.Proofs.YtempibbfdojfiacW.PrintLast Go.Proofs.YtempibbfdojfiacW.PrintMore
attribute [local go_sem] max2_int min2_int max_two min_two max_three min_three max_four min_four   -- for this text's walks alone
set_option linter.unusedVariables false
set_option linter.unusedSimpArgs false

attribute [local go_sem high] errCmp_eql errCmp_neq errCmpL_eql errCmpL_neq
/-! ### tree_Whole: function 41 -/
def tree_Whole.f (k : Nat) (l0 : List Int) (a1 : Int) : Option (Int × Option Int) := (tree_rows.f k l0 a1).bind fun bt222 => (if bt222.2.2.isNone = true then (if 0 ≤ a1 then (if a1 < (bt222.1.length : Int) then (if a1 < (bt222.2.1.length : Int) then ((tree_at.f (rd_L1 bt222.1 a1) 0 (rd bt222.2.1 a1)).bind fun t232 => (some (t232, none))) else (none)) else (none)) else (none)) else (some (0, some (bt222.2.2.getD 0))))
theorem tree_Whole.mono : ∀ a0 a1 k, LeO (tree_Whole.f k a0 a1) (tree_Whole.f (k + 1) a0 a1) := by
  intro a0 a1 k
  unfold tree_Whole.f
  repeat' first
      | (with_reducible exact tree_rows.mono _ _ _)
      | (with_reducible exact LeO.refl _)
      | (with_reducible exact LeO.none _)
      | (with_reducible refine LeO.ite ?_ ?_)
      | (with_reducible refine LeO.bind ?_ (fun _ => ?_))
      | exact tree_rows.mono _ _ _
      | exact LeO.none _
      | refine LeO.ite ?_ ?_
      | refine LeO.bind ?_ (fun _ => ?_)
set_option maxHeartbeats 8000000 in
set_option maxRecDepth 100000 in
theorem tree_Whole.calls (k : Nat) (A0 : Option Addr) (c0 : Nat) (l0 : List Int) (a1 : Int) (r1 : Int) (r2 : Option Int) (w : World) (hr0 : Kd.C (Kd.int .u64) w A0 l0.length l0) (hc0 : l0.length ≤ c0) (h : tree_Whole.f k l0 a1 = some (r1, r2)) :
    Calls Try.prog 41 #[.slice A0 l0.length c0, .int .i64 a1] w fun e w' => e = .returned (.tuple #[.int .u64 r1, errW r2]) ∧ Below w.heap.size w w' := by
  have hu25 := Try.underlying25
  have hu28 := Try.underlying28
  have HR0 := Aside0.mk hr0
  have HC0 := Aside0.mk hc0
  clear hr0 hc0
  have HB := Aside0.mk (Below.refl w.heap.size w)
  have H : ((tree_rows.f k l0 a1).bind fun bt222 => (if bt222.2.2.isNone = true then (if 0 ≤ a1 then (if a1 < (bt222.1.length : Int) then (if a1 < (bt222.2.1.length : Int) then ((tree_at.f (rd_L1 bt222.1 a1) 0 (rd bt222.2.1 a1)).bind fun t232 => (some (t232, none))) else (none)) else (none)) else (none)) else (some (0, some (bt222.2.2.getD 0))))) = some (r1, r2) := h
  clear h
  replace H := Option.bind_eq_some_iff.mp H
  obtain ⟨⟨t222, t225, t228⟩, A30, H⟩ := H
  replace H : (if t228.isNone = true then (if 0 ≤ a1 then (if a1 < (t222.length : Int) then (if a1 < (t225.length : Int) then ((tree_at.f (rd_L1 t222 a1) 0 (rd t225 a1)).bind fun t232 => (some (t232, none))) else (none)) else (none)) else (none)) else (some (0, some (t228.getD 0)))) = some (r1, r2) := H
  have A3 := Aside0.mk A30
  clear A30
  rcases t228 with _ | q229
  · have H1 : (if 0 ≤ a1 then (if a1 < (t222.length : Int) then (if a1 < (t225.length : Int) then ((tree_at.f (rd_L1 t222 a1) 0 (rd t225 a1)).bind fun t232 => (some (t232, none))) else (none)) else (none)) else (none)) = some (r1, r2) := by rw [if_pos (show (none : Option Int).isNone = true by rfl)] at H; exact H
    clear H
    have H := H1
    clear H1
    try simp only [errW_none, errW_some]
    by_cases c4 : 0 ≤ a1
    · rw [if_pos c4] at H
      have c4b0 : decide (0 ≤ a1) = true := decide_eq_true c4
      clear c4
      by_cases c5 : a1 < (t222.length : Int)
      · rw [if_pos c5] at H
        have c5b0 : decide (a1 < (t222.length : Int)) = true := decide_eq_true c5
        clear c5
        by_cases c6 : a1 < (t225.length : Int)
        · rw [if_pos c6] at H
          have c6b0 : decide (a1 < (t225.length : Int)) = true := decide_eq_true c6
          clear c6
          replace H := Option.bind_eq_some_iff.mp H
          obtain ⟨t232, A70, H⟩ := H
          replace H : (some (t232, none)) = some (r1, r2) := H
          have A7 := Aside0.mk A70
          clear A70
          simp only [Option.some.injEq, Prod.mk.injEq] at H
          obtain ⟨rfl, rfl⟩ := H
          go_enter Try.func41, Try.ntmps41
          go_wp2_with (first | (go_at_call 68; (with_reducible refine (tree_rows.calls k (fun k_ => k_ < w.heap.size) _ _ l0 a1 t222 t225 none _ ?side1 A3.out).mono ?_); (case side1 => exact Kd.V_mk HC0.out (Kd.F_below (Kd.C_F (Kd.heap_int .u64) HR0.out) (by repeat (first | (with_reducible first | exact HB.out | apply below_alloc | apply pw_below_drewN | apply below_drew1) | exact HB.out)))); rintro e w8 ⟨v223, v226, rfl, ho0, ho1, hb⟩; have n0_ := Aside0.mk (Kd.N_lower (Kd.N_mono (ok' := fun k_ => some k_ ≠ (v226 : Value).ownBlock) ho0 (fun k_ hk_ => hk_.2)) (below_size (by repeat (first | (with_reducible first | exact HB.out | apply below_alloc | apply pw_below_drewN | apply below_drew1) | exact HB.out)))); have n1_ := Aside0.mk (Kd.R_lower (Kd.R_mono (ok' := fun k_ => True) ho1 (fun _ hk_ => trivial)) (below_size (by repeat (first | (with_reducible first | exact HB.out | apply below_alloc | apply pw_below_drewN | apply below_drew1) | exact HB.out)))); have n2_ := Aside0.mk (below_step (by repeat (first | (with_reducible first | exact HB.out | apply below_alloc | apply pw_below_drewN | apply below_drew1) | exact HB.out)) hb); clear HB; have HO224 := n0_; have HO227 := n1_; have HB := n2_; clear n0_ n1_ n2_; (try clear hb); (try clear hb2); (try clear hk); (try clear hi); (try clear ho0); (try clear ho1); (try simp only [errW_none, errW_some]); obtain ⟨Ao9, co9, eo9⟩ := Kd.N_slice HO224.out; subst eo9; have p230 : 0 ≤ (a1 : Int) := of_decide_eq_true (by first | (with_reducible assumption) | assumption); have q230 : a1 < (t222.length : Int) := of_decide_eq_true (by first | (with_reducible assumption) | assumption); obtain ⟨ad230, A230_0, c230_0, e230, hx230_0, hl230_0, hi230_0⟩ := at_L1 (Kd.N_reads' HO224.out).2.2 a1 p230 q230; cases e230; obtain ⟨ce230, hce230, hMe230, hcc230⟩ := Kd.N_get HO224.out [] a1 p230 (by first | exact q230 | exact of_decide_eq_true (by first | (with_reducible assumption) | assumption) | (have e_ := (Kd.N_reads' HO224.out).1; omega)); obtain ⟨ua230_0, uc230_0, rfl, ul230_0, ge230_0⟩ := Kd.FK_slice_open hMe230; have hv230_0 := hcc230 0 _ rfl; rw [Nat.add_zero, show ((Kd.slice 30 (Kd.int .u64))).sz = 1 from rfl, Nat.mul_one] at hv230_0; replace hv230_0 := Option.some.inj (hv230_0.symm.trans hx230_0); injection hv230_0 with hva_ hvn_ hvc_; rw [hva_] at ge230_0; rw [hvc_] at ul230_0; have HL230_0 := Aside0.mk (show Kd.V (Kd.int .u64) 30 _ w.heap.size _ _ (rd_L1 t222 a1) from Kd.V_mk ul230_0 ge230_0); clear hva_ hvn_ hvc_ ge230_0 ul230_0; clear hcc230 hce230; have HR230_0 := Aside0.mk hi230_0; have HC230_0 := Aside0.mk hl230_0; clear hi230_0 hl230_0; replace p230 := eq_true p230; replace q230 := eq_true q230; obtain ⟨Ao10, co10, eo10⟩ := Kd.R_slice HO227.out; subst eo10; have p231 : 0 ≤ (a1 : Int) := of_decide_eq_true (by first | (with_reducible assumption) | assumption); have q231 : a1 < (t225.length : Int) := of_decide_eq_true (by first | (with_reducible assumption) | assumption); obtain ⟨ad231, e231, hx231_0⟩ := Kd.at_int (Kd.R_reads' HO227.out).2.2 a1 p231 q231; cases e231; replace p231 := eq_true p231; replace q231 := eq_true q231) | (go_at_call 69; (with_reducible refine (tree_at.calls _ _ (rd_L1 t222 a1) 0 (rd t225 a1) t232 _ ?side1 ?side2 A7.out).mono ?_); (case side1 => repeat (first | exact (by repeat (first | (with_reducible exact HR230_0.out) | (with_reducible refine Kd.C_alloc ?_ _) | (with_reducible refine Kd.C_drewN ?_ _) | (with_reducible refine Kd.C_drew ?_) | exact HR230_0.out)) | (with_reducible refine Kd.C_alloc ?_ _) | (with_reducible refine Kd.C_drewN ?_ _) | (with_reducible refine Kd.C_drew ?_))); (case side2 => exact HC230_0.out); rintro e w' ⟨rfl, ⟨nd, rfl⟩⟩; (try first | exact ⟨rfl, _, World.drewN_drewN _ _ _⟩ | exact ⟨rfl, _, Eq.trans (World.drewN_drewN _ _ _) (congrArg (World.drewN _) (Nat.add_assoc _ _ _))⟩)))
          repeat (go_quiet (first | (go_at_call 68; (with_reducible refine (tree_rows.calls k (fun k_ => k_ < w.heap.size) _ _ l0 a1 t222 t225 none _ ?side1 A3.out).mono ?_); (case side1 => exact Kd.V_mk HC0.out (Kd.F_below (Kd.C_F (Kd.heap_int .u64) HR0.out) (by repeat (first | (with_reducible first | exact HB.out | apply below_alloc | apply pw_below_drewN | apply below_drew1) | exact HB.out)))); rintro e w8 ⟨v223, v226, rfl, ho0, ho1, hb⟩; have n0_ := Aside0.mk (Kd.N_lower (Kd.N_mono (ok' := fun k_ => some k_ ≠ (v226 : Value).ownBlock) ho0 (fun k_ hk_ => hk_.2)) (below_size (by repeat (first | (with_reducible first | exact HB.out | apply below_alloc | apply pw_below_drewN | apply below_drew1) | exact HB.out)))); have n1_ := Aside0.mk (Kd.R_lower (Kd.R_mono (ok' := fun k_ => True) ho1 (fun _ hk_ => trivial)) (below_size (by repeat (first | (with_reducible first | exact HB.out | apply below_alloc | apply pw_below_drewN | apply below_drew1) | exact HB.out)))); have n2_ := Aside0.mk (below_step (by repeat (first | (with_reducible first | exact HB.out | apply below_alloc | apply pw_below_drewN | apply below_drew1) | exact HB.out)) hb); clear HB; have HO224 := n0_; have HO227 := n1_; have HB := n2_; clear n0_ n1_ n2_; (try clear hb); (try clear hb2); (try clear hk); (try clear hi); (try clear ho0); (try clear ho1); (try simp only [errW_none, errW_some]); obtain ⟨Ao9, co9, eo9⟩ := Kd.N_slice HO224.out; subst eo9; have p230 : 0 ≤ (a1 : Int) := of_decide_eq_true (by first | (with_reducible assumption) | assumption); have q230 : a1 < (t222.length : Int) := of_decide_eq_true (by first | (with_reducible assumption) | assumption); obtain ⟨ad230, A230_0, c230_0, e230, hx230_0, hl230_0, hi230_0⟩ := at_L1 (Kd.N_reads' HO224.out).2.2 a1 p230 q230; cases e230; obtain ⟨ce230, hce230, hMe230, hcc230⟩ := Kd.N_get HO224.out [] a1 p230 (by first | exact q230 | exact of_decide_eq_true (by first | (with_reducible assumption) | assumption) | (have e_ := (Kd.N_reads' HO224.out).1; omega)); obtain ⟨ua230_0, uc230_0, rfl, ul230_0, ge230_0⟩ := Kd.FK_slice_open hMe230; have hv230_0 := hcc230 0 _ rfl; rw [Nat.add_zero, show ((Kd.slice 30 (Kd.int .u64))).sz = 1 from rfl, Nat.mul_one] at hv230_0; replace hv230_0 := Option.some.inj (hv230_0.symm.trans hx230_0); injection hv230_0 with hva_ hvn_ hvc_; rw [hva_] at ge230_0; rw [hvc_] at ul230_0; have HL230_0 := Aside0.mk (show Kd.V (Kd.int .u64) 30 _ w.heap.size _ _ (rd_L1 t222 a1) from Kd.V_mk ul230_0 ge230_0); clear hva_ hvn_ hvc_ ge230_0 ul230_0; clear hcc230 hce230; have HR230_0 := Aside0.mk hi230_0; have HC230_0 := Aside0.mk hl230_0; clear hi230_0 hl230_0; replace p230 := eq_true p230; replace q230 := eq_true q230; obtain ⟨Ao10, co10, eo10⟩ := Kd.R_slice HO227.out; subst eo10; have p231 : 0 ≤ (a1 : Int) := of_decide_eq_true (by first | (with_reducible assumption) | assumption); have q231 : a1 < (t225.length : Int) := of_decide_eq_true (by first | (with_reducible assumption) | assumption); obtain ⟨ad231, e231, hx231_0⟩ := Kd.at_int (Kd.R_reads' HO227.out).2.2 a1 p231 q231; cases e231; replace p231 := eq_true p231; replace q231 := eq_true q231) | (go_at_call 69; (with_reducible refine (tree_at.calls _ _ (rd_L1 t222 a1) 0 (rd t225 a1) t232 _ ?side1 ?side2 A7.out).mono ?_); (case side1 => repeat (first | exact (by repeat (first | (with_reducible exact HR230_0.out) | (with_reducible refine Kd.C_alloc ?_ _) | (with_reducible refine Kd.C_drewN ?_ _) | (with_reducible refine Kd.C_drew ?_) | exact HR230_0.out)) | (with_reducible refine Kd.C_alloc ?_ _) | (with_reducible refine Kd.C_drewN ?_ _) | (with_reducible refine Kd.C_drew ?_))); (case side2 => exact HC230_0.out); rintro e w' ⟨rfl, ⟨nd, rfl⟩⟩; (try first | exact ⟨rfl, _, World.drewN_drewN _ _ _⟩ | exact ⟨rfl, _, Eq.trans (World.drewN_drewN _ _ _) (congrArg (World.drewN _) (Nat.add_assoc _ _ _))⟩))); try go_wp2_with (first | (go_at_call 68; (with_reducible refine (tree_rows.calls k (fun k_ => k_ < w.heap.size) _ _ l0 a1 t222 t225 none _ ?side1 A3.out).mono ?_); (case side1 => exact Kd.V_mk HC0.out (Kd.F_below (Kd.C_F (Kd.heap_int .u64) HR0.out) (by repeat (first | (with_reducible first | exact HB.out | apply below_alloc | apply pw_below_drewN | apply below_drew1) | exact HB.out)))); rintro e w8 ⟨v223, v226, rfl, ho0, ho1, hb⟩; have n0_ := Aside0.mk (Kd.N_lower (Kd.N_mono (ok' := fun k_ => some k_ ≠ (v226 : Value).ownBlock) ho0 (fun k_ hk_ => hk_.2)) (below_size (by repeat (first | (with_reducible first | exact HB.out | apply below_alloc | apply pw_below_drewN | apply below_drew1) | exact HB.out)))); have n1_ := Aside0.mk (Kd.R_lower (Kd.R_mono (ok' := fun k_ => True) ho1 (fun _ hk_ => trivial)) (below_size (by repeat (first | (with_reducible first | exact HB.out | apply below_alloc | apply pw_below_drewN | apply below_drew1) | exact HB.out)))); have n2_ := Aside0.mk (below_step (by repeat (first | (with_reducible first | exact HB.out | apply below_alloc | apply pw_below_drewN | apply below_drew1) | exact HB.out)) hb); clear HB; have HO224 := n0_; have HO227 := n1_; have HB := n2_; clear n0_ n1_ n2_; (try clear hb); (try clear hb2); (try clear hk); (try clear hi); (try clear ho0); (try clear ho1); (try simp only [errW_none, errW_some]); obtain ⟨Ao9, co9, eo9⟩ := Kd.N_slice HO224.out; subst eo9; have p230 : 0 ≤ (a1 : Int) := of_decide_eq_true (by first | (with_reducible assumption) | assumption); have q230 : a1 < (t222.length : Int) := of_decide_eq_true (by first | (with_reducible assumption) | assumption); obtain ⟨ad230, A230_0, c230_0, e230, hx230_0, hl230_0, hi230_0⟩ := at_L1 (Kd.N_reads' HO224.out).2.2 a1 p230 q230; cases e230; obtain ⟨ce230, hce230, hMe230, hcc230⟩ := Kd.N_get HO224.out [] a1 p230 (by first | exact q230 | exact of_decide_eq_true (by first | (with_reducible assumption) | assumption) | (have e_ := (Kd.N_reads' HO224.out).1; omega)); obtain ⟨ua230_0, uc230_0, rfl, ul230_0, ge230_0⟩ := Kd.FK_slice_open hMe230; have hv230_0 := hcc230 0 _ rfl; rw [Nat.add_zero, show ((Kd.slice 30 (Kd.int .u64))).sz = 1 from rfl, Nat.mul_one] at hv230_0; replace hv230_0 := Option.some.inj (hv230_0.symm.trans hx230_0); injection hv230_0 with hva_ hvn_ hvc_; rw [hva_] at ge230_0; rw [hvc_] at ul230_0; have HL230_0 := Aside0.mk (show Kd.V (Kd.int .u64) 30 _ w.heap.size _ _ (rd_L1 t222 a1) from Kd.V_mk ul230_0 ge230_0); clear hva_ hvn_ hvc_ ge230_0 ul230_0; clear hcc230 hce230; have HR230_0 := Aside0.mk hi230_0; have HC230_0 := Aside0.mk hl230_0; clear hi230_0 hl230_0; replace p230 := eq_true p230; replace q230 := eq_true q230; obtain ⟨Ao10, co10, eo10⟩ := Kd.R_slice HO227.out; subst eo10; have p231 : 0 ≤ (a1 : Int) := of_decide_eq_true (by first | (with_reducible assumption) | assumption); have q231 : a1 < (t225.length : Int) := of_decide_eq_true (by first | (with_reducible assumption) | assumption); obtain ⟨ad231, e231, hx231_0⟩ := Kd.at_int (Kd.R_reads' HO227.out).2.2 a1 p231 q231; cases e231; replace p231 := eq_true p231; replace q231 := eq_true q231) | (go_at_call 69; (with_reducible refine (tree_at.calls _ _ (rd_L1 t222 a1) 0 (rd t225 a1) t232 _ ?side1 ?side2 A7.out).mono ?_); (case side1 => repeat (first | exact (by repeat (first | (with_reducible exact HR230_0.out) | (with_reducible refine Kd.C_alloc ?_ _) | (with_reducible refine Kd.C_drewN ?_ _) | (with_reducible refine Kd.C_drew ?_) | exact HR230_0.out)) | (with_reducible refine Kd.C_alloc ?_ _) | (with_reducible refine Kd.C_drewN ?_ _) | (with_reducible refine Kd.C_drew ?_))); (case side2 => exact HC230_0.out); rintro e w' ⟨rfl, ⟨nd, rfl⟩⟩; (try first | exact ⟨rfl, _, World.drewN_drewN _ _ _⟩ | exact ⟨rfl, _, Eq.trans (World.drewN_drewN _ _ _) (congrArg (World.drewN _) (Nat.add_assoc _ _ _))⟩))))
          go_ret2
          exact ⟨by first | rfl | (simp [errW_none, errW_some] <;> rfl) | (simp [*, errW_none, errW_some] <;> rfl), by repeat (first | (with_reducible first | exact HB.out | apply below_alloc | apply pw_below_drewN | apply below_drew1) | exact HB.out)⟩
        · rw [if_neg c6] at H
          exact absurd H (by simp)
      · rw [if_neg c5] at H
        exact absurd H (by simp)
    · rw [if_neg c4] at H
      exact absurd H (by simp)
  · have H1 : (some (0, some q229)) = some (r1, r2) := by rw [if_neg (show ¬ (some q229).isNone = true by simp)] at H; exact H
    clear H
    have H := H1
    clear H1
    try simp only [errW_none, errW_some]
    simp only [Option.some.injEq, Prod.mk.injEq] at H
    obtain ⟨rfl, rfl⟩ := H
    go_enter Try.func41, Try.ntmps41
    go_wp2_with (first | (go_at_call 68; (with_reducible refine (tree_rows.calls k (fun k_ => k_ < w.heap.size) _ _ l0 a1 t222 t225 (some q229) _ ?side1 A3.out).mono ?_); (case side1 => exact Kd.V_mk HC0.out (Kd.F_below (Kd.C_F (Kd.heap_int .u64) HR0.out) (by repeat (first | (with_reducible first | exact HB.out | apply below_alloc | apply pw_below_drewN | apply below_drew1) | exact HB.out)))); rintro e w11 ⟨v223, v226, rfl, ho0, ho1, hb⟩; have n0_ := Aside0.mk (Kd.N_lower (Kd.N_mono (ok' := fun k_ => some k_ ≠ (v226 : Value).ownBlock) ho0 (fun k_ hk_ => hk_.2)) (below_size (by repeat (first | (with_reducible first | exact HB.out | apply below_alloc | apply pw_below_drewN | apply below_drew1) | exact HB.out)))); have n1_ := Aside0.mk (Kd.R_lower (Kd.R_mono (ok' := fun k_ => True) ho1 (fun _ hk_ => trivial)) (below_size (by repeat (first | (with_reducible first | exact HB.out | apply below_alloc | apply pw_below_drewN | apply below_drew1) | exact HB.out)))); have n2_ := Aside0.mk (below_step (by repeat (first | (with_reducible first | exact HB.out | apply below_alloc | apply pw_below_drewN | apply below_drew1) | exact HB.out)) hb); clear HB; have HO224 := n0_; have HO227 := n1_; have HB := n2_; clear n0_ n1_ n2_; (try clear hb); (try clear hb2); (try clear hk); (try clear hi); (try clear ho0); (try clear ho1); (try simp only [errW_none, errW_some])))
    repeat (go_quiet (first | (go_at_call 68; (with_reducible refine (tree_rows.calls k (fun k_ => k_ < w.heap.size) _ _ l0 a1 t222 t225 (some q229) _ ?side1 A3.out).mono ?_); (case side1 => exact Kd.V_mk HC0.out (Kd.F_below (Kd.C_F (Kd.heap_int .u64) HR0.out) (by repeat (first | (with_reducible first | exact HB.out | apply below_alloc | apply pw_below_drewN | apply below_drew1) | exact HB.out)))); rintro e w11 ⟨v223, v226, rfl, ho0, ho1, hb⟩; have n0_ := Aside0.mk (Kd.N_lower (Kd.N_mono (ok' := fun k_ => some k_ ≠ (v226 : Value).ownBlock) ho0 (fun k_ hk_ => hk_.2)) (below_size (by repeat (first | (with_reducible first | exact HB.out | apply below_alloc | apply pw_below_drewN | apply below_drew1) | exact HB.out)))); have n1_ := Aside0.mk (Kd.R_lower (Kd.R_mono (ok' := fun k_ => True) ho1 (fun _ hk_ => trivial)) (below_size (by repeat (first | (with_reducible first | exact HB.out | apply below_alloc | apply pw_below_drewN | apply below_drew1) | exact HB.out)))); have n2_ := Aside0.mk (below_step (by repeat (first | (with_reducible first | exact HB.out | apply below_alloc | apply pw_below_drewN | apply below_drew1) | exact HB.out)) hb); clear HB; have HO224 := n0_; have HO227 := n1_; have HB := n2_; clear n0_ n1_ n2_; (try clear hb); (try clear hb2); (try clear hk); (try clear hi); (try clear ho0); (try clear ho1); (try simp only [errW_none, errW_some]))); try go_wp2_with (first | (go_at_call 68; (with_reducible refine (tree_rows.calls k (fun k_ => k_ < w.heap.size) _ _ l0 a1 t222 t225 (some q229) _ ?side1 A3.out).mono ?_); (case side1 => exact Kd.V_mk HC0.out (Kd.F_below (Kd.C_F (Kd.heap_int .u64) HR0.out) (by repeat (first | (with_reducible first | exact HB.out | apply below_alloc | apply pw_below_drewN | apply below_drew1) | exact HB.out)))); rintro e w11 ⟨v223, v226, rfl, ho0, ho1, hb⟩; have n0_ := Aside0.mk (Kd.N_lower (Kd.N_mono (ok' := fun k_ => some k_ ≠ (v226 : Value).ownBlock) ho0 (fun k_ hk_ => hk_.2)) (below_size (by repeat (first | (with_reducible first | exact HB.out | apply below_alloc | apply pw_below_drewN | apply below_drew1) | exact HB.out)))); have n1_ := Aside0.mk (Kd.R_lower (Kd.R_mono (ok' := fun k_ => True) ho1 (fun _ hk_ => trivial)) (below_size (by repeat (first | (with_reducible first | exact HB.out | apply below_alloc | apply pw_below_drewN | apply below_drew1) | exact HB.out)))); have n2_ := Aside0.mk (below_step (by repeat (first | (with_reducible first | exact HB.out | apply below_alloc | apply pw_below_drewN | apply below_drew1) | exact HB.out)) hb); clear HB; have HO224 := n0_; have HO227 := n1_; have HB := n2_; clear n0_ n1_ n2_; (try clear hb); (try clear hb2); (try clear hk); (try clear hi); (try clear ho0); (try clear ho1); (try simp only [errW_none, errW_some]))))
    go_ret2
    exact ⟨by first | rfl | (simp [errW_none, errW_some] <;> rfl) | (simp [*, errW_none, errW_some] <;> rfl), by repeat (first | (with_reducible first | exact HB.out | apply below_alloc | apply pw_below_drewN | apply below_drew1) | exact HB.out)⟩

/-! ### obolref16_May: function 42 -/
mutual
def obolref16_May.j0 : Nat → List Int → Int → Bool → Option (Int)
  | 0, _, _, _ => none
  | k + 1, x0, x1, x11 => if x11 = true then (some 1) else (obolref16_May.l0 k x0 x1 0)
def obolref16_May.l0 : Nat → List Int → Int → Int → Option (Int)
  | 0, _, _, _ => none
  | k + 1, x0, x1, x5 => if x5 < (x0.length : Int) then (if 0 ≤ x5 then (if (rd x0 x5) ≥ 288230376287764481 then (some 1) else (obolref16_May.l0 k x0 x1 (wrap64 (x5 + 1)))) else (none)) else (if 0 ≤ x1 then (if (x0.length : Int) > (shl .i64 1 x1) then (some 11) else (some 0)) else (none))
end
def obolref16_May.f (k : Nat) (l0 : List Int) (a1 : Int) : Option (Int) := if a1 < 1 then (obolref16_May.j0 k l0 a1 true) else (obolref16_May.j0 k l0 a1 (decide (a1 > 16)))
theorem obolref16_May.mono_l : ∀ k, (∀ y0 y1 y2, LeO (obolref16_May.j0 k y0 y1 y2) (obolref16_May.j0 (k + 1) y0 y1 y2)) ∧ (∀ y0 y1 y2, LeO (obolref16_May.l0 k y0 y1 y2) (obolref16_May.l0 (k + 1) y0 y1 y2))
  | 0 => ⟨fun _ _ _ r h => by simp [obolref16_May.j0] at h, fun _ _ _ r h => by simp [obolref16_May.l0] at h⟩
  | k + 1 => by
    obtain ⟨ih0, ih1⟩ := obolref16_May.mono_l k
    refine ⟨?_, ?_⟩
    · intro y0 y1 y2
      unfold obolref16_May.j0
      repeat' first
      | (with_reducible exact ih0 _ _ _)
      | (with_reducible exact ih1 _ _ _)
      | (with_reducible exact LeO.refl _)
      | (with_reducible exact LeO.none _)
      | (with_reducible refine LeO.ite ?_ ?_)
      | (with_reducible refine LeO.bind ?_ (fun _ => ?_))
      | exact ih0 _ _ _
      | exact ih1 _ _ _
      | exact LeO.none _
      | refine LeO.ite ?_ ?_
      | refine LeO.bind ?_ (fun _ => ?_)
    · intro y0 y1 y2
      unfold obolref16_May.l0
      repeat' first
      | (with_reducible exact ih0 _ _ _)
      | (with_reducible exact ih1 _ _ _)
      | (with_reducible exact LeO.refl _)
      | (with_reducible exact LeO.none _)
      | (with_reducible refine LeO.ite ?_ ?_)
      | (with_reducible refine LeO.bind ?_ (fun _ => ?_))
      | exact ih0 _ _ _
      | exact ih1 _ _ _
      | exact LeO.none _
      | refine LeO.ite ?_ ?_
      | refine LeO.bind ?_ (fun _ => ?_)
theorem obolref16_May.mono : ∀ a0 a1 k, LeO (obolref16_May.f k a0 a1) (obolref16_May.f (k + 1) a0 a1) := by
  intro a0 a1 k
  obtain ⟨ih0, ih1⟩ := obolref16_May.mono_l k
  unfold obolref16_May.f
  repeat' first
      | (with_reducible exact ih0 _ _ _)
      | (with_reducible exact ih1 _ _ _)
      | (with_reducible exact LeO.refl _)
      | (with_reducible exact LeO.none _)
      | (with_reducible refine LeO.ite ?_ ?_)
      | (with_reducible refine LeO.bind ?_ (fun _ => ?_))
      | exact ih0 _ _ _
      | exact ih1 _ _ _
      | exact LeO.none _
      | refine LeO.ite ?_ ?_
      | refine LeO.bind ?_ (fun _ => ?_)
set_option maxHeartbeats 8000000 in
set_option maxRecDepth 100000 in
theorem obolref16_May.calls (k : Nat) (A0 : Option Addr) (c0 : Nat) (l0 : List Int) (a1 : Int) (r : Int) (w : World) (hr0 : Kd.C (Kd.int .u64) w A0 l0.length l0) (hc0 : l0.length ≤ c0) (h : obolref16_May.f k l0 a1 = some r) :
    Calls Try.prog 42 #[.slice A0 l0.length c0, .int .i64 a1] w fun e w' => e = .returned (.int .i64 r) ∧ Drawn0 w w' := by
  have HR0 := Aside0.mk hr0
  have HC0 := Aside0.mk hc0
  clear hr0 hc0
  have H : (if a1 < 1 then (obolref16_May.j0 k l0 a1 true) else (obolref16_May.j0 k l0 a1 (decide (a1 > 16)))) = some r := h
  clear h
  have HC3 := Aside0.mk H
  clear H
  go_enter Try.func42, Try.ntmps42
  go_upto_region 1 with (fail)
  go_cut [11] (fun v11 wc => ∃ (kq : Nat) (x11_2 : Bool), v11 = .bool x11_2 ∧ Aside0 (obolref16_May.j0 kq l0 a1 x11_2 = some r) ∧ Aside0 (kq ≤ k) ∧ Drawn0 w wc)
  case first =>
    have H := HC3.out
    clear HC3
    by_cases c4 : a1 < 1
    · rw [if_pos c4] at H
      have c4b0 : decide (a1 < 1) = true := decide_eq_true c4
      clear c4
      (first | rw [c4b0] | (simp only [i64_w, i32_w]; rw [c4b0]) | skip)
      have H' := Aside0.mk H
      clear H
      go_wp2
      go_meet
      case rel => exact ⟨_, (true), (by first | rfl | (simp; done) | (simp [*]; done)), H', ⟨by first | omega | exact Nat.le_refl _⟩, by repeat (first | exact Drawn0.refl _ | apply Drawn0.step)⟩
    · rw [if_neg c4] at H
      have c4b0 : decide (a1 < 1) = false := decide_eq_false c4
      clear c4
      (first | rw [c4b0] | (simp only [i64_w, i32_w]; rw [c4b0]) | skip)
      have H' := Aside0.mk H
      clear H
      go_wp2
      go_meet
      case rel => exact ⟨_, (decide (a1 > 16)), (by first | rfl | (simp; done) | (simp [*]; done)), H', ⟨by first | omega | exact Nat.le_refl _⟩, by repeat (first | exact Drawn0.refl _ | apply Drawn0.step)⟩
  case rest =>
    clear HC3
    try clear p2
    try clear c4
    try clear c4b0
    obtain ⟨kq, x11_2, rfl, HA, HJ2, ⟨mc2, rfl⟩⟩ := hcut
    cases kq with
    | zero => exact absurd HA.out (by simp [obolref16_May.j0])
    | succ kj2 =>
      have H := HA.out
      clear HA
      simp only [obolref16_May.j0] at H
      by_cases c5 : x11_2 = true
      · subst c5
        have H1 : (some 1) = some r := by rw [if_pos rfl] at H; exact H
        clear H
        have H := H1
        clear H1
        obtain rfl := Option.some.inj H
        go_wp2
        go_ret
        exact ⟨by first | rfl | (simp; done) | (simp [*]; done), by repeat (first | exact Drawn0.refl _ | apply Drawn0.step)⟩
      · replace c5 := Bool.eq_false_iff.mpr c5
        subst c5
        have H1 : (obolref16_May.l0 kj2 l0 a1 0) = some r := by rw [if_neg (show ¬ (false = true) by decide)] at H; exact H
        clear H
        have H := H1
        clear H1
        have H' := Aside0.mk H
        clear H
        go_wp2
        go_loopg [5] kj2 (fun kq v5 w' => ∃ (x5_2 : Int), v5 = .int .i64 x5_2 ∧ Aside0 (obolref16_May.l0 kq l0 a1 x5_2 = some r) ∧ Aside0 (kq ≤ kj2) ∧ Drawn0 w w')
        case atStart => exact ⟨(0), (by first | rfl | (simp; done) | (simp [*]; done)), H', ⟨Nat.le_refl _⟩, by repeat (first | exact Drawn0.refl _ | apply Drawn0.step)⟩
        case round =>
          clear H'
          try clear c2
          try clear p2
          try clear c4
          try clear c4b0
          try clear c5
          try clear p2
          obtain ⟨x5_2, rfl, HA, HK2, ⟨m2, rfl⟩⟩ := hrel
          cases gk with
          | zero => exact absurd HA.out (by simp [obolref16_May.l0])
          | succ k2 =>
            have H := HA.out
            clear HA
            simp only [obolref16_May.l0] at H
            by_cases c6 : x5_2 < (l0.length : Int)
            · rw [if_pos c6] at H
              have c6b0 : decide (x5_2 < (l0.length : Int)) = true := decide_eq_true c6
              clear c6
              by_cases c7 : 0 ≤ x5_2
              · rw [if_pos c7] at H
                have c7b0 : decide (0 ≤ x5_2) = true := decide_eq_true c7
                clear c7
                by_cases c8 : (rd l0 x5_2) ≥ 288230376287764481
                · rw [if_pos c8] at H
                  have c8b0 : decide (288230376287764481 ≤ (rd l0 x5_2)) = true := decide_eq_true c8
                  clear c8
                  obtain rfl := Option.some.inj H
                  have p233 : 0 ≤ (x5_2 : Int) := of_decide_eq_true (by first | (with_reducible assumption) | assumption)
                  have q233 : x5_2 < (l0.length : Int) := of_decide_eq_true (by first | (with_reducible assumption) | assumption)
                  obtain ⟨ad233, e233, hx233_0⟩ := Kd.at_int HR0.out x5_2 p233 q233
                  cases e233
                  replace p233 := eq_true p233
                  replace q233 := eq_true q233
                  go_wp2
                  go_ret
                  exact ⟨by first | rfl | (simp; done) | (simp [*]; done), by repeat (first | exact Drawn0.refl _ | apply Drawn0.step)⟩
                · rw [if_neg c8] at H
                  have c8b0 : decide (288230376287764481 ≤ (rd l0 x5_2)) = false := decide_eq_false c8
                  clear c8
                  have H' := Aside0.mk H
                  clear H
                  have p233 : 0 ≤ (x5_2 : Int) := of_decide_eq_true (by first | (with_reducible assumption) | assumption)
                  have q233 : x5_2 < (l0.length : Int) := of_decide_eq_true (by first | (with_reducible assumption) | assumption)
                  obtain ⟨ad233, e233, hx233_0⟩ := Kd.at_int HR0.out x5_2 p233 q233
                  cases e233
                  replace p233 := eq_true p233
                  replace q233 := eq_true q233
                  go_wp2
                  go_roundg k2
                  case measure => have := HJ2.out; have := HK2.out; omega
                  case rel => exact ⟨(wrap64 (x5_2 + 1)), (by first | rfl | (simp; done) | (simp [*]; done)), H', ⟨by have := HJ2.out; have := HK2.out; omega⟩, by repeat (first | exact Drawn0.refl _ | apply Drawn0.step)⟩
              · rw [if_neg c7] at H
                exact absurd H (by simp)
            · rw [if_neg c6] at H
              have c6b0 : decide (x5_2 < (l0.length : Int)) = false := decide_eq_false c6
              clear c6
              by_cases c9 : 0 ≤ a1
              · rw [if_pos c9] at H
                have c9b0 := eq_true c9
                have c9b1 : decide (0 ≤ a1) = true := decide_eq_true c9
                clear c9
                obtain ⟨ji10, hji10⟩ : ∃ j_ : Int, (shl .i64 1 a1) = j_ := ⟨_, rfl⟩
                replace H : (if (l0.length : Int) > (ji10) then (some 11) else (some 0)) = some r := by first | (rw [hji10] at H; exact H) | (simp only [hji10] at H ⊢; exact H)
                have hji10_ : (IntKind.i64.wrap (1 * 2 ^ min a1.toNat 64)) = ji10 := hji10
                have hji10z : a1 ≤ 64 → (IntKind.i64.wrap (1 * 2 ^ a1.toNat)) = ji10 := shl_small hji10
                have hji10u : (IntKind.i64.wrap (2 ^ min a1.toNat 64)) = ji10 := by have h_ := hji10_; rw [Int.one_mul] at h_; exact h_
                have hji10v : a1 ≤ 64 → (IntKind.i64.wrap (2 ^ a1.toNat)) = ji10 := fun hle_ => by have h_ := hji10z hle_; rw [Int.one_mul] at h_; exact h_
                have hji10y : (wrap64 (1 * 2 ^ min a1.toNat 64)) = ji10 := (i64_w _).symm.trans hji10_
                have hji10x : a1 ≤ 64 → (wrap64 (1 * 2 ^ a1.toNat)) = ji10 := fun h_ => (i64_w _).symm.trans (hji10z h_)
                by_cases c11 : (l0.length : Int) > (ji10)
                · rw [if_pos c11] at H
                  have c11b0 : decide ((ji10) < (l0.length : Int)) = true := decide_eq_true c11
                  clear c11
                  obtain rfl := Option.some.inj H
                  go_wp2
                  go_ret
                  exact ⟨by first | rfl | (simp; done) | (simp only [← hji10] <;> (first | rfl | simp)) | (simp [*]; done), by repeat (first | exact Drawn0.refl _ | apply Drawn0.step)⟩
                · rw [if_neg c11] at H
                  have c11b0 : decide ((ji10) < (l0.length : Int)) = false := decide_eq_false c11
                  clear c11
                  obtain rfl := Option.some.inj H
                  go_wp2
                  go_ret
                  exact ⟨by first | rfl | (simp; done) | (simp only [← hji10] <;> (first | rfl | simp)) | (simp [*]; done), by repeat (first | exact Drawn0.refl _ | apply Drawn0.step)⟩
              · rw [if_neg c9] at H
                exact absurd H (by simp)

/-! ### obollaw00_Code: function 43 -/
def obollaw00_Code.l0 : Nat → Option Int → Int → Option (Int)
  | 0, _, _ => none
  | k + 1, x0, x3 => if x3 ≤ 15 then (if x0.isNone = true then (obollaw00_Code.l0 k none (wrap64 (x3 + 1))) else (if (x0.getD 0) = x3 then (some x3) else (obollaw00_Code.l0 k (some (x0.getD 0)) (wrap64 (x3 + 1))))) else (some (-1))
def obollaw00_Code.f (k : Nat) (a0 : Option Int) : Option (Int) := if a0.isNone = true then (some 0) else (obollaw00_Code.l0 k (some (a0.getD 0)) 1)
theorem obollaw00_Code.mono_l : ∀ k, (∀ y0 y1, LeO (obollaw00_Code.l0 k y0 y1) (obollaw00_Code.l0 (k + 1) y0 y1))
  | 0 => fun _ _ r h => by simp [obollaw00_Code.l0] at h
  | k + 1 => by
    have ih0 := obollaw00_Code.mono_l k
    · intro y0 y1
      unfold obollaw00_Code.l0
      repeat' first
      | (with_reducible exact ih0 _ _)
      | (with_reducible exact LeO.refl _)
      | (with_reducible exact LeO.none _)
      | (with_reducible refine LeO.ite ?_ ?_)
      | (with_reducible refine LeO.bind ?_ (fun _ => ?_))
      | exact ih0 _ _
      | exact LeO.none _
      | refine LeO.ite ?_ ?_
      | refine LeO.bind ?_ (fun _ => ?_)
theorem obollaw00_Code.mono : ∀ a0 k, LeO (obollaw00_Code.f k a0) (obollaw00_Code.f (k + 1) a0) := by
  intro a0 k
  have ih0 := obollaw00_Code.mono_l k
  unfold obollaw00_Code.f
  repeat' first
      | (with_reducible exact ih0 _ _)
      | (with_reducible exact LeO.refl _)
      | (with_reducible exact LeO.none _)
      | (with_reducible refine LeO.ite ?_ ?_)
      | (with_reducible refine LeO.bind ?_ (fun _ => ?_))
      | exact ih0 _ _
      | exact LeO.none _
      | refine LeO.ite ?_ ?_
      | refine LeO.bind ?_ (fun _ => ?_)
set_option maxHeartbeats 8000000 in
set_option maxRecDepth 100000 in
theorem obollaw00_Code.calls (k : Nat) (a0 : Option Int) (r : Int) (w : World) (h : obollaw00_Code.f k a0 = some r) :
    Calls Try.prog 43 #[errW a0] w fun e w' => e = .returned (.int .i64 r) ∧ Drawn0 w w' := by
  have hu25 := Try.underlying25
  have hu28 := Try.underlying28
  have H : (if a0.isNone = true then (some 0) else (obollaw00_Code.l0 k (some (a0.getD 0)) 1)) = some r := h
  clear h
  rcases a0 with _ | q234
  · have H1 : (some 0) = some r := by rw [if_pos (show (none : Option Int).isNone = true by rfl)] at H; exact H
    clear H
    have H := H1
    clear H1
    simp only [errW_none, errW_some]
    obtain rfl := Option.some.inj H
    go_enter Try.func43, Try.ntmps43
    go_wp2
    go_ret
    exact ⟨by first | rfl | (simp; done) | (simp [*]; done), by repeat (first | exact Drawn0.refl _ | apply Drawn0.step)⟩
  · have H1 : (obollaw00_Code.l0 k (some q234) 1) = some r := by rw [if_neg (show ¬ (some q234).isNone = true by simp)] at H; exact H
    clear H
    have H := H1
    clear H1
    simp only [errW_none, errW_some]
    have H' := Aside0.mk H
    clear H
    go_enter Try.func43, Try.ntmps43
    go_wp2
    go_loopg [3] k (fun kq v3 w' => ∃ (x3_1 : Int), v3 = .int .i64 x3_1 ∧ Aside0 (obollaw00_Code.l0 kq (some q234) x3_1 = some r) ∧ Aside0 (kq ≤ k) ∧ Drawn0 w w')
    case atStart => exact ⟨(1), (by first | rfl | (simp; done) | (simp [*]; done)), H', ⟨Nat.le_refl _⟩, by repeat (first | exact Drawn0.refl _ | apply Drawn0.step)⟩
    case round =>
      clear H'
      try clear q234
      obtain ⟨x3_1, rfl, HA, HK1, ⟨m1, rfl⟩⟩ := hrel
      cases gk with
      | zero => exact absurd HA.out (by simp [obollaw00_Code.l0])
      | succ k1 =>
        have H := HA.out
        clear HA
        simp only [obollaw00_Code.l0] at H
        by_cases c2 : x3_1 ≤ 15
        · rw [if_pos c2] at H
          have c2b0 : decide (x3_1 ≤ 15) = true := decide_eq_true c2
          clear c2
          have H1 : (if q234 = x3_1 then (some x3_1) else (obollaw00_Code.l0 k1 (some q234) (wrap64 (x3_1 + 1)))) = some r := by rw [if_neg (show ¬ (some q234).isNone = true by simp)] at H; exact H
          clear H
          have H := H1
          clear H1
          by_cases c3 : q234 = x3_1
          · rw [if_pos c3] at H
            have c3b0 : (q234 == x3_1) = true := beq_iff_eq.mpr c3
            have c3b1 : (q234 != x3_1) = false := bne_eq_false_iff_eq.mpr c3
            clear c3
            obtain rfl := Option.some.inj H
            go_wp2
            go_ret
            exact ⟨by first | rfl | (simp; done) | (simp [*]; done), by repeat (first | exact Drawn0.refl _ | apply Drawn0.step)⟩
          · rw [if_neg c3] at H
            have c3b0 : (q234 == x3_1) = false := beq_eq_false_iff_ne.mpr c3
            have c3b1 : (q234 != x3_1) = true := bne_iff_ne.mpr c3
            have H' := Aside0.mk H
            clear H
            go_wp2
            go_roundg k1
            case measure => have := HK1.out; omega
            case rel => exact ⟨(wrap64 (x3_1 + 1)), (by first | rfl | (simp; done) | (simp [*]; done)), H', ⟨by have := HK1.out; omega⟩, by repeat (first | exact Drawn0.refl _ | apply Drawn0.step)⟩
        · rw [if_neg c2] at H
          have c2b0 : decide (x3_1 ≤ 15) = false := decide_eq_false c2
          clear c2
          obtain rfl := Option.some.inj H
          go_wp2
          go_ret
          exact ⟨by first | rfl | (simp; done) | (simp [*]; done), by repeat (first | exact Drawn0.refl _ | apply Drawn0.step)⟩

/-! ### obolref01_Add: function 77 -/
def obolref01_Add.f (a0 : Int) (a1 : Int) (a2 : Int) : Option (Int) := if a0 = 0 then (none) else (if (Int.tmod a1 a0) ≥ (IntKind.u64.wrap (a0 - (Int.tmod a2 a0))) then (some (IntKind.u64.wrap ((Int.tmod a1 a0) - (IntKind.u64.wrap (a0 - (Int.tmod a2 a0)))))) else (some (IntKind.u64.wrap ((Int.tmod a1 a0) + (Int.tmod a2 a0)))))
set_option maxHeartbeats 8000000 in
set_option maxRecDepth 100000 in
theorem obolref01_Add.calls (a0 : Int) (a1 : Int) (a2 : Int) (r : Int) (w : World) (h : obolref01_Add.f a0 a1 a2 = some r) :
    Calls Try.prog 77 #[.int .u64 a0, .int .u64 a1, .int .u64 a2] w fun e w' => e = .returned (.int .u64 r) ∧ Drawn0 w w' := by
  have H : (if a0 = 0 then (none) else (if (Int.tmod a1 a0) ≥ (IntKind.u64.wrap (a0 - (Int.tmod a2 a0))) then (some (IntKind.u64.wrap ((Int.tmod a1 a0) - (IntKind.u64.wrap (a0 - (Int.tmod a2 a0)))))) else (some (IntKind.u64.wrap ((Int.tmod a1 a0) + (Int.tmod a2 a0)))))) = some r := h
  clear h
  by_cases c4 : a0 = 0
  · rw [if_pos c4] at H
    exact absurd H (by simp)
  · rw [if_neg c4] at H
    have c4b0 : (a0 == 0) = false := beq_eq_false_iff_ne.mpr c4
    have c4b1 : (a0 != 0) = true := bne_iff_ne.mpr c4
    by_cases c5 : (Int.tmod a1 a0) ≥ (IntKind.u64.wrap (a0 - (Int.tmod a2 a0)))
    · rw [if_pos c5] at H
      have c5b0 : decide ((IntKind.u64.wrap (a0 - (Int.tmod a2 a0))) ≤ (Int.tmod a1 a0)) = true := decide_eq_true c5
      clear c5
      obtain rfl := Option.some.inj H
      go_enter Try.func77, Try.ntmps77
      go_wp2
      go_ret
      exact ⟨by first | rfl | (simp; done) | (simp [*]; done), by repeat (first | exact Drawn0.refl _ | apply Drawn0.step)⟩
    · rw [if_neg c5] at H
      have c5b0 : decide ((IntKind.u64.wrap (a0 - (Int.tmod a2 a0))) ≤ (Int.tmod a1 a0)) = false := decide_eq_false c5
      clear c5
      obtain rfl := Option.some.inj H
      go_enter Try.func77, Try.ntmps77
      go_wp2
      go_ret
      exact ⟨by first | rfl | (simp; done) | (simp [*]; done), by repeat (first | exact Drawn0.refl _ | apply Drawn0.step)⟩

/-! ### obolref07_Plus: function 65 -/
def obolref07_Plus.f (a0 : Int) (a1 : Int) : Option (Int) := (obolref01_Add.f 288230376287764481 a0 a1).bind fun t236 => (some t236)
set_option maxHeartbeats 8000000 in
set_option maxRecDepth 100000 in
theorem obolref07_Plus.calls (a0 : Int) (a1 : Int) (r : Int) (w : World) (h : obolref07_Plus.f a0 a1 = some r) :
    Calls Try.prog 65 #[.int .u64 a0, .int .u64 a1] w fun e w' => e = .returned (.int .u64 r) ∧ Drawn0 w w' := by
  have H : ((obolref01_Add.f 288230376287764481 a0 a1).bind fun t236 => (some t236)) = some r := h
  clear h
  replace H := Option.bind_eq_some_iff.mp H
  obtain ⟨t236, A30, H⟩ := H
  replace H : (some t236) = some r := H
  have A3 := Aside0.mk A30
  clear A30
  obtain rfl := Option.some.inj H
  go_enter Try.func65, Try.ntmps65
  go_wp2_with (first | ((with_reducible refine gate_callee (f := 77) rfl ?_); refine goesL_ (some 7) rfl rfl Try.func77 (by kernel_rfl) rfl #[.int .u64 288230376287764481, .int .u64 a0, .int .u64 a1] rfl (by (try simp only [List.map_toArray, List.map_cons, List.map_nil]); first | done | rfl | (simp only [List.length_drop, List.length_take]; rfl)) ?_; (with_reducible refine (obolref01_Add.calls 288230376287764481 a0 a1 t236 _ A3.out).mono ?_); rintro e w' ⟨rfl, ⟨nd, rfl⟩⟩; refine ⟨_, rfl, ?_⟩))
  go_ret
  exact ⟨by first | rfl | (simp; done) | (simp [*]; done), by repeat (first | exact Drawn0.refl _ | apply Drawn0.step)⟩

/-! ### obolref01_Mul: function 64 -/
mutual
def obolref01_Mul.l0 : Nat → Int → Int → Int → Int → Int → Option (Int)
  | 0, _, _, _, _, _ => none
  | k + 1, x0, x7, x8, x9, x10 => if x10 < 64 then (if x9 ≥ (IntKind.u64.wrap (x0 - x9)) then (obolref01_Mul.j1 k x0 x7 x8 (IntKind.u64.wrap (x9 - (IntKind.u64.wrap (x0 - x9)))) x10) else (obolref01_Mul.j1 k x0 x7 x8 (IntKind.u64.wrap (x9 + x9)) x10)) else (some x9)
def obolref01_Mul.j1 : Nat → Int → Int → Int → Int → Int → Option (Int)
  | 0, _, _, _, _, _ => none
  | k + 1, x0, x7, x8, x9, x10 => if 0 ≤ (wrap64 (63 - x10)) then (if (Go.bits .and .u64 (shr .u64 x8 (wrap64 (63 - x10))) 1) = 1 then (if x9 ≥ (IntKind.u64.wrap (x0 - x7)) then (obolref01_Mul.l0 k x0 x7 x8 (IntKind.u64.wrap (x9 - (IntKind.u64.wrap (x0 - x7)))) (wrap64 (x10 + 1))) else (obolref01_Mul.l0 k x0 x7 x8 (IntKind.u64.wrap (x9 + x7)) (wrap64 (x10 + 1)))) else (obolref01_Mul.l0 k x0 x7 x8 x9 (wrap64 (x10 + 1)))) else (none)
end
def obolref01_Mul.f (k : Nat) (a0 : Int) (a1 : Int) (a2 : Int) : Option (Int) := if a0 = 0 then (none) else (obolref01_Mul.l0 k a0 (Int.tmod a1 a0) (Int.tmod a2 a0) 0 0)
theorem obolref01_Mul.mono_l : ∀ k, (∀ y0 y1 y2 y3 y4, LeO (obolref01_Mul.l0 k y0 y1 y2 y3 y4) (obolref01_Mul.l0 (k + 1) y0 y1 y2 y3 y4)) ∧ (∀ y0 y1 y2 y3 y4, LeO (obolref01_Mul.j1 k y0 y1 y2 y3 y4) (obolref01_Mul.j1 (k + 1) y0 y1 y2 y3 y4))
  | 0 => ⟨fun _ _ _ _ _ r h => by simp [obolref01_Mul.l0] at h, fun _ _ _ _ _ r h => by simp [obolref01_Mul.j1] at h⟩
  | k + 1 => by
    obtain ⟨ih0, ih1⟩ := obolref01_Mul.mono_l k
    refine ⟨?_, ?_⟩
    · intro y0 y1 y2 y3 y4
      unfold obolref01_Mul.l0
      repeat' first
      | (with_reducible exact ih0 _ _ _ _ _)
      | (with_reducible exact ih1 _ _ _ _ _)
      | (with_reducible exact LeO.refl _)
      | (with_reducible exact LeO.none _)
      | (with_reducible refine LeO.ite ?_ ?_)
      | (with_reducible refine LeO.bind ?_ (fun _ => ?_))
      | exact ih0 _ _ _ _ _
      | exact ih1 _ _ _ _ _
      | exact LeO.none _
      | refine LeO.ite ?_ ?_
      | refine LeO.bind ?_ (fun _ => ?_)
    · intro y0 y1 y2 y3 y4
      unfold obolref01_Mul.j1
      repeat' first
      | (with_reducible exact ih0 _ _ _ _ _)
      | (with_reducible exact ih1 _ _ _ _ _)
      | (with_reducible exact LeO.refl _)
      | (with_reducible exact LeO.none _)
      | (with_reducible refine LeO.ite ?_ ?_)
      | (with_reducible refine LeO.bind ?_ (fun _ => ?_))
      | exact ih0 _ _ _ _ _
      | exact ih1 _ _ _ _ _
      | exact LeO.none _
      | refine LeO.ite ?_ ?_
      | refine LeO.bind ?_ (fun _ => ?_)
theorem obolref01_Mul.mono : ∀ a0 a1 a2 k, LeO (obolref01_Mul.f k a0 a1 a2) (obolref01_Mul.f (k + 1) a0 a1 a2) := by
  intro a0 a1 a2 k
  obtain ⟨ih0, ih1⟩ := obolref01_Mul.mono_l k
  unfold obolref01_Mul.f
  repeat' first
      | (with_reducible exact ih0 _ _ _ _ _)
      | (with_reducible exact ih1 _ _ _ _ _)
      | (with_reducible exact LeO.refl _)
      | (with_reducible exact LeO.none _)
      | (with_reducible refine LeO.ite ?_ ?_)
      | (with_reducible refine LeO.bind ?_ (fun _ => ?_))
      | exact ih0 _ _ _ _ _
      | exact ih1 _ _ _ _ _
      | exact LeO.none _
      | refine LeO.ite ?_ ?_
      | refine LeO.bind ?_ (fun _ => ?_)
set_option maxHeartbeats 8000000 in
set_option maxRecDepth 100000 in
theorem obolref01_Mul.calls (k : Nat) (a0 : Int) (a1 : Int) (a2 : Int) (r : Int) (w : World) (h : obolref01_Mul.f k a0 a1 a2 = some r) :
    Calls Try.prog 64 #[.int .u64 a0, .int .u64 a1, .int .u64 a2] w fun e w' => e = .returned (.int .u64 r) ∧ Drawn0 w w' := by
  have H : (if a0 = 0 then (none) else (obolref01_Mul.l0 k a0 (Int.tmod a1 a0) (Int.tmod a2 a0) 0 0)) = some r := h
  clear h
  by_cases c4 : a0 = 0
  · rw [if_pos c4] at H
    exact absurd H (by simp)
  · rw [if_neg c4] at H
    have c4b0 : (a0 == 0) = false := beq_eq_false_iff_ne.mpr c4
    have c4b1 : (a0 != 0) = true := bne_iff_ne.mpr c4
    have H' := Aside0.mk H
    clear H
    go_enter Try.func64, Try.ntmps64
    go_wp2
    go_loopg [9, 10] k (fun kq v9 v10 w' => ∃ (x9_1 : Int) (x10_1 : Int), v9 = .int .u64 x9_1 ∧ v10 = .int .i64 x10_1 ∧ Aside0 (obolref01_Mul.l0 kq a0 (Int.tmod a1 a0) (Int.tmod a2 a0) x9_1 x10_1 = some r) ∧ Aside0 (kq ≤ k) ∧ Drawn0 w w')
    case atStart => exact ⟨(0), (0), (by first | rfl | (simp; done) | (simp [*]; done)), (by first | rfl | (simp; done) | (simp [*]; done)), H', ⟨Nat.le_refl _⟩, by repeat (first | exact Drawn0.refl _ | apply Drawn0.step)⟩
    case round =>
      clear H'
      try clear p2
      try clear c4
      try clear c4b0
      try clear c4b1
      obtain ⟨x9_1, x10_1, rfl, rfl, HA, HK1, ⟨m1, rfl⟩⟩ := hrel
      cases gk with
      | zero => exact absurd HA.out (by simp [obolref01_Mul.l0])
      | succ k1 =>
        have H := HA.out
        clear HA
        simp only [obolref01_Mul.l0] at H
        by_cases c5 : x10_1 < 64
        · rw [if_pos c5] at H
          have c5b0 : decide (x10_1 < 64) = true := decide_eq_true c5
          clear c5
          have HC6 := Aside0.mk H
          clear H
          go_upto_if 25 with (fail)
          go_cut [9] (fun v9 wc => ∃ (kq : Nat) (x9_5 : Int), v9 = .int .u64 x9_5 ∧ Aside0 (obolref01_Mul.j1 kq a0 (Int.tmod a1 a0) (Int.tmod a2 a0) x9_5 x10_1 = some r) ∧ Aside0 (kq ≤ k1) ∧ Drawn0 w wc)
          case first =>
            have H := HC6.out
            clear HC6
            by_cases c7 : x9_1 ≥ (IntKind.u64.wrap (a0 - x9_1))
            · rw [if_pos c7] at H
              have c7b0 : decide ((IntKind.u64.wrap (a0 - x9_1)) ≤ x9_1) = true := decide_eq_true c7
              clear c7
              (first | rw [c7b0] | (simp only [i64_w, i32_w]; rw [c7b0]) | skip)
              have H' := Aside0.mk H
              clear H
              go_wp2
              go_meet
              case rel => exact ⟨_, (IntKind.u64.wrap (x9_1 - (IntKind.u64.wrap (a0 - x9_1)))), (by first | rfl | (simp; done) | (simp [*]; done)), H', ⟨by have := HK1.out; first | omega | exact Nat.le_refl _⟩, by repeat (first | exact Drawn0.refl _ | apply Drawn0.step)⟩
            · rw [if_neg c7] at H
              have c7b0 : decide ((IntKind.u64.wrap (a0 - x9_1)) ≤ x9_1) = false := decide_eq_false c7
              clear c7
              (first | rw [c7b0] | (simp only [i64_w, i32_w]; rw [c7b0]) | skip)
              have H' := Aside0.mk H
              clear H
              go_wp2
              go_meet
              case rel => exact ⟨_, (IntKind.u64.wrap (x9_1 + x9_1)), (by first | rfl | (simp; done) | (simp [*]; done)), H', ⟨by have := HK1.out; first | omega | exact Nat.le_refl _⟩, by repeat (first | exact Drawn0.refl _ | apply Drawn0.step)⟩
          case rest =>
            clear HC6
            try clear p2
            try clear c4
            try clear c4b0
            try clear c4b1
            try clear c5
            try clear c5b0
            try clear c6
            try clear c7
            try clear c7b0
            try clear p2
            obtain ⟨kq, x9_5, rfl, HA, HJ5, ⟨mc5, rfl⟩⟩ := hcut
            cases kq with
            | zero => exact absurd HA.out (by simp [obolref01_Mul.j1])
            | succ kj5 =>
              have H := HA.out
              clear HA
              simp only [obolref01_Mul.j1] at H
              obtain ⟨ji8, hji8⟩ : ∃ j_ : Int, (wrap64 (63 - x10_1)) = j_ := ⟨_, rfl⟩
              replace H : (if 0 ≤ (ji8) then (if (Go.bits .and .u64 (shr .u64 (Int.tmod a2 a0) (ji8)) 1) = 1 then (if x9_5 ≥ (IntKind.u64.wrap (a0 - (Int.tmod a1 a0))) then (obolref01_Mul.l0 kj5 a0 (Int.tmod a1 a0) (Int.tmod a2 a0) (IntKind.u64.wrap (x9_5 - (IntKind.u64.wrap (a0 - (Int.tmod a1 a0))))) (wrap64 (x10_1 + 1))) else (obolref01_Mul.l0 kj5 a0 (Int.tmod a1 a0) (Int.tmod a2 a0) (IntKind.u64.wrap (x9_5 + (Int.tmod a1 a0))) (wrap64 (x10_1 + 1)))) else (obolref01_Mul.l0 kj5 a0 (Int.tmod a1 a0) (Int.tmod a2 a0) x9_5 (wrap64 (x10_1 + 1)))) else (none)) = some r := by first | (rw [hji8] at H; exact H) | (simp only [hji8] at H ⊢; exact H)
              have hji8w : (IntKind.i64.wrap (63 - x10_1)) = ji8 := (i64_w _).trans hji8
              by_cases c9 : 0 ≤ (ji8)
              · rw [if_pos c9] at H
                have c9b0 := eq_true c9
                have c9b1 : decide (0 ≤ (ji8)) = true := decide_eq_true c9
                clear c9
                obtain ⟨ji10, hji10⟩ : ∃ j_ : Int, (shr .u64 (Int.tmod a2 a0) (ji8)) = j_ := ⟨_, rfl⟩
                replace H : (if (Go.bits .and .u64 (ji10) 1) = 1 then (if x9_5 ≥ (IntKind.u64.wrap (a0 - (Int.tmod a1 a0))) then (obolref01_Mul.l0 kj5 a0 (Int.tmod a1 a0) (Int.tmod a2 a0) (IntKind.u64.wrap (x9_5 - (IntKind.u64.wrap (a0 - (Int.tmod a1 a0))))) (wrap64 (x10_1 + 1))) else (obolref01_Mul.l0 kj5 a0 (Int.tmod a1 a0) (Int.tmod a2 a0) (IntKind.u64.wrap (x9_5 + (Int.tmod a1 a0))) (wrap64 (x10_1 + 1)))) else (obolref01_Mul.l0 kj5 a0 (Int.tmod a1 a0) (Int.tmod a2 a0) x9_5 (wrap64 (x10_1 + 1)))) = some r := by first | (rw [hji10] at H; exact H) | (simp only [hji10] at H ⊢; exact H)
                have hji10_ : ((Int.tmod a2 a0) / 2 ^ min (ji8).toNat 64) = ji10 := hji10
                have hji10z : (ji8) ≤ 64 → ((Int.tmod a2 a0) / 2 ^ (ji8).toNat) = ji10 := shr_small hji10
                by_cases c11 : (Go.bits .and .u64 (ji10) 1) = 1
                · rw [if_pos c11] at H
                  have c11b0 : ((Go.bits .and .u64 (ji10) 1) == 1) = true := beq_iff_eq.mpr c11
                  have c11b1 : ((Go.bits .and .u64 (ji10) 1) != 1) = false := bne_eq_false_iff_eq.mpr c11
                  clear c11
                  by_cases c12 : x9_5 ≥ (IntKind.u64.wrap (a0 - (Int.tmod a1 a0)))
                  · rw [if_pos c12] at H
                    have c12b0 : decide ((IntKind.u64.wrap (a0 - (Int.tmod a1 a0))) ≤ x9_5) = true := decide_eq_true c12
                    clear c12
                    have H' := Aside0.mk H
                    clear H
                    go_wp2
                    go_roundg kj5
                    case measure => have := HK1.out; have := HJ5.out; omega
                    case rel => exact ⟨(IntKind.u64.wrap (x9_5 - (IntKind.u64.wrap (a0 - (Int.tmod a1 a0))))), (wrap64 (x10_1 + 1)), (by first | rfl | (simp; done) | (simp [*]; done)), (by first | rfl | (simp; done) | (simp [*]; done)), H', ⟨by have := HK1.out; have := HJ5.out; omega⟩, by repeat (first | exact Drawn0.refl _ | apply Drawn0.step)⟩
                  · rw [if_neg c12] at H
                    have c12b0 : decide ((IntKind.u64.wrap (a0 - (Int.tmod a1 a0))) ≤ x9_5) = false := decide_eq_false c12
                    clear c12
                    have H' := Aside0.mk H
                    clear H
                    go_wp2
                    go_roundg kj5
                    case measure => have := HK1.out; have := HJ5.out; omega
                    case rel => exact ⟨(IntKind.u64.wrap (x9_5 + (Int.tmod a1 a0))), (wrap64 (x10_1 + 1)), (by first | rfl | (simp; done) | (simp [*]; done)), (by first | rfl | (simp; done) | (simp [*]; done)), H', ⟨by have := HK1.out; have := HJ5.out; omega⟩, by repeat (first | exact Drawn0.refl _ | apply Drawn0.step)⟩
                · rw [if_neg c11] at H
                  have c11b0 : ((Go.bits .and .u64 (ji10) 1) == 1) = false := beq_eq_false_iff_ne.mpr c11
                  have c11b1 : ((Go.bits .and .u64 (ji10) 1) != 1) = true := bne_iff_ne.mpr c11
                  have H' := Aside0.mk H
                  clear H
                  go_wp2
                  go_roundg kj5
                  case measure => have := HK1.out; have := HJ5.out; omega
                  case rel => exact ⟨(x9_5), (wrap64 (x10_1 + 1)), (by first | rfl | (simp; done) | (simp [*]; done)), (by first | rfl | (simp; done) | (simp [*]; done)), H', ⟨by have := HK1.out; have := HJ5.out; omega⟩, by repeat (first | exact Drawn0.refl _ | apply Drawn0.step)⟩
              · rw [if_neg c9] at H
                exact absurd H (by simp)
        · rw [if_neg c5] at H
          have c5b0 : decide (x10_1 < 64) = false := decide_eq_false c5
          clear c5
          obtain rfl := Option.some.inj H
          go_wp2
          go_ret
          exact ⟨by first | rfl | (simp; done) | (simp [*]; done), by repeat (first | exact Drawn0.refl _ | apply Drawn0.step)⟩

/-! ### obolref07_Mul: function 34 -/
def obolref07_Mul.f (k : Nat) (a0 : Int) (a1 : Int) : Option (Int) := (obolref01_Mul.f k 288230376287764481 a0 a1).bind fun t237 => (some t237)
theorem obolref07_Mul.mono : ∀ a0 a1 k, LeO (obolref07_Mul.f k a0 a1) (obolref07_Mul.f (k + 1) a0 a1) := by
  intro a0 a1 k
  unfold obolref07_Mul.f
  repeat' first
      | (with_reducible exact obolref01_Mul.mono _ _ _ _)
      | (with_reducible exact LeO.refl _)
      | (with_reducible exact LeO.none _)
      | (with_reducible refine LeO.ite ?_ ?_)
      | (with_reducible refine LeO.bind ?_ (fun _ => ?_))
      | exact obolref01_Mul.mono _ _ _ _
      | exact LeO.none _
      | refine LeO.ite ?_ ?_
      | refine LeO.bind ?_ (fun _ => ?_)
set_option maxHeartbeats 8000000 in
set_option maxRecDepth 100000 in
theorem obolref07_Mul.calls (k : Nat) (a0 : Int) (a1 : Int) (r : Int) (w : World) (h : obolref07_Mul.f k a0 a1 = some r) :
    Calls Try.prog 34 #[.int .u64 a0, .int .u64 a1] w fun e w' => e = .returned (.int .u64 r) ∧ Drawn0 w w' := by
  have H : ((obolref01_Mul.f k 288230376287764481 a0 a1).bind fun t237 => (some t237)) = some r := h
  clear h
  replace H := Option.bind_eq_some_iff.mp H
  obtain ⟨t237, A30, H⟩ := H
  replace H : (some t237) = some r := H
  have A3 := Aside0.mk A30
  clear A30
  obtain rfl := Option.some.inj H
  go_enter Try.func34, Try.ntmps34
  go_wp2_with (first | ((with_reducible refine gate_callee (f := 64) rfl ?_); refine goesL_ (some 7) rfl rfl Try.func64 (by kernel_rfl) rfl #[.int .u64 288230376287764481, .int .u64 a0, .int .u64 a1] rfl (by (try simp only [List.map_toArray, List.map_cons, List.map_nil]); first | done | rfl | (simp only [List.length_drop, List.length_take]; rfl)) ?_; (with_reducible refine (obolref01_Mul.calls k 288230376287764481 a0 a1 t237 _ A3.out).mono ?_); rintro e w' ⟨rfl, ⟨nd, rfl⟩⟩; refine ⟨_, rfl, ?_⟩))
  go_ret
  exact ⟨by first | rfl | (simp; done) | (simp [*]; done), by repeat (first | exact Drawn0.refl _ | apply Drawn0.step)⟩

/-! ### obolref10_Turn: function 66 -/
def obolref10_Turn.l0 : Nat → Int → Int → Int → Int → Option (Int)
  | 0, _, _, _, _ => none
  | k + 1, x0, x1, x5, x6 => if x6 < 3 then ((obolref07_Mul.f k x5 7).bind fun t239 => ((obolref07_Plus.f x0 t239).bind fun t240 => ((obolref07_Plus.f x1 t240).bind fun t241 => ((obolref07_Mul.f k t241 t241).bind fun t242 => ((obolref07_Mul.f k t241 t242).bind fun t243 => (obolref10_Turn.l0 k x0 t243 t239 (wrap64 (x6 + 1)))))))) else ((obolref07_Plus.f x1 x0).bind fun t238 => (some t238))
def obolref10_Turn.f (k : Nat) (a0 : Int) (a1 : Int) : Option (Int) := obolref10_Turn.l0 k a0 a1 1 0
theorem obolref10_Turn.mono_l : ∀ k, (∀ y0 y1 y2 y3, LeO (obolref10_Turn.l0 k y0 y1 y2 y3) (obolref10_Turn.l0 (k + 1) y0 y1 y2 y3))
  | 0 => fun _ _ _ _ r h => by simp [obolref10_Turn.l0] at h
  | k + 1 => by
    have ih0 := obolref10_Turn.mono_l k
    · intro y0 y1 y2 y3
      unfold obolref10_Turn.l0
      repeat' first
      | (with_reducible exact ih0 _ _ _ _)
      | (with_reducible exact obolref07_Mul.mono _ _ _)
      | (with_reducible exact LeO.refl _)
      | (with_reducible exact LeO.none _)
      | (with_reducible refine LeO.ite ?_ ?_)
      | (with_reducible refine LeO.bind ?_ (fun _ => ?_))
      | exact ih0 _ _ _ _
      | exact obolref07_Mul.mono _ _ _
      | exact LeO.none _
      | refine LeO.ite ?_ ?_
      | refine LeO.bind ?_ (fun _ => ?_)
theorem obolref10_Turn.mono : ∀ a0 a1 k, LeO (obolref10_Turn.f k a0 a1) (obolref10_Turn.f (k + 1) a0 a1) := by
  intro a0 a1 k
  have ih0 := obolref10_Turn.mono_l k
  unfold obolref10_Turn.f
  repeat' first
      | (with_reducible exact ih0 _ _ _ _)
      | (with_reducible exact obolref07_Mul.mono _ _ _)
      | (with_reducible exact LeO.refl _)
      | (with_reducible exact LeO.none _)
      | (with_reducible refine LeO.ite ?_ ?_)
      | (with_reducible refine LeO.bind ?_ (fun _ => ?_))
      | exact ih0 _ _ _ _
      | exact obolref07_Mul.mono _ _ _
      | exact LeO.none _
      | refine LeO.ite ?_ ?_
      | refine LeO.bind ?_ (fun _ => ?_)
set_option maxHeartbeats 8000000 in
set_option maxRecDepth 100000 in
theorem obolref10_Turn.calls (k : Nat) (a0 : Int) (a1 : Int) (r : Int) (w : World) (h : obolref10_Turn.f k a0 a1 = some r) :
    Calls Try.prog 66 #[.int .u64 a0, .int .u64 a1] w fun e w' => e = .returned (.int .u64 r) ∧ Drawn0 w w' := by
  have H : (obolref10_Turn.l0 k a0 a1 1 0) = some r := h
  clear h
  have H' := Aside0.mk H
  clear H
  go_enter Try.func66, Try.ntmps66
  go_wp2
  go_loopg [1, 5, 6] k (fun kq v1 v5 v6 w' => ∃ (x1_1 : Int) (x5_1 : Int) (x6_1 : Int), v1 = .int .u64 x1_1 ∧ v5 = .int .u64 x5_1 ∧ v6 = .int .i64 x6_1 ∧ Aside0 (obolref10_Turn.l0 kq a0 x1_1 x5_1 x6_1 = some r) ∧ Aside0 (kq ≤ k) ∧ Drawn0 w w')
  case atStart => exact ⟨(a1), (1), (0), (by first | rfl | (simp; done) | (simp [*]; done)), (by first | rfl | (simp; done) | (simp [*]; done)), (by first | rfl | (simp; done) | (simp [*]; done)), H', ⟨Nat.le_refl _⟩, by repeat (first | exact Drawn0.refl _ | apply Drawn0.step)⟩
  case round =>
    clear H'
    try clear p2
    obtain ⟨x1_1, x5_1, x6_1, rfl, rfl, rfl, HA, HK1, ⟨m1, rfl⟩⟩ := hrel
    cases gk with
    | zero => exact absurd HA.out (by simp [obolref10_Turn.l0])
    | succ k1 =>
      have H := HA.out
      clear HA
      simp only [obolref10_Turn.l0] at H
      by_cases c3 : x6_1 < 3
      · rw [if_pos c3] at H
        have c3b0 : decide (x6_1 < 3) = true := decide_eq_true c3
        clear c3
        replace H := Option.bind_eq_some_iff.mp H
        obtain ⟨t239, A40, H⟩ := H
        replace H : ((obolref07_Plus.f a0 t239).bind fun t240 => ((obolref07_Plus.f x1_1 t240).bind fun t241 => ((obolref07_Mul.f k1 t241 t241).bind fun t242 => ((obolref07_Mul.f k1 t241 t242).bind fun t243 => (obolref10_Turn.l0 k1 a0 t243 t239 (wrap64 (x6_1 + 1))))))) = some r := H
        have A4 := Aside0.mk A40
        clear A40
        replace H := Option.bind_eq_some_iff.mp H
        obtain ⟨t240, A50, H⟩ := H
        replace H : ((obolref07_Plus.f x1_1 t240).bind fun t241 => ((obolref07_Mul.f k1 t241 t241).bind fun t242 => ((obolref07_Mul.f k1 t241 t242).bind fun t243 => (obolref10_Turn.l0 k1 a0 t243 t239 (wrap64 (x6_1 + 1)))))) = some r := H
        have A5 := Aside0.mk A50
        clear A50
        replace H := Option.bind_eq_some_iff.mp H
        obtain ⟨t241, A60, H⟩ := H
        replace H : ((obolref07_Mul.f k1 t241 t241).bind fun t242 => ((obolref07_Mul.f k1 t241 t242).bind fun t243 => (obolref10_Turn.l0 k1 a0 t243 t239 (wrap64 (x6_1 + 1))))) = some r := H
        have A6 := Aside0.mk A60
        clear A60
        replace H := Option.bind_eq_some_iff.mp H
        obtain ⟨t242, A70, H⟩ := H
        replace H : ((obolref07_Mul.f k1 t241 t242).bind fun t243 => (obolref10_Turn.l0 k1 a0 t243 t239 (wrap64 (x6_1 + 1)))) = some r := H
        have A7 := Aside0.mk A70
        clear A70
        replace H := Option.bind_eq_some_iff.mp H
        obtain ⟨t243, A80, H⟩ := H
        replace H : (obolref10_Turn.l0 k1 a0 t243 t239 (wrap64 (x6_1 + 1))) = some r := H
        have A8 := Aside0.mk A80
        clear A80
        have H' := Aside0.mk H
        clear H
        go_wp2_with (first | ((with_reducible refine gate_callee (f := 34) rfl ?_); refine goesL_ (some 13) rfl rfl Try.func34 (by kernel_rfl) rfl #[.int .u64 x5_1, .int .u64 7] rfl (by (try simp only [List.map_toArray, List.map_cons, List.map_nil]); first | done | rfl | (simp only [List.length_drop, List.length_take]; rfl)) ?_; (with_reducible refine (obolref07_Mul.calls k1 x5_1 7 t239 _ A4.out).mono ?_); rintro e w' ⟨rfl, ⟨nd, rfl⟩⟩; refine ⟨_, rfl, ?_⟩) | ((with_reducible refine gate_callee (f := 65) rfl ?_); refine goesL_ (some 17) rfl rfl Try.func65 (by kernel_rfl) rfl #[.int .u64 a0, .int .u64 t239] rfl (by (try simp only [List.map_toArray, List.map_cons, List.map_nil]); first | done | rfl | (simp only [List.length_drop, List.length_take]; rfl)) ?_; (with_reducible refine (obolref07_Plus.calls a0 t239 t240 _ A5.out).mono ?_); rintro e w' ⟨rfl, ⟨nd, rfl⟩⟩; refine ⟨_, rfl, ?_⟩) | ((with_reducible refine gate_callee (f := 65) rfl ?_); refine goesL_ (some 18) rfl rfl Try.func65 (by kernel_rfl) rfl #[.int .u64 x1_1, .int .u64 t240] rfl (by (try simp only [List.map_toArray, List.map_cons, List.map_nil]); first | done | rfl | (simp only [List.length_drop, List.length_take]; rfl)) ?_; (with_reducible refine (obolref07_Plus.calls x1_1 t240 t241 _ A6.out).mono ?_); rintro e w' ⟨rfl, ⟨nd, rfl⟩⟩; refine ⟨_, rfl, ?_⟩) | ((with_reducible refine gate_callee (f := 34) rfl ?_); refine goesL_ (some 22) rfl rfl Try.func34 (by kernel_rfl) rfl #[.int .u64 t241, .int .u64 t241] rfl (by (try simp only [List.map_toArray, List.map_cons, List.map_nil]); first | done | rfl | (simp only [List.length_drop, List.length_take]; rfl)) ?_; (with_reducible refine (obolref07_Mul.calls k1 t241 t241 t242 _ A7.out).mono ?_); rintro e w' ⟨rfl, ⟨nd, rfl⟩⟩; refine ⟨_, rfl, ?_⟩) | ((with_reducible refine gate_callee (f := 34) rfl ?_); refine goesL_ (some 23) rfl rfl Try.func34 (by kernel_rfl) rfl #[.int .u64 t241, .int .u64 t242] rfl (by (try simp only [List.map_toArray, List.map_cons, List.map_nil]); first | done | rfl | (simp only [List.length_drop, List.length_take]; rfl)) ?_; (with_reducible refine (obolref07_Mul.calls k1 t241 t242 t243 _ A8.out).mono ?_); rintro e w' ⟨rfl, ⟨nd, rfl⟩⟩; refine ⟨_, rfl, ?_⟩))
        go_roundg k1
        case measure => have := HK1.out; omega
        case rel => exact ⟨(t243), (t239), (wrap64 (x6_1 + 1)), (by first | rfl | (simp; done) | (simp [*]; done)), (by first | rfl | (simp; done) | (simp [*]; done)), (by first | rfl | (simp; done) | (simp [*]; done)), H', ⟨by have := HK1.out; omega⟩, by repeat (first | exact Drawn0.refl _ | apply Drawn0.step)⟩
      · rw [if_neg c3] at H
        have c3b0 : decide (x6_1 < 3) = false := decide_eq_false c3
        clear c3
        replace H := Option.bind_eq_some_iff.mp H
        obtain ⟨t238, A90, H⟩ := H
        replace H : (some t238) = some r := H
        have A9 := Aside0.mk A90
        clear A90
        obtain rfl := Option.some.inj H
        go_wp2_with (first | ((with_reducible refine gate_callee (f := 65) rfl ?_); refine goesL_ (some 26) rfl rfl Try.func65 (by kernel_rfl) rfl #[.int .u64 x1_1, .int .u64 a0] rfl (by (try simp only [List.map_toArray, List.map_cons, List.map_nil]); first | done | rfl | (simp only [List.length_drop, List.length_take]; rfl)) ?_; (with_reducible refine (obolref07_Plus.calls x1_1 a0 t238 _ A9.out).mono ?_); rintro e w' ⟨rfl, ⟨nd, rfl⟩⟩; refine ⟨_, rfl, ?_⟩))
        go_ret
        exact ⟨by first | rfl | (simp; done) | (simp [*]; done), by repeat (first | exact Drawn0.refl _ | apply Drawn0.step)⟩

/-! ### obolref10_Two: function 37 -/
def obolref10_Two.f (k : Nat) (a0 : Int) (a1 : Int) : Option (Int) := (obolref10_Turn.f k a0 a1).bind fun t244 => ((obolref07_Plus.f a0 a1).bind fun t245 => ((obolref07_Plus.f t244 t245).bind fun t246 => (some t246)))
theorem obolref10_Two.mono : ∀ a0 a1 k, LeO (obolref10_Two.f k a0 a1) (obolref10_Two.f (k + 1) a0 a1) := by
  intro a0 a1 k
  unfold obolref10_Two.f
  repeat' first
      | (with_reducible exact obolref10_Turn.mono _ _ _)
      | (with_reducible exact LeO.refl _)
      | (with_reducible exact LeO.none _)
      | (with_reducible refine LeO.ite ?_ ?_)
      | (with_reducible refine LeO.bind ?_ (fun _ => ?_))
      | exact obolref10_Turn.mono _ _ _
      | exact LeO.none _
      | refine LeO.ite ?_ ?_
      | refine LeO.bind ?_ (fun _ => ?_)
set_option maxHeartbeats 8000000 in
set_option maxRecDepth 100000 in
theorem obolref10_Two.calls (k : Nat) (a0 : Int) (a1 : Int) (r : Int) (w : World) (h : obolref10_Two.f k a0 a1 = some r) :
    Calls Try.prog 37 #[.int .u64 a0, .int .u64 a1] w fun e w' => e = .returned (.int .u64 r) ∧ Drawn0 w w' := by
  have H : ((obolref10_Turn.f k a0 a1).bind fun t244 => ((obolref07_Plus.f a0 a1).bind fun t245 => ((obolref07_Plus.f t244 t245).bind fun t246 => (some t246)))) = some r := h
  clear h
  replace H := Option.bind_eq_some_iff.mp H
  obtain ⟨t244, A30, H⟩ := H
  replace H : ((obolref07_Plus.f a0 a1).bind fun t245 => ((obolref07_Plus.f t244 t245).bind fun t246 => (some t246))) = some r := H
  have A3 := Aside0.mk A30
  clear A30
  replace H := Option.bind_eq_some_iff.mp H
  obtain ⟨t245, A40, H⟩ := H
  replace H : ((obolref07_Plus.f t244 t245).bind fun t246 => (some t246)) = some r := H
  have A4 := Aside0.mk A40
  clear A40
  replace H := Option.bind_eq_some_iff.mp H
  obtain ⟨t246, A50, H⟩ := H
  replace H : (some t246) = some r := H
  have A5 := Aside0.mk A50
  clear A50
  obtain rfl := Option.some.inj H
  go_enter Try.func37, Try.ntmps37
  go_wp2_with (first | ((with_reducible refine gate_callee (f := 66) rfl ?_); refine goesL_ (some 7) rfl rfl Try.func66 (by kernel_rfl) rfl #[.int .u64 a0, .int .u64 a1] rfl (by (try simp only [List.map_toArray, List.map_cons, List.map_nil]); first | done | rfl | (simp only [List.length_drop, List.length_take]; rfl)) ?_; (with_reducible refine (obolref10_Turn.calls k a0 a1 t244 _ A3.out).mono ?_); rintro e w' ⟨rfl, ⟨nd, rfl⟩⟩; refine ⟨_, rfl, ?_⟩) | ((with_reducible refine gate_callee (f := 65) rfl ?_); refine goesL_ (some 10) rfl rfl Try.func65 (by kernel_rfl) rfl #[.int .u64 a0, .int .u64 a1] rfl (by (try simp only [List.map_toArray, List.map_cons, List.map_nil]); first | done | rfl | (simp only [List.length_drop, List.length_take]; rfl)) ?_; (with_reducible refine (obolref07_Plus.calls a0 a1 t245 _ A4.out).mono ?_); rintro e w' ⟨rfl, ⟨nd, rfl⟩⟩; refine ⟨_, rfl, ?_⟩) | ((with_reducible refine gate_callee (f := 65) rfl ?_); refine goesL_ (some 11) rfl rfl Try.func65 (by kernel_rfl) rfl #[.int .u64 t244, .int .u64 t245] rfl (by (try simp only [List.map_toArray, List.map_cons, List.map_nil]); first | done | rfl | (simp only [List.length_drop, List.length_take]; rfl)) ?_; (with_reducible refine (obolref07_Plus.calls t244 t245 t246 _ A5.out).mono ?_); rintro e w' ⟨rfl, ⟨nd, rfl⟩⟩; refine ⟨_, rfl, ?_⟩))
  go_ret
  exact ⟨by first | rfl | (simp; done) | (simp [*]; done), by repeat (first | exact Drawn0.refl _ | apply Drawn0.step)⟩

end Go.Proofs.Ytempibbfdojfiac.PTreeWholes
