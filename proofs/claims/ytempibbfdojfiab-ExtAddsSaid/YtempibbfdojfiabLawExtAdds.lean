-- printed by a program of this session (wip/tools/mkprint.py)
import Derived.Test.YtempibbfdojfiabRows
import Derived.Test.YtempibbfdojfiabPExtAddsx5
import Derived.Test.YtempibbfdojfiabPureExtAdds
import Derived.WalkKit
import Derived.ProofKit
import Derived.OpenShut
import Derived.ShutString
import Derived.ChangeOld
import Derived.Below
import Derived.SizedLaws
import Derived.Test.YtempibbfdojfiabArr2
namespace Go.Proofs.Ytempibbfdojfiab.extAdds
open Go.ChangeShapes Go.WideShapes Go.ChangeAt Go.RowKit
open Go.ChangeMaps (open_string shut_string)
set_option linter.unusedVariables false
theorem own : ownKnob Try.prog.godebug = none := by kernel_rfl
set_option maxRecDepth 100000 in
theorem lifted (os : Os) (started : os.Started) (H : Type) (enc : TypeId × Value → H) :
    ReturnsInHanded {} Try.checked os 3 .any (Rows.extAddsSpec.pre6 enc Try.prog Try.f3 Rows.extAddsRow.domain false) (Rows.extAddsSpec.post enc Try.prog Try.f3 false true false false) := by
  refine returnsInHanded_of_change_sized (C := Try.checked) own started (by kernel_rfl) Try.func3
    (ChangeSpec.witness6 (enc := enc) (C := Try.checked) false ⟨#[], #[.agg #[.int .u64 0, .int .u64 0], .agg #[.int .u64 0, .int .u64 0]], []⟩ 8 (by kernel_rfl) (by kernel_rfl) (by kernel_rfl) (by kernel_rfl)) ?_
  intro W base args ds gs before hval0 hW hcnd hsz0 _
  have hsz : (DataW.weightsEach Try.prog (Try.f3.params.toList ++ Rows.extAddsSpec.plain.varTypes Try.prog) (ds ++ gs)).all (· ≤ reachBytes) = true := hsz0
  have hval : ∀ (j : Nat) t v, Try.f3.params[j]? = some t → args[j]? = some v → Value.okWide Try.prog W .any base t v := hval0
  have hW' := hW
  obtain ⟨p, q, hA0, hV, rfl, hfz, hnd⟩ := hW
  have hA : DataW.TrodAll enc Try.prog W 0 (fun _ => true) true Try.f3.params.toList args.toList ds p := hA0
  rw [Try.params3] at hA hval hsz
  obtain ⟨v0, vs0, d0, ds0, p0, q0, hargs, rfl, rfl, h0, r0⟩ := trodAll_cons hA
  obtain ⟨v1, vs1, d1, ds1, p1, q1, rfl, rfl, rfl, h1, r1⟩ := trodAll_cons r0
  obtain ⟨rfl, rfl, rfl⟩ := trodAll_nil r1
  obtain rfl : args = #[v0, v1] := by cases args; simp_all
  obtain ⟨rfl, rfl⟩ := trodVars_none hV
  obtain ⟨a0_0, a0_1, rfl, rfl, rfl, w0_0, w0_1⟩ := Arr2.open_arr2 Try.underlying24 Try.underlying22 (by kernel_rfl) (by kernel_rfl) (hval 0 24 v0 rfl rfl) h0
  obtain ⟨a1_0, a1_1, rfl, rfl, rfl, w1_0, w1_1⟩ := Arr2.open_arr2 Try.underlying24 Try.underlying22 (by kernel_rfl) (by kernel_rfl) (hval 1 24 v1 rfl rfl) h1
  clear hA0 hval0 hsz0 hsz
  refine (PExtAdds.obollaw02_ExtAdds.walk Pure.ExtAdds a0_0 a0_1 a1_0 a1_1 W w0_0 w0_1 w1_0 w1_1).mono fun e W' ⟨he, bel⟩ => ?_
  subst he
  exact ⟨_, rfl, _, _, _, [], _, [], hW', trodAll_mk1 (shut_bool Try.underlying4 _), (trodAll_cons_mk (Arr2.shut_arr2 Try.underlying24 Try.underlying22 (by kernel_rfl) (by kernel_rfl) w0_0 w0_1) (trodAll_cons_mk (Arr2.shut_arr2 Try.underlying24 Try.underlying22 (by kernel_rfl) (by kernel_rfl) w1_0 w1_1) trodAll_mk0)), rfl, bel.frame _, fun h => by cases h⟩
theorem over : Rows.extAddsRow.holds Try.pinned (OpenSpec.ofChange Rows.extAddsSpec) :=
  OpenClaim.holds_of_wide 3 Try.f3 rfl rfl rfl rfl rfl rfl rfl ⟨rfl, rfl, rfl, rfl, rfl⟩ rfl rfl rfl rfl rfl (by kernel_rfl) Try.func3 (by kernel_rfl)
    (of_decide_eq_true (by kernel_rfl)) (by unfold Func.isWrapper; first | (rw [if_pos (by decide +kernel)]; kernel_rfl) | (rw [if_neg (by decide +kernel)]; exact ⟨rfl, rfl⟩))
    (fun os started H enc _ => lifted os started H enc)
theorem proved : Rows.ExtAddsSaid := over
#print axioms proved
end Go.Proofs.Ytempibbfdojfiab.extAdds
namespace Go.Proofs.Ytempibbfdojfiab
/-- The row, under a short name, for the claim. -/
theorem extAdds_holds : Rows.ExtAddsSaid := extAdds.proved
end Go.Proofs.Ytempibbfdojfiab
