/- For every modulus and two numbers, obollaw01.ModularCancels returns true: a product with what has an inverse is undone by it. No conditions. -/
import Derived.Test.YtempibbfdojfiabLRootModularCancels
set_option linter.unusedVariables false
namespace Go.Proofs.Ytempibbfdojfiab.Pure
open Go.RowKit Go.Proofs.Ytempibbfdojfiab.PModularCancels Go.Proofs.YtempibbfdojfiabW.PrintWords Go.Proofs.YtempibbfdojfiabW.PrintLast Go.Proofs.YtempibbfdojfiabW.PrintMore Go.Proofs.Ytempibbfdojfiab.Nm Go.Proofs.Ytempibbfdojfiab.ModModularCancels

theorem cancel1 {m a b v : Int} (h : v * a % m = 1 % m) : b * a % m * v % m = b % m := by
  rw [mod_mul_l]
  obtain ⟨k, e⟩ := em_iff.1 h
  refine em_iff.2 ⟨b * k, ?_⟩
  grind
theorem cancel2 {m a v y : Int} (h : v * a % m = 1 % m) (h2 : y * v % m = 1 % m) : y % m = a % m := by
  obtain ⟨k, e⟩ := em_iff.1 h
  obtain ⟨j, e2⟩ := em_iff.1 h2
  refine em_iff.2 ⟨j * a - y * k, ?_⟩
  grind
theorem gcd_one {m a v : Int} (mo : Mo m) (hv : 0 ≤ v) (hv1 : v < m) (h : v * a % m = 1) : Nat.gcd m.toNat (v % m).toNat = 1 := by
  have h1 := mo.lo
  obtain ⟨k, e⟩ : ∃ k, v * a = 1 + m * k := em_iff.1 (by rw [h]; exact (Int.emod_eq_of_lt (by omega) (by omega)).symm)
  rw [Int.emod_eq_of_lt hv hv1]
  have hd1 : ((Nat.gcd m.toNat v.toNat : Nat) : Int) ∣ m := by
    have := Int.ofNat_dvd.2 (Nat.gcd_dvd_left m.toNat v.toNat)
    rwa [Int.toNat_of_nonneg (by omega)] at this
  have hd2 : ((Nat.gcd m.toNat v.toNat : Nat) : Int) ∣ v := by
    have := Int.ofNat_dvd.2 (Nat.gcd_dvd_right m.toNat v.toNat)
    rwa [Int.toNat_of_nonneg hv] at this
  have hd : ((Nat.gcd m.toNat v.toNat : Nat) : Int) ∣ 1 := by
    have e2 : (1 : Int) = v * a - m * k := by omega
    rw [e2]
    exact Int.dvd_sub (Int.dvd_mul_of_dvd_left hd2) (Int.dvd_mul_of_dvd_left hd1)
  have := Int.ofNat_dvd.1 (show ((Nat.gcd m.toNat v.toNat : Nat) : Int) ∣ ((1 : Nat) : Int) from hd)
  exact Nat.dvd_one.1 this
theorem ModularCancels : obollaw01_ModularCancels.Pure := by
  intro m a b hm ha hb
  apply Ev.rounds
  have ha' := (bd64 ha).1
  have hb' := (bd64 hb).1
  unfold obollaw01_ModularCancels.f
  refine up_val.bind ?_
  by_cases h : 2 ≤ m ∧ m ≤ 4611686018427387904
  · have mo : Mo m := ⟨h.1, h.2⟩
    obtain ⟨r, hr, hev⟩ := inv_val mo a ha'
    refine hev.bind ?_
    rcases hr with ⟨hg, v, rfl, hv0, hv1, hv2⟩ | ⟨hg, rfl⟩
    · obtain ⟨r2, hr2, hev2⟩ := inv_val mo v hv0
      have hone : (1 : Int) % m = 1 := Int.emod_eq_of_lt (by omega) (by omega)
      rcases hr2 with ⟨hg2, y, rfl, hy0, hy1, hy2⟩ | ⟨hg2, rfl⟩
      · have r1 := mr mo (b * a)
        refine ModModularCancels.Ev.pos rfl (hev2.bind (ModModularCancels.Ev.pos rfl ((mul_val mo b a hb' ha').bind ((mul_val mo _ v r1.1 hv0).bind (ModModularCancels.Ev.bindc (add_val mo b 0 hb' (by omega)) ?_)))))
        rw [Int.add_zero]
        refine ModModularCancels.Ev.pos (cancel1 (by rw [hv2, hone])) (ModModularCancels.Ev.pos rfl (ModModularCancels.Ev.bindc (add_val mo a 0 ha' (by omega)) (ModModularCancels.Ev.val ?_)))
        rw [Int.add_zero, beq_iff_eq, ← cancel2 (show v * a % m = 1 % m by rw [hv2, hone]) (show y * v % m = 1 % m by rw [hy2, hone])]
        exact (Int.emod_eq_of_lt hy0 hy1).symm
      · exact absurd (gcd_one mo hv0 hv1 hv2) hg2
    · exact ModModularCancels.Ev.neg (by simp) (ModModularCancels.Ev.val rfl)
  · exact (inv_bad (by omega) a).bind (ModModularCancels.Ev.neg (by simp) (ModModularCancels.Ev.val rfl))
end Go.Proofs.Ytempibbfdojfiab.Pure
