/- For every two leaves, place and paths, obollaw16.TreeOne returns true: two leaves under one root tell a clash. No conditions. -/
import Derived.Test.YtempibbfdojfiacLTreeTreeOne
set_option linter.unusedVariables false
namespace Go.Proofs.Ytempibbfdojfiac.Pure
open Go.RowKit Go.Proofs.Ytempibbfdojfiac.PTreeOne Go.Proofs.YtempibbfdojfiacW.PrintWords Go.Proofs.YtempibbfdojfiacW.PrintLast Go.Proofs.YtempibbfdojfiacW.PrintMore Go.Proofs.Ytempibbfdojfiac.Nm Go.Proofs.Ytempibbfdojfiac.ModTreeOne

theorem zmod (x : Int) : z (x % 288230376287764481) = (z x : F) := by rw [← uz, z_u]
theorem j2_val (A : Int) (p q : List Int) (i x y a b : Int) (l r m s : Int) (hl : 0 ≤ l) (hr : 0 ≤ r) (hm : 0 ≤ m) (hs : 0 ≤ s) (hne : l = m → r ≠ s)
    (go : u (twoF (z l) (z r)) ≠ u (twoF (z m) (z s)) → Ev (fun k => obollaw16_TreeOne.l0 k A p q true (u (twoF (z l) (z r))) (u (twoF (z m) (z s))) (wrap64 (i + 1))) true) :
    Ev (fun k => obollaw16_TreeOne.j2 k A p q true i l r m s) true := by
  refine Ev.step (fun k => by rw [obollaw16_TreeOne.j2]) ?_
  refine (rtwo_val l r hl hr).bind ((rtwo_val m s hm hs).bind ?_)
  by_cases h : u (twoF (z l) (z r)) = u (twoF (z m) (z s))
  · refine ModTreeOne.Ev.pos h (ModTreeOne.Ev.pos rfl ?_)
    by_cases h2 : l = m
    · exact ModTreeOne.Ev.pos h2 (ModTreeOne.Ev.val (bne_iff_ne.2 (hne h2)))
    · exact ModTreeOne.Ev.neg h2 (ModTreeOne.Ev.val rfl)
  · exact ModTreeOne.Ev.neg h (go h)
theorem one_loop (A : Nat) (hA : A < 9223372036854775808) (p q : List Int) (hp : ∀ x ∈ p, 0 ≤ x ∧ x < 18446744073709551616) (hq : ∀ x ∈ q, 0 ≤ x ∧ x < 18446744073709551616) (hpq : q.length = p.length) (hlen : p.length ≤ 40) (d : Nat) :
    ∀ (i : Nat) (ii x y : Int), i + d = p.length → ii = i → 0 ≤ x → x < 288230376287764481 → 0 ≤ y → y < 288230376287764481 → x ≠ y →
    climb (A / 2 ^ i) (z x) (p.drop i) = climb (A / 2 ^ i) (z y) (q.drop i) → Ev (fun k => obollaw16_TreeOne.l0 k (A : Int) p q true x y ii) true := by
  induction d with
  | zero =>
    intro i ii x y hi hii hx0 hx1 hy0 hy1 hne hc
    exfalso
    rw [List.drop_eq_nil_of_le (by omega), List.drop_eq_nil_of_le (by omega)] at hc
    have h : (z x : F) = z y := hc
    have h1 := u_eq_of_lt (n := RR) x hx0 hx1
    have h2 := u_eq_of_lt (n := RR) y hy0 hy1
    exact hne (h1.symm.trans ((congrArg u h).trans h2))
  | succ d ih =>
    intro i ii x y hi hii hx0 hx1 hy0 hy1 hne hc
    have hrp := rd_lim hp (i := (i : Int)) (by omega) (by omega)
    have hrq := rd_lim hq (i := (i : Int)) (by omega) (by omega)
    rw [drop_cons p i (by omega), drop_cons q i (by omega)] at hc
    have hpow : A / 2 ^ i / 2 = A / 2 ^ (i + 1) := by rw [Nat.div_div_eq_div_mul, Nat.pow_succ]
    have hc2 : climb (A / 2 ^ (i + 1)) (if A / 2 ^ i % 2 = 1 then twoF (z (rd p (i : Int))) (z x) else twoF (z x) (z (rd p (i : Int)))) (p.drop (i + 1))
        = climb (A / 2 ^ (i + 1)) (if A / 2 ^ i % 2 = 1 then twoF (z (rd q (i : Int))) (z y) else twoF (z y) (z (rd q (i : Int)))) (q.drop (i + 1)) := by
      rw [← hpow]; exact hc
    refine Ev.step (fun k => by rw [obollaw16_TreeOne.l0]) ?_
    rw [hii, bit_val A i hA (by omega), tmod_pos hrp.1, tmod_pos hrq.1]
    refine ModTreeOne.Ev.pos (by omega) (ModTreeOne.Ev.pos (by omega) (ModTreeOne.Ev.pos (by omega) ?_))
    have hw : wrap64 ((i : Int) + 1) = (i : Int) + 1 := wi _ (by omega) (by omega)
    by_cases hb : A / 2 ^ i % 2 = 1
    · rw [if_pos hb, if_pos hb] at hc2
      have hb2 : bit A i = 1 := hb
      refine ModTreeOne.Ev.pos (by omega) (j2_val _ p q _ x y x y _ _ _ _ (by omega) hx0 (by omega) hy0 (fun _ => hne) ?_)
      intro hn
      rw [hw]
      refine ih (i + 1) _ _ _ (by omega) (by omega) (uF0 _) (uF1 _) (uF0 _) (uF1 _) hn ?_
      rw [z_u, z_u, zmod, zmod]
      exact hc2
    · rw [if_neg hb, if_neg hb] at hc2
      have hb2 : ¬ bit A i = 1 := hb
      refine ModTreeOne.Ev.neg (by omega) (j2_val _ p q _ x y x y _ _ _ _ hx0 (by omega) hy0 (by omega) (fun h => absurd h hne) ?_)
      intro hn
      rw [hw]
      refine ih (i + 1) _ _ _ (by omega) (by omega) (uF0 _) (uF1 _) (uF0 _) (uF1 _) hn ?_
      rw [z_u, z_u, zmod, zmod]
      exact hc2
theorem TreeOne : obollaw16_TreeOne.Pure := by
  intro a b i p q ha hb hi hplen _ hp hqlen _ hq
  apply Ev.rounds
  have hp' := zn hp
  have hq' := zn hq
  have ha' := (bd64 ha).1
  have hb' := (bd64 hb).1
  have hi' := ModTreeOne.bdi hi
  unfold obollaw16_TreeOne.f
  refine up_val.bind ?_
  have skip : Ev (fun k => obollaw16_TreeOne.j0 k a b i p q true true) true := by
    refine Ev.step (fun k => by rw [obollaw16_TreeOne.j0]) ?_
    exact ModTreeOne.Ev.pos rfl (ModTreeOne.Ev.val rfl)
  by_cases h40 : (p.length : Int) > 40
  · exact ModTreeOne.Ev.pos h40 skip
  refine ModTreeOne.Ev.neg h40 ?_
  by_cases hpq0 : ¬ (q.length : Int) = (p.length : Int)
  · exact ModTreeOne.Ev.neg hpq0 skip
  have hpq : (q.length : Int) = (p.length : Int) := by omega
  refine ModTreeOne.Ev.pos hpq ?_
  by_cases h0 : i < 0
  · exact ModTreeOne.Ev.pos h0 skip
  refine ModTreeOne.Ev.neg h0 ?_
  by_cases hab : Int.tmod a 288230376287764481 = Int.tmod b 288230376287764481
  · exact ModTreeOne.Ev.pos hab skip
  refine ModTreeOne.Ev.neg hab ((climb_val a i p hp' (by omega) ha' (by omega)).bind ((climb_val b i q hq' (by omega) hb' (by omega)).bind ?_))
  by_cases hcc0 : ¬ climbI a i.toNat p = climbI b i.toNat q
  · have hcc := hcc0
    rw [show (climbI a i.toNat p != climbI b i.toNat q) = true from bne_iff_ne.2 hcc]; exact skip
  have hcc : climbI a i.toNat p = climbI b i.toNat q := Classical.not_not.1 hcc0
  rw [show (climbI a i.toNat p != climbI b i.toNat q) = false from by rw [hcc]; exact bne_self_eq_false _]
  refine Ev.step (fun k => by rw [obollaw16_TreeOne.j0]) ?_
  refine ModTreeOne.Ev.neg (by simp) ?_
  obtain ⟨A, rfl⟩ := Int.eq_ofNat_of_zero_le (show 0 ≤ i by omega)
  rw [tmod_pos ha', tmod_pos hb'] at hab ⊢
  have hc : climb A (z a) p = climb A (z b) q := by
    unfold climbI at hcc
    by_cases hl : p.length = 0
    · rw [if_pos hl, if_pos (show q.length = 0 by omega)] at hcc
      exact absurd (by rw [hcc]) hab
    · rw [if_neg hl, if_neg (show ¬ q.length = 0 by omega), Int.toNat_natCast] at hcc
      have := congrArg (z : Int → F) hcc
      rw [z_u, z_u] at this
      exact this
  refine one_loop A (by omega) p q hp' hq' (by omega) (by omega) p.length 0 0 _ _ (by omega) rfl (by omega) (by omega) (by omega) (by omega) hab ?_
  rw [Nat.pow_zero, Nat.div_one, zmod, zmod]
  exact hc
end Go.Proofs.Ytempibbfdojfiac.Pure
