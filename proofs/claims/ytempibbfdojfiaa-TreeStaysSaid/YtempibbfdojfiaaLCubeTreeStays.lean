/- What the cube hash's functions compute, told in the field of R elements (for the law TreeStays). -/
import Derived.Test.YtempibbfdojfiaaLFldTreeStays
set_option linter.unusedVariables false
set_option linter.unusedSimpArgs false
namespace Go.Proofs.Ytempibbfdojfiaa.ModTreeStays
open Go.RowKit Go.Proofs.Ytempibbfdojfiaa.PTreeStays Go.Proofs.YtempibbfdojfiaaW.PrintWords Go.Proofs.YtempibbfdojfiaaW.PrintLast Go.Proofs.YtempibbfdojfiaaW.PrintMore Go.Proofs.Ytempibbfdojfiaa.Nm

/-- What is added in the n-th round (from 0 on). -/
def cst (k : F) (n : Nat) : F := k + z 7 ^ (n + 1)
def trn (k : F) : Nat → F → F
  | 0, x => x
  | n + 1, x => (trn k n x + cst k n) ^ 3
/-- The number whose cube is x. -/
def rt (x : F) : F := x ^ 192153584191842987
def bckG (g : F → F) (k : F) : Nat → F → F
  | 0, y => y
  | n + 1, y => bckG g k n (g y - cst k n)
theorem bckG_succ (g : F → F) (k y : F) (n : Nat) : bckG g k (n + 1) y = bckG g k n (g y - cst k n) := rfl
theorem bckG_zero (g : F → F) (k y : F) : bckG g k 0 y = y := rfl
def bck (k : F) (n : Nat) (y : F) : F := bckG rt k n y
theorem trn_succ (k x : F) (n : Nat) : trn k (n + 1) x = (trn k n x + cst k n) ^ 3 := rfl
theorem bck_succ (k y : F) (n : Nat) : bck k (n + 1) y = bck k n (rt y - cst k n) := bckG_succ rt k y n
theorem bck_zero (k y : F) : bck k 0 y = y := bckG_zero rt k y
def turnF (k x : F) : F := trn k 3 x + k
def backF (k y : F) : F := bck k 3 (y - k)
def twoF (a b : F) : F := turnF a b + (a + b)
theorem pow_twice (x : F) (e : Nat) (he : e = RR + (RR - 1)) : x ^ e = x := by
  rw [he, fpow_add, fermat prR]
  by_cases h : x = 0
  · rw [h]; exact fzero_mul _
  · rw [fermat1 prR x h, fmul_one]
theorem cube_all (x : F) : x ^ (3 * 192153584191842987) = x := pow_twice x _ (by decide)
theorem root_cube (x : F) : rt (x ^ 3) = x := by unfold rt; rw [← fpow_mul, cube_all]
theorem cube_root (x : F) : rt x ^ 3 = x := by unfold rt; rw [← fpow_mul, Nat.mul_comm, cube_all]
theorem add_sub_c (a b : F) : a + b - b = a := by grind
theorem sub_add_c (a b : F) : a - b + b = a := by grind
theorem bck_trn (k : F) (n : Nat) : ∀ x, bck k n (trn k n x) = x := by
  induction n with
  | zero => intro x; exact bck_zero _ _
  | succ n ih =>
    intro x
    rw [bck_succ, trn_succ, root_cube, add_sub_c, ih]
theorem trn_bck (k : F) (n : Nat) : ∀ y, trn k n (bck k n y) = y := by
  induction n with
  | zero => intro x; exact bck_zero _ _
  | succ n ih =>
    intro y
    rw [bck_succ, trn_succ, ih, sub_add_c, cube_root]
theorem back_turn (k x : F) : backF k (turnF k x) = x := by
  unfold backF turnF
  rw [add_sub_c, bck_trn]
theorem turn_back (k y : F) : turnF k (backF k y) = y := by
  unfold backF turnF
  rw [trn_bck, sub_add_c]
theorem turn_inj {k x y : F} (h : turnF k x = turnF k y) : x = y := by rw [← back_turn k x, h, back_turn]
theorem two_ne : u (twoF (z 0) (z 0)) ≠ 0 := by
  have e : twoF (z 0) (z 0) = z (((7 ^ 3 + 7 ^ 2) ^ 3 + 7 ^ 3) ^ 3) := by
    unfold twoF turnF
    simp only [trn, cst]
    rw [z_zero, z_pow, z_add, z_pow, z_add, z_pow, z_pow]
    generalize (z 7 : F) = s
    grind
  rw [e, uz]
  decide +kernel
theorem const_val (n : Nat) (hn : n < 3) : Ev (fun k => cube_constant.f k (n : Int)) (u (z 7 ^ (n + 1) : F)) := by
  unfold cube_constant.f
  rw [wu (n : Int) (by omega) (by omega), wu _ (by omega) (by omega), ← powF]
  exact Ev.tail (pow_val moR 7 (n + 1) (by omega) (by omega))
theorem turn_loop (a : Int) (ha : 0 ≤ a) (x0 : F) (d : Nat) : ∀ (n : Nat) (x i : Int), n + d = 3 → i = n → 0 ≤ x → z x = trn (z a) n x0 → Ev (fun k => cube_Turn.l0 k a x i) (u (turnF (z a) x0)) := by
  induction d with
  | zero =>
    intro n x i hn hi hx hz
    have : n = 3 := by omega
    subst this
    refine Ev.step (fun k => by rw [cube_Turn.l0]) ?_
    refine Ev.neg (by omega) (Ev.bindc (add_val moR x a hx ha) (Ev.val ?_))
    rw [addF, hz]; rfl
  | succ d ih =>
    intro n x i hn hi hx hz
    refine Ev.step (fun k => by rw [cube_Turn.l0]) ?_
    refine Ev.pos (by omega) ?_
    rw [hi]
    refine (const_val n (by omega)).bind (Ev.bindc (add_val moR a _ ha (uF0 _)) ?_)
    rw [addF, z_u]
    refine Ev.bindc (add_val moR x _ hx (uF0 _)) ?_
    rw [addF, z_u]
    have hp := pow_val moR (u (z x + (z a + z 7 ^ (n + 1)) : F)) 3 (uF0 _) (by omega)
    rw [powF, z_u] at hp
    refine Ev.bind hp ?_
    rw [show wrap64 ((n : Int) + 1) = n + 1 from wi _ (by omega) (by omega)]
    refine ih (n + 1) _ _ (by omega) (by omega) (uF0 _) ?_
    rw [z_u, hz]; rfl
theorem turn_val (a x : Int) (ha : 0 ≤ a) (hx : 0 ≤ x) : Ev (fun k => cube_Turn.f k a x) (u (turnF (z a) (z x))) := by
  unfold cube_Turn.f
  exact turn_loop a ha (z x) 3 0 x 0 (by omega) rfl hx rfl
theorem two_val (a b : Int) (ha : 0 ≤ a) (hb : 0 ≤ b) : Ev (fun k => cube_Two.f k a b) (u (twoF (z a) (z b))) := by
  unfold cube_Two.f
  refine (turn_val a b ha hb).bind (Ev.bindc (add_val moR a b ha hb) (Ev.bindc (add_val moR _ _ (uF0 _) (by have := mr moR (a + b); omega)) (Ev.val ?_)))
  rw [addF, addF, z_u, z_u]; rfl
end Go.Proofs.Ytempibbfdojfiaa.ModTreeStays
