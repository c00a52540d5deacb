/- What the cube hash's functions compute, told in the field of R elements (for the law CubeStays). -/
import Derived.Test.YtempibbfdojfiabLFldCubeStays
set_option linter.unusedVariables false
set_option linter.unusedSimpArgs false
namespace Go.Proofs.Ytempibbfdojfiab.ModCubeStays
open Go.RowKit Go.Proofs.Ytempibbfdojfiab.PCubeStays Go.Proofs.YtempibbfdojfiabW.PrintWords Go.Proofs.YtempibbfdojfiabW.PrintLast Go.Proofs.YtempibbfdojfiabW.PrintMore Go.Proofs.Ytempibbfdojfiab.Nm

/-- What is added in the n-th round (from 0 on). -/
def cst (k : F) (n : Nat) : F := k + z 7 ^ (n + 1)
def trn (k : F) : Nat → F → F
  | 0, x => x
  | n + 1, x => (trn k n x + cst k n) ^ 3
/-- The number whose cube is x. -/
def rt (x : F) : F := x ^ 192153584191842987
def bckG (g : F → F) (k : F) : Nat → F → F
  | 0, y => y
  | n + 1, y => bckG g k n (g y - cst k n)
theorem bckG_succ (g : F → F) (k y : F) (n : Nat) : bckG g k (n + 1) y = bckG g k n (g y - cst k n) := rfl
theorem bckG_zero (g : F → F) (k y : F) : bckG g k 0 y = y := rfl
def bck (k : F) (n : Nat) (y : F) : F := bckG rt k n y
theorem trn_succ (k x : F) (n : Nat) : trn k (n + 1) x = (trn k n x + cst k n) ^ 3 := rfl
theorem bck_succ (k y : F) (n : Nat) : bck k (n + 1) y = bck k n (rt y - cst k n) := bckG_succ rt k y n
theorem bck_zero (k y : F) : bck k 0 y = y := bckG_zero rt k y
def turnF (k x : F) : F := trn k 3 x + k
def backF (k y : F) : F := bck k 3 (y - k)
def twoF (a b : F) : F := turnF a b + (a + b)
theorem pow_twice (x : F) (e : Nat) (he : e = RR + (RR - 1)) : x ^ e = x := by
  rw [he, fpow_add, fermat prR]
  by_cases h : x = 0
  · rw [h]; exact fzero_mul _
  · rw [fermat1 prR x h, fmul_one]
theorem cube_all (x : F) : x ^ (3 * 192153584191842987) = x := pow_twice x _ (by decide)
theorem root_cube (x : F) : rt (x ^ 3) = x := by unfold rt; rw [← fpow_mul, cube_all]
theorem cube_root (x : F) : rt x ^ 3 = x := by unfold rt; rw [← fpow_mul, Nat.mul_comm, cube_all]
theorem add_sub_c (a b : F) : a + b - b = a := by grind
theorem sub_add_c (a b : F) : a - b + b = a := by grind
theorem bck_trn (k : F) (n : Nat) : ∀ x, bck k n (trn k n x) = x := by
  induction n with
  | zero => intro x; exact bck_zero _ _
  | succ n ih =>
    intro x
    rw [bck_succ, trn_succ, root_cube, add_sub_c, ih]
theorem trn_bck (k : F) (n : Nat) : ∀ y, trn k n (bck k n y) = y := by
  induction n with
  | zero => intro x; exact bck_zero _ _
  | succ n ih =>
    intro y
    rw [bck_succ, trn_succ, ih, sub_add_c, cube_root]
theorem back_turn (k x : F) : backF k (turnF k x) = x := by
  unfold backF turnF
  rw [add_sub_c, bck_trn]
theorem turn_back (k y : F) : turnF k (backF k y) = y := by
  unfold backF turnF
  rw [trn_bck, sub_add_c]
theorem turn_inj {k x y : F} (h : turnF k x = turnF k y) : x = y := by rw [← back_turn k x, h, back_turn]
theorem two_ne : u (twoF (z 0) (z 0)) ≠ 0 := by
  have e : twoF (z 0) (z 0) = z (((7 ^ 3 + 7 ^ 2) ^ 3 + 7 ^ 3) ^ 3) := by
    unfold twoF turnF
    simp only [trn, cst]
    rw [z_zero, z_pow, z_add, z_pow, z_add, z_pow, z_pow]
    generalize (z 7 : F) = s
    grind
  rw [e, uz]
  decide +kernel
theorem const_val (n : Nat) (hn : n < 3) : Ev (fun k => cube_constant.f k (n : Int)) (u (z 7 ^ (n + 1) : F)) := by
  unfold cube_constant.f
  rw [wu (n : Int) (by omega) (by omega), wu _ (by omega) (by omega), ← powF]
  exact Ev.tail (pow_val moR 7 (n + 1) (by omega) (by omega))
theorem turn_loop (a : Int) (ha : 0 ≤ a) (x0 : F) (d : Nat) : ∀ (n : Nat) (x i : Int), n + d = 3 → i = n → 0 ≤ x → z x = trn (z a) n x0 → Ev (fun k => cube_Turn.l0 k a x i) (u (turnF (z a) x0)) := by
  induction d with
  | zero =>
    intro n x i hn hi hx hz
    have : n = 3 := by omega
    subst this
    refine Ev.step (fun k => by rw [cube_Turn.l0]) ?_
    refine Ev.neg (by omega) (Ev.bindc (add_val moR x a hx ha) (Ev.val ?_))
    rw [addF, hz]; rfl
  | succ d ih =>
    intro n x i hn hi hx hz
    refine Ev.step (fun k => by rw [cube_Turn.l0]) ?_
    refine Ev.pos (by omega) ?_
    rw [hi]
    refine (const_val n (by omega)).bind (Ev.bindc (add_val moR a _ ha (uF0 _)) ?_)
    rw [addF, z_u]
    refine Ev.bindc (add_val moR x _ hx (uF0 _)) ?_
    rw [addF, z_u]
    have hp := pow_val moR (u (z x + (z a + z 7 ^ (n + 1)) : F)) 3 (uF0 _) (by omega)
    rw [powF, z_u] at hp
    refine Ev.bind hp ?_
    rw [show wrap64 ((n : Int) + 1) = n + 1 from wi _ (by omega) (by omega)]
    refine ih (n + 1) _ _ (by omega) (by omega) (uF0 _) ?_
    rw [z_u, hz]; rfl
theorem turn_val (a x : Int) (ha : 0 ≤ a) (hx : 0 ≤ x) : Ev (fun k => cube_Turn.f k a x) (u (turnF (z a) (z x))) := by
  unfold cube_Turn.f
  exact turn_loop a ha (z x) 3 0 x 0 (by omega) rfl hx rfl
theorem back_loop (a : Int) (ha : 0 ≤ a) (r : F) (n : Nat) : ∀ (y i : Int), n ≤ 3 → i = n - 1 → 0 ≤ y → y < 288230376287764481 → bck (z a) n (z y) = r → Ev (fun k => cube_Back.l0 k a y i) (u r) := by
  induction n with
  | zero =>
    intro y i hn hi hy hy2 hz
    refine Ev.step (fun k => by rw [cube_Back.l0]) ?_
    refine Ev.neg (by omega) (Ev.val ?_)
    rw [← hz, bck_zero]
    exact (u_eq_of_lt y hy hy2).symm
  | succ n ih =>
    intro y i hn hi hy hy2 hz
    have hi' : i = n := by omega
    refine Ev.step (fun k => by rw [cube_Back.l0]) ?_
    refine Ev.pos (by omega) ?_
    rw [hi']
    have hp := pow_val moR y 192153584191842987 hy (by omega)
    rw [powF] at hp
    replace hp : Ev (fun k => modular_Pow.f k 288230376287764481 y 192153584191842987) (u (rt (z y))) := hp
    refine Ev.bind hp ((const_val n (by omega)).bind (Ev.bindc (add_val moR a _ ha (uF0 _)) ?_))
    rw [addF, z_u]
    refine Ev.bindc (sub_val moR _ _ (uF0 _) (uF0 _)) ?_
    rw [subF, z_u, z_u, show wrap64 ((n : Int) - 1) = n - 1 from wi _ (by omega) (by omega)]
    refine ih _ _ (by omega) (by omega) (uF0 _) (uF1 _) ?_
    rw [z_u, ← hz, bck_succ]; rfl
theorem back_val (a y : Int) (ha : 0 ≤ a) (hy : 0 ≤ y) : Ev (fun k => cube_Back.f k a y) (u (backF (z a) (z y))) := by
  unfold cube_Back.f
  refine Ev.bindc (sub_val moR y a hy ha) ?_
  rw [subF]
  refine back_loop a ha _ 3 _ 2 (by omega) (by omega) (uF0 _) (uF1 _) ?_
  rw [z_u]
  unfold backF
  exact rfl
theorem two_val (a b : Int) (ha : 0 ≤ a) (hb : 0 ≤ b) : Ev (fun k => cube_Two.f k a b) (u (twoF (z a) (z b))) := by
  unfold cube_Two.f
  refine (turn_val a b ha hb).bind (Ev.bindc (add_val moR a b ha hb) (Ev.bindc (add_val moR _ _ (uF0 _) (by have := mr moR (a + b); omega)) (Ev.val ?_)))
  rw [addF, addF, z_u, z_u]; rfl
/-- The h behind so many numbers. -/
def hds (h : F) (l : List Int) : Nat → F
  | 0 => h
  | n + 1 => twoF (hds h l n) (z (rd l n))
def hdl (h : F) (l : List Int) (n : Nat) : List Int := (List.range (n + 1)).map fun i => u (hds h l i)
theorem hdl_succ (h : F) (l : List Int) (n : Nat) : hdl h l n ++ [u (hds h l (n + 1))] = hdl h l (n + 1) := by
  unfold hdl
  rw [List.range_succ (n := n + 1), List.map_append]; rfl
theorem hdl_len (h : F) (l : List Int) (n : Nat) : (hdl h l n).length = n + 1 := by simp [hdl]
theorem hdl_rd (h : F) (l : List Int) (n i : Nat) (hi : i ≤ n) : rd (hdl h l n) (i : Int) = u (hds h l i) := by
  unfold rd hdl
  rw [List.getD_eq_getElem?_getD, Int.toNat_natCast, List.getElem?_map, List.getElem?_range (by omega)]
  rfl
theorem heads_loop (l : List Int) (hl : ∀ x ∈ l, 0 ≤ x ∧ x < 18446744073709551616) (hlen : l.length ≤ 17592186000000) (h : F) (d : Nat) : ∀ (n : Nat) (i : Int), n + d = l.length → i = n →
    Ev (fun k => cube_heads.l0 k (hdl h l n) l (l.length : Int) i) (hdl h l l.length) := by
  induction d with
  | zero =>
    intro n i hn hi
    have : n = l.length := by omega
    subst this
    refine Ev.step (fun k => by rw [cube_heads.l0]) ?_
    exact Ev.neg (by omega) (Ev.val rfl)
  | succ d ih =>
    intro n i hn hi
    obtain ⟨c, hc, hrd, -⟩ := rd_of (l := l) (i := i) (by omega) (by omega)
    refine Ev.step (fun k => by rw [cube_heads.l0]) ?_
    have hll := hdl_len h l n
    refine Ev.pos (by omega) (Ev.pos (by omega) (Ev.pos (by omega) (Ev.pos (by omega) ?_)))
    have e1 : rd (hdl h l n) i = u (hds h l n) := by rw [hi]; exact hdl_rd h l n n (Nat.le_refl _)
    rw [e1, hrd]
    refine (two_val _ c (uF0 _) (hl c hc).1).bind (Ev.pos (by omega) ?_)
    rw [z_u, show wrap64 (i + 1) = i + 1 from wi _ (by omega) (by omega)]
    have e2 : twoF (hds h l n) (z c) = hds h l (n + 1) := by show _ = twoF (hds h l n) (z (rd l n)); rw [← hi, hrd]
    rw [e2, hdl_succ]
    exact ih (n + 1) (i + 1) (by omega) (by omega)
theorem heads_val (l : List Int) (hl : ∀ x ∈ l, 0 ≤ x ∧ x < 18446744073709551616) (hlen : l.length ≤ 17592186000000) :
    Ev (fun k => cube_heads.f k l) (hdl (z (l.length : Int)) l l.length) := by
  unfold cube_heads.f
  have h := heads_loop l hl hlen (z (l.length : Int)) l.length 0 0 (by omega) rfl
  have e : hdl (z (l.length : Int)) l 0 = [Int.tmod (IntKind.u64.wrap (l.length : Int)) 288230376287764481] := by
    rw [wu _ (by omega) (by omega), tmod_pos (by omega), ← uz]; rfl
  rw [e] at h
  exact h
theorem many_val (l : List Int) (hl : ∀ x ∈ l, 0 ≤ x ∧ x < 18446744073709551616) (hlen : l.length ≤ 17592186000000) :
    Ev (fun k => cube_Many.f k l) (u (hds (z (l.length : Int)) l l.length)) := by
  unfold cube_Many.f
  have hll := hdl_len (z (l.length : Int)) l l.length
  refine (heads_val l hl hlen).bind (Ev.pos (by omega) (Ev.pos (by omega) (Ev.val ?_)))
  exact hdl_rd _ l _ _ (Nat.le_refl _)
theorem up_val : Ev (fun k => obollaw10_up.f k) true := by
  unfold obollaw10_up.f
  have h0 := many_val [] (by intro x hx; cases hx) (by simp)
  have e0 : u (hds (z (([] : List Int).length : Int)) [] ([] : List Int).length) = 0 := by
    show u (z (0 : Int) : F) = 0
    rw [uz]; rfl
  rw [e0] at h0
  have h9 := back_val 5 (u (turnF (z 5) (z 9))) (by omega) (uF0 _)
  rw [z_u, back_turn, uz] at h9
  have h2 := two_val 0 0 (by omega) (by omega)
  refine h0.bind (Ev.pos rfl ((turn_val 5 9 (by omega) (by omega)).bind (Ev.bind h9 (Ev.pos rfl (h2.bind (Ev.val ?_))))))
  exact bne_iff_ne.mpr two_ne
end Go.Proofs.Ytempibbfdojfiab.ModCubeStays
