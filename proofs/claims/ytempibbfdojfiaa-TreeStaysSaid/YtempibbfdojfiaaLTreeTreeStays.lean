/- Trees: what their functions compute (for the law TreeStays). -/
import Derived.Test.YtempibbfdojfiaaLCubeTreeStays
set_option linter.unusedVariables false
set_option linter.unusedSimpArgs false
namespace Go.Proofs.Ytempibbfdojfiaa.ModTreeStays
open Go.RowKit Go.Proofs.Ytempibbfdojfiaa.PTreeStays Go.Proofs.YtempibbfdojfiaaW.PrintWords Go.Proofs.YtempibbfdojfiaaW.PrintLast Go.Proofs.YtempibbfdojfiaaW.PrintMore Go.Proofs.Ytempibbfdojfiaa.Nm

theorem rd_lim {l : List Int} (hl : ∀ x ∈ l, 0 ≤ x ∧ x < 18446744073709551616) {i : Int} (h0 : 0 ≤ i) (h1 : i < l.length) : 0 ≤ rd l i ∧ rd l i < 18446744073709551616 := by
  obtain ⟨c, hc, hrd, -⟩ := rd_of h0 h1
  rw [hrd]; exact hl c hc
theorem bdi {n : Int} (h : (Lit.int .i64 n).wf = true) : -9223372036854775808 ≤ n ∧ n < 9223372036854775808 := by
  simp [Lit.wf, IntKind.min, IntKind.max, IntKind.signed, IntKind.bits] at h
  omega
theorem drop_cons (l : List Int) (i : Nat) (hlt : i < l.length) : l.drop i = rd l (i : Int) :: l.drop (i + 1) := by
  rw [List.drop_eq_getElem_cons hlt]
  congr 1
  obtain ⟨c, _, h1, h2⟩ := rd_of (l := l) (i := (i : Int)) (by omega) (by omega)
  rw [Int.toNat_natCast, List.getElem?_eq_getElem hlt] at h2
  rw [h1]; exact Option.some.inj h2
theorem pow16 (k : Nat) (hk : k ≤ 16) : 2 ^ k ≤ 65536 := Nat.pow_le_pow_right (show 0 < 2 by omega) hk
theorem shl16 (k : Nat) (hk : k ≤ 16) : shl .i64 1 (k : Int) = ((2 ^ k : Nat) : Int) := by
  unfold shl
  have e : min (k : Int).toNat IntKind.i64.bits = k := by
    show min (k : Int).toNat 64 = k
    omega
  rw [e, Int.one_mul]
  have h2 : (2 : Int) ^ k = ((2 ^ k : Nat) : Int) := by rw [Int.natCast_pow]; rfl
  rw [h2]
  have hle := pow16 k hk
  generalize 2 ^ k = q at *
  rw [IntKind.wrap_i64]
  omega
theorem i64_63 (n : Int) (h0 : 0 ≤ n) (h1 : n < 2 ^ 63) : IntKind.i64.wrap n = n := by
  have h2 : (2 : Int) ^ 63 = 9223372036854775808 := by decide
  simp [IntKind.wrap, IntKind.bits, IntKind.signed]
  omega
theorem and_i64 (x : Int) (h0 : 0 ≤ x) (h1 : x < 9223372036854775808) : Go.bits .and .i64 x 1 = x % 2 :=
  bits_mask .i64 63 (by decide) i64_63 1 (by decide) x h0 (by have h2 : (2 : Int) ^ 63 = 9223372036854775808 := by decide
                                                              omega)
/-- The n-th bit. -/
def bit (x n : Nat) : Nat := x / 2 ^ n % 2
theorem shr_nat (x n : Nat) (hn : n ≤ 63) : shr .i64 (x : Int) (n : Int) = ((x / 2 ^ n : Nat) : Int) := by
  unfold shr
  have e : min (n : Int).toNat IntKind.i64.bits = n := by
    show min (n : Int).toNat 64 = n
    omega
  rw [e]
  have h2 : (2 : Int) ^ n = ((2 ^ n : Nat) : Int) := by rw [Int.natCast_pow]; rfl
  rw [h2]; rfl
theorem bit_val (x n : Nat) (hx : x < 9223372036854775808) (hn : n ≤ 63) : Go.bits .and .i64 (shr .i64 (x : Int) (n : Int)) 1 = ((bit x n : Nat) : Int) := by
  have hle : x / 2 ^ n ≤ x := Nat.div_le_self _ _
  rw [shr_nat x n hn]
  unfold bit
  generalize x / 2 ^ n = y at *
  rw [and_i64 _ (by omega) (by omega)]
  omega
theorem fits_true (d : Nat) (h1 : 1 ≤ d) (h2 : d ≤ 16) : tree_fits.f (d : Int) = some true := by
  unfold tree_fits.f
  rw [if_pos (by omega), decide_eq_true (by omega)]
/-- What a sound front has at its k-th place. -/
def okAt (c : Nat) (f : List Int) (k : Nat) : Prop := rd f (k : Int) < 288230376287764481 ∧ (bit c k = 0 → rd f (k : Int) = 0)
theorem check_loop (c : Nat) (hc : c ≤ 65536) (dd : Int) (f : List Int) (hlen : f.length ≤ 60) (m : Nat) : ∀ (i : Nat) (ii : Int), i + m = f.length → ii = i → (∀ k, i ≤ k → k < f.length → okAt c f k) →
    Ev (fun k => tree_Check.l0 k f (f.length : Int) ii dd (c : Int) f) none := by
  induction m with
  | zero =>
    intro i ii hi hii h
    refine Ev.step (fun k => by rw [tree_Check.l0]) ?_
    exact Ev.neg (by omega) (Ev.val rfl)
  | succ m ih =>
    intro i ii hi hii h
    have h1 := h i (Nat.le_refl _) (by omega)
    have hih := ih (i + 1) ((i : Int) + 1) (by omega) (by omega) (fun k hk hk2 => h k (by omega) hk2)
    refine Ev.step (fun k => by rw [tree_Check.l0]) ?_
    rw [show wrap64 (ii + 1) = ii + 1 from wi _ (by omega) (by omega), hii, bit_val c i (by omega) (by omega)]
    refine Ev.pos (by omega) (Ev.pos (by omega) (Ev.pos (by omega) (Ev.neg (by have := h1.1; omega) ?_)))
    by_cases hb : bit c i = 0
    · exact Ev.pos (by omega) (Ev.pos (h1.2 hb) hih)
    · exact Ev.neg (by omega) hih
theorem check_ok (d c : Nat) (h1 : 1 ≤ d) (h2 : d ≤ 16) (hc : c ≤ 2 ^ d) (f : List Int) (hf : f.length = d + 1) (h : ∀ k, k < d + 1 → okAt c f k) :
    Ev (fun k => tree_Check.f k (d : Int) (c : Int) f) none := by
  unfold tree_Check.f
  have h3 := pow16 d h2
  refine Ev.bindc (fits_true d h1 h2) (Ev.pos rfl (Ev.neg (by omega) (Ev.pos (by omega) ?_)))
  rw [shl16 d h2, show wrap64 ((d : Int) + 1) = ((d + 1 : Nat) : Int) from by rw [wi _ (by omega) (by omega)]; omega, hf, show (((d + 1 : Nat) : Int) != ((d + 1 : Nat) : Int)) = false from bne_self_eq_false _]
  refine Ev.neg (by omega) (Ev.step (fun k => by rw [tree_Check.j0]) (Ev.neg (by simp) ?_))
  exact check_loop c (by omega) (d : Int) f (by omega) f.length 0 0 (by omega) rfl (fun k _ hk => h k (by omega))
theorem new1 : tree_New.f 1 = some (1, 0, [0, 0], none) := by
  unfold tree_New.f
  rw [show tree_fits.f 1 = some true from fits_true 1 (by omega) (by omega), show wrap64 (1 + 1) = 2 from wi _ (by omega) (by omega)]
  rfl
theorem w01 : wrap64 (0 + 1) = 1 := wi _ (by omega) (by omega)
theorem w11 : wrap64 (1 + 1) = 2 := wi _ (by omega) (by omega)
theorem b00 : Go.bits .and .i64 (shr .i64 0 0) 1 = 0 := bit_val 0 0 (by omega) (by omega)
theorem b10 : Go.bits .and .i64 (shr .i64 1 0) 1 = 1 := bit_val 1 0 (by omega) (by omega)
theorem b11 : Go.bits .and .i64 (shr .i64 1 1) 1 = 0 := bit_val 1 1 (by omega) (by omega)
theorem chk0 : Ev (fun k => tree_Check.f k 1 0 [0, 0]) none :=
  check_ok 1 0 (by omega) (by omega) (by omega) [0, 0] rfl (fun k hk => by
    match k, hk with
    | 0, _ => exact ⟨by decide, fun _ => rfl⟩
    | 1, _ => exact ⟨by decide, fun _ => rfl⟩)
theorem chk1 : Ev (fun k => tree_Check.f k 1 1 [5, 0]) none :=
  check_ok 1 1 (by omega) (by omega) (by omega) [5, 0] rfl (fun k hk => by
    match k, hk with
    | 0, _ => exact ⟨by decide, fun h => by cases h⟩
    | 1, _ => exact ⟨by decide, fun _ => rfl⟩)
theorem chk2 (x : F) : Ev (fun k => tree_Check.f k 1 2 [0, u x]) none :=
  check_ok 1 2 (by omega) (by omega) (by omega) [0, u x] rfl (fun k hk => by
    match k, hk with
    | 0, _ => exact ⟨by show (0 : Int) < 288230376287764481; omega, fun _ => rfl⟩
    | 1, _ => exact ⟨uF1 x, fun h => by cases h⟩)
theorem sh10 : shl .i64 1 1 = 2 := shl16 1 (by omega)
theorem root0 : Ev (fun k => tree_Root.f k 1 0 [0, 0]) (u (twoF (z 0) (z 0)), none) := by
  unfold tree_Root.f
  have h := two_val 0 0 (by omega) (by omega)
  have h2 : Ev (fun k => tree_Root.l0 k (u (twoF (z 0) (z 0))) (u (twoF (z 0) (z 0))) 1 1 1 0 [0, 0]) (u (twoF (z 0) (z 0)), none) := by
    refine Ev.step (fun k => by rw [tree_Root.l0]) ?_
    exact Ev.neg (by omega) (Ev.val rfl)
  have h1 : Ev (fun k => tree_Root.l0 k 0 0 1 0 1 0 [0, 0]) (u (twoF (z 0) (z 0)), none) := by
    refine Ev.step (fun k => by rw [tree_Root.l0]) ?_
    rw [b00, w01]
    exact Ev.pos (by omega) (Ev.pos (by omega) (Ev.neg (by omega) (h.bind (h.bind h2))))
  refine chk0.bind (Ev.pos rfl (Ev.pos (by omega) ?_))
  rw [sh10]
  exact Ev.neg (by omega) h1
theorem app0 : Ev (fun k => tree_Append.f k 1 0 [0, 0] 5) (1, 1, [5, 0], none) := by
  unfold tree_Append.f
  have h1 : Ev (fun k => tree_Append.l0 k 5 0 1 0 [0, 0] 1 1 [0, 0]) (1, 1, [5, 0], none) := by
    refine Ev.step (fun k => by rw [tree_Append.l0]) ?_
    rw [b00]
    exact Ev.pos (by omega) (Ev.neg (by omega) (Ev.pos (by decide) (Ev.val rfl)))
  refine chk0.bind (Ev.pos rfl (Ev.neg (by omega) (Ev.pos (by omega) ?_)))
  rw [sh10, w01]
  exact Ev.neg (by omega) (Ev.bindc (show slices_Clone_uint64_uint64.f [0, 0] = some [0, 0] from rfl) h1)
theorem app1 : Ev (fun k => tree_Append.f k 1 1 [5, 0] 6) (1, 2, [0, u (twoF (z 5) (z 6))], none) := by
  unfold tree_Append.f
  have h2 : Ev (fun k => tree_Append.l0 k (u (twoF (z 5) (z 6))) 1 1 1 [5, 0] 1 2 [0, 0]) (1, 2, [0, u (twoF (z 5) (z 6))], none) := by
    refine Ev.step (fun k => by rw [tree_Append.l0]) ?_
    rw [b11]
    exact Ev.pos (by omega) (Ev.neg (by omega) (Ev.pos (by decide) (Ev.val rfl)))
  have h1 : Ev (fun k => tree_Append.l0 k 6 0 1 1 [5, 0] 1 2 [5, 0]) (1, 2, [0, u (twoF (z 5) (z 6))], none) := by
    refine Ev.step (fun k => by rw [tree_Append.l0]) ?_
    rw [b10, w01]
    exact Ev.pos (by omega) (Ev.pos (by omega) (Ev.pos (by decide) ((two_val 5 6 (by omega) (by omega)).bind h2)))
  refine chk1.bind (Ev.pos rfl (Ev.neg (by omega) (Ev.pos (by omega) ?_)))
  rw [sh10, w11]
  exact Ev.neg (by omega) (Ev.bindc (show slices_Clone_uint64_uint64.f [5, 0] = some [5, 0] from rfl) h1)
theorem app2 (x : F) : Ev (fun k => tree_Append.f k 1 2 [0, u x] 7) (0, 0, [], some 11) := by
  unfold tree_Append.f
  refine (chk2 x).bind (Ev.pos rfl (Ev.neg (by omega) (Ev.pos (by omega) ?_)))
  rw [sh10]
  exact Ev.pos rfl (Ev.val rfl)
theorem up_val : Ev (fun k => obollaw16_up.f k) true := by
  unfold obollaw16_up.f
  refine Ev.bindc new1 (root0.bind (app0.bind (app1.bind ((app2 _).bind ?_))))
  exact Ev.pos rfl (Ev.pos rfl ((two_val 0 0 (by omega) (by omega)).bind (Ev.pos rfl (Ev.neg two_ne (Ev.pos rfl (Ev.pos rfl (Ev.neg (by simp) (Ev.val rfl))))))))
end Go.Proofs.Ytempibbfdojfiaa.ModTreeStays
