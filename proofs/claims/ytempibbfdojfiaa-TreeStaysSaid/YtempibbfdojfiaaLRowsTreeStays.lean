/- The rows of a tree's hashes: the program's and the reference's (for the law TreeStays). -/
import Derived.Test.YtempibbfdojfiaaLEmpTreeStays
set_option linter.unusedVariables false
set_option linter.unusedSimpArgs false
namespace Go.Proofs.Ytempibbfdojfiaa.ModTreeStays
open Go.RowKit Go.Proofs.Ytempibbfdojfiaa.PTreeStays Go.Proofs.YtempibbfdojfiaaW.PrintWords Go.Proofs.YtempibbfdojfiaaW.PrintLast Go.Proofs.YtempibbfdojfiaaW.PrintMore Go.Proofs.Ytempibbfdojfiaa.Nm

/-- The hash of the i-th place of a level. -/
def nd (l : List Int) : Nat → Nat → F
  | 0, i => z (rd l (i : Int))
  | n + 1, i => twoF (nd l n (2 * i)) (nd l n (2 * i + 1))
/-- How many places of a level have leaves under them. -/
def lnn (n : Nat) : Nat → Nat
  | 0 => n
  | k + 1 => (lnn n k + 1) / 2
theorem lnn_le (n k : Nat) : ∀ i, lnn n k ≤ i ↔ n ≤ i * 2 ^ k := by
  induction k with
  | zero => intro i; show n ≤ i ↔ _; rw [Nat.pow_zero, Nat.mul_one]
  | succ k ih =>
    intro i
    have h := ih (2 * i)
    have e : 2 * i * 2 ^ k = i * 2 ^ (k + 1) := by rw [Nat.pow_succ, Nat.mul_comm 2 i, Nat.mul_assoc, Nat.mul_comm 2]
    rw [e] at h
    show (lnn n k + 1) / 2 ≤ i ↔ _
    rw [← h]; omega
theorem lnn_lt (n k : Nat) : lnn n k ≤ n := by
  induction k with
  | zero => exact Nat.le_refl _
  | succ k ih => show (lnn n k + 1) / 2 ≤ n; omega
theorem rd_out (l : List Int) (i : Nat) (h : l.length ≤ i) : rd l (i : Int) = 0 := by
  unfold rd
  rw [Int.toNat_natCast, List.getD_eq_getElem?_getD, List.getElem?_eq_none h]; rfl
theorem nd_emp (l : List Int) (k : Nat) : ∀ i, l.length ≤ i * 2 ^ k → nd l k i = emp k := by
  induction k with
  | zero =>
    intro i h
    show z (rd l (i : Int)) = (0 : F)
    rw [rd_out l i (by simpa using h)]
    exact z_zero
  | succ k ih =>
    intro i h
    have e : 2 * i * 2 ^ k = i * 2 ^ (k + 1) := by rw [Nat.pow_succ, Nat.mul_comm 2 i, Nat.mul_assoc, Nat.mul_comm 2]
    have e2 : (2 * i + 1) * 2 ^ k = i * 2 ^ (k + 1) + 2 ^ k := by rw [Nat.add_mul, e, Nat.one_mul]
    show twoF (nd l k (2 * i)) (nd l k (2 * i + 1)) = twoF (emp k) (emp k)
    rw [ih _ (by rw [e]; exact h), ih _ (by rw [e2]; exact Nat.le_trans h (Nat.le_add_right _ _))]
/-- A level's hashes, as far as there are leaves. -/
def rwl (l : List Int) (k : Nat) : List Int := (List.range (lnn l.length k)).map fun i => u (nd l k i)
theorem rwl_len (l : List Int) (k : Nat) : (rwl l k).length = lnn l.length k := by unfold rwl; rw [List.length_map, List.length_range]
theorem rd_map (f : Nat → Int) (n i : Nat) (h : i < n) : rd ((List.range n).map f) (i : Int) = f i := by
  unfold rd
  rw [Int.toNat_natCast, List.getD_eq_getElem?_getD, List.getElem?_map, List.getElem?_range h]; rfl
def okl (l : List Int) : Prop := ∀ x ∈ l, 0 ≤ x ∧ x < 288230376287764481
theorem okl_rd {l : List Int} (h : okl l) (i : Nat) (hi : i < l.length) : u (z (rd l (i : Int)) : F) = rd l (i : Int) := by
  obtain ⟨c, hc, hrd, -⟩ := rd_of (l := l) (i := (i : Int)) (by omega) (by omega)
  have := h c hc
  rw [hrd, uz]; omega
theorem rwl_zero {l : List Int} (h : okl l) : rwl l 0 = l := by
  refine List.ext_getElem? (fun i => ?_)
  unfold rwl
  rw [List.getElem?_map]
  by_cases hi : i < l.length
  · have hr := okl_rd h i hi
    rw [List.getElem?_range (show i < lnn l.length 0 from hi), List.getElem?_eq_getElem hi]
    show some (u (z (rd l (i : Int)) : F)) = _
    rw [hr]
    unfold rd
    rw [Int.toNat_natCast, List.getD_eq_getElem?_getD, List.getElem?_eq_getElem hi]; rfl
  · rw [List.getElem?_eq_none (show (List.range (lnn l.length 0)).length ≤ i by rw [List.length_range]; show l.length ≤ i; omega), List.getElem?_eq_none (by omega)]; rfl
theorem at_val (l : List Int) (k i : Nat) (ii : Int) (hii : ii = i) : tree_at.f (rwl l k) ii (u (emp k)) = some (u (nd l k i)) := by
  have hle := lnn_le l.length k i
  subst hii
  unfold tree_at.f
  by_cases h : (i : Int) < ((rwl l k).length : Int)
  · rw [rwl_len] at h
    rw [if_pos (by rw [rwl_len]; exact h), if_pos (by omega)]
    unfold rwl
    rw [rd_map _ _ _ (by omega)]
  · rw [if_neg h]
    rw [rwl_len] at h
    rw [nd_emp l k i (hle.1 (by omega))]
/-- All levels' hashes up to one; and what their empty places are. -/
def allR (l : List Int) (k : Nat) : List (List Int) := (List.range (k + 1)).map (rwl l)
def allE (k : Nat) : List Int := (List.range (k + 1)).map fun j => u (emp j)
theorem allR_len (l : List Int) (k : Nat) : (allR l k).length = k + 1 := by unfold allR; rw [List.length_map, List.length_range]
theorem allE_len (k : Nat) : (allE k).length = k + 1 := by unfold allE; rw [List.length_map, List.length_range]
theorem allR_succ (l : List Int) (k : Nat) : allR l k ++ [rwl l (k + 1)] = allR l (k + 1) := by unfold allR; rw [List.range_succ (n := k + 1), List.map_append]; rfl
theorem allE_succ (k : Nat) : allE k ++ [u (emp (k + 1))] = allE (k + 1) := by unfold allE; rw [List.range_succ (n := k + 1), List.map_append]; rfl
theorem rd_allE (k j : Nat) (h : j ≤ k) : rd (allE k) (j : Int) = u (emp j) := rd_map _ _ _ (by omega)
theorem rd_allR (l : List Int) (k j : Nat) (h : j ≤ k) : rd_L1 (allR l k) (j : Int) = rwl l j := by
  unfold rd_L1 allR
  rw [Int.toNat_natCast, List.getD_eq_getElem?_getD, List.getElem?_map, List.getElem?_range (by omega)]; rfl
theorem rows_in (l : List Int) (k : Nat) (hk : k ≤ 16) (hlen : l.length ≤ 65536) (dd : Int) (r : List (List Int) × List Int × Option Int)
    (hnext : Ev (fun q => tree_rows.l0 q (allR l (k + 1)) (allE (k + 1)) dd ((k + 1 : Nat) : Int)) r) (d : Nat) : ∀ (m : Nat) (ii : Int) (up : List Int), m + d = lnn l.length (k + 1) → ii = ((2 * m : Nat) : Int) → up = (List.range m).map (fun i => u (nd l (k + 1) i)) →
    Ev (fun q => tree_rows.l1 q (allR l k) (allE k) (k : Int) up ii dd (k : Int)) r := by
  have hln := lnn_lt l.length k
  have hs : lnn l.length (k + 1) = (lnn l.length k + 1) / 2 := rfl
  induction d with
  | zero =>
    intro m ii up hm hii hup
    have he := two_val (u (emp k)) (u (emp k)) (uF0 _) (uF0 _)
    rw [z_u] at he
    have hup2 : up = rwl l (k + 1) := by rw [hup, show m = lnn l.length (k + 1) by omega]; rfl
    refine Ev.step (fun q => by rw [tree_rows.l1]) ?_
    rw [rd_allR l k k (Nat.le_refl _), rwl_len, allR_len, allE_len, rd_allE k k (Nat.le_refl _), hup2, allR_succ, show wrap64 ((k : Int) + 1) = ((k + 1 : Nat) : Int) from by rw [wi _ (by omega) (by omega)]; omega]
    refine Ev.pos (by omega) (Ev.pos (by omega) (Ev.neg (by omega) (Ev.pos (by omega) (Ev.pos (by omega) (he.bind (Ev.pos (by omega) ?_))))))
    rw [show u (twoF (emp k) (emp k)) = u (emp (k + 1)) from rfl, allE_succ]
    exact hnext
  | succ d ih =>
    intro m ii up hm hii hup
    have hn := ih (m + 1) (ii + 2) (up ++ [u (nd l (k + 1) m)]) (by omega) (by omega) (by rw [hup, List.range_succ, List.map_append]; rfl)
    have hul : up.length = m := by rw [hup, List.length_map, List.length_range]
    have h2 := two_val (u (nd l k (2 * m))) (u (nd l k (2 * m + 1))) (uF0 _) (uF0 _)
    rw [z_u, z_u] at h2
    refine Ev.step (fun q => by rw [tree_rows.l1]) ?_
    rw [rd_allR l k k (Nat.le_refl _), rwl_len, allR_len, allE_len, rd_allE k k (Nat.le_refl _), show wrap64 (ii + 1) = ii + 1 from wi _ (by omega) (by omega), show wrap64 (ii + 2) = ii + 2 from wi _ (by omega) (by omega)]
    refine Ev.pos (by omega) (Ev.pos (by omega) (Ev.pos (by omega) (Ev.pos (by omega) (Ev.pos (by omega) ?_))))
    refine Ev.bindc (at_val l k (2 * m + 1) (ii + 1) (by omega)) ?_
    rw [show rd (rwl l k) ii = u (nd l k (2 * m)) from by rw [hii]; exact rd_map _ _ _ (by omega)]
    exact h2.bind (Ev.pos (by omega) hn)
theorem rows_loop (l : List Int) (d : Nat) (hd : d ≤ 16) (hlen : l.length ≤ 65536) (m : Nat) : ∀ (k : Nat) (kk : Int), k + m = d → kk = k → Ev (fun q => tree_rows.l0 q (allR l k) (allE k) (d : Int) kk) (allR l d, allE d, none) := by
  induction m with
  | zero =>
    intro k kk hk hkk
    refine Ev.step (fun q => by rw [tree_rows.l0]) ?_
    refine Ev.neg (by omega) (Ev.val ?_)
    rw [show k = d by omega]
  | succ m ih =>
    intro k kk hk hkk
    have hn := ih (k + 1) ((k + 1 : Nat) : Int) (by omega) rfl
    have hi := rows_in l k (by omega) hlen (d : Int) _ hn (lnn l.length (k + 1)) 0 0 [] (by omega) rfl rfl
    refine Ev.step (fun q => by rw [tree_rows.l0]) ?_
    rw [hkk]
    exact Ev.pos (by omega) hi
/-- Is one of the leaves none? -/
def badl (l : List Int) : Prop := ∃ j, j < l.length ∧ 288230376287764481 ≤ rd l ((j : Nat) : Int)
theorem idx_loop (l : List Int) (hlen : l.length ≤ 17592186044416) (m : Nat) : ∀ (i : Nat) (ii : Int), i + m = l.length → ii = i →
    ∃ r : Int, Ev (fun q => slices_IndexFunc_uint64_uint64.l0 q l (l.length : Int) ii) r ∧ ((r = -1 ∧ ∀ j, i ≤ j → j < l.length → rd l ((j : Nat) : Int) < 288230376287764481) ∨ (0 ≤ r ∧ badl l)) := by
  induction m with
  | zero =>
    intro i ii hi hii
    refine ⟨-1, Ev.step (fun q => by rw [slices_IndexFunc_uint64_uint64.l0]) (Ev.neg (by omega) (Ev.val rfl)), .inl ⟨rfl, fun j h1 h2 => by omega⟩⟩
  | succ m ih =>
    intro i ii hi hii
    by_cases h : rd l (i : Int) ≥ 288230376287764481
    · refine ⟨ii, Ev.step (fun q => by rw [slices_IndexFunc_uint64_uint64.l0]) ?_, .inr ⟨by omega, i, by omega, h⟩⟩
      rw [hii]
      exact Ev.pos (by omega) (Ev.pos (by omega) (Ev.pos (by omega) (Ev.bindc (show tree_rows_1.f (rd l (i : Int)) = some true from by unfold tree_rows_1.f; rw [decide_eq_true h]) (Ev.pos rfl (Ev.val rfl)))))
    · obtain ⟨r, hr, hc⟩ := ih (i + 1) ((i : Int) + 1) (by omega) (by omega)
      refine ⟨r, Ev.step (fun q => by rw [slices_IndexFunc_uint64_uint64.l0]) ?_, ?_⟩
      · rw [hii, show wrap64 ((i : Int) + 1) = (i : Int) + 1 from wi _ (by omega) (by omega)]
        exact Ev.pos (by omega) (Ev.pos (by omega) (Ev.pos (by omega) (Ev.bindc (show tree_rows_1.f (rd l (i : Int)) = some false from by unfold tree_rows_1.f; rw [decide_eq_false h]) (Ev.neg (by simp) hr))))
      · rcases hc with ⟨h1, h2⟩ | hc
        · refine .inl ⟨h1, fun j hj hj2 => ?_⟩
          rcases Nat.eq_or_lt_of_le hj with e | e
          · rw [← e]; omega
          · exact h2 j e hj2
        · exact .inr hc
theorem has_val (l : List Int) (hlen : l.length ≤ 17592186044416) : (Ev (fun q => slices_ContainsFunc_uint64_uint64.f q l) true ∧ badl l) ∨ (Ev (fun q => slices_ContainsFunc_uint64_uint64.f q l) false ∧ ¬ badl l) := by
  obtain ⟨r, hr, hc⟩ := idx_loop l hlen l.length 0 0 (by omega) rfl
  have hr' : Ev (fun q => slices_IndexFunc_uint64_uint64.f q l) r := by unfold slices_IndexFunc_uint64_uint64.f; exact hr
  rcases hc with ⟨h1, h2⟩ | ⟨h1, h2⟩
  · refine .inr ⟨?_, fun ⟨j, hj, hj2⟩ => by have := h2 j (Nat.zero_le _) hj; omega⟩
    unfold slices_ContainsFunc_uint64_uint64.f
    exact hr'.bind (Ev.val (decide_eq_false (by omega)))
  · refine .inl ⟨?_, h2⟩
    unfold slices_ContainsFunc_uint64_uint64.f
    exact hr'.bind (Ev.val (decide_eq_true h1))
theorem okl_of {l : List Int} (h0 : ∀ x ∈ l, 0 ≤ x ∧ x < 18446744073709551616) (h : ¬ badl l) : okl l := by
  intro x hx
  refine ⟨(h0 x hx).1, ?_⟩
  obtain ⟨i, hi, e⟩ := List.getElem_of_mem hx
  rcases Int.lt_or_le x 288230376287764481 with h2 | h2
  · exact h2
  · refine absurd ⟨i, hi, ?_⟩ h
    unfold rd
    rw [Int.toNat_natCast, List.getD_eq_getElem?_getD, List.getElem?_eq_getElem hi, e]; exact h2
/-- Leaves of a depth that may be. -/
def good (l : List Int) (d : Int) : Prop := 1 ≤ d ∧ d ≤ 16 ∧ ¬ badl l ∧ l.length ≤ 2 ^ d.toNat
/-- What is amiss with others. -/
def amiss (l : List Int) (d c : Int) : Prop := (c = 1 ∧ (d < 1 ∨ 16 < d ∨ badl l)) ∨ (c = 11 ∧ 1 ≤ d ∧ d ≤ 16 ∧ ¬ badl l ∧ 2 ^ d.toNat < l.length)
theorem good_or (l : List Int) (d : Int) : good l d ∨ ∃ c, amiss l d c := by
  by_cases h : d < 1 ∨ 16 < d ∨ badl l
  · exact .inr ⟨1, .inl ⟨rfl, h⟩⟩
  · by_cases h2 : l.length ≤ 2 ^ d.toNat
    · exact .inl ⟨by omega, by omega, fun hb => h (.inr (.inr hb)), h2⟩
    · exact .inr ⟨11, .inr ⟨rfl, by omega, by omega, fun hb => h (.inr (.inr hb)), by omega⟩⟩
theorem not_fits (d : Int) (h : d < 1 ∨ 16 < d) : tree_fits.f d = some false := by
  unfold tree_fits.f
  by_cases h1 : d ≥ 1
  · rw [if_pos h1, decide_eq_false (by omega)]
  · rw [if_neg h1]
theorem rows_good (l : List Int) (d : Nat) (hlen : l.length ≤ 17592186044416) (h0 : ∀ x ∈ l, 0 ≤ x ∧ x < 18446744073709551616) (h : good l (d : Int)) : Ev (fun q => tree_rows.f q l (d : Int)) (allR l d, allE d, none) := by
  obtain ⟨h1, h2, h3, h4⟩ := h
  rw [Int.toNat_natCast] at h4
  have h16 := pow16 d (by omega)
  unfold tree_rows.f
  refine Ev.bindc (fits_true d (by omega) (by omega)) (Ev.pos rfl ?_)
  rcases has_val l hlen with ⟨_, hb⟩ | ⟨hv, _⟩
  · exact absurd hb h3
  refine hv.bind (Ev.step (fun q => by rw [tree_rows.j0]) (Ev.neg (by simp) (Ev.pos (by omega) ?_)))
  rw [shl16 d (by omega)]
  have hl := rows_loop l d (by omega) (by omega) d 0 0 (by omega) rfl
  have e1 : allR l 0 = [l] := by
    show [rwl l 0] = [l]
    rw [rwl_zero (okl_of h0 h3)]
  have e2 : allE 0 = [0] := by
    show [u (emp 0)] = [(0 : Int)]
    rw [show u (emp 0) = 0 from u_zero]
  rw [e1, e2] at hl
  exact Ev.neg (by omega) hl
theorem rows_bad (l : List Int) (d c : Int) (hlen : l.length ≤ 17592186044416) (h : amiss l d c) : Ev (fun q => tree_rows.f q l d) ([], [], some c) := by
  have bad : Ev (fun q => tree_rows.j0 q l d true) ([], [], some 1) := Ev.step (fun q => by rw [tree_rows.j0]) (Ev.pos rfl (Ev.val rfl))
  unfold tree_rows.f
  rcases h with ⟨rfl, h⟩ | ⟨rfl, h1, h2, h3, h4⟩
  · by_cases hd : d < 1 ∨ 16 < d
    · exact Ev.bindc (not_fits d hd) (Ev.neg (by simp) bad)
    · obtain ⟨d', rfl⟩ := Int.eq_ofNat_of_zero_le (show 0 ≤ d by omega)
      refine Ev.bindc (fits_true d' (by omega) (by omega)) (Ev.pos rfl ?_)
      rcases has_val l hlen with ⟨hv, _⟩ | ⟨_, hb⟩
      · exact hv.bind bad
      · exact absurd (by rcases h with h | h | h; exact absurd (.inl h) hd; exact absurd (.inr h) hd; exact h) hb
  · obtain ⟨d', rfl⟩ := Int.eq_ofNat_of_zero_le (show 0 ≤ d by omega)
    rw [Int.toNat_natCast] at h4
    refine Ev.bindc (fits_true d' (by omega) (by omega)) (Ev.pos rfl ?_)
    rcases has_val l hlen with ⟨_, hb⟩ | ⟨hv, _⟩
    · exact absurd hb h3
    refine hv.bind (Ev.step (fun q => by rw [tree_rows.j0]) (Ev.neg (by simp) (Ev.pos (by omega) ?_)))
    rw [shl16 d' (by omega)]
    exact Ev.pos (by omega) (Ev.val rfl)
theorem xor_one_even (y : Nat) (h : y % 2 = 0) : y ^^^ 1 = y + 1 := by
  refine Nat.eq_of_testBit_eq fun i => ?_
  rw [Nat.testBit_xor]
  cases i with
  | zero => simp only [Nat.testBit_zero]; rw [h, show (y + 1) % 2 = 1 by omega]; rfl
  | succ i => rw [Nat.testBit_succ, Nat.testBit_succ, Nat.testBit_succ, show (y + 1) / 2 = y / 2 by omega]; simp
theorem xor_one_odd (y : Nat) (h : y % 2 = 1) : y ^^^ 1 = y - 1 := by
  refine Nat.eq_of_testBit_eq fun i => ?_
  rw [Nat.testBit_xor]
  cases i with
  | zero => simp only [Nat.testBit_zero]; rw [h, show (y - 1) % 2 = 0 by omega]; rfl
  | succ i => rw [Nat.testBit_succ, Nat.testBit_succ, Nat.testBit_succ, show (y - 1) / 2 = y / 2 by omega]; simp
/-- The place beside a place. -/
def bes (y : Nat) : Nat := if y % 2 = 1 then y - 1 else y + 1
theorem bes_le (y : Nat) : bes y ≤ y + 1 := by unfold bes; split <;> omega
theorem xor_one (y : Nat) : y ^^^ 1 = bes y := by
  unfold bes
  by_cases h : y % 2 = 1
  · rw [if_pos h]; exact xor_one_odd y h
  · rw [if_neg h]; exact xor_one_even y (by omega)
theorem xor_val (y : Nat) (hy : y < 4611686018427387904) : Go.bits .xor .i64 (y : Int) 1 = ((bes y : Nat) : Int) := by
  have hb := bes_le y
  have ha' : y % 2 ^ 64 = y := Nat.mod_eq_of_lt (by omega)
  have h1 : (1 : Int) = ((1 : Nat) : Int) := rfl
  rw [h1]
  simp only [Go.bits, BitVec.ofInt_natCast, BitVec.toNat_xor, BitVec.toNat_ofNat]
  rw [show y % 2 ^ IntKind.i64.bits = y from ha', show 1 % 2 ^ IntKind.i64.bits = 1 from rfl, xor_one y]
  exact i64_63 _ (by omega) (by have h2 : (2 : Int) ^ 63 = 9223372036854775808 := by decide
                                omega)
theorem path_loop (l : List Int) (d i : Nat) (hd : d ≤ 16) (hi : i < 65536) (m : Nat) : ∀ (k : Nat) (kk : Int) (out : List Int), k + m = d → kk = k → out = (List.range k).map (fun j => u (nd l j (bes (i / 2 ^ j)))) →
    Ev (fun q => tree_Path.l0 q (i : Int) (allR l d) (allE d) out (d : Int) kk) ((List.range d).map (fun j => u (nd l j (bes (i / 2 ^ j)))), none) := by
  induction m with
  | zero =>
    intro k kk out hk hkk hout
    refine Ev.step (fun q => by rw [tree_Path.l0]) ?_
    refine Ev.neg (by omega) (Ev.val ?_)
    rw [hout, show k = d by omega]
  | succ m ih =>
    intro k kk out hk hkk hout
    have hol : out.length = k := by rw [hout, List.length_map, List.length_range]
    have hn := ih (k + 1) ((k : Int) + 1) (out ++ [u (nd l k (bes (i / 2 ^ k)))]) (by omega) (by omega) (by rw [hout, List.range_succ, List.map_append]; rfl)
    have hle : i / 2 ^ k ≤ i := Nat.div_le_self _ _
    refine Ev.step (fun q => by rw [tree_Path.l0]) ?_
    rw [hkk, show wrap64 ((k : Int) + 1) = (k : Int) + 1 from wi _ (by omega) (by omega), shr_nat i k (by omega), xor_val _ (by omega), allR_len, allE_len, rd_allR l d k (by omega), rd_allE d k (by omega)]
    exact Ev.pos (by omega) (Ev.pos (by omega) (Ev.pos (by omega) (Ev.pos (by omega) (Ev.bindc (at_val l k _ _ rfl) (Ev.pos (by omega) hn)))))
/-- The path of a place. -/
def pathL (l : List Int) (d i : Nat) : List Int := (List.range d).map fun j => u (nd l j (bes (i / 2 ^ j)))
theorem path_good (l : List Int) (d : Nat) (i : Nat) (hlen : l.length ≤ 17592186044416) (h0 : ∀ x ∈ l, 0 ≤ x ∧ x < 18446744073709551616) (h : good l (d : Int)) (hi : i < 2 ^ d) : Ev (fun q => tree_Path.f q l (d : Int) (i : Int)) (pathL l d i, none) := by
  have hd : d ≤ 16 := by have := h.2.1; omega
  have h16 := pow16 d hd
  unfold tree_Path.f
  refine (rows_good l d hlen h0 h).bind ?_
  dsimp only
  rw [shl16 d hd, decide_eq_false (by omega)]
  refine Ev.pos rfl (Ev.neg (by omega) (Ev.pos (by omega) ?_))
  refine Ev.step (fun q => by rw [tree_Path.j0]) (Ev.neg (by simp) ?_)
  exact path_loop l d i hd (by omega) d 0 0 [] (by omega) rfl rfl
theorem path_out (l : List Int) (d : Nat) (i : Int) (hlen : l.length ≤ 17592186044416) (h0 : ∀ x ∈ l, 0 ≤ x ∧ x < 18446744073709551616) (h : good l (d : Int)) (hi : i < 0 ∨ ((2 ^ d : Nat) : Int) ≤ i) : Ev (fun q => tree_Path.f q l (d : Int) i) ([], some 2) := by
  have hd : d ≤ 16 := by have := h.2.1; omega
  have h16 := pow16 d hd
  have bad : Ev (fun q => tree_Path.j0 q (d : Int) i (allR l d) (allE d) true) ([], some 2) := Ev.step (fun q => by rw [tree_Path.j0]) (Ev.pos rfl (Ev.val rfl))
  unfold tree_Path.f
  refine (rows_good l d hlen h0 h).bind ?_
  dsimp only
  rw [shl16 d hd]
  refine Ev.pos rfl ?_
  by_cases h1 : i < 0
  · exact Ev.pos h1 bad
  · rw [decide_eq_true (show i ≥ ((2 ^ d : Nat) : Int) by omega)]
    exact Ev.neg h1 (Ev.pos (by omega) bad)
theorem path_bad (l : List Int) (d c i : Int) (hlen : l.length ≤ 17592186044416) (h : amiss l d c) : Ev (fun q => tree_Path.f q l d i) ([], some c) := by
  unfold tree_Path.f
  exact (rows_bad l d c hlen h).bind (Ev.neg (by simp) (Ev.val rfl))
end Go.Proofs.Ytempibbfdojfiaa.ModTreeStays
