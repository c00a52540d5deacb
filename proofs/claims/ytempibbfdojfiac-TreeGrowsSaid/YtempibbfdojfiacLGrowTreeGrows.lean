/- A tree's root, and a tree that grows: the program's and the reference's (for the law TreeGrows). -/
import Derived.Test.YtempibbfdojfiacLSndTreeGrows
set_option linter.unusedVariables false
set_option linter.unusedSimpArgs false
namespace Go.Proofs.Ytempibbfdojfiac.ModTreeGrows
open Go.RowKit Go.Proofs.Ytempibbfdojfiac.PTreeGrows Go.Proofs.YtempibbfdojfiacW.PrintWords Go.Proofs.YtempibbfdojfiacW.PrintLast Go.Proofs.YtempibbfdojfiacW.PrintMore Go.Proofs.Ytempibbfdojfiac.Nm

/-- What an empty place of a level is. -/
def emp : Nat → F
  | 0 => 0
  | n + 1 => twoF (emp n) (emp n)
/-- The hash of what the count ends in, at a level. -/
def hh (c : Nat) (f : List Int) : Nat → F
  | 0 => 0
  | n + 1 => if bit c n = 1 then twoF (z (rd f (n : Int))) (hh c f n) else twoF (hh c f n) (emp n)
theorem bit01 (c n : Nat) : bit c n = 0 ∨ bit c n = 1 := by unfold bit; omega
theorem rd_of_sound {d c : Int} {f : List Int} (h : Sound d c f) (i : Nat) (hi : i < f.length) (hf : ∀ x ∈ f, 0 ≤ x ∧ x < 18446744073709551616) : 0 ≤ rd f (i : Int) ∧ rd f (i : Int) < 288230376287764481 :=
  ⟨(rd_lim hf (i := (i : Int)) (by omega) (by omega)).1, (h.2.2.2.2.2 i hi).1⟩
theorem u_rd {x : Int} (h : 0 ≤ x ∧ x < 288230376287764481) : u (z x : F) = x := by rw [uz]; omega
/-- The root of a sound tree. -/
def rootI (d c : Nat) (f : List Int) : Int := if c = 2 ^ d then rd f (d : Int) else u (hh c f d)
theorem root_loop (d c : Nat) (hd : d ≤ 16) (hc : c ≤ 65536) (f : List Int) (hlen : f.length = d + 1) (hf : ∀ x ∈ f, 0 ≤ x ∧ x < 18446744073709551616) (m : Nat) : ∀ (i : Nat) (ii : Int), i + m = d → ii = i →
    Ev (fun k => tree_Root.l0 k (u (hh c f i)) (u (emp i)) (d : Int) ii (d : Int) (c : Int) f) (u (hh c f d), none) := by
  induction m with
  | zero =>
    intro i ii hi hii
    refine Ev.step (fun k => by rw [tree_Root.l0]) ?_
    refine Ev.neg (by omega) (Ev.val ?_)
    rw [show i = d by omega]
  | succ m ih =>
    intro i ii hi hii
    have hr := rd_lim hf (i := (i : Int)) (by omega) (by omega)
    have hn := ih (i + 1) ((i : Int) + 1) (by omega) (by omega)
    have he := two_val (u (emp i)) (u (emp i)) (uF0 _) (uF0 _)
    rw [z_u] at he
    refine Ev.step (fun k => by rw [tree_Root.l0]) ?_
    rw [show wrap64 (ii + 1) = ii + 1 from wi _ (by omega) (by omega), hii, bit_val c i (by omega) (by omega)]
    refine Ev.pos (by omega) (Ev.pos (by omega) ?_)
    by_cases hb : bit c i = 1
    · have h2 := two_val (rd f (i : Int)) (u (hh c f i)) hr.1 (uF0 _)
      rw [z_u] at h2
      have e : hh c f (i + 1) = twoF (z (rd f (i : Int))) (hh c f i) := by
        show (if bit c i = 1 then _ else _) = _
        rw [if_pos hb]
      rw [e] at hn
      exact Ev.pos (by omega) (Ev.pos (by omega) (h2.bind (he.bind hn)))
    · have h2 := two_val (u (hh c f i)) (u (emp i)) (uF0 _) (uF0 _)
      rw [z_u, z_u] at h2
      have e : hh c f (i + 1) = twoF (hh c f i) (emp i) := by
        show (if bit c i = 1 then _ else _) = _
        rw [if_neg hb]
      rw [e] at hn
      exact Ev.neg (by omega) (h2.bind (he.bind hn))
theorem root_sound (d c : Nat) (f : List Int) (h : Sound d c f) (hf : ∀ x ∈ f, 0 ≤ x ∧ x < 18446744073709551616) : Ev (fun k => tree_Root.f k (d : Int) (c : Int) f) (rootI d c f, none) := by
  have hck := check_sound d c f h
  obtain ⟨h1, h2, h3, h4, h5, h6⟩ := h
  rw [Int.toNat_natCast] at h4
  have h16 := pow16 d (by omega)
  unfold tree_Root.f rootI
  refine hck.bind (Ev.pos rfl (Ev.pos (by omega) ?_))
  rw [shl16 d (by omega)]
  by_cases hc : c = 2 ^ d
  · rw [if_pos hc]
    exact Ev.pos (by omega) (Ev.pos (by omega) (Ev.val rfl))
  · rw [if_neg hc]
    have hl := root_loop d c (by omega) (by omega) f (by omega) hf d 0 0 (by omega) rfl
    have e1 : u (hh c f 0) = 0 := u_zero
    have e2 : u (emp 0) = 0 := u_zero
    rw [e1, e2] at hl
    exact Ev.neg (by omega) hl
theorem root_bad (d c : Int) (f : List Int) (h : ¬ Sound d c f) : Ev (fun k => tree_Root.f k d c f) (0, some 3) := by
  unfold tree_Root.f
  exact (check_bad d c f h).bind (Ev.neg (by simp) (Ev.val rfl))
theorem empty_loop (L : Nat) (hL : L ≤ 16) (m : Nat) : ∀ (i : Nat) (ii : Int), i + m = L → ii = i → Ev (fun k => obolref16_empty.l0 k (L : Int) (u (emp i)) ii) (u (emp L)) := by
  induction m with
  | zero =>
    intro i ii hi hii
    refine Ev.step (fun k => by rw [obolref16_empty.l0]) ?_
    refine Ev.neg (by omega) (Ev.val ?_)
    rw [show i = L by omega]
  | succ m ih =>
    intro i ii hi hii
    have he := rtwo_val (u (emp i)) (u (emp i)) (uF0 _) (uF0 _)
    rw [z_u] at he
    refine Ev.step (fun k => by rw [obolref16_empty.l0]) ?_
    rw [show wrap64 (ii + 1) = ii + 1 from wi _ (by omega) (by omega), hii]
    exact Ev.pos (by omega) (he.bind (ih (i + 1) _ (by omega) (by omega)))
theorem empty_val (L : Nat) (hL : L ≤ 16) : Ev (fun k => obolref16_empty.f k (L : Int)) (u (emp L)) := by
  unfold obolref16_empty.f
  have h := empty_loop L hL L 0 0 (by omega) rfl
  have e2 : u (emp 0) = 0 := u_zero
  rw [e2] at h
  exact h
/-- Where the level's block begins that the count lies in. -/
def st (c L : Nat) : Nat := c / 2 ^ L * 2 ^ L
theorem st_zero (c : Nat) : st c 0 = c := by unfold st; simp
theorem st_le (c L : Nat) : st c L ≤ c := Nat.div_mul_le_self _ _
theorem st_lt (c L : Nat) : c < st c L + 2 ^ L := by
  unfold st
  have := Nat.div_add_mod c (2 ^ L)
  have h2 := Nat.mod_lt c (show 0 < 2 ^ L from Nat.pow_pos (by omega))
  rw [Nat.mul_comm] at this
  omega
theorem st_succ (c L : Nat) : st c L = st c (L + 1) + bit c L * 2 ^ L := by
  unfold st bit
  have h1 : c / 2 ^ (L + 1) = c / 2 ^ L / 2 := by rw [Nat.div_div_eq_div_mul, Nat.pow_succ]
  rw [h1, Nat.pow_succ]
  generalize c / 2 ^ L = q
  generalize 2 ^ L = P
  have h2 : q = q / 2 * 2 + q % 2 := by omega
  have h3 : q / 2 * (P * 2) = q / 2 * 2 * P := by rw [Nat.mul_comm P 2, Nat.mul_assoc]
  rw [h3, ← Nat.add_mul, ← h2]
theorem hh_emp (c : Nat) (f : List Int) (L : Nat) : st c L = c → hh c f L = emp L := by
  induction L with
  | zero => intro _; rfl
  | succ L ih =>
    intro h
    have h1 := st_succ c L
    have h2 := st_le c L
    have hp : 0 < 2 ^ L := Nat.pow_pos (by omega)
    have hb : bit c L = 0 := by
      rcases bit01 c L with hb | hb
      · exact hb
      · rw [hb, Nat.one_mul] at h1; omega
    show (if bit c L = 1 then _ else _) = _
    rw [if_neg (by omega), ih (by rw [hb, Nat.zero_mul] at h1; omega)]; rfl
theorem shl_nat (x n : Nat) (hn : n ≤ 63) (h : x * 2 ^ n < 9223372036854775808) : shl .i64 (x : Int) (n : Int) = ((x * 2 ^ n : Nat) : Int) := by
  unfold shl
  have e : min (n : Int).toNat IntKind.i64.bits = n := by
    show min (n : Int).toNat 64 = n
    omega
  rw [e]
  have h2 : (2 : Int) ^ n = ((2 ^ n : Nat) : Int) := by rw [Int.natCast_pow]; rfl
  rw [h2, ← Int.natCast_mul]
  generalize x * 2 ^ n = q at *
  rw [IntKind.wrap_i64]
  omega
theorem part_empty (d c : Nat) (f : List Int) (L s : Nat) (hL : L ≤ 16) (h : c ≤ s) : Ev (fun k => obolref16_part.f k (d : Int) (c : Int) f (L : Int) (s : Int)) (u (emp L)) := by
  refine Ev.step (fun k => by rw [obolref16_part.f]) ?_
  exact Ev.pos (by omega) (Ev.tail (empty_val L hL))
theorem part_full (d c : Nat) (hc : c ≤ 65536) (f : List Int) (L : Nat) (hL : L ≤ 16) (hlt : L < f.length) (hb : bit c L = 1) : Ev (fun k => obolref16_part.f k (d : Int) (c : Int) f (L : Int) ((st c (L + 1) : Nat) : Int)) (rd f (L : Int)) := by
  have h1 := st_succ c L
  have h2 := st_le c L
  have h3 := st_le c (L + 1)
  have h16 := pow16 L hL
  have hp : 0 < 2 ^ L := Nat.pow_pos (by omega)
  rw [hb, Nat.one_mul] at h1
  have hsh : shl .i64 (shr .i64 (c : Int) ((L + 1 : Nat) : Int)) ((L + 1 : Nat) : Int) = ((st c (L + 1) : Nat) : Int) := by
    rw [shr_nat c (L + 1) (by omega)]
    exact shl_nat (c / 2 ^ (L + 1)) (L + 1) (by omega) (by show st c (L + 1) < _; omega)
  have hm : Int.tmod (shr .i64 (c : Int) (L : Int)) 2 = 1 := by
    rw [shr_nat c L (by omega), tmod_pos (Int.natCast_nonneg _)]
    have : bit c L = c / 2 ^ L % 2 := rfl
    generalize c / 2 ^ L = y at *
    omega
  refine Ev.step (fun k => by rw [obolref16_part.f]) ?_
  rw [shl16 L hL, hm, show wrap64 ((L : Int) + 1) = ((L + 1 : Nat) : Int) from by rw [wi _ (by omega) (by omega)]; omega, hsh, show (((st c (L + 1) : Nat) : Int) == ((st c (L + 1) : Nat) : Int)) = true from beq_self_eq_true _,
    show wrap64 (((st c (L + 1) : Nat) : Int) + ((2 ^ L : Nat) : Int)) = ((st c (L + 1) : Nat) : Int) + ((2 ^ L : Nat) : Int) from wi _ (by omega) (by omega)]
  refine Ev.neg (by omega) (Ev.pos (by omega) (Ev.pos (by omega) (Ev.pos rfl (Ev.pos (by omega) ?_))))
  refine Ev.step (fun k => by rw [obolref16_part.j0]) ?_
  exact Ev.pos rfl (Ev.pos (by omega) (Ev.pos (by omega) (Ev.val rfl)))
theorem part_split (d c : Nat) (hc : c ≤ 65536) (f : List Int) (L s : Nat) (hL : L + 1 ≤ 16) (h1 : s < c) (h2 : c < s + 2 ^ (L + 1)) (a b : Int) (ha : 0 ≤ a) (hb : 0 ≤ b)
    (g1 : Ev (fun k => obolref16_part.f k (d : Int) (c : Int) f (L : Int) (s : Int)) a) (g2 : Ev (fun k => obolref16_part.f k (d : Int) (c : Int) f (L : Int) ((s + 2 ^ L : Nat) : Int)) b) :
    Ev (fun k => obolref16_part.f k (d : Int) (c : Int) f ((L + 1 : Nat) : Int) (s : Int)) (u (twoF (z a) (z b))) := by
  have h16 := pow16 (L + 1) hL
  have h15 := pow16 L (by omega)
  refine Ev.step (fun k => by rw [obolref16_part.f]) ?_
  rw [shl16 (L + 1) hL, show wrap64 ((s : Int) + ((2 ^ (L + 1) : Nat) : Int)) = (s : Int) + ((2 ^ (L + 1) : Nat) : Int) from wi _ (by omega) (by omega)]
  refine Ev.neg (by omega) (Ev.pos (by omega) (Ev.neg (by omega) ?_))
  refine Ev.step (fun k => by rw [obolref16_part.j0]) ?_
  rw [show wrap64 (((L + 1 : Nat) : Int) - 1) = (L : Int) from by rw [wi _ (by omega) (by omega)]; omega, shl16 L (by omega), show wrap64 ((s : Int) + ((2 ^ L : Nat) : Int)) = ((s + 2 ^ L : Nat) : Int) from by rw [wi _ (by omega) (by omega)]; omega]
  exact Ev.neg (by simp) (g1.bind (Ev.pos (by omega) (g2.bind (Ev.tail (rtwo_val a b ha hb)))))
theorem part_val (d c : Nat) (hc : c ≤ 65536) (f : List Int) (hf : ∀ x ∈ f, 0 ≤ x ∧ x < 18446744073709551616) (L : Nat) : L ≤ 16 → L ≤ f.length → Ev (fun k => obolref16_part.f k (d : Int) (c : Int) f (L : Int) ((st c L : Nat) : Int)) (u (hh c f L)) := by
  induction L with
  | zero =>
    intro _ _
    exact part_empty d c f 0 (st c 0) (by omega) (by rw [st_zero]; exact Nat.le_refl _)
  | succ L ih =>
    intro hL hlen
    have h0 := ih (by omega) (by omega)
    by_cases hs : st c (L + 1) = c
    · rw [hh_emp c f (L + 1) hs]
      exact part_empty d c f (L + 1) _ hL (by omega)
    · have h1 := st_succ c L
      have h2 := st_le c (L + 1)
      have h3 := st_lt c (L + 1)
      have h4 := st_lt c L
      have hr := rd_lim hf (i := (L : Int)) (by omega) (by omega)
      by_cases hb : bit c L = 1
      · have e : hh c f (L + 1) = twoF (z (rd f (L : Int))) (hh c f L) := by
          show (if bit c L = 1 then _ else _) = _
          rw [if_pos hb]
        have g := part_split d c hc f L (st c (L + 1)) hL (by omega) h3 (rd f (L : Int)) (u (hh c f L)) hr.1 (uF0 _) (part_full d c hc f L (by omega) (by omega) hb) (by rw [hb, Nat.one_mul] at h1; rw [← h1]; exact h0)
        rw [z_u, ← e] at g
        exact g
      · have hb0 : bit c L = 0 := by rcases bit01 c L with h | h; exact h; exact absurd h hb
        rw [hb0, Nat.zero_mul, Nat.add_zero] at h1
        have e : hh c f (L + 1) = twoF (hh c f L) (emp L) := by
          show (if bit c L = 1 then _ else _) = _
          rw [if_neg hb]
        have g := part_split d c hc f L (st c (L + 1)) hL (by omega) h3 (u (hh c f L)) (u (emp L)) (uF0 _) (uF0 _) (by rw [← h1]; exact h0) (part_empty d c f L _ (by omega) (by omega))
        rw [z_u, z_u, ← e] at g
        exact g
theorem rroot_sound (d c : Nat) (f : List Int) (h : Sound d c f) (hf : ∀ x ∈ f, 0 ≤ x ∧ x < 18446744073709551616) : Ev (fun k => obolref16_Root.f k (d : Int) (c : Int) f) (rootI d c f) := by
  obtain ⟨h1, h2, h3, h4, h5, h6⟩ := h
  rw [Int.toNat_natCast] at h4
  have h16 := pow16 d (by omega)
  unfold obolref16_Root.f rootI
  have hp : 0 < 2 ^ d := Nat.pow_pos (by omega)
  by_cases hc : c = 2 ^ d
  · rw [if_pos hc]
    have hb : bit c d = 1 := by
      unfold bit
      rw [hc, Nat.div_self hp]
    have hst : st c (d + 1) = 0 := by
      unfold st
      rw [hc, Nat.pow_succ, Nat.div_eq_of_lt (by omega), Nat.zero_mul]
    have g := part_full d c (by omega) f d (by omega) (by omega) hb
    rw [hst] at g
    exact Ev.tail g
  · rw [if_neg hc]
    have hst : st c d = 0 := by
      unfold st
      rw [Nat.div_eq_of_lt (by omega), Nat.zero_mul]
    have g := part_val d c (by omega) f hf d (by omega) (by omega)
    rw [hst] at g
    exact Ev.tail g
theorem set_at (f : List Int) (i : Nat) (hi : i < f.length) (x : Int) : (List.replicate i 0 ++ f.drop i).set i x = List.replicate i 0 ++ x :: f.drop (i + 1) := by
  rw [List.set_append_right _ _ (by rw [List.length_replicate]; exact Nat.le_refl _), List.length_replicate, Nat.sub_self, drop_cons f i hi, List.set_cons_zero]
theorem rep_snoc (i : Nat) (l : List Int) : List.replicate i (0 : Int) ++ 0 :: l = List.replicate (i + 1) 0 ++ l := by
  rw [List.replicate_succ', List.append_assoc]; rfl
theorem rd_at (f : List Int) (i : Nat) (hi : i < f.length) : rd (List.replicate i 0 ++ f.drop i) (i : Int) = rd f (i : Int) := by
  unfold rd
  rw [Int.toNat_natCast, List.getD_eq_getElem?_getD, List.getD_eq_getElem?_getD, List.getElem?_append_right (by rw [List.length_replicate]; exact Nat.le_refl _), List.length_replicate, Nat.sub_self, List.getElem?_drop]
  rfl
theorem rapp_rest (d : Nat) (hd : d ≤ 16) (c c1 h : Int) (f : List Int) (hlen : f.length = d + 1) (m : Nat) : ∀ (i : Nat) (ii n : Int) (out : List Int), i + m = d + 1 → ii = i → out.length + m ≤ 1000 →
    Ev (fun k => obolref16_Append.l0 k h false n ii (d : Int) c f (d : Int) c1 out) ((d : Int), c1, out ++ f.drop i) := by
  induction m with
  | zero =>
    intro i ii n out hi hii ho
    refine Ev.step (fun k => by rw [obolref16_Append.l0]) ?_
    refine Ev.neg (by omega) (Ev.val ?_)
    rw [List.drop_eq_nil_of_le (by omega), List.append_nil]
  | succ m ih =>
    intro i ii n out hi hii ho
    have hn := ih (i + 1) ((i : Int) + 1) (wrap64 (Int.tdiv n 2)) (out ++ [rd f (i : Int)]) (by omega) (by omega) (by rw [List.length_append, List.length_singleton]; omega)
    rw [List.append_assoc, show [rd f (i : Int)] ++ f.drop (i + 1) = f.drop i from (drop_cons f i (by omega)).symm] at hn
    refine Ev.step (fun k => by rw [obolref16_Append.l0]) ?_
    refine Ev.pos (by omega) (Ev.neg (by simp) ?_)
    refine Ev.step (fun k => by rw [obolref16_Append.j1]) ?_
    rw [show wrap64 (ii + 1) = ii + 1 from wi _ (by omega) (by omega), hii]
    exact Ev.neg (by simp) (Ev.neg (by simp) (Ev.pos (by omega) (Ev.pos (by omega) (Ev.pos (by omega) hn))))
theorem app_both (d c : Nat) (hd : d ≤ 16) (hc : c < 2 ^ d) (f : List Int) (hlen : f.length = d + 1) (hf : ∀ x ∈ f, 0 ≤ x ∧ x < 18446744073709551616) (c1 : Int) (m : Nat) : ∀ (i : Nat) (h : Int), i + m = d → 0 ≤ h →
    ∃ G : List Int, G.length = d + 1 ∧ Ev (fun k => tree_Append.l0 k h (i : Int) (d : Int) (c : Int) f (d : Int) c1 (List.replicate i 0 ++ f.drop i)) ((d : Int), c1, G, none) ∧
      Ev (fun k => obolref16_Append.l0 k h true ((c / 2 ^ i : Nat) : Int) (i : Int) (d : Int) (c : Int) f (d : Int) c1 (List.replicate i 0)) ((d : Int), c1, G) := by
  have h16 := pow16 d hd
  have hgl : ∀ i, i ≤ d → (List.replicate i 0 ++ f.drop i).length = d + 1 := by
    intro i hi
    rw [List.length_append, List.length_replicate, List.length_drop]; omega
  have stop : ∀ (i : Nat) (h : Int), i ≤ d → bit c i = 0 → ∃ G : List Int, G.length = d + 1 ∧ Ev (fun k => tree_Append.l0 k h (i : Int) (d : Int) (c : Int) f (d : Int) c1 (List.replicate i 0 ++ f.drop i)) ((d : Int), c1, G, none) ∧
      Ev (fun k => obolref16_Append.l0 k h true ((c / 2 ^ i : Nat) : Int) (i : Int) (d : Int) (c : Int) f (d : Int) c1 (List.replicate i 0)) ((d : Int), c1, G) := by
    intro i h hi hb
    have hg := hgl i hi
    refine ⟨List.replicate i 0 ++ h :: f.drop (i + 1), by rw [List.length_append, List.length_replicate, List.length_cons, List.length_drop]; omega, ?_, ?_⟩
    · refine Ev.step (fun k => by rw [tree_Append.l0]) ?_
      rw [bit_val c i (by omega) (by omega), hb, Int.toNat_natCast, set_at f i (by omega) h]
      exact Ev.pos (by omega) (Ev.neg (by omega) (Ev.pos (by omega) (Ev.val rfl)))
    · have hm : Int.tmod ((c / 2 ^ i : Nat) : Int) 2 = 0 := by
        rw [tmod_pos (Int.natCast_nonneg _)]
        have : bit c i = c / 2 ^ i % 2 := rfl
        generalize c / 2 ^ i = y at *
        omega
      have hr := rapp_rest d hd (c : Int) c1 h f hlen (d - i) (i + 1) ((i : Int) + 1) (wrap64 (Int.tdiv ((c / 2 ^ i : Nat) : Int) 2)) (List.replicate i 0 ++ [h]) (by omega) (by omega) (by rw [List.length_append, List.length_replicate, List.length_singleton]; omega)
      rw [List.append_assoc, show [h] ++ f.drop (i + 1) = h :: f.drop (i + 1) from rfl] at hr
      refine Ev.step (fun k => by rw [obolref16_Append.l0]) ?_
      rw [hm]
      refine Ev.pos (by omega) (Ev.pos rfl ?_)
      refine Ev.step (fun k => by rw [obolref16_Append.j1]) ?_
      rw [show wrap64 ((i : Int) + 1) = (i : Int) + 1 from wi _ (by omega) (by omega)]
      exact Ev.neg (by decide) (Ev.pos rfl (Ev.pos (by rw [List.length_replicate]; omega) hr))
  induction m with
  | zero =>
    intro i h hi hh
    have hid : i = d := by omega
    subst hid
    exact stop i h (Nat.le_refl _) (by unfold bit; rw [Nat.div_eq_of_lt hc])
  | succ m ih =>
    intro i h hi hh
    by_cases hb : bit c i = 1
    · have hr := rd_lim hf (i := (i : Int)) (by omega) (by omega)
      obtain ⟨G, hG, g1, g2⟩ := ih (i + 1) (u (twoF (z (rd f (i : Int))) (z h))) (by omega) (uF0 _)
      have hg := hgl i (by omega)
      refine ⟨G, hG, ?_, ?_⟩
      · refine Ev.step (fun k => by rw [tree_Append.l0]) ?_
        rw [bit_val c i (by omega) (by omega), hb, Int.toNat_natCast, set_at f i (by omega), rep_snoc, rd_at f i (by omega), show wrap64 ((i : Int) + 1) = ((i + 1 : Nat) : Int) from by rw [wi _ (by omega) (by omega)]; omega]
        exact Ev.pos (by omega) (Ev.pos (by omega) (Ev.pos (by omega) ((two_val _ _ hr.1 hh).bind g1)))
      · have hm : Int.tmod ((c / 2 ^ i : Nat) : Int) 2 = 1 := by
          rw [tmod_pos (Int.natCast_nonneg _)]
          have : bit c i = c / 2 ^ i % 2 := rfl
          generalize c / 2 ^ i = y at *
          omega
        have hle : c / 2 ^ i ≤ c := Nat.div_le_self _ _
        have hnext : wrap64 (Int.tdiv ((c / 2 ^ i : Nat) : Int) 2) = ((c / 2 ^ (i + 1) : Nat) : Int) := by
          have hpow : c / 2 ^ (i + 1) = c / 2 ^ i / 2 := by rw [Nat.div_div_eq_div_mul, Nat.pow_succ]
          rw [hpow]
          generalize c / 2 ^ i = y at *
          rw [Int.tdiv_eq_ediv_of_nonneg (by omega), wi _ (by omega) (by omega)]; omega
        refine Ev.step (fun k => by rw [obolref16_Append.l0]) ?_
        rw [hm]
        refine Ev.pos (by omega) (Ev.pos rfl ?_)
        refine Ev.step (fun k => by rw [obolref16_Append.j1]) ?_
        rw [hnext, show wrap64 ((i : Int) + 1) = ((i + 1 : Nat) : Int) from by rw [wi _ (by omega) (by omega)]; omega, ← List.replicate_succ']
        exact Ev.pos (by decide) (Ev.pos (by omega) (Ev.pos (by omega) ((rtwo_val _ _ hr.1 hh).bind (Ev.pos (by rw [List.length_replicate]; omega) g2))))
    · exact stop i h (by omega) (by rcases bit01 c i with h | h; exact h; exact absurd h hb)
end Go.Proofs.Ytempibbfdojfiac.ModTreeGrows
