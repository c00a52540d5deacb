/- An element's bytes: how they are written and read (for the law ExtStays). -/
import Derived.Test.YtempibbfdojfiacLExtExtStays
set_option linter.unusedVariables false
set_option linter.unusedSimpArgs false
namespace Go.Proofs.Ytempibbfdojfiac.ModExtStays
open Go.RowKit Go.Proofs.Ytempibbfdojfiac.PExtStays Go.Proofs.YtempibbfdojfiacW.PrintWords Go.Proofs.YtempibbfdojfiacW.PrintLast Go.Proofs.YtempibbfdojfiacW.PrintMore Go.Proofs.Ytempibbfdojfiac.Nm

theorem bd8 {n : Int} (h : (Lit.int .u8 n).wf = true) : 0 ≤ n ∧ n < 256 := by
  simp [Lit.wf, IntKind.min, IntKind.max, IntKind.signed, IntKind.bits] at h
  omega
theorem z8 {l : List Int} (h : ∀ x ∈ l, (Lit.int .u8 x).wf = true) : ∀ x ∈ l, 0 ≤ x ∧ x < 256 := fun x hx => bd8 (h x hx)
/-- A number's last bytes. -/
def digs : Nat → Nat → List Int
  | 0, _ => []
  | j + 1, n => digs j (n / 256) ++ [((n % 256 : Nat) : Int)]
theorem digs_len (j : Nat) : ∀ n, (digs j n).length = j := by
  induction j with
  | zero => intro n; rfl
  | succ j ih => intro n; show (digs j (n / 256) ++ _).length = _; rw [List.length_append, ih]; rfl
theorem digs_cons (j : Nat) : ∀ n, digs (j + 1) n = ((n / 256 ^ j % 256 : Nat) : Int) :: digs j n := by
  induction j with
  | zero => intro n; rw [Nat.pow_zero, Nat.div_one]; rfl
  | succ j ih =>
    intro n
    show digs (j + 1) (n / 256) ++ [((n % 256 : Nat) : Int)] = _
    rw [ih (n / 256), Nat.div_div_eq_div_mul, Nat.mul_comm 256, ← Nat.pow_succ]; rfl
theorem shr_u64 (x n : Nat) (hn : n ≤ 64) : shr .u64 (x : Int) (n : Int) = ((x / 2 ^ n : Nat) : Int) := by
  unfold shr
  have e : min (n : Int).toNat IntKind.u64.bits = n := by
    show min (n : Int).toNat 64 = n
    omega
  rw [e]
  have h2 : (2 : Int) ^ n = ((2 ^ n : Nat) : Int) := by rw [Int.natCast_pow]; rfl
  rw [h2]; rfl
theorem pow256 (j : Nat) : 2 ^ (8 * j) = 256 ^ j := by rw [Nat.pow_mul]
theorem put_loop (n : Nat) (j : Nat) : ∀ (out : List Int) (ii : Int), j ≤ 8 → ii = 8 * (j : Int) - 8 → out.length + j ≤ 1000 → Ev (fun k => ext_put.l0 k out (n : Int) ii) (out ++ digs j n) := by
  induction j with
  | zero =>
    intro out ii hj hii ho
    refine Ev.step (fun k => by rw [ext_put.l0]) ?_
    refine Ev.neg (by omega) (Ev.val ?_)
    rw [show digs 0 n = [] from rfl, List.append_nil]
  | succ j ih =>
    intro out ii hj hii ho
    have hn := ih (out ++ [((n / 256 ^ j % 256 : Nat) : Int)]) (ii - 8) (by omega) (by omega) (by rw [List.length_append, List.length_singleton]; omega)
    rw [List.append_assoc, show [((n / 256 ^ j % 256 : Nat) : Int)] ++ digs j n = digs (j + 1) n from (digs_cons j n).symm] at hn
    have hs : shr .u64 (n : Int) ii % 256 = ((n / 256 ^ j % 256 : Nat) : Int) := by
      rw [show ii = ((8 * j : Nat) : Int) by omega, shr_u64 n (8 * j) (by omega), pow256]; rfl
    refine Ev.step (fun k => by rw [ext_put.l0]) ?_
    rw [hs, show wrap64 (ii - 8) = ii - 8 from wi _ (by omega) (by omega)]
    exact Ev.pos (by omega) (Ev.pos (by omega) (Ev.pos (by omega) hn))
theorem put_val (n : Nat) (out : List Int) (ho : out.length ≤ 100) : Ev (fun k => ext_put.f k out (n : Int)) (out ++ digs 8 n) := by
  unfold ext_put.f
  exact put_loop n 8 out 56 (by omega) (by omega) (by omega)
theorem write_bad (a b : Int) (h : 1152921505151057923 ≤ a ∨ 1152921505151057923 ≤ b) : Ev (fun k => ext_Write.f k a b) ([], some 1) := by
  have bad : Ev (fun k => ext_Write.j0 k true a b) ([], some 1) := Ev.step (fun k => by rw [ext_Write.j0]) (Ev.pos rfl (Ev.val rfl))
  unfold ext_Write.f
  by_cases h1 : a ≥ 1152921505151057923
  · exact Ev.pos h1 bad
  · rw [decide_eq_true (show b ≥ 1152921505151057923 by omega)]
    exact Ev.neg h1 bad
theorem write_good (a b : Nat) (ha : a < 1152921505151057923) (hb : b < 1152921505151057923) : Ev (fun k => ext_Write.f k (a : Int) (b : Int)) (digs 8 a ++ digs 8 b, none) := by
  unfold ext_Write.f
  rw [decide_eq_false (show ¬ (b : Int) ≥ 1152921505151057923 by omega)]
  refine Ev.neg (by omega) (Ev.step (fun k => by rw [ext_Write.j0]) (Ev.neg (by simp) ?_))
  have h1 := put_val a [] (by simp)
  rw [List.nil_append] at h1
  exact h1.bind ((put_val b (digs 8 a) (by rw [digs_len]; omega)).bind (Ev.val rfl))
theorem rd_of {l : List Int} {i : Int} (h0 : 0 ≤ i) (h1 : i < l.length) : ∃ c, c ∈ l ∧ rd l i = c ∧ l[i.toNat]? = some c := by
  have hlt : i.toNat < l.length := by omega
  refine ⟨l[i.toNat], List.getElem_mem hlt, ?_, List.getElem?_eq_getElem hlt⟩
  unfold rd
  rw [List.getD_eq_getElem?_getD, List.getElem?_eq_getElem hlt]; rfl
/-- The number that bytes are. -/
def numL (l : List Int) : Int := l.foldl (fun n c => 256 * n + c) 0
theorem numL_snoc (l : List Int) (c : Int) : numL (l ++ [c]) = 256 * numL l + c := by unfold numL; rw [List.foldl_append]; rfl
theorem take_snoc (l : List Int) (i : Nat) (hi : i < l.length) : l.take (i + 1) = l.take i ++ [rd l (i : Int)] := by
  obtain ⟨c, _, h1, h2⟩ := rd_of (l := l) (i := (i : Int)) (by omega) (by omega)
  rw [Int.toNat_natCast, List.getElem?_eq_getElem hi] at h2
  rw [List.take_succ_eq_append_getElem hi, h1, Option.some.inj h2]
theorem rd8 {l : List Int} (hl : ∀ x ∈ l, 0 ≤ x ∧ x < 256) (i : Nat) (hi : i < l.length) : 0 ≤ rd l (i : Int) ∧ rd l (i : Int) < 256 := by
  obtain ⟨c, hc, hrd, _⟩ := rd_of (l := l) (i := (i : Int)) (by omega) (by omega)
  rw [hrd]; exact hl c hc
theorem numL_lim (l : List Int) (hl : ∀ x ∈ l, 0 ≤ x ∧ x < 256) (i : Nat) : i ≤ l.length → 0 ≤ numL (l.take i) ∧ numL (l.take i) < ((256 ^ i : Nat) : Int) := by
  induction i with
  | zero => intro _; exact ⟨by rw [List.take_zero]; exact Int.le_refl 0, by rw [List.take_zero]; show (0 : Int) < 1; omega⟩
  | succ i ih =>
    intro h
    have h1 := ih (by omega)
    have h2 := rd8 hl i (by omega)
    rw [take_snoc l i (by omega), numL_snoc, Nat.pow_succ]
    generalize 256 ^ i = q at *
    omega
theorem pow8 (i : Nat) (h : i < 8) : 256 ^ i ≤ 72057594037927936 := Nat.pow_le_pow_right (show 0 < 256 by omega) (show i ≤ 7 by omega)
theorem or_byte (x c : Int) (hx : 0 ≤ x) (hx2 : x < 72057594037927936) (hc : 0 ≤ c) (hc2 : c < 256) : Go.bits .or .u64 (IntKind.u64.wrap (x * 256)) (IntKind.u64.wrap c) = 256 * x + c := by
  rw [wu _ (by omega) (by omega), wu c hc (by omega)]
  have h64 : (2 : Int) ^ 64 = 18446744073709551616 := by decide
  have h8 : (2 : Int) ^ 8 = 256 := by decide
  rw [bits_join .u64 64 (by decide) u64_64 8 (x * 256) c (by omega) (by rw [h8]; omega) (by omega) hc (by omega) (by omega)]
  omega
theorem get_loop (l : List Int) (hl : ∀ x ∈ l, 0 ≤ x ∧ x < 256) (hlen : l.length = 8) (m : Nat) : ∀ (i : Nat) (ii : Int), i + m = 8 → ii = i → Ev (fun k => ext_get.l0 k (numL (l.take i)) l (l.length : Int) ii) (numL (l.take 8)) := by
  induction m with
  | zero =>
    intro i ii hi hii
    refine Ev.step (fun k => by rw [ext_get.l0]) ?_
    refine Ev.neg (by omega) (Ev.val ?_)
    rw [show i = 8 by omega]
  | succ m ih =>
    intro i ii hi hii
    have hb := numL_lim l hl i (by omega)
    have hp := pow8 i (by omega)
    have hr := rd8 hl i (by omega)
    have hn := ih (i + 1) ((i : Int) + 1) (by omega) (by omega)
    rw [take_snoc l i (by omega), numL_snoc] at hn
    refine Ev.step (fun k => by rw [ext_get.l0]) ?_
    rw [hii, show wrap64 ((i : Int) + 1) = (i : Int) + 1 from wi _ (by omega) (by omega), or_byte _ _ hb.1 (by omega) hr.1 hr.2]
    exact Ev.pos (by omega) (Ev.pos (by omega) (Ev.pos (by omega) hn))
theorem get_val (l : List Int) (hl : ∀ x ∈ l, 0 ≤ x ∧ x < 256) (hlen : 8 ≤ l.length) : Ev (fun k => ext_get.f k l) (numL (l.take 8)) := by
  unfold ext_get.f
  have h := get_loop (l.take 8) (fun x hx => hl x (List.mem_of_mem_take hx)) (by rw [List.length_take]; omega) 8 0 0 (by omega) rfl
  rw [show (l.take 8).take 8 = l.take 8 from by rw [List.take_take]; rfl] at h
  exact Ev.pos (by omega) h
theorem number_loop (l : List Int) (hl : ∀ x ∈ l, 0 ≤ x ∧ x < 256) (hlen : 8 ≤ l.length) (m : Nat) : ∀ (i : Nat) (ii : Int), i + m = 8 → ii = i → Ev (fun k => obolref02_Number.l0 k l (numL (l.take i)) ii) (numL (l.take 8)) := by
  induction m with
  | zero =>
    intro i ii hi hii
    refine Ev.step (fun k => by rw [obolref02_Number.l0]) ?_
    refine Ev.neg (by omega) (Ev.val ?_)
    rw [show i = 8 by omega]
  | succ m ih =>
    intro i ii hi hii
    have hb := numL_lim l hl i (by omega)
    have hp := pow8 i (by omega)
    have hr := rd8 hl i (by omega)
    have hn := ih (i + 1) ((i : Int) + 1) (by omega) (by omega)
    rw [take_snoc l i (by omega), numL_snoc] at hn
    refine Ev.step (fun k => by rw [obolref02_Number.l0]) ?_
    rw [hii, show wrap64 ((i : Int) + 1) = (i : Int) + 1 from wi _ (by omega) (by omega), wu (256 * _) (by omega) (by omega), wu (rd l (i : Int)) hr.1 (by omega), wu _ (by omega) (by omega)]
    exact Ev.pos (by omega) (Ev.pos (by omega) (Ev.pos (by omega) hn))
theorem number_val (l : List Int) (hl : ∀ x ∈ l, 0 ≤ x ∧ x < 256) (hlen : 8 ≤ l.length) : Ev (fun k => obolref02_Number.f k l) (numL (l.take 8)) := by
  unfold obolref02_Number.f
  exact number_loop l hl hlen 8 0 0 (by omega) rfl
/-- What Read answers. -/
def readI (l : List Int) : Int × Int × Option Int :=
  if l.length = 16 ∧ numL (l.take 8) < 1152921505151057923 ∧ numL ((l.drop 8).take 8) < 1152921505151057923 then (numL (l.take 8), numL ((l.drop 8).take 8), none) else (0, 0, some 3)
theorem readI_bad (l : List Int) (h : ¬ (l.length = 16 ∧ numL (l.take 8) < 1152921505151057923 ∧ numL ((l.drop 8).take 8) < 1152921505151057923)) : readI l = (0, 0, some 3) := if_neg h
theorem readI_good (l : List Int) (h : l.length = 16 ∧ numL (l.take 8) < 1152921505151057923 ∧ numL ((l.drop 8).take 8) < 1152921505151057923) : readI l = (numL (l.take 8), numL ((l.drop 8).take 8), none) := if_pos h
theorem read_val (l : List Int) (hl : ∀ x ∈ l, 0 ≤ x ∧ x < 256) : Ev (fun k => ext_Read.f k l) (readI l) := by
  unfold ext_Read.f
  by_cases h : l.length = 16
  · have g1 := get_val l hl (by omega)
    have g2 := get_val (l.drop 8) (fun x hx => hl x (List.mem_of_mem_drop hx)) (by rw [List.length_drop]; omega)
    refine Ev.pos (by omega) (g1.bind (Ev.pos (by omega) (g2.bind ?_)))
    by_cases h1 : numL (l.take 8) ≥ 1152921505151057923
    · rw [readI_bad l (by omega)]
      exact Ev.pos h1 (Ev.val rfl)
    · by_cases h2 : numL ((l.drop 8).take 8) ≥ 1152921505151057923
      · rw [readI_bad l (by omega)]
        exact Ev.neg h1 (Ev.pos h2 (Ev.val rfl))
      · rw [readI_good l ⟨h, by omega, by omega⟩]
        exact Ev.neg h1 (Ev.neg h2 (Ev.val rfl))
  · rw [readI_bad l (fun hh => h hh.1)]
    exact Ev.neg (by omega) (Ev.val rfl)
end Go.Proofs.Ytempibbfdojfiac.ModExtStays
