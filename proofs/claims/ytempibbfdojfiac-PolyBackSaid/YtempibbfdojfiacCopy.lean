/- copy(dst, src) of rows of flat elements, dst of the call's own: what stands in dst behind it. -/
import Derived.Test.YtempibbfdojfiacMine
import Derived.Laws.CopyOwn
namespace Go.Proofs.YtempibbfdojfiacW.PrintWords
open Go.RowKit
/-- What stands in xs behind copy(xs, ys). -/
def cpy {α : Type} (xs ys : List α) : List α := ys.take xs.length ++ xs.drop ys.length
theorem cpy_len {α : Type} (xs ys : List α) : (cpy xs ys).length = xs.length := by
  simp only [cpy, List.length_append, List.length_take, List.length_drop]; omega
theorem cpy_nil {α : Type} (xs : List α) : cpy xs [] = xs := by simp [cpy]
theorem encs_len_ {α : Type} (enc : α → Value) (xs : List α) : (encs enc xs).length = xs.length := by simp [encs]
theorem cpy_cells_ {α : Type} (enc : α → Value) (xs ys : List α) (cur : List Value) (h : cur.take (xs.length * 1) = encs enc xs) :
    ((encs enc (ys.take xs.length)) ++ cur.drop (encs enc (ys.take xs.length)).length).take ((cpy xs ys).length * 1) = encs enc (cpy xs ys) := by
  rw [cpy_len, Nat.mul_one, encs_len_, List.length_take]
  rw [Nat.mul_one] at h
  rw [List.take_append, encs_len_, List.length_take]
  have e1 : (encs enc (ys.take xs.length)).take xs.length = encs enc (ys.take xs.length) := List.take_of_length_le (by rw [encs_len_, List.length_take]; omega)
  have e2 : (cur.drop (min xs.length ys.length)).take (xs.length - min xs.length ys.length) = encs enc (xs.drop ys.length) := by
    rw [← List.drop_take, h]
    simp only [encs, ← List.map_drop]
    congr 1
    by_cases hc : ys.length ≤ xs.length
    · rw [Nat.min_eq_right hc]
    · rw [Nat.min_eq_left (by omega), List.drop_eq_nil_of_le (Nat.le_refl _), List.drop_eq_nil_of_le (by omega)]
  rw [e1, e2]
  simp [cpy, encs]
namespace Kd
section
variable {P : Program} {ops : Array Oper} {Q : Exit → Act → World → Prop} {rest : List Oper} {o : Oper} {a : Act} {W : World} {α : Type} {enc : α → Value} {h1 : ∀ x, (enc x).oneCell' = true}
theorem R_cpy (d : Kd α) (hd : d = scalar enc h1) {w0 : World} (base e : Nat) (hgd : o.guard = none) (s x : Operand) (t : TypeId)
    (ho : o.op = .call { callee := .builtin .copy, args := #[s, x], argTypes := #[t, t] }) (ht : P.underlying t = some (.slice e)) (z : Value) (bytes : Nat) (hinfo0 : (P.info? e).map (fun i => (i.zero, i.size, i.bytes)) = some (some z, 1, bytes))
    (v : Value) (xs ys : List α) (A : Option Addr) (m c : Nat) (ok : Nat → Prop) (hs : a.eval s = v) (hx : a.eval x = .slice A m c)
    (HO : d.R e W base ok v xs) (HR : d.C W A m ys) (HB : Below base w0 W)
    (h : ∀ w1, d.R e w1 base ok v (cpy xs ys) → Below base w0 w1 → W.grownBy w1 v.ownBlock → wpList P ops Q rest (a.put o.dst (.int .i64 ((min m xs.length : Nat) : Int))) w1) : wpList P ops Q (o :: rest) a W := by
  subst hd
  have hm : ys.length = m := HR.1
  have hinfo : (P.info? e).map (·.size) = some 1 := by
    cases hq : P.info? e with
    | none => simp [hq] at hinfo0
    | some i =>
      simp only [hq, Option.map_some, Option.some.injEq, Prod.mk.injEq] at hinfo0
      simp only [Option.map_some, hinfo0.2.1]
  have stay : min m xs.length = 0 → goInt 0 = .int .i64 ((min m xs.length : Nat) : Int) := by intro h0; rw [h0]; rfl
  obtain ⟨hlen, hcase⟩ := own_of_R HO
  rcases hcase with ⟨rfl, hn⟩ | ⟨g, cap, cur, rfl, hbg, hheap, hnc, hcm, hcs, hcur⟩
  · obtain rfl : xs = [] := List.eq_nil_of_length_eq_zero hn
    refine wpList_copy_nothing hgd s x t t ho e ht hinfo none A 0 0 m c hs hx (by show min m 0 = 0; omega) ?_
    rw [stay (by show min m 0 = 0; omega)]
    have e0 : cpy ([] : List α) ys = [] := by simp [cpy]
    exact h W (by rw [e0]; exact HO) HB (World.grownBy.refl W _)
  · by_cases h0 : min m xs.length = 0
    · refine wpList_copy_nothing hgd s x t t ho e ht hinfo _ A _ _ m c hs hx h0 ?_
      rw [stay h0]
      have e0 : cpy xs ys = xs := by
        rcases Nat.eq_zero_or_pos xs.length with h2 | h2
        · obtain rfl : xs = [] := List.eq_nil_of_length_eq_zero h2
          simp [cpy]
        · obtain rfl : ys = [] := List.eq_nil_of_length_eq_zero (by omega)
          exact cpy_nil xs
      exact h W (by rw [e0]; exact HO) HB (World.grownBy.refl W _)
    · obtain ⟨ad, rfl, hc⟩ := HR.2.2 (by omega)
      have hl : (encs enc (ys.take xs.length)).length = min m xs.length := by rw [encs_len_, List.length_take, hm, Nat.min_comm]
      have hcurl : cur.toList.length = cap * 1 := by rw [Array.length_toList]; exact hcs
      refine wpList_copy_own hgd s x t t ho e ht hinfo g 0 xs.length cap ad m c hs hx cur e hheap (encs enc (ys.take xs.length)) hl ?_ (by omega) ?_ ?_
      · intro j u hu
        have hj : j < (encs enc (ys.take xs.length)).length := by
          rcases Nat.lt_or_ge j (encs enc (ys.take xs.length)).length with h2 | h2
          · exact h2
          · rw [List.getElem?_eq_none h2] at hu; cases hu
        have hjy : j < ys.length := by omega
        obtain ⟨cc, hcl, hRc, hcell⟩ := hc j _ (List.getElem?_eq_getElem hjy)
        have hcc : cc = [enc ys[j]] := hRc
        subst hcc
        have := hcell 0 (enc ys[j]) rfl
        rw [show j * (scalar enc h1).sz + 0 = j from by show j * 1 + 0 = j; omega] at this
        rw [this]
        unfold encs at hu
        rw [List.getElem?_map, List.getElem?_take_of_lt (by omega), List.getElem?_eq_getElem hjy] at hu
        exact hu
      · intro u hu
        unfold encs at hu
        obtain ⟨y, _, rfl⟩ := List.mem_map.1 hu
        exact h1 y
      · have hgo : goInt ((encs enc (ys.take xs.length)).length : Int) = .int .i64 ((min m xs.length : Nat) : Int) := by rw [hl]; rfl
        rw [hgo]
        refine h _ (R_of_own ⟨by rw [encs_len_, Nat.mul_one], .inr ⟨g, cap, _, by rw [cpy_len], hbg, setRow_heap W g _ _ e _ hheap, by rw [cpy_len]; exact hnc, hcm, ?_, ?_⟩⟩ HO.1) (below_setRow HB hbg _) ⟨rfl, rfl, rfl, by simp [World.setRow], fun k _ hk => setRow_other W g k _ (fun e_ => hk (by rw [e_]; rfl))⟩
        · rw [List.take_zero, List.nil_append, Nat.zero_add, List.size_toArray, List.length_append, List.length_drop]; omega
        · rw [List.take_zero, List.nil_append, Nat.zero_add]
          exact cpy_cells_ enc xs ys cur.toList hcur
end
end Kd
end Go.Proofs.YtempibbfdojfiacW.PrintWords
