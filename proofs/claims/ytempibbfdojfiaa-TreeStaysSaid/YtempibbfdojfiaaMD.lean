/- The long division of two words by one, as math/bits does it: plain arithmetic. -/
namespace Go.Proofs.Ytempibbfdojfiaa.Nm
/-- What stays true in a loop: U = q h + r, and the quotient is at most q. -/
structure KInv (Y h l U c Q q r : Int) : Prop where
  hU : U = q * h + r
  r0 : 0 ≤ r
  hQ : Q ≤ q
  q0 : 0 ≤ q
  qB : q ≤ 4294967297
/-- The frame: Y is the normal divisor, h and l its halves, U below Y, c half a word, Q the quotient. -/
structure KFr (Y h l U c Q : Int) : Prop where
  hY : Y = h * 4294967296 + l
  h1 : 2147483648 ≤ h
  h2 : h < 4294967296
  l0 : 0 ≤ l
  l1 : l < 4294967296
  U0 : 0 ≤ U
  U1 : U < Y
  c0 : 0 ≤ c
  c1 : c < 4294967296
  Q1 : Q * Y ≤ U * 4294967296 + c
  Q2 : U * 4294967296 + c < (Q + 1) * Y
theorem KFr.Ypos {Y h l U c Q : Int} (f : KFr Y h l U c Q) : 0 < Y := by have := f.hY; have := f.h1; have := f.l0; omega
theorem KFr.Y2 {Y h l U c Q : Int} (f : KFr Y h l U c Q) : Y < 18446744073709551616 := by have := f.hY; have := f.h2; have := f.l1; omega
theorem KFr.Q0 {Y h l U c Q : Int} (f : KFr Y h l U c Q) : 0 ≤ Q := by
  have h1 := f.Q2
  have hU := f.U0
  have hc := f.c0
  have hp := f.Ypos
  have : 0 < (Q + 1) * Y := by omega
  have := Int.pos_of_mul_pos_left this hp
  omega
theorem KFr.QB {Y h l U c Q : Int} (f : KFr Y h l U c Q) : Q < 4294967296 := by
  have h1 := f.Q1
  have hU := f.U1
  have hc := f.c1
  have hp := f.Ypos
  have : Q * Y < 4294967296 * Y := by omega
  exact Int.lt_of_mul_lt_mul_right this (by omega)
theorem KFr.big {Y h l U c Q : Int} (f : KFr Y h l U c Q) {q : Int} (hq : 4294967296 ≤ q) : Q ≤ q - 1 := by have := f.QB; omega
theorem KInv.prod {Y h l U c Q q r : Int} (f : KFr Y h l U c Q) (i : KInv Y h l U c Q q r) : q * Y = (U - r) * 4294967296 + q * l := by
  have h1 := f.hY
  have h2 := i.hU
  rw [h1, h2]
  grind
theorem KFr.over {Y h l U c Q q r : Int} (f : KFr Y h l U c Q) (i : KInv Y h l U c Q q r) (hq : 4294967296 * r + c < q * l) : Q ≤ q - 1 := by
  have h1 := i.prod f
  have h2 := f.Q1
  have : Q * Y < q * Y := by omega
  have := Int.lt_of_mul_lt_mul_right this (by have := f.Ypos; omega)
  omega
theorem KFr.under {Y h l U c Q q r : Int} (f : KFr Y h l U c Q) (i : KInv Y h l U c Q q r) (hq : q * l ≤ 4294967296 * r + c) : q = Q := by
  have h1 := i.prod f
  have h2 := f.Q2
  have : q * Y < (Q + 1) * Y := by omega
  have := Int.lt_of_mul_lt_mul_right this (by have := f.Ypos; omega)
  have := i.hQ
  omega
theorem KInv.down {Y h l U c Q q r : Int} (f : KFr Y h l U c Q) (i : KInv Y h l U c Q q r) (hq : Q ≤ q - 1) : KInv Y h l U c Q (q - 1) (r + h) where
  hU := by have := i.hU; rw [this]; grind
  r0 := by have := i.r0; have := f.h1; omega
  hQ := hq
  q0 := by have := f.Q0; omega
  qB := by have := i.qB; omega
theorem KFr.stop {Y h l U c Q q r : Int} (f : KFr Y h l U c Q) (i : KInv Y h l U c Q q r) (hq : q ≤ 4294967296) (hr : 4294967296 ≤ r) : q = Q := by
  apply f.under i
  have h1 : q * l ≤ 4294967296 * l := Int.mul_le_mul_of_nonneg_right hq f.l0
  have := f.l1
  have := f.c0
  omega
theorem KFr.start {Y h l U c Q : Int} (f : KFr Y h l U c Q) : KInv Y h l U c Q (U / h) (U - U / h * h) := by
  have hp : 0 < h := by have := f.h1; omega
  have hm := Int.emod_nonneg U (show h ≠ 0 by omega)
  have hd := Int.mul_ediv_add_emod U h
  have hcm : U / h * h = h * (U / h) := Int.mul_comm _ _
  have hml := Int.emod_lt_of_pos U hp
  refine ⟨by omega, by omega, ?_, Int.ediv_nonneg f.U0 (by omega), ?_⟩
  · have h1 := f.Q1
    have h2 := f.hY
    have hQ0 := f.Q0
    have hQl : 0 ≤ Q * l := Int.mul_nonneg hQ0 f.l0
    have e : Q * Y = Q * h * 4294967296 + Q * l := by rw [h2]; grind
    have hc := f.c1
    have : Q * h ≤ U := by omega
    exact (Int.le_ediv_iff_mul_le hp).2 this
  · have h1 := f.U1
    have h2 := f.hY
    have h3 := f.l1
    have h4 := f.h1
    have : U < (4294967297 + 1) * h := by omega
    have := (Int.ediv_lt_iff_lt_mul hp).2 this
    omega
theorem KFr.start_r {Y h l U c Q : Int} (f : KFr Y h l U c Q) : U - U / h * h < h := by
  have hp : 0 < h := by have := f.h1; omega
  have hd := Int.mul_ediv_add_emod U h
  have hcm : U / h * h = h * (U / h) := Int.mul_comm _ _
  have hml := Int.emod_lt_of_pos U hp
  omega
/-- The rest, by words that go round. -/
theorem KFr.rest {Y h l U c Q : Int} (f : KFr Y h l U c Q) :
    (((U * 4294967296) % 18446744073709551616 + c) % 18446744073709551616 - (Q * Y) % 18446744073709551616) % 18446744073709551616 = U * 4294967296 + c - Q * Y := by
  have h1 := f.Q1
  have h2 := f.Q2
  have h3 := f.Y2
  have e : (Q + 1) * Y = Q * Y + Y := by grind
  generalize Q * Y = p at *
  omega
theorem KFr.of (Y U c : Int) (hY : 9223372036854775808 ≤ Y) (hY2 : Y < 18446744073709551616) (hU : 0 ≤ U) (hU2 : U < Y) (hc : 0 ≤ c) (hc2 : c < 4294967296) :
    KFr Y (Y / 4294967296) (Y % 4294967296) U c ((U * 4294967296 + c) / Y) where
  hY := by omega
  h1 := by omega
  h2 := by omega
  l0 := by omega
  l1 := by omega
  U0 := hU
  U1 := hU2
  c0 := hc
  c1 := hc2
  Q1 := Int.ediv_mul_le _ (by omega)
  Q2 := Int.lt_ediv_add_one_mul_self _ (by omega)

/-- The product of two words, by halves. -/
theorem mul_halves (x y : Int) (hx : 0 ≤ x) (hx2 : x < 18446744073709551616) (hy : 0 ≤ y) (hy2 : y < 18446744073709551616) :
    let W := fun a : Int => a % 18446744073709551616
    W (W (W (x / 4294967296 * (y / 4294967296)) + W (W (x / 4294967296 * (y % 4294967296)) + W (x % 4294967296 * (y % 4294967296)) / 4294967296) / 4294967296)
      + W (W (W (x / 4294967296 * (y % 4294967296)) + W (x % 4294967296 * (y % 4294967296)) / 4294967296) % 4294967296 + W (x % 4294967296 * (y / 4294967296))) / 4294967296) = x * y / 18446744073709551616 := by
  intro W
  have bx1 : x / 4294967296 ≤ 4294967295 := by omega
  have by1 : y / 4294967296 ≤ 4294967295 := by omega
  have e : x * y = (x / 4294967296 * (y / 4294967296)) * 18446744073709551616 + (x / 4294967296 * (y % 4294967296)) * 4294967296 + (x % 4294967296 * (y / 4294967296)) * 4294967296 + x % 4294967296 * (y % 4294967296) := by
    have hx' : x = x / 4294967296 * 4294967296 + x % 4294967296 := by omega
    have hy' : y = y / 4294967296 * 4294967296 + y % 4294967296 := by omega
    conv => lhs; rw [hx', hy']
    generalize x / 4294967296 = a
    generalize x % 4294967296 = b
    generalize y / 4294967296 = c
    generalize y % 4294967296 = d
    grind
  have bnd : ∀ a b : Int, 0 ≤ a → a ≤ 4294967295 → 0 ≤ b → b ≤ 4294967295 → 0 ≤ a * b ∧ a * b ≤ 18446744065119617025 := by
    intro a b ha ha2 hb hb2
    refine ⟨Int.mul_nonneg ha hb, ?_⟩
    have := Int.mul_le_mul ha2 hb2 hb (by omega)
    omega
  have b11 := bnd (x / 4294967296) (y / 4294967296) (by omega) bx1 (by omega) by1
  have b10 := bnd (x / 4294967296) (y % 4294967296) (by omega) bx1 (by omega) (by omega)
  have b01 := bnd (x % 4294967296) (y / 4294967296) (by omega) (by omega) (by omega) by1
  have b00 := bnd (x % 4294967296) (y % 4294967296) (by omega) (by omega) (by omega) (by omega)
  rw [e]
  simp only [W]
  generalize x / 4294967296 * (y / 4294967296) = p11 at *
  generalize x / 4294967296 * (y % 4294967296) = p10 at *
  generalize x % 4294967296 * (y / 4294967296) = p01 at *
  generalize x % 4294967296 * (y % 4294967296) = p00 at *
  clear e bnd W
  omega
end Go.Proofs.Ytempibbfdojfiaa.Nm
