/- Division bit by bit, in parts of 64 bits. No condition beyond each lemma's own. -/
import Derived.Test.YthgecfjpacebeaaBf
namespace Go.Fw
open Go.RowKit
def cells4 (f : Nat → Nat) : List Value := (List.range 4).map fun k => .int .u64 ((f k : Nat) : Int)
theorem cells4_dg (x : Nat) : cells4 (dg x) = wc x := rfl
theorem length_cells4 (f : Nat → Nat) : (cells4 f).length = 4 := by simp [cells4]
theorem cells4_at {f : Nat → Nat} {k off : Nat} (ho : off = k) (h : k < 4) : (cells4 f)[off]? = some (.int .u64 ((f k : Nat) : Int)) := by
  subst ho; unfold cells4; rw [List.getElem?_map, List.getElem?_range h]; rfl
theorem cells4_set {f : Nat → Nat} {k off v : Nat} (ho : off = k) : (cells4 f).set off (.int .u64 ((v : Nat) : Int)) = cells4 (upd8 f k v) := by
  subst ho
  apply List.ext_getElem?
  intro m
  rw [List.getElem?_set]
  simp only [cells4, List.length_map, List.length_range, List.getElem?_map]
  by_cases hm : m < 4
  · rw [List.getElem?_range hm]
    by_cases e : off = m
    · subst e; simp [hm, upd8]
    · simp [e, upd8, Ne.symm e]
  · by_cases e : off = m
    · subst e; simp [hm]
    · simp [e, List.getElem?_eq_none (l := List.range 4) (i := m) (by simpa using hm)]
theorem cells4_congr {f g : Nat → Nat} (h : ∀ k, k < 4 → f k = g k) : cells4 f = cells4 g := by
  unfold cells4
  refine List.map_congr_left fun k hk => ?_
  rw [h k (by simpa using hk)]
theorem cells8_congr {f g : Nat → Nat} (h : ∀ k, k < 8 → f k = g k) : cells8 f = cells8 g := by
  unfold cells8
  refine List.map_congr_left fun k hk => ?_
  rw [h k (by simpa using hk)]

/-! ### shifts -/
theorem or_even {x c : Nat} (hx : x % 2 = 0) (hc : c ≤ 1) : x ||| c = x + c := by
  obtain ⟨h, rfl⟩ : ∃ h, x = 2 ^ 1 * h := ⟨x / 2, by omega⟩
  exact (Nat.two_pow_add_eq_or_of_lt (by omega) h).symm
theorem dg_dbl (L k : Nat) (h : 0 < k) : dg (2 * L) k = (dg L k * 2 ^ 1 % 18446744073709551616) ||| (dg L (k - 1) / 2 ^ 63) := by
  have e63 : (2 : Nat) ^ 63 = 9223372036854775808 := by decide
  have hr := dg_lt L (k - 1)
  rw [or_even (by omega) (by rw [e63]; omega), e63]
  have h1 := div_dg L k h
  obtain ⟨m, rfl⟩ : ∃ m, k = m + 1 := ⟨k - 1, by omega⟩
  simp only [Nat.add_sub_cancel] at h1 hr ⊢
  have h2 : dg L (m + 1) = L / 18446744073709551616 ^ (m + 1) % 18446744073709551616 := rfl
  have h3 : dg (2 * L) (m + 1) = 2 * L / 18446744073709551616 ^ m / 18446744073709551616 % 18446744073709551616 := by
    unfold dg; rw [Nat.pow_succ, Nat.div_div_eq_div_mul]
  rw [h2, h3]
  have hp : 0 < 18446744073709551616 ^ m := Nat.pow_pos (by decide)
  have h4 : 2 * L / 18446744073709551616 ^ m = 2 * (L / 18446744073709551616 ^ m) + 2 * (L % 18446744073709551616 ^ m) / 18446744073709551616 ^ m := by
    have := Nat.div_add_mod L (18446744073709551616 ^ m)
    generalize L / 18446744073709551616 ^ m = q at *
    have h5 : L % 18446744073709551616 ^ m = L % 18446744073709551616 ^ m := rfl
    generalize hr : L % 18446744073709551616 ^ m = r at *
    generalize 18446744073709551616 ^ m = p at *
    rw [← this, show 2 * (p * q + r) = 2 * r + p * (2 * q) from by grind, Nat.add_mul_div_left _ _ hp]
    omega
  have h6 : 2 * (L % 18446744073709551616 ^ m) / 18446744073709551616 ^ m ≤ 1 := by
    have := Nat.mod_lt L hp
    have : 2 * (L % 18446744073709551616 ^ m) / 18446744073709551616 ^ m < 2 := by rw [Nat.div_lt_iff_lt_mul hp]; omega
    omega
  rw [h4, h1]
  generalize 2 * (L % 18446744073709551616 ^ m) / 18446744073709551616 ^ m = c at *
  generalize L / 18446744073709551616 ^ (m + 1) = U at *
  generalize dg L m = r at *
  omega
theorem dg_dbl0 (L b : Nat) (hb : b ≤ 1) : dg (2 * L + b) 0 = (dg L 0 * 2 ^ 1 % 18446744073709551616) ||| b := by
  rw [or_even (by omega) hb, dg0, dg0]; omega
theorem dg_dblS (L b k : Nat) (hb : b ≤ 1) (h : 0 < k) : dg (2 * L + b) k = dg (2 * L) k := by
  obtain ⟨m, rfl⟩ : ∃ m, k = m + 1 := ⟨k - 1, by omega⟩
  unfold dg
  rw [Nat.pow_succ, Nat.mul_comm (18446744073709551616 ^ m) 18446744073709551616, ← Nat.div_div_eq_div_mul, ← Nat.div_div_eq_div_mul]
  congr 2
  omega
theorem top_dbl (L : Nat) (hL : L < 115792089237316195423570985008687907853269984665640564039457584007913129639936) : dg L 3 / 2 ^ 63 = if 2 * L < 115792089237316195423570985008687907853269984665640564039457584007913129639936 then 0 else 1 := by
  rw [dg3]
  have e63 : (2 : Nat) ^ 63 = 9223372036854775808 := by decide
  rw [e63]
  split <;> omega
/-- what stands in the shifted number, the parts above k done -/
def shl4 (L k : Nat) : Nat → Nat := fun m => if k < m then dg (2 * L) m else dg L m
theorem shl4_3 (L : Nat) : cells4 (shl4 L 3) = wc L := cells4_congr fun k hk => by unfold shl4; rw [if_neg (by omega)]
theorem shl4_step (L k : Nat) (h : 0 < k) : upd8 (shl4 L k) k ((shl4 L k k * 2 ^ 1 % 18446744073709551616) ||| (shl4 L k (k - 1) / 2 ^ 63)) = shl4 L (k - 1) := by
  have e1 : shl4 L k k = dg L k := by unfold shl4; rw [if_neg (by omega)]
  have e2 : shl4 L k (k - 1) = dg L (k - 1) := by unfold shl4; rw [if_neg (by omega)]
  rw [e1, e2, ← dg_dbl L k h]
  funext m
  unfold upd8 shl4
  by_cases hm : m = k
  · subst hm; rw [if_pos rfl, if_pos (by omega)]
  · rw [if_neg hm]
    by_cases h2 : k < m
    · rw [if_pos h2, if_pos (by omega)]
    · rw [if_neg h2, if_neg (by omega)]
theorem shl4_0 (L b : Nat) (hb : b ≤ 1) : cells4 (upd8 (shl4 L 0) 0 ((shl4 L 0 0 * 2 ^ 1 % 18446744073709551616) ||| b)) = wc (2 * L + b) := by
  have e1 : shl4 L 0 0 = dg L 0 := by unfold shl4; rw [if_neg (by omega)]
  rw [e1, ← dg_dbl0 L b hb, ← cells4_dg]
  refine cells4_congr fun k _ => ?_
  unfold upd8 shl4
  by_cases hk : k = 0
  · subst hk; rw [if_pos rfl]
  · rw [if_neg hk, if_pos (by omega), dg_dblS L b k hb (by omega)]
/-- what stands in a difference that is made in place, the parts below k done -/
def sub4 (x y k : Nat) : Nat → Nat := fun m => if m < k then dg (x + 115792089237316195423570985008687907853269984665640564039457584007913129639936 - y) m else dg x m
theorem sub4_0 (x y : Nat) : cells4 (sub4 x y 0) = wc x := cells4_congr fun k _ => by unfold sub4; rw [if_neg (by omega)]
theorem sub4_step (x y k : Nat) : upd8 (sub4 x y k) k (dg (x + 115792089237316195423570985008687907853269984665640564039457584007913129639936 - y) k) = sub4 x y (k + 1) := by
  funext m
  unfold upd8 sub4
  by_cases hm : m = k
  · subst hm; rw [if_pos rfl, if_pos (by omega)]
  · rw [if_neg hm]
    by_cases h2 : m < k
    · rw [if_pos h2, if_pos (by omega)]
    · rw [if_neg h2, if_neg (by omega)]
theorem sub4_4 (x y : Nat) : cells4 (sub4 x y 4) = wc (x + 115792089237316195423570985008687907853269984665640564039457584007913129639936 - y) := cells4_congr fun k hk => by unfold sub4; rw [if_pos hk]

/-! ### the quotient's bits -/
theorem or_bit {x k : Nat} (hx : x % 2 ^ (k + 1) = 0) : x ||| 2 ^ k = x + 2 ^ k := by
  have : x = 2 ^ (k + 1) * (x / 2 ^ (k + 1)) := by have := Nat.div_add_mod x (2 ^ (k + 1)); omega
  rw [this]
  exact (Nat.two_pow_add_eq_or_of_lt (Nat.pow_lt_pow_right (by decide) (by omega)) _).symm
theorem B_pow (i : Nat) : (18446744073709551616 : Nat) ^ i = 2 ^ (64 * i) := by
  rw [Nat.pow_mul]
theorem dg_qbit (a i k m : Nat) (hk : k < 64) : dg (a * 2 ^ (64 * i + k + 1) + 2 ^ (64 * i + k)) m = if m = i then dg (a * 2 ^ (64 * i + k + 1)) i ||| 2 ^ k else dg (a * 2 ^ (64 * i + k + 1)) m := by
  have hp : ∀ n : Nat, 0 < 2 ^ n := fun n => Nat.pow_pos (by decide)
  have e64 : (18446744073709551616 : Nat) = 2 ^ 64 := by decide
  have hdiv : a * 2 ^ (64 * i + k + 1) / 2 ^ (64 * i) = a * 2 ^ (k + 1) := by
    rw [show 64 * i + k + 1 = (k + 1) + 64 * i from by omega, Nat.pow_add, ← Nat.mul_assoc, Nat.mul_div_cancel _ (hp _)]
  have hdiv2 : (a * 2 ^ (64 * i + k + 1) + 2 ^ (64 * i + k)) / 2 ^ (64 * i) = a * 2 ^ (k + 1) + 2 ^ k := by
    have e1 : (2 : Nat) ^ (64 * i + k + 1) = 2 ^ (k + 1) * 2 ^ (64 * i) := by rw [← Nat.pow_add]; congr 1; omega
    have e2 : (2 : Nat) ^ (64 * i + k) = 2 ^ k * 2 ^ (64 * i) := by rw [← Nat.pow_add]; congr 1; omega
    rw [e1, e2, ← Nat.mul_assoc, ← Nat.add_mul, Nat.mul_div_cancel _ (hp _)]
  have hmod : (a * 2 ^ (k + 1)) % 2 ^ 64 % 2 ^ (k + 1) = 0 := by
    rw [Nat.mod_mod_of_dvd _ (Nat.pow_dvd_pow 2 (by omega)), Nat.mul_mod_left]
  have hlt : (a * 2 ^ (k + 1)) % 2 ^ 64 + 2 ^ k < 2 ^ 64 := by
    have h1 := Nat.mod_lt (a * 2 ^ (k + 1)) (hp 64)
    obtain ⟨t, ht⟩ : ∃ t, (2 : Nat) ^ 64 = 2 ^ (k + 1) * t := ⟨2 ^ (64 - (k + 1)), by rw [← Nat.pow_add]; congr 1; omega⟩
    obtain ⟨u, hu⟩ : ∃ u, (a * 2 ^ (k + 1)) % 2 ^ 64 = 2 ^ (k + 1) * u := ⟨_, by have := Nat.div_add_mod ((a * 2 ^ (k + 1)) % 2 ^ 64) (2 ^ (k + 1)); rw [hmod] at this; exact this.symm⟩
    rw [hu, ht] at h1 ⊢
    have hut : u < t := Nat.lt_of_mul_lt_mul_left h1
    have h2 : 2 ^ (k + 1) * (u + 1) ≤ 2 ^ (k + 1) * t := Nat.mul_le_mul_left _ hut
    have h3 : (2 : Nat) ^ k < 2 ^ (k + 1) := Nat.pow_lt_pow_right (by decide) (by omega)
    rw [Nat.mul_add, Nat.mul_one] at h2
    omega
  unfold dg
  rw [B_pow m, B_pow i, e64]
  by_cases hm : m = i
  · subst hm
    rw [if_pos rfl, hdiv, hdiv2, or_bit hmod, Nat.add_mod, Nat.mod_eq_of_lt (b := 2 ^ 64) (a := 2 ^ k) (Nat.pow_lt_pow_right (by decide) hk), Nat.mod_eq_of_lt hlt]
  · rw [if_neg hm]
    by_cases h2 : m < i
    · obtain ⟨s, rfl⟩ : ∃ s, i = m + 1 + s := ⟨i - (m + 1), by omega⟩
      have e1 : a * 2 ^ (64 * (m + 1 + s) + k + 1) = a * 2 ^ (64 * s + k + 1) * 2 ^ 64 * 2 ^ (64 * m) := by
        rw [Nat.mul_assoc, Nat.mul_assoc, ← Nat.pow_add, ← Nat.pow_add]; congr 2; omega
      have e2 : (2 : Nat) ^ (64 * (m + 1 + s) + k) = 2 ^ (64 * s + k) * 2 ^ 64 * 2 ^ (64 * m) := by
        rw [Nat.mul_assoc, ← Nat.pow_add, ← Nat.pow_add]; congr 1; omega
      rw [e1, e2, ← Nat.add_mul, Nat.mul_div_cancel _ (hp _), Nat.mul_div_cancel _ (hp _), ← Nat.add_mul, Nat.mul_mod_left, Nat.mul_mod_left]
    · obtain ⟨s, rfl⟩ : ∃ s, m = i + 1 + s := ⟨m - (i + 1), by omega⟩
      have e3 : (2 : Nat) ^ (64 * (i + 1 + s)) = 2 ^ (64 * i) * (2 ^ 64 * 2 ^ (64 * s)) := by
        rw [← Nat.pow_add, ← Nat.pow_add]; congr 1; omega
      have chain : ∀ Z : Nat, Z / (2 ^ (64 * i) * (2 ^ 64 * 2 ^ (64 * s))) = Z / 2 ^ (64 * i) / 2 ^ 64 / 2 ^ (64 * s) := fun Z => by rw [Nat.div_div_eq_div_mul, Nat.div_div_eq_div_mul]
      rw [e3, chain, chain, hdiv, hdiv2]
      congr 2
      have h4 := Nat.div_add_mod (a * 2 ^ (k + 1)) (2 ^ 64)
      generalize hX : a * 2 ^ (k + 1) = X at *
      rw [← h4, Nat.add_assoc, Nat.mul_add_div (hp 64), Nat.mul_add_div (hp 64), Nat.div_eq_of_lt hlt, Nat.div_eq_of_lt (Nat.mod_lt _ (hp 64))]
/-- one more bit of what is divided -/
theorem div_bit_step {H y b L : Nat} (hy : 0 < y) (hL : L = H % y) (hb : b ≤ 1) :
    (2 * L + b < y → (2 * H + b) / y = 2 * (H / y) ∧ (2 * H + b) % y = 2 * L + b) ∧
    (y ≤ 2 * L + b → (2 * H + b) / y = 2 * (H / y) + 1 ∧ (2 * H + b) % y = 2 * L + b - y) := by
  have h1 := Nat.div_add_mod H y
  have hlt := Nat.mod_lt H hy
  rw [← hL] at h1 hlt
  have e : 2 * H + b = (2 * L + b) + y * (2 * (H / y)) := by
    rw [show y * (2 * (H / y)) = 2 * (y * (H / y)) from by rw [Nat.mul_left_comm]]
    omega
  constructor
  · intro h
    rw [e, Nat.add_mul_div_left _ _ hy, Nat.div_eq_of_lt h, Nat.add_mul_mod_self_left, Nat.mod_eq_of_lt h]
    exact ⟨by omega, rfl⟩
  · intro h
    have e2 : (2 * L + b) + y * (2 * (H / y)) = (2 * L + b - y) + y * (2 * (H / y) + 1) := by rw [Nat.mul_add y _ 1]; omega
    have h2 : 2 * L + b - y < y := by omega
    rw [e, e2, Nat.add_mul_div_left _ _ hy, Nat.div_eq_of_lt h2, Nat.add_mul_mod_self_left, Nat.mod_eq_of_lt h2]
    exact ⟨by omega, rfl⟩
section
variable {P : Program} {ops : Array Oper} {Q : Exit → Act → World → Prop} {a : Act} {w w0 : World} {ks : List Nat} {bs bd : List Seg}
/-- 'wp_draw' where less is held through the region than is known. -/
theorem wp_drawG {id : Nat} (hS : St w0 ks bs w) (hD : St w0 ks bd w) (full : List (Nat × Nat)) (hm : P.follows .mixedOrders = true) (hc : drawOK ops full = true) (hQ : PanicOk Q)
    (h : ∀ w, St w0 ks bs w → St w0 ks bd w → WL P ops Q (St w0 ks bd) (Q .normal) full a w) : (Code.region id ops true).wp P Q a w :=
  wp_draw _ full hm hc hQ (h _ hS.drew hD.drew)
theorem wp_draw2G {id : Nat} (hS : St w0 ks bs w) (hD : St w0 ks bd w) (pre : List (Nat × Nat)) (alts : List (List (Nat × Nat))) (hm : P.follows .mixedOrders = true) (hc : drawOK2 ops pre alts = true) (hQ : PanicOk Q)
    (h : ∀ w, St w0 ks bs w → St w0 ks bd w → WL P ops Q (St w0 ks bd) (fun a w => ∀ l ∈ alts, WL P ops Q (St w0 ks bd) (Q .normal) l a w) pre a w) : (Code.region id ops true).wp P Q a w :=
  wp_draw2 _ pre alts hm hc hQ (h _ hS.drew hD.drew)
end
/-! ### the state of a division, all bits from P on done -/
def LL (D y P : Nat) : Nat := D / 2 ^ P % y
def QQ (D y P : Nat) : Nat := D / 2 ^ P / y * 2 ^ P
theorem LL_lt (D P : Nat) {y : Nat} (hy : 0 < y) : LL D y P < y := Nat.mod_lt _ hy
theorem LL_top {D y P : Nat} (h : D < 2 ^ P) : LL D y P = 0 := by simp [LL, Nat.div_eq_of_lt h]
theorem QQ_top {D y P : Nat} (h : D < 2 ^ P) : QQ D y P = 0 := by simp [QQ, Nat.div_eq_of_lt h]
theorem LL_0 (D y : Nat) : LL D y 0 = D % y := by simp [LL]
theorem QQ_0 (D y : Nat) : QQ D y 0 = D / y := by simp [QQ]
theorem div_next (D P : Nat) : D / 2 ^ P = 2 * (D / 2 ^ (P + 1)) + bit D P := by
  have := div_bit D (P + 1) (by omega)
  simpa using this
theorem LL_lo {D y P : Nat} (hy : 0 < y) (h : 2 * LL D y (P + 1) + bit D P < y) : LL D y P = 2 * LL D y (P + 1) + bit D P := by
  have := ((div_bit_step (H := D / 2 ^ (P + 1)) hy rfl (bit_le D P)).1 h).2
  unfold LL at *; rw [div_next D P]; exact this
theorem QQ_lo {D y P : Nat} (hy : 0 < y) (h : 2 * LL D y (P + 1) + bit D P < y) : QQ D y P = QQ D y (P + 1) := by
  have := ((div_bit_step (H := D / 2 ^ (P + 1)) hy rfl (bit_le D P)).1 h).1
  unfold QQ; rw [div_next D P, this, Nat.pow_succ]; grind
theorem LL_hi {D y P : Nat} (hy : 0 < y) (h : y ≤ 2 * LL D y (P + 1) + bit D P) : LL D y P = 2 * LL D y (P + 1) + bit D P - y := by
  have := ((div_bit_step (H := D / 2 ^ (P + 1)) hy rfl (bit_le D P)).2 h).2
  unfold LL at *; rw [div_next D P]; exact this
theorem QQ_hi {D y P : Nat} (hy : 0 < y) (h : y ≤ 2 * LL D y (P + 1) + bit D P) : QQ D y P = QQ D y (P + 1) + 2 ^ P := by
  have := ((div_bit_step (H := D / 2 ^ (P + 1)) hy rfl (bit_le D P)).2 h).1
  unfold QQ; rw [div_next D P, this, Nat.pow_succ]; grind
/-- a part that is nought where nothing is left -/
theorem skip_part {D y i : Nat} (hd : dg D i = 0) (hl : LL D y (64 * (i + 1)) = 0) : LL D y (64 * i) = 0 ∧ QQ D y (64 * i) = QQ D y (64 * (i + 1)) := by
  have h1 := div_dg D (i + 1) (by omega)
  simp only [Nat.add_sub_cancel, hd, Nat.add_zero, B_pow] at h1
  unfold LL QQ at *
  rw [h1]
  have h2 := Nat.div_add_mod (D / 2 ^ (64 * (i + 1))) y
  rw [hl, Nat.add_zero] at h2
  have e64 : (18446744073709551616 : Nat) = 2 ^ 64 := by decide
  by_cases hy : y = 0
  · subst hy
    simp only [Nat.mod_zero] at hl
    rw [hl]; simp
  · generalize D / 2 ^ (64 * (i + 1)) / y = q at *
    rw [← h2, ← Nat.mul_assoc, Nat.mul_comm 18446744073709551616 y, Nat.mul_assoc, Nat.mul_mod_right, Nat.mul_div_cancel_left _ (Nat.pos_of_ne_zero hy)]
    refine ⟨rfl, ?_⟩
    rw [e64, show 64 * (i + 1) = 64 + 64 * i from by omega, Nat.pow_add]
    generalize (2 : Nat) ^ 64 = u
    generalize (2 : Nat) ^ (64 * i) = v
    grind
end Go.Fw
