/- Sums and products in parts of 64 bits. No condition beyond each lemma own. -/
import Derived.Test.YthgecfjpacebeaaQ
namespace Go.Fw
open Go.RowKit
def val8 (f : Nat → Nat) : Nat → Nat
  | 0 => 0
  | n + 1 => val8 f n + f n * 18446744073709551616 ^ n
def cells8 (f : Nat → Nat) : List Value := (List.range 8).map fun k => .int .u64 ((f k : Nat) : Int)
def upd8 (f : Nat → Nat) (k v : Nat) : Nat → Nat := fun m => if m = k then v else f m
theorem val8_upd (f : Nat → Nat) (k v : Nat) : ∀ n, val8 (upd8 f k v) n + (if k < n then f k * 18446744073709551616 ^ k else 0) = val8 f n + (if k < n then v * 18446744073709551616 ^ k else 0)
  | 0 => by simp [val8]
  | n + 1 => by
    have ih := val8_upd f k v n
    simp only [val8]
    by_cases h : n = k
    · subst h
      rw [if_pos (by omega), if_pos (by omega)]
      rw [if_neg (by omega), if_neg (by omega)] at ih
      have : upd8 f n v n = v := by simp [upd8]
      rw [this]; omega
    · have : upd8 f k v n = f n := by simp [upd8, h]
      rw [this]
      by_cases h2 : k < n
      · rw [if_pos (by omega), if_pos (by omega)]
        rw [if_pos h2, if_pos h2] at ih
        omega
      · rw [if_neg (by omega), if_neg (by omega)]
        rw [if_neg h2, if_neg h2] at ih
        omega
theorem muladd (m f c : Nat) (hm : m ≤ 18446744073709551615 * 18446744073709551615) (hf : f < 18446744073709551616) (hc : c < 18446744073709551616) :
    f + m + c = ((m % 18446744073709551616 + f + 0) % 18446744073709551616 + c + 0) % 18446744073709551616 + 18446744073709551616 * (((m / 18446744073709551616 + (m % 18446744073709551616 + f + 0) / 18446744073709551616) % 18446744073709551616 + ((m % 18446744073709551616 + f + 0) % 18446744073709551616 + c + 0) / 18446744073709551616) % 18446744073709551616) ∧
    ((m / 18446744073709551616 + (m % 18446744073709551616 + f + 0) / 18446744073709551616) % 18446744073709551616 + ((m % 18446744073709551616 + f + 0) % 18446744073709551616 + c + 0) / 18446744073709551616) % 18446744073709551616 < 18446744073709551616 := by
  omega
theorem prod_step {f : Nat → Nat} {i j a b c lo c' : Nat} (hij : i + j < 8) (inv : val8 f 8 + c * 18446744073709551616 ^ (i + j) = a % 18446744073709551616 ^ i * b + dg a i * (b % 18446744073709551616 ^ j) * 18446744073709551616 ^ i) (hs : f (i + j) + dg a i * dg b j + c = lo + 18446744073709551616 * c') :
    val8 (upd8 f (i + j) lo) 8 + c' * 18446744073709551616 ^ (i + (j + 1)) = a % 18446744073709551616 ^ i * b + dg a i * (b % 18446744073709551616 ^ (j + 1)) * 18446744073709551616 ^ i := by
  have h1 := val8_upd f (i + j) lo 8
  rw [if_pos hij, if_pos hij] at h1
  have h2 : b % 18446744073709551616 ^ (j + 1) = b % 18446744073709551616 ^ j + 18446744073709551616 ^ j * dg b j := Nat.mod_pow_succ
  rw [h2, ← Nat.add_assoc i j 1, Nat.pow_succ, Nat.pow_add] at *
  generalize val8 (upd8 f (i + j) lo) 8 = N at *
  generalize val8 f 8 = O at *
  generalize f (i + j) = u at *
  generalize dg a i = x at *
  generalize dg b j = y at *
  generalize a % 18446744073709551616 ^ i * b = A at *
  generalize b % 18446744073709551616 ^ j = R at *
  generalize 18446744073709551616 ^ i = p at *
  generalize 18446744073709551616 ^ j = q at *
  have h3 : (u + x * y + c) * (p * q) = (lo + 18446744073709551616 * c') * (p * q) := by rw [hs]
  have e1 : (u + x * y + c) * (p * q) = u * (p * q) + x * y * (p * q) + c * (p * q) := by grind
  have e2 : (lo + 18446744073709551616 * c') * (p * q) = lo * (p * q) + c' * (p * q * 18446744073709551616) := by grind
  have e3 : x * (R + q * y) * p = x * R * p + x * y * (p * q) := by grind
  rw [e1, e2] at h3
  rw [e3]
  omega
theorem prod_row {f : Nat → Nat} {i a b c : Nat} (hi : i < 4) (hb : b < 18446744073709551616 ^ 4) (hz : f (i + 4) = 0) (inv : val8 f 8 + c * 18446744073709551616 ^ (i + 4) = a % 18446744073709551616 ^ i * b + dg a i * (b % 18446744073709551616 ^ 4) * 18446744073709551616 ^ i) :
    val8 (upd8 f (i + 4) c) 8 = a % 18446744073709551616 ^ (i + 1) * b := by
  have h1 := val8_upd f (i + 4) c 8
  rw [if_pos (by omega), if_pos (by omega), hz, Nat.zero_mul, Nat.add_zero] at h1
  have h2 : a % 18446744073709551616 ^ (i + 1) = a % 18446744073709551616 ^ i + 18446744073709551616 ^ i * dg a i := Nat.mod_pow_succ
  rw [h1, inv, h2, Nat.mod_eq_of_lt hb]
  grind
theorem val8_lt (f : Nat → Nat) (hf : ∀ k, f k < 18446744073709551616) : ∀ n, val8 f n < 18446744073709551616 ^ n
  | 0 => by simp [val8]
  | n + 1 => by
    have ih := val8_lt f hf n
    have h1 : f n * 18446744073709551616 ^ n ≤ 18446744073709551615 * 18446744073709551616 ^ n := Nat.mul_le_mul_right _ (by have := hf n; omega)
    simp only [val8, Nat.pow_succ]
    omega
theorem dg_val8 (f : Nat → Nat) (hf : ∀ k, f k < 18446744073709551616) : ∀ n k, k < n → dg (val8 f n) k = f k
  | 0, k, h => by omega
  | n + 1, k, h => by
    have hl := val8_lt f hf n
    have hp : 0 < 18446744073709551616 ^ n := Nat.pow_pos (by decide)
    unfold dg
    by_cases hk : k = n
    · subst hk
      simp only [val8]
      rw [Nat.add_mul_div_right _ _ hp, Nat.div_eq_of_lt hl, Nat.zero_add, Nat.mod_eq_of_lt (hf k)]
    · have ih := dg_val8 f hf n k (by omega)
      unfold dg at ih
      simp only [val8]
      obtain ⟨t, rfl⟩ : ∃ t, n = k + 1 + t := ⟨n - (k + 1), by omega⟩
      rw [show f (k + 1 + t) * 18446744073709551616 ^ (k + 1 + t) = 18446744073709551616 ^ k * (18446744073709551616 * (18446744073709551616 ^ t * f (k + 1 + t))) from by rw [Nat.pow_add, Nat.pow_succ]; grind, Nat.add_mul_div_left _ _ (Nat.pow_pos (by decide)), Nat.add_mul_mod_self_left]
      exact ih
theorem cells8_eq (f : Nat → Nat) (hf : ∀ k, f k < 18446744073709551616) : cells8 f = cells8 (dg (val8 f 8)) := by
  unfold cells8
  refine List.map_congr_left fun k hk => ?_
  rw [dg_val8 f hf 8 k (by simpa using hk)]
theorem cells8_at {f : Nat → Nat} {k off : Nat} (ho : off = k) (h : k < 8) : (cells8 f)[off]? = some (.int .u64 ((f k : Nat) : Int)) := by
  subst ho; unfold cells8; rw [List.getElem?_map, List.getElem?_range h]; rfl
theorem cells8_set {f : Nat → Nat} {k off v : Nat} (ho : off = k) : (cells8 f).set off (.int .u64 ((v : Nat) : Int)) = cells8 (upd8 f k v) := by
  subst ho
  apply List.ext_getElem?
  intro m
  rw [List.getElem?_set]
  simp only [cells8, List.length_map, List.length_range, List.getElem?_map]
  by_cases hm : m < 8
  · rw [List.getElem?_range hm]
    by_cases e : off = m
    · subst e; simp [hm, upd8]
    · simp [e, upd8, Ne.symm e]
  · by_cases e : off = m
    · subst e; simp [hm]
    · simp [e, List.getElem?_eq_none (l := List.range 8) (i := m) (by simpa using hm)]
theorem one_cells8 (f : Nat → Nat) : ∀ v ∈ cells8 f, v.oneCell' = true := by
  intro v hv
  obtain ⟨k, _, rfl⟩ := List.mem_map.1 hv
  rfl
theorem length_cells8 (f : Nat → Nat) : (cells8 f).length = 8 := by simp [cells8]
theorem upd8_lt {f : Nat → Nat} {k v : Nat} (hf : ∀ k, f k < 18446744073709551616) (hv : v < 18446744073709551616) : ∀ m, upd8 f k v m < 18446744073709551616 := by
  intro m; unfold upd8; split
  · exact hv
  · exact hf m
theorem wc_at' (x k : Nat) (h : k < 4) : (wc x)[((k : Nat) : Int).toNat]? = some (.int .u64 ((dg x k : Nat) : Int)) := by
  have : k = 0 ∨ k = 1 ∨ k = 2 ∨ k = 3 := by omega
  rcases this with rfl | rfl | rfl | rfl <;> rfl
theorem dg_mul_le (a b i j : Nat) : dg a i * dg b j ≤ 18446744073709551615 * 18446744073709551615 := Nat.mul_le_mul (by have := dg_lt a i; omega) (by have := dg_lt b j; omega)

end Go.Fw
