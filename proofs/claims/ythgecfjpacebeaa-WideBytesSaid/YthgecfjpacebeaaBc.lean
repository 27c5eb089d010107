/- Products of binary digits. No condition beyond each lemma's own. -/
import Derived.Test.YthgecfjpacebeaaBb
import Derived.Test.YthgecfjpacebeaaBa
namespace Go.Fw
open Go.RowKit
def valF (f : Nat → Nat) : Nat → Nat
  | 0 => 0
  | n + 1 => valF f n + f n * 2 ^ n
def intsF (n : Nat) (f : Nat → Nat) : List Value := ints ((List.range n).map f)
theorem val_range (f : Nat → Nat) : ∀ n, val ((List.range n).map f) = valF f n
  | 0 => rfl
  | n + 1 => by rw [List.range_succ, List.map_append, List.map_singleton, val_snoc, val_range f n, valF]; simp; grind
theorem valF_upd (f : Nat → Nat) (k v : Nat) : ∀ n, valF (upd8 f k v) n + (if k < n then f k * 2 ^ k else 0) = valF f n + (if k < n then v * 2 ^ k else 0)
  | 0 => by simp [valF]
  | n + 1 => by
    have ih := valF_upd f k v n
    simp only [valF]
    by_cases h : n = k
    · subst h
      rw [if_pos (by omega), if_pos (by omega)]
      rw [if_neg (by omega), if_neg (by omega)] at ih
      have : upd8 f n v n = v := by simp [upd8]
      rw [this]; omega
    · have : upd8 f k v n = f n := by simp [upd8, h]
      rw [this]
      by_cases h2 : k < n
      · rw [if_pos (by omega), if_pos (by omega)]
        rw [if_pos h2, if_pos h2] at ih
        omega
      · rw [if_neg (by omega), if_neg (by omega)]
        rw [if_neg h2, if_neg h2] at ih
        omega
theorem valF_0 : ∀ n, valF (fun _ => 0) n = 0
  | 0 => rfl
  | n + 1 => by simp [valF, valF_0 n]
theorem length_intsF (n : Nat) (f : Nat → Nat) : (intsF n f).length = n := by simp [intsF, ints]
theorem intsF_at {n : Nat} {f : Nat → Nat} {k off : Nat} (ho : off = k) (h : k < n) : (intsF n f)[off]? = some (.int .i64 ((f k : Nat) : Int)) := by
  subst ho; simp [intsF, ints, h]
theorem intsF_set {n : Nat} {f : Nat → Nat} {k off v : Nat} {u : Value} (ho : off = k) (hu : u = .int .i64 ((v : Nat) : Int)) : (intsF n f).set off u = intsF n (upd8 f k v) := by
  subst ho hu
  apply List.ext_getElem?
  intro m
  rw [List.getElem?_set]
  simp only [intsF, ints, List.length_map, List.length_range, List.getElem?_map]
  by_cases hm : m < n
  · rw [List.getElem?_range hm]
    by_cases e : off = m
    · subst e; simp [hm, upd8]
    · simp [e, upd8, Ne.symm e]
  · by_cases e : off = m
    · subst e; simp [hm]
    · simp [e, List.getElem?_eq_none (l := List.range n) (i := m) (by simpa using hm)]
theorem zeros_intsF (n : Nat) : zeros [.int .i64 0] n = intsF n (fun _ => 0) := by rw [zeros_1]; simp [intsF, ints, List.map_const']
/-- one bit of b in the row of a's bit i -/
theorem times_step {f : Nat → Nat} {N i j a b : Nat} (hN : i + j < N) (inv : valF f N = a % 2 ^ i * b + (b % 2 ^ j) * 2 ^ i) :
    valF (upd8 f (i + j) (f (i + j) + bit b j)) N = a % 2 ^ i * b + (b % 2 ^ (j + 1)) * 2 ^ i := by
  have h := valF_upd f (i + j) (f (i + j) + bit b j) N
  rw [if_pos hN, if_pos hN] at h
  rw [mod_pow_succ b j, Nat.add_mul, Nat.pow_add] at *
  have e : (2 ^ j * bit b j) * 2 ^ i = bit b j * (2 ^ i * 2 ^ j) := by grind
  rw [e]
  omega
theorem times_row1 {a b i m : Nat} (hb : b < 2 ^ m) (h1 : bit a i = 1) : a % 2 ^ i * b + (b % 2 ^ m) * 2 ^ i = a % 2 ^ (i + 1) * b := by
  rw [mod_pow_succ a i, h1, Nat.mod_eq_of_lt hb]; grind
theorem times_row0 {a b i : Nat} (h0 : bit a i = 0) : a % 2 ^ i * b = a % 2 ^ (i + 1) * b := by
  rw [mod_pow_succ a i, h0]; simp
/-- a carry -/
theorem carry_step {f : Nat → Nat} {N k : Nat} (hk : k + 1 < N) : valF (upd8 (upd8 f (k + 1) (f (k + 1) + f k / 2)) k (f k % 2)) N = valF f N := by
  have h1 := valF_upd f (k + 1) (f (k + 1) + f k / 2) N
  have h2 := valF_upd (upd8 f (k + 1) (f (k + 1) + f k / 2)) k (f k % 2) N
  rw [if_pos hk, if_pos hk] at h1
  rw [if_pos (by omega), if_pos (by omega)] at h2
  have e : upd8 f (k + 1) (f (k + 1) + f k / 2) k = f k := by simp [upd8]
  rw [e] at h2
  rw [Nat.add_mul, Nat.pow_succ] at h1
  have h3 : f k * 2 ^ k = (f k % 2) * 2 ^ k + (f k / 2) * (2 ^ k * 2) := by
    have := Nat.mod_add_div (f k) 2
    generalize f k % 2 = r at *
    generalize f k / 2 = q at *
    rw [← this]; grind
  omega
theorem valF_ge (f : Nat → Nat) (n : Nat) : f n * 2 ^ n ≤ valF f (n + 1) := by simp only [valF]; omega
end Go.Fw
namespace Go.Fw
theorem times_end {f : Nat → Nat} {x y k : Nat} (hk : k = (bl x).length + (bl y).length) (hv : valF f (k + 1) = x * y) (hf : ∀ m, m < k → f m ≤ 1) : Bits ((List.range (k + 1)).map f) ∧ val ((List.range (k + 1)).map f) = x * y := by
  refine ⟨?_, by rw [val_range, hv]⟩
  have h1 : x < 2 ^ (bl x).length := (length_bl_lt x _).1 (Nat.le_refl _)
  have h2 : y < 2 ^ (bl y).length := (length_bl_lt y _).1 (Nat.le_refl _)
  have h3 : x * y < 2 ^ k := by
    rw [hk, Nat.pow_add]
    exact Nat.mul_lt_mul_of_lt_of_le h1 (Nat.le_of_lt h2) (Nat.pow_pos (by decide))
  have h4 := valF_ge f k
  rw [hv] at h4
  have h5 : f k = 0 := by
    rcases Nat.eq_zero_or_pos (f k) with h | h
    · exact h
    · have : 1 * 2 ^ k ≤ f k * 2 ^ k := Nat.mul_le_mul_right _ h
      omega
  intro b hb
  obtain ⟨m, hm, rfl⟩ := List.mem_map.1 hb
  have := List.mem_range.1 hm
  by_cases e : m = k
  · subst e; omega
  · exact hf m (by omega)
end Go.Fw
