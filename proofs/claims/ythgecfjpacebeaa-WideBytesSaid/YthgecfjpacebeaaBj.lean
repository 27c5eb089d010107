/- Long division of binary digits. No condition beyond each lemma's own. -/
import Derived.Test.YthgecfjpacebeaaBi
namespace Go.Fw
open Go.RowKit
/-- the next number, its first k + 1 digits: a bit ahead of the old ones -/
def nxt (L b k : Nat) : Nat → Nat := fun j => if j = 0 then b else if j ≤ k then bit L (j - 1) else 0
theorem nxt_0 (L b : Nat) : upd8 (fun _ => 0) 0 b = nxt L b 0 := by
  funext j; unfold upd8 nxt
  by_cases h : j = 0
  · simp [h]
  · rw [if_neg h, if_neg h, if_neg (by omega)]
theorem nxt_step (L b k : Nat) : upd8 (nxt L b k) (k + 1) (bit L k) = nxt L b (k + 1) := by
  funext j; unfold upd8 nxt
  by_cases h : j = k + 1
  · subst h; rw [if_pos rfl, if_neg (by omega), if_pos (Nat.le_refl _), Nat.add_sub_cancel]
  · rw [if_neg h]
    by_cases h0 : j = 0
    · rw [if_pos h0, if_pos h0]
    · rw [if_neg h0, if_neg h0]
      by_cases h2 : j ≤ k
      · rw [if_pos h2, if_pos (by omega)]
      · rw [if_neg h2, if_neg (by omega)]
theorem nxt_val (L b k : Nat) : ∀ m, m ≤ k → valF (nxt L b k) (m + 1) = b + 2 * (L % 2 ^ m)
  | 0, _ => by simp [valF, nxt, Nat.mod_one]
  | m + 1, h => by
    have ih := nxt_val L b k m (by omega)
    have e : nxt L b k (m + 1) = bit L m := by unfold nxt; rw [if_neg (by omega), if_pos h, Nat.add_sub_cancel]
    rw [valF, ih, e, mod_pow_succ L m, Nat.pow_succ]
    grind
theorem nxt_end (L b : Nat) (hb : b ≤ 1) : Bits ((List.range ((bl L).length + 1)).map (nxt L b (bl L).length)) ∧ val ((List.range ((bl L).length + 1)).map (nxt L b (bl L).length)) = 2 * L + b := by
  constructor
  · intro x hx
    obtain ⟨j, _, rfl⟩ := List.mem_map.1 hx
    unfold nxt
    split
    · exact hb
    · split
      · exact bit_le _ _
      · omega
  · rw [val_range, nxt_val L b _ _ (Nat.le_refl _), mod_all]; omega
/-- the quotient's digits, those from p on -/
def quo (x y p : Nat) : Nat → Nat := fun j => if p ≤ j then bit (x / y) j else 0
theorem quo_hi {x y p : Nat} (hy : 0 < y) (h : y ≤ 2 * LL x y (p + 1) + bit x p) : upd8 (quo x y (p + 1)) p 1 = quo x y p := by
  funext j; unfold upd8 quo
  by_cases e : j = p
  · subst e
    rw [if_pos rfl, if_pos (Nat.le_refl _)]
    have h1 := ((div_bit_step (H := x / 2 ^ (j + 1)) hy rfl (bit_le x j)).2 h).1
    rw [← div_next] at h1
    unfold bit
    rw [Nat.div_div_eq_div_mul, Nat.mul_comm, ← Nat.div_div_eq_div_mul, h1]; omega
  · rw [if_neg e]
    by_cases h2 : p ≤ j
    · rw [if_pos h2, if_pos (by omega)]
    · rw [if_neg h2, if_neg (by omega)]
theorem quo_lo {x y p : Nat} (hy : 0 < y) (h : 2 * LL x y (p + 1) + bit x p < y) : quo x y (p + 1) = quo x y p := by
  funext j; unfold quo
  by_cases e : j = p
  · subst e
    rw [if_neg (by omega), if_pos (Nat.le_refl _)]
    have h1 := ((div_bit_step (H := x / 2 ^ (j + 1)) hy rfl (bit_le x j)).1 h).1
    rw [← div_next] at h1
    unfold bit
    rw [Nat.div_div_eq_div_mul, Nat.mul_comm, ← Nat.div_div_eq_div_mul, h1]; omega
  · by_cases h2 : p ≤ j
    · rw [if_pos h2, if_pos (by omega)]
    · rw [if_neg h2, if_neg (by omega)]
theorem quo_end (x y : Nat) : Bits ((List.range (bl x).length).map (quo x y 0)) ∧ val ((List.range (bl x).length).map (quo x y 0)) = x / y := by
  have e : quo x y 0 = bit (x / y) := by funext j; simp [quo]
  rw [e]
  refine ⟨bits_range _ _, ?_⟩
  rw [val_bits, Nat.mod_eq_of_lt (Nat.lt_of_le_of_lt (Nat.div_le_self x y) ((length_bl_lt x _).1 (Nat.le_refl _)))]
end Go.Fw
