/- Numbers part by part from the top; a scope through which no goto goes. No condition beyond each lemma's own. -/
import Derived.Test.YthgecfjpacebeaaBd
import Derived.Scope
namespace Go.Fw
open Go.RowKit
theorem div_dg (x k : Nat) (h : 0 < k) : x / 18446744073709551616 ^ (k - 1) = 18446744073709551616 * (x / 18446744073709551616 ^ k) + dg x (k - 1) := by
  obtain ⟨m, rfl⟩ : ∃ m, k = m + 1 := ⟨k - 1, by omega⟩
  simp only [Nat.add_sub_cancel, dg, Nat.pow_succ, ← Nat.div_div_eq_div_mul]
  omega
theorem lt_of_dg {x y k : Nat} (h : 0 < k) (he : x / 18446744073709551616 ^ k = y / 18446744073709551616 ^ k) (hl : dg x (k - 1) < dg y (k - 1)) : x < y := by
  have h1 := div_dg x k h
  have h2 := div_dg y k h
  rw [he] at h1
  exact Nat.lt_of_not_le fun hle => by
    have := Nat.div_le_div_right (c := 18446744073709551616 ^ (k - 1)) hle
    omega
theorem same_dg {x y k : Nat} (h : 0 < k) (he : x / 18446744073709551616 ^ k = y / 18446744073709551616 ^ k) (hl : dg x (k - 1) = dg y (k - 1)) : x / 18446744073709551616 ^ (k - 1) = y / 18446744073709551616 ^ (k - 1) := by
  rw [div_dg x k h, div_dg y k h, he, hl]
theorem wc_dn (x k : Nat) (h0 : 0 < k) (h : k ≤ 4) : (wc x)[0 + ((k : Nat) - 1 : Int).toNat * 1]? = some (.int .u64 ((dg x (k - 1) : Nat) : Int)) := by
  have : k = 1 ∨ k = 2 ∨ k = 3 ∨ k = 4 := by omega
  rcases this with rfl | rfl | rfl | rfl <;> rfl
section
variable {Q : Exit → Act → World → Prop} {a : Act} {w : World}
theorem sc_n (h : Q .normal a w) : Exit.noGoto Q .normal a w := h
theorem sc_x {id : Nat} (h : Q (.exit id) a w) : Exit.noGoto Q (.exit id) a w := h
theorem sc_r (h : Q .ret a w) : Exit.noGoto Q .ret a w := h
theorem PanicOk.noGoto (h : PanicOk Q) : PanicOk (Exit.noGoto Q) := fun c a d v w hh => h c a d v w hh
end
end Go.Fw
