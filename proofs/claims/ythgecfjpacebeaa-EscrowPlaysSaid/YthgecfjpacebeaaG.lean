/- Plain arithmetic of numbers in parts of 64 bits. No Go in sight; no condition beyond each lemma's own. -/
import Derived.Test.YthgecfjpacebeaaF
import Derived.Laws.Externs
namespace Go.Fw

/-- part i of a number -/
def dg (x i : Nat) : Nat := x / 18446744073709551616 ^ i % 18446744073709551616
@[reducible] def wc (x : Nat) : List Value := [.int .u64 (dg x 0 : Nat), .int .u64 (dg x 1 : Nat), .int .u64 (dg x 2 : Nat), .int .u64 (dg x 3 : Nat)]
@[reducible] def wv (x : Nat) : Value := .agg (wc x).toArray

theorem dg_lt (x i : Nat) : dg x i < 18446744073709551616 := Nat.mod_lt _ (by decide)
theorem dg0 (x : Nat) : dg x 0 = x % 18446744073709551616 := by simp [dg]
theorem dg1 (x : Nat) : dg x 1 = x / 18446744073709551616 % 18446744073709551616 := by simp [dg]
theorem dg2 (x : Nat) : dg x 2 = x / 340282366920938463463374607431768211456 % 18446744073709551616 := by simp [dg]
theorem dg3 (x : Nat) : dg x 3 = x / 6277101735386680763835789423207666416102355444464034512896 % 18446744073709551616 := by simp [dg]
theorem wc_at (x k : Nat) (h : k < 4) : (wc x)[0 + ((k : Nat) : Int).toNat * 1]? = some (.int .u64 ((dg x k : Nat) : Int)) := by
  have : k = 0 ∨ k = 1 ∨ k = 2 ∨ k = 3 := by omega
  rcases this with rfl | rfl | rfl | rfl <;> rfl

/-- parts f 0 .. up to k, noughts behind -/
def mkc (N : Nat) (f : Nat → Nat) (k : Nat) : List Value := (List.range N).map fun j => .int .u64 (if j < k then ((f j : Nat) : Int) else 0)
theorem length_mkc (N : Nat) (f : Nat → Nat) (k : Nat) : (mkc N f k).length = N := by simp [mkc]
theorem mkc_at (N : Nat) (f : Nat → Nat) (k : Nat) (v : Value) (h : v = .int .u64 ((f k : Nat) : Int)) : (mkc N f k).set (0 + ((k : Nat) : Int).toNat * 1) v = mkc N f (k + 1) := by
  subst h
  apply List.ext_getElem?
  intro j
  rw [List.getElem?_set]
  simp only [mkc, List.length_map, List.length_range, Nat.zero_add, Int.toNat_natCast, Nat.mul_one, List.getElem?_map]
  by_cases hj : j < N
  · by_cases hk : k = j
    · subst hk; simp [hj]
    · simp [hk, hj]
      by_cases h1 : j < k
      · simp [h1, Nat.lt_succ_of_lt h1]
      · have : ¬ j < k + 1 := by omega
        simp [h1, this]
  · by_cases hk : k = j
    · subst hk; simp [hj]
    · simp [hk, hj]

/-! sums part by part -/
def cy (x y k : Nat) : Nat := (x % 18446744073709551616 ^ k + y % 18446744073709551616 ^ k) / 18446744073709551616 ^ k
theorem pow_pos' (k : Nat) : 0 < 18446744073709551616 ^ k := Nat.pow_pos (by decide)
theorem cy_le (x y k : Nat) : cy x y k ≤ 1 := by
  unfold cy
  have h1 := Nat.mod_lt x (pow_pos' k)
  have h2 := Nat.mod_lt y (pow_pos' k)
  have : (x % 18446744073709551616 ^ k + y % 18446744073709551616 ^ k) / 18446744073709551616 ^ k < 2 := by
    rw [Nat.div_lt_iff_lt_mul (pow_pos' k)]; omega
  omega
theorem cy_0 (x y : Nat) : cy x y 0 = 0 := by simp [cy, Nat.mod_one]
theorem div_add_cy (x y k : Nat) : (x + y) / 18446744073709551616 ^ k = x / 18446744073709551616 ^ k + y / 18446744073709551616 ^ k + cy x y k := by
  unfold cy
  have hp := pow_pos' k
  generalize 18446744073709551616 ^ k = p at *
  have h : x + y = (x % p + y % p) + p * (x / p + y / p) := by
    have h1 := Nat.div_add_mod x p
    have h2 := Nat.div_add_mod y p
    rw [Nat.mul_add]; omega
  rw [h, Nat.add_mul_div_left _ _ hp]
  omega
theorem dg_add (x y k : Nat) : dg (x + y) k = (dg x k + dg y k + cy x y k) % 18446744073709551616 := by
  unfold dg
  rw [div_add_cy]
  omega
theorem mod_succ (x k : Nat) : x % 18446744073709551616 ^ (k + 1) = dg x k * 18446744073709551616 ^ k + x % 18446744073709551616 ^ k := by
  unfold dg
  rw [Nat.pow_succ, Nat.mod_mul, Nat.mul_comm (_ % _), Nat.add_comm]
theorem cy_succ (x y k : Nat) : cy x y (k + 1) = (dg x k + dg y k + cy x y k) / 18446744073709551616 := by
  have h1 := mod_succ x k
  have h2 := mod_succ y k
  unfold cy
  rw [h1, h2, Nat.pow_succ]
  have hp := pow_pos' k
  generalize 18446744073709551616 ^ k = p at *
  rw [← Nat.div_div_eq_div_mul]
  congr 1
  have : dg x k * p + x % p + (dg y k * p + y % p) = (x % p + y % p) + p * (dg x k + dg y k) := by rw [Nat.mul_add, Nat.mul_comm p, Nat.mul_comm p]; omega
  rw [this, Nat.add_mul_div_left _ _ hp]
  omega
theorem cy_4 (x y : Nat) (hx : x < 115792089237316195423570985008687907853269984665640564039457584007913129639936) (hy : y < 115792089237316195423570985008687907853269984665640564039457584007913129639936) :
    cy x y 4 = (x + y) / 115792089237316195423570985008687907853269984665640564039457584007913129639936 := by
  unfold cy
  rw [show (18446744073709551616 : Nat) ^ 4 = 115792089237316195423570985008687907853269984665640564039457584007913129639936 from rfl, Nat.mod_eq_of_lt hx, Nat.mod_eq_of_lt hy]
end Go.Fw
namespace Go.Proofs.Ythgecfjpacebeaa
open Go Go.Fw
/-- The model's entry for math/bits.Sub64. -/
def sub64Entry : Array Value → Sem Value := fun args => do
  let (x, y, b) ← Extern.MathBitsCarry.three "Sub64" args
  pure (Extern.MathBitsCarry.pair ((x + Extern.MathBitsCarry.m64 - y - b) % Extern.MathBitsCarry.m64) (if x < y + b then 1 else 0))
theorem x95 (x y c : Nat) (hc : c ≤ 1) (w : World) : (callFunc 95 [.int .u64 (x : Int), .int .u64 (y : Int), .int .u64 (c : Int)].toArray).run Try.prog w =
    .ok (.value (.tuple #[.int .u64 (((x + y + c) % 18446744073709551616 : Nat) : Int), .int .u64 (((x + y + c) / 18446744073709551616 : Nat) : Int)])) w := by
  rw [run_callFunc_extern Try.func95 (by kernel_rfl) (by kernel_rfl) (by kernel_rfl) (e := add64Entry) (by kernel_rfl), run_add64 x y c (by omega) (by omega) (by omega) (by omega)]
  simp only [Result.andThen]
  congr 5
theorem x96 (x y c : Nat) (hc : c ≤ 1) (w : World) : (callFunc 96 [.int .u64 (x : Int), .int .u64 (y : Int), .int .u64 (c : Int)].toArray).run Try.prog w =
    .ok (.value (.tuple #[.int .u64 (((x + 18446744073709551616 - y - c) % 18446744073709551616 : Nat) : Int), .int .u64 ((if x < y + c then 1 else 0 : Nat) : Int)])) w := by
  have key : (sub64Entry #[.int .u64 (x : Int), .int .u64 (y : Int), .int .u64 (c : Int)]).run Try.prog w = .ok (.tuple #[.int .u64 (((x + 18446744073709551616 - y - c) % 18446744073709551616 : Nat) : Int), .int .u64 ((if x < y + c then 1 else 0 : Nat) : Int)]) w := by
    have : c = 0 ∨ c = 1 := by omega
    rcases this with rfl | rfl <;> rfl
  rw [run_callFunc_extern Try.func96 (by kernel_rfl) (by kernel_rfl) (by kernel_rfl) (e := sub64Entry) (by kernel_rfl), key]
  rfl
end Go.Proofs.Ythgecfjpacebeaa
