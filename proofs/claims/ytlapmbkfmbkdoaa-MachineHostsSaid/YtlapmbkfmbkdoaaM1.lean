/- Texts G J M K L N O Q in one. -/
import Derived.Test.YtlapmbkfmbkdoaaF
import Derived.Laws.Externs
/- Plain arithmetic of numbers in parts of 64 bits. No Go in sight; no condition beyond each lemma's own. -/
namespace Go.Fw

/-- part i of a number -/
def dg (x i : Nat) : Nat := x / 18446744073709551616 ^ i % 18446744073709551616
@[reducible] def wc (x : Nat) : List Value := [.int .u64 (dg x 0 : Nat), .int .u64 (dg x 1 : Nat), .int .u64 (dg x 2 : Nat), .int .u64 (dg x 3 : Nat)]
@[reducible] def wv (x : Nat) : Value := .agg (wc x).toArray

theorem dg_lt (x i : Nat) : dg x i < 18446744073709551616 := Nat.mod_lt _ (by decide)
theorem dg0 (x : Nat) : dg x 0 = x % 18446744073709551616 := by simp [dg]
theorem dg1 (x : Nat) : dg x 1 = x / 18446744073709551616 % 18446744073709551616 := by simp [dg]
theorem dg2 (x : Nat) : dg x 2 = x / 340282366920938463463374607431768211456 % 18446744073709551616 := by simp [dg]
theorem dg3 (x : Nat) : dg x 3 = x / 6277101735386680763835789423207666416102355444464034512896 % 18446744073709551616 := by simp [dg]
theorem wc_at (x k : Nat) (h : k < 4) : (wc x)[0 + ((k : Nat) : Int).toNat * 1]? = some (.int .u64 ((dg x k : Nat) : Int)) := by
  have : k = 0 ∨ k = 1 ∨ k = 2 ∨ k = 3 := by omega
  rcases this with rfl | rfl | rfl | rfl <;> rfl

/-- parts f 0 .. up to k, noughts behind -/
def mkc (N : Nat) (f : Nat → Nat) (k : Nat) : List Value := (List.range N).map fun j => .int .u64 (if j < k then ((f j : Nat) : Int) else 0)
theorem length_mkc (N : Nat) (f : Nat → Nat) (k : Nat) : (mkc N f k).length = N := by simp [mkc]
theorem mkc_at (N : Nat) (f : Nat → Nat) (k : Nat) (v : Value) (h : v = .int .u64 ((f k : Nat) : Int)) : (mkc N f k).set (0 + ((k : Nat) : Int).toNat * 1) v = mkc N f (k + 1) := by
  subst h
  apply List.ext_getElem?
  intro j
  rw [List.getElem?_set]
  simp only [mkc, List.length_map, List.length_range, Nat.zero_add, Int.toNat_natCast, Nat.mul_one, List.getElem?_map]
  by_cases hj : j < N
  · by_cases hk : k = j
    · subst hk; simp [hj]
    · simp [hk, hj]
      by_cases h1 : j < k
      · simp [h1, Nat.lt_succ_of_lt h1]
      · have : ¬ j < k + 1 := by omega
        simp [h1, this]
  · by_cases hk : k = j
    · subst hk; simp [hj]
    · simp [hk, hj]

/-! sums part by part -/
def cy (x y k : Nat) : Nat := (x % 18446744073709551616 ^ k + y % 18446744073709551616 ^ k) / 18446744073709551616 ^ k
theorem pow_pos' (k : Nat) : 0 < 18446744073709551616 ^ k := Nat.pow_pos (by decide)
theorem cy_le (x y k : Nat) : cy x y k ≤ 1 := by
  unfold cy
  have h1 := Nat.mod_lt x (pow_pos' k)
  have h2 := Nat.mod_lt y (pow_pos' k)
  have : (x % 18446744073709551616 ^ k + y % 18446744073709551616 ^ k) / 18446744073709551616 ^ k < 2 := by
    rw [Nat.div_lt_iff_lt_mul (pow_pos' k)]; omega
  omega
theorem cy_0 (x y : Nat) : cy x y 0 = 0 := by simp [cy, Nat.mod_one]
theorem div_add_cy (x y k : Nat) : (x + y) / 18446744073709551616 ^ k = x / 18446744073709551616 ^ k + y / 18446744073709551616 ^ k + cy x y k := by
  unfold cy
  have hp := pow_pos' k
  generalize 18446744073709551616 ^ k = p at *
  have h : x + y = (x % p + y % p) + p * (x / p + y / p) := by
    have h1 := Nat.div_add_mod x p
    have h2 := Nat.div_add_mod y p
    rw [Nat.mul_add]; omega
  rw [h, Nat.add_mul_div_left _ _ hp]
  omega
theorem dg_add (x y k : Nat) : dg (x + y) k = (dg x k + dg y k + cy x y k) % 18446744073709551616 := by
  unfold dg
  rw [div_add_cy]
  omega
theorem mod_succ (x k : Nat) : x % 18446744073709551616 ^ (k + 1) = dg x k * 18446744073709551616 ^ k + x % 18446744073709551616 ^ k := by
  unfold dg
  rw [Nat.pow_succ, Nat.mod_mul, Nat.mul_comm (_ % _), Nat.add_comm]
theorem cy_succ (x y k : Nat) : cy x y (k + 1) = (dg x k + dg y k + cy x y k) / 18446744073709551616 := by
  have h1 := mod_succ x k
  have h2 := mod_succ y k
  unfold cy
  rw [h1, h2, Nat.pow_succ]
  have hp := pow_pos' k
  generalize 18446744073709551616 ^ k = p at *
  rw [← Nat.div_div_eq_div_mul]
  congr 1
  have : dg x k * p + x % p + (dg y k * p + y % p) = (x % p + y % p) + p * (dg x k + dg y k) := by rw [Nat.mul_add, Nat.mul_comm p, Nat.mul_comm p]; omega
  rw [this, Nat.add_mul_div_left _ _ hp]
  omega
theorem cy_4 (x y : Nat) (hx : x < 115792089237316195423570985008687907853269984665640564039457584007913129639936) (hy : y < 115792089237316195423570985008687907853269984665640564039457584007913129639936) :
    cy x y 4 = (x + y) / 115792089237316195423570985008687907853269984665640564039457584007913129639936 := by
  unfold cy
  rw [show (18446744073709551616 : Nat) ^ 4 = 115792089237316195423570985008687907853269984665640564039457584007913129639936 from rfl, Nat.mod_eq_of_lt hx, Nat.mod_eq_of_lt hy]
end Go.Fw
namespace Go.Proofs.Ytlapmbkfmbkdoaa
open Go Go.Fw
/-- The model's entry for math/bits.Sub64. -/
def sub64Entry : Array Value → Sem Value := fun args => do
  let (x, y, b) ← Extern.MathBitsCarry.three "Sub64" args
  pure (Extern.MathBitsCarry.pair ((x + Extern.MathBitsCarry.m64 - y - b) % Extern.MathBitsCarry.m64) (if x < y + b then 1 else 0))
theorem x95 (x y c : Nat) (hc : c ≤ 1) (w : World) : (callFunc 92 [.int .u64 (x : Int), .int .u64 (y : Int), .int .u64 (c : Int)].toArray).run Try.prog w =
    .ok (.value (.tuple #[.int .u64 (((x + y + c) % 18446744073709551616 : Nat) : Int), .int .u64 (((x + y + c) / 18446744073709551616 : Nat) : Int)])) w := by
  rw [run_callFunc_extern Try.func92 (by kernel_rfl) (by kernel_rfl) (by kernel_rfl) (e := add64Entry) (by kernel_rfl), run_add64 x y c (by omega) (by omega) (by omega) (by omega)]
  simp only [Result.andThen]
  congr 5
theorem x96 (x y c : Nat) (hc : c ≤ 1) (w : World) : (callFunc 93 [.int .u64 (x : Int), .int .u64 (y : Int), .int .u64 (c : Int)].toArray).run Try.prog w =
    .ok (.value (.tuple #[.int .u64 (((x + 18446744073709551616 - y - c) % 18446744073709551616 : Nat) : Int), .int .u64 ((if x < y + c then 1 else 0 : Nat) : Int)])) w := by
  have key : (sub64Entry #[.int .u64 (x : Int), .int .u64 (y : Int), .int .u64 (c : Int)]).run Try.prog w = .ok (.tuple #[.int .u64 (((x + 18446744073709551616 - y - c) % 18446744073709551616 : Nat) : Int), .int .u64 ((if x < y + c then 1 else 0 : Nat) : Int)]) w := by
    have : c = 0 ∨ c = 1 := by omega
    rcases this with rfl | rfl <;> rfl
  rw [run_callFunc_extern Try.func93 (by kernel_rfl) (by kernel_rfl) (by kernel_rfl) (e := sub64Entry) (by kernel_rfl), key]
  rfl
end Go.Proofs.Ytlapmbkfmbkdoaa

/- Plain arithmetic of binary digits, the lowest first. No Go in sight; no condition beyond each lemma's own. -/
namespace Go.Fw

def val : List Nat → Nat
  | [] => 0
  | b :: r => b + 2 * val r
def bl (n : Nat) : List Nat := if h : n = 0 then [] else (n % 2) :: bl (n / 2)
termination_by n
decreasing_by omega
def Bits (xs : List Nat) : Prop := ∀ b ∈ xs, b ≤ 1

theorem bl_0 : bl 0 = [] := by unfold bl; simp
theorem bl_pos {n : Nat} (h : n ≠ 0) : bl n = (n % 2) :: bl (n / 2) := by rw [bl, dif_neg h]
theorem val_bl (n : Nat) : val (bl n) = n := by
  induction n using Nat.strongRecOn with
  | _ n ih =>
    by_cases h : n = 0
    · subst h; simp [bl_0, val]
    · rw [bl_pos h, val, ih (n / 2) (by omega)]; omega
theorem bits_bl (n : Nat) : Bits (bl n) := by
  induction n using Nat.strongRecOn with
  | _ n ih =>
    by_cases h : n = 0
    · subst h; simp [bl_0, Bits]
    · rw [bl_pos h]
      intro b hb
      rcases List.mem_cons.1 hb with rfl | hb
      · omega
      · exact ih (n / 2) (by omega) b hb
theorem val_append (xs ys : List Nat) : val (xs ++ ys) = val xs + 2 ^ xs.length * val ys := by
  induction xs with
  | nil => simp [val]
  | cons b r ih => simp only [List.cons_append, val, ih, List.length_cons, Nat.pow_succ]; rw [Nat.mul_add]; rw [← Nat.mul_assoc, Nat.mul_comm 2 (2 ^ r.length)]; omega
theorem val_lt {xs : List Nat} (h : Bits xs) : val xs < 2 ^ xs.length := by
  induction xs with
  | nil => simp [val]
  | cons b r ih =>
    have h1 := h b (by simp)
    have h2 := ih fun c hc => h c (by simp [hc])
    simp only [val, List.length_cons, Nat.pow_succ]; omega
theorem val_ge_last {xs : List Nat} (hne : xs ≠ []) (hl : xs.getLast hne ≠ 0) : 2 ^ (xs.length - 1) ≤ val xs := by
  induction xs with
  | nil => exact absurd rfl hne
  | cons b r ih =>
    by_cases hr : r = []
    · subst hr; simp [val] at *; omega
    · have := ih hr (by rwa [List.getLast_cons hr] at hl)
      simp only [val, List.length_cons]
      have hlen : 0 < r.length := List.length_pos_iff.2 hr
      have : 2 ^ (r.length + 1 - 1) = 2 * 2 ^ (r.length - 1) := by
        rw [show r.length + 1 - 1 = (r.length - 1) + 1 from by omega, Nat.pow_succ]; omega
      omega
/-- digits without a nought at the end are those of their number -/
theorem bl_val {xs : List Nat} (h : Bits xs) (hl : ∀ hne : xs ≠ [], xs.getLast hne ≠ 0) : bl (val xs) = xs := by
  induction xs with
  | nil => simp [val, bl_0]
  | cons b r ih =>
    have h1 := h b (by simp)
    have h2 : Bits r := fun c hc => h c (by simp [hc])
    have h3 : ∀ hne : r ≠ [], r.getLast hne ≠ 0 := fun hne => by have := hl (by simp); rwa [List.getLast_cons hne] at this
    have hnz : val (b :: r) ≠ 0 := by
      have := val_ge_last (xs := b :: r) (by simp) (hl (by simp))
      have hp : 0 < 2 ^ ((b :: r).length - 1) := Nat.pow_pos (by decide)
      omega
    rw [bl_pos hnz]
    simp only [val]
    rw [show (b + 2 * val r) % 2 = b from by omega, show (b + 2 * val r) / 2 = val r from by omega, ih h2 h3]
theorem last_bl (n : Nat) (hne : bl n ≠ []) : (bl n).getLast hne ≠ 0 := by
  induction n using Nat.strongRecOn with
  | _ n ih =>
    by_cases h : n = 0
    · subst h; exact absurd bl_0 hne
    · have e := bl_pos h
      by_cases h2 : n / 2 = 0
      · have : bl n = [n % 2] := by rw [e, h2, bl_0]
        simp only [this, List.getLast_singleton]; omega
      · have hr : bl (n / 2) ≠ [] := by rw [bl_pos h2]; simp
        have : (bl n).getLast hne = (bl (n / 2)).getLast hr := by
          have : ∀ (xs : List Nat) (hx : xs ≠ []), xs = n % 2 :: bl (n / 2) → xs.getLast hx = (bl (n / 2)).getLast hr := by
            intro xs hx hxs; subst hxs; rw [List.getLast_cons hr]
          exact this _ hne e
        rw [this]; exact ih _ (by omega) hr
theorem length_bl_lt (n k : Nat) : (bl n).length ≤ k ↔ n < 2 ^ k := by
  constructor
  · intro h
    have h1 := val_lt (bits_bl n)
    rw [val_bl] at h1
    exact Nat.lt_of_lt_of_le h1 (Nat.pow_le_pow_right (by decide) h)
  · intro h
    by_cases hne : bl n = []
    · simp [hne]
    · have h1 := val_ge_last hne (last_bl n hne)
      rw [val_bl] at h1
      have h2 : 2 ^ ((bl n).length - 1) < 2 ^ k := Nat.lt_of_le_of_lt h1 h
      have := (Nat.pow_lt_pow_iff_right (a := 2) (by decide)).1 h2
      have := List.length_pos_iff.2 hne
      omega
theorem take_snoc {α : Type} (xs : List α) (k : Nat) (h : k < xs.length) : xs.take (k + 1) = xs.take k ++ [xs[k]] := List.take_succ_eq_append_getElem h
theorem val_take_succ (xs : List Nat) (k : Nat) (h : k < xs.length) : val (xs.take (k + 1)) = val (xs.take k) + 2 ^ k * xs.getD k 0 := by
  rw [take_snoc xs k h, val_append]
  simp [val, List.length_take, Nat.min_eq_left (Nat.le_of_lt h), h]
theorem val_drop (xs : List Nat) (k : Nat) : val (xs.drop k) = xs.getD k 0 + 2 * val (xs.drop (k + 1)) := by
  by_cases h : k < xs.length
  · rw [List.drop_eq_getElem_cons h, val]; simp [h]
  · simp [List.drop_eq_nil_of_le (Nat.le_of_not_lt h), List.drop_eq_nil_of_le (Nat.le_succ_of_le (Nat.le_of_not_lt h)), val, List.getElem?_eq_none (Nat.le_of_not_lt h)]
/-- one nought less at the end -/
theorem val_take_pred (xs : List Nat) (n : Nat) (h0 : 0 < n) (h : n ≤ xs.length) (hz : xs.getD (n - 1) 0 = 0) : val (xs.take (n - 1)) = val (xs.take n) := by
  have := val_take_succ xs (n - 1) (by omega)
  rw [show n - 1 + 1 = n from by omega, hz] at this
  omega
theorem take_is_bl {xs : List Nat} (hb : Bits xs) (n : Nat) (h : n ≤ xs.length) (hv : val (xs.take n) = val xs) (hz : n = 0 ∨ xs.getD (n - 1) 0 ≠ 0) : bl (val xs) = xs.take n := by
  rw [← hv]
  refine bl_val (fun b hb' => hb b (List.mem_of_mem_take hb')) fun hne => ?_
  rcases hz with rfl | hz
  · simp at hne
  · have hn : n ≠ 0 := fun e => by subst e; simp at hne
    rw [List.getLast_eq_getElem]
    simp only [List.length_take, Nat.min_eq_left h, List.getElem_take]
    rw [List.getD_eq_getElem?_getD, List.getElem?_eq_getElem (by omega)] at hz
    simpa using hz

/-- the bit at a place -/
def bit (x i : Nat) : Nat := x / 2 ^ i % 2
theorem bit_le (x i : Nat) : bit x i ≤ 1 := by unfold bit; omega
theorem getD_bl (n i : Nat) : (bl n).getD i 0 = bit n i := by
  induction n using Nat.strongRecOn generalizing i with
  | _ n ih =>
    by_cases h : n = 0
    · subst h; simp [bl_0, bit]
    · rw [bl_pos h]
      cases i with
      | zero => simp [bit]
      | succ i =>
        rw [List.getD_cons_succ, ih (n / 2) (by omega)]
        unfold bit
        rw [Nat.pow_succ, Nat.mul_comm, ← Nat.div_div_eq_div_mul]
theorem val_bits (x : Nat) : ∀ k, val ((List.range k).map (bit x)) = x % 2 ^ k
  | 0 => by simp [val, Nat.mod_one]
  | k + 1 => by
    rw [List.range_succ, List.map_append, val_append, val_bits x k]
    simp only [List.length_map, List.length_range, List.map_cons, List.map_nil, val, bit]
    rw [Nat.pow_succ, Nat.mod_mul, Nat.mul_zero, Nat.add_zero]

/-! lists of small numbers as ints in memory -/
def ints (xs : List Nat) : List Value := xs.map fun (n : Nat) => .int .i64 (n : Int)
theorem length_ints (xs : List Nat) : (ints xs).length = xs.length := by simp [ints]
theorem ints_at (xs : List Nat) (i : Nat) (h : i < xs.length) : (ints xs)[((i : Nat) : Int).toNat * 1]? = some (.int .i64 ((xs.getD i 0 : Nat) : Int)) := by
  simp [ints, h]
theorem ints_pred (xs : List Nat) (i : Nat) (h0 : 0 < i) (h : i ≤ xs.length) : (ints xs)[((i : Nat) - 1 : Int).toNat * 1]? = some (.int .i64 ((xs.getD (i - 1) 0 : Nat) : Int)) := by
  have : ((i : Nat) - 1 : Int).toNat = i - 1 := by omega
  rw [this]
  have h2 : i - 1 < xs.length := by omega
  simp [ints, h2]
theorem ints_take (xs : List Nat) (k : Nat) : (ints xs).take k = ints (xs.take k) := by simp [ints, List.map_take]
theorem ints_one (xs : List Nat) : ∀ u ∈ ints xs, u.oneCell' = true := by
  intro u hu
  simp only [ints, List.mem_map] at hu
  obtain ⟨n, _, rfl⟩ := hu
  rfl
/-- a list of ints comes back, its own -/
def RetI (xs : List Nat) (v : Value) (s : Seg) : Prop := ∃ A c, v = .slice A xs.length c ∧ OwnS s A xs.length c (ints xs) 3 1

/-! a list of ints that is filled from its head on -/
def mki (N : Nat) (f : Nat → Nat) (k : Nat) : List Value := (List.range N).map fun j => .int .i64 (if j < k then ((f j : Nat) : Int) else 0)
theorem length_mki (N : Nat) (f : Nat → Nat) (k : Nat) : (mki N f k).length = N := by simp [mki]
theorem mki_at (N : Nat) (f : Nat → Nat) (k : Nat) (v : Value) (h : v = .int .i64 ((f k : Nat) : Int)) : (mki N f k).set (0 + ((k : Nat) : Int).toNat * 1) v = mki N f (k + 1) := by
  subst h
  apply List.ext_getElem?
  intro j
  rw [List.getElem?_set]
  simp only [mki, List.length_map, List.length_range, Nat.zero_add, Int.toNat_natCast, Nat.mul_one, List.getElem?_map]
  by_cases hj : j < N
  · by_cases hk : k = j
    · subst hk; simp [hj]
    · simp [hk, hj]
      by_cases h1 : j < k
      · simp [h1, Nat.lt_succ_of_lt h1]
      · have : ¬ j < k + 1 := by omega
        simp [h1, this]
  · by_cases hk : k = j
    · subst hk; simp [hj]
    · simp [hk, hj]
theorem mki_0 (N : Nat) (f : Nat → Nat) : zeros [.int .i64 0] N = mki N f 0 := by
  rw [zeros_1]
  apply List.ext_getElem?
  intro j
  simp only [mki, List.getElem?_map, List.getElem?_replicate]
  by_cases hj : j < N <;> simp [hj]
theorem mki_all (N : Nat) (f : Nat → Nat) : mki N f N = ints ((List.range N).map f) := by
  simp only [mki, ints, List.map_map]
  apply List.map_congr_left
  intro j hj
  simp [List.mem_range.1 hj]
theorem bits_range (x N : Nat) : Bits ((List.range N).map (bit x)) := by
  intro b hb
  obtain ⟨j, _, rfl⟩ := List.mem_map.1 hb
  exact bit_le x j

/-! a bit out of its part -/
theorem bit_dg (x i : Nat) : dg x (i / 64) / 2 ^ (i % 64) % 2 = bit x i := by
  unfold dg bit
  have e : (18446744073709551616 : Nat) = 2 ^ 64 := rfl
  rw [e, ← Nat.pow_mul]
  have h1 : ∀ a m : Nat, m < 64 → a % 2 ^ 64 / 2 ^ m % 2 = a / 2 ^ m % 2 := by
    intro a m hm
    have : (2 : Nat) ^ 64 = 2 ^ m * 2 ^ (64 - m) := by rw [← Nat.pow_add]; congr 1; omega
    rw [this, Nat.mod_mul_right_div_self]
    have h2 : (2 : Nat) ^ (64 - m) = 2 * 2 ^ (63 - m) := by rw [show 64 - m = (63 - m) + 1 from by omega, Nat.pow_succ]; omega
    rw [h2, Nat.mod_mul_right_mod]
  rw [h1 _ _ (Nat.mod_lt _ (by decide)), Nat.div_div_eq_div_mul, ← Nat.pow_add]
  have := Nat.div_add_mod i 64
  rw [this]
theorem and1_wrap (z : Nat) : bits .and .i64 (IntKind.i64.wrap (z : Int)) 1 = ((z % 2 : Nat) : Int) := by
  have e1 : (BitVec.ofInt 64 (IntKind.i64.wrap (z : Int))).toNat = z % 18446744073709551616 := by
    rw [BitVec.toNat_ofInt, IntKind.wrap_i64]
    simp
    omega
  have e2 : (BitVec.ofInt 64 1).toNat = 1 := rfl
  show IntKind.i64.wrap ((BitVec.ofInt 64 (IntKind.i64.wrap (z : Int)) &&& BitVec.ofInt 64 1).toNat : Int) = _
  rw [BitVec.toNat_and, e1, e2, nat_mask1, IntWalk.i64_in]
  · congr 1; omega
  · omega
theorem wc_div (x i : Nat) (h : i < 256) : (wc x)[0 + ((i : Nat) / 64 : Int).toNat * 1]? = some (.int .u64 ((dg x (i / 64) : Nat) : Int)) := by
  have h1 : i / 64 < 4 := by omega
  have e : ((i : Nat) / 64 : Int).toNat = ((i / 64 : Nat) : Int).toNat := by omega
  rw [e]; exact wc_at x (i / 64) h1
theorem own_bits (x b : Nat) (hx : x < 115792089237316195423570985008687907853269984665640564039457584007913129639936) :
    OwnS [(b, Cel (ints ((List.range 256).map (bit x))) 3)] (some ⟨b, 0, none⟩) (bl x).length 256 (ints (bl x)) 3 1 := by
  have h0 : (bl x).length ≤ 256 := (length_bl_lt x 256).2 hx
  have h1 : OwnS [(b, Cel (ints ((List.range 256).map (bit x))) 3)] (some ⟨b, 0, none⟩) 256 256 (ints ((List.range 256).map (bit x))) 3 1 := by
    have := OwnS.mk (g := b) (rest := []) (cells := ints ((List.range 256).map (bit x))) (n := 256) (c := 256) (E := 3) (sz := 1) (by simp [ints]) (by decide) (by simp [ints]) (by decide)
    simpa using this
  have h2 := h1.take h0
  have h3 : ((List.range 256).map (bit x)).take (bl x).length = bl x := by
    apply List.ext_getElem?
    intro j
    rw [List.getElem?_take]
    by_cases hj : j < (bl x).length
    · rw [if_pos hj]
      have hj2 : j < 256 := by omega
      have := getD_bl x j
      rw [List.getD_eq_getElem?_getD, List.getElem?_eq_getElem hj] at this
      simp only [Option.getD_some] at this
      rw [List.getElem?_eq_getElem hj, this]
      simp [hj2]
    · rw [if_neg hj, List.getElem?_eq_none (by omega)]
  rw [Nat.mul_one, ints_take, h3] at h2
  exact h2

/-! parts and bits -/
theorem dg_eq (x j : Nat) : dg x j = x / 2 ^ (64 * j) % 2 ^ 64 := by
  unfold dg
  rw [show (18446744073709551616 : Nat) = 2 ^ 64 from rfl, ← Nat.pow_mul]
theorem mod_pow_succ (V i : Nat) : V % 2 ^ (i + 1) = V % 2 ^ i + 2 ^ i * bit V i := by
  unfold bit; rw [Nat.pow_succ, Nat.mod_mul]
theorem dg_or (V i : Nat) : dg (V % 2 ^ i) (i / 64) ||| (bit V i * 2 ^ (i % 64) % 18446744073709551616) = dg (V % 2 ^ (i + 1)) (i / 64) := by
  have hb := bit_le V i
  have hu : V % 2 ^ i < 2 ^ i := Nat.mod_lt _ (Nat.pow_pos (by decide))
  have hi := Nat.div_add_mod i 64
  have hr : i % 64 < 64 := Nat.mod_lt _ (by decide)
  rw [mod_pow_succ]
  generalize V % 2 ^ i = u at *
  generalize bit V i = b at *
  have hpi : (2 : Nat) ^ i = 2 ^ (64 * (i / 64)) * 2 ^ (i % 64) := by rw [← Nat.pow_add, hi]
  generalize i / 64 = j at *
  generalize i % 64 = r at *
  have hpr : 0 < (2 : Nat) ^ r := Nat.pow_pos (by decide)
  have hpj : 0 < (2 : Nat) ^ (64 * j) := Nat.pow_pos (by decide)
  have h64 : (2 : Nat) ^ 64 = 2 ^ r * 2 ^ (64 - r) := by rw [← Nat.pow_add]; congr 1; omega
  have hle : (2 : Nat) ^ (r + 1) ≤ 2 ^ 64 := Nat.pow_le_pow_right (by decide) (by omega)
  have hsucc : (2 : Nat) ^ (r + 1) = 2 * 2 ^ r := by rw [Nat.pow_succ]; omega
  have hq : u / 2 ^ (64 * j) < 2 ^ r := by rw [Nat.div_lt_iff_lt_mul hpj]; rw [hpi] at hu; rw [Nat.mul_comm]; exact hu
  have e1 : dg u j = u / 2 ^ (64 * j) := by rw [dg_eq, Nat.mod_eq_of_lt]; omega
  have hbr : b * 2 ^ r ≤ 2 ^ r := by
    have : b = 0 ∨ b = 1 := by omega
    rcases this with rfl | rfl <;> omega
  have e2 : b * 2 ^ r % 18446744073709551616 = b * 2 ^ r := by
    rw [Nat.mod_eq_of_lt]
    have : (18446744073709551616 : Nat) = 2 ^ 64 := rfl
    omega
  have e3 : dg (u + 2 ^ i * b) j = u / 2 ^ (64 * j) + b * 2 ^ r := by
    rw [dg_eq, hpi, Nat.mul_assoc, Nat.add_mul_div_left _ _ hpj, Nat.mod_eq_of_lt, Nat.mul_comm b]
    rw [Nat.mul_comm (2 ^ r) b]; omega
  rw [e1, e2, e3, Nat.or_comm, nat_join r _ _ (by rw [Nat.mul_mod_left]) hq]
  omega
theorem dg_other (V i j : Nat) (h : j ≠ i / 64) : dg (V % 2 ^ (i + 1)) j = dg (V % 2 ^ i) j := by
  have hb := bit_le V i
  have hu : V % 2 ^ i < 2 ^ i := Nat.mod_lt _ (Nat.pow_pos (by decide))
  rw [mod_pow_succ]
  generalize V % 2 ^ i = u at *
  generalize bit V i = b at *
  rw [dg_eq, dg_eq]
  rcases Nat.lt_or_ge j (i / 64) with hlt | hge
  · have hpi : (2 : Nat) ^ i = 2 ^ (64 * j) * (2 ^ 64 * 2 ^ (i - 64 * j - 64)) := by
      rw [← Nat.pow_add, ← Nat.pow_add]; congr 1; omega
    rw [hpi, Nat.mul_assoc, Nat.add_mul_div_left _ _ (Nat.pow_pos (by decide)), Nat.mul_assoc, Nat.add_mul_mod_self_left]
  · have hle : (2 : Nat) ^ (i + 1) ≤ 2 ^ (64 * j) := Nat.pow_le_pow_right (by decide) (by omega)
    have hs : (2 : Nat) ^ (i + 1) = 2 * 2 ^ i := by rw [Nat.pow_succ]; omega
    have hbr : 2 ^ i * b ≤ 2 ^ i := by
      have : b = 0 ∨ b = 1 := by omega
      rcases this with rfl | rfl <;> omega
    rw [Nat.div_eq_of_lt (by omega), Nat.div_eq_of_lt (by omega)]
theorem wc_or (V i : Nat) (h : i < 256) (v : Value) (hv : v = .int .u64 ((dg (V % 2 ^ i) (i / 64) ||| (bit V i * 2 ^ (i % 64) % 18446744073709551616) : Nat) : Int)) :
    (wc (V % 2 ^ i)).set (0 + ((i : Nat) / 64 : Int).toNat * 1) v = wc (V % 2 ^ (i + 1)) := by
  subst hv
  rw [dg_or]
  have e : ((i : Nat) / 64 : Int).toNat = i / 64 := by omega
  rw [e]
  have h4 : i / 64 = 0 ∨ i / 64 = 1 ∨ i / 64 = 2 ∨ i / 64 = 3 := by omega
  have o := fun j hj => dg_other V i j hj
  rcases h4 with e4 | e4 | e4 | e4 <;> simp only [e4, wc, Nat.zero_add, Nat.mul_one, List.set_cons_zero, List.set_cons_succ]
  · rw [o 1 (by omega), o 2 (by omega), o 3 (by omega)]
  · rw [o 0 (by omega), o 2 (by omega), o 3 (by omega)]
  · rw [o 0 (by omega), o 1 (by omega), o 3 (by omega)]
  · rw [o 0 (by omega), o 1 (by omega), o 2 (by omega)]
theorem bl_at (n i : Nat) (h : i < (bl n).length) : (ints (bl n))[((i : Nat) : Int).toNat * 1]? = some (.int .i64 ((bit n i : Nat) : Int)) := by
  rw [← getD_bl]; exact ints_at _ _ h
theorem bl_pred (n i : Nat) (h0 : 0 < i) (h : i ≤ (bl n).length) : (ints (bl n))[((i : Nat) - 1 : Int).toNat * 1]? = some (.int .i64 ((bit n (i - 1) : Nat) : Int)) := by
  rw [← getD_bl]; exact ints_pred _ _ h0 h
/-- digits without their noughts at the end are the head of what they were -/
theorem bl_take {xs : List Nat} (hb : Bits xs) : bl (val xs) = xs.take (bl (val xs)).length := by
  have key : ∀ n, n ≤ xs.length → val (xs.take n) = val xs → ∃ k, k ≤ xs.length ∧ val (xs.take k) = val xs ∧ (k = 0 ∨ xs.getD (k - 1) 0 ≠ 0) := by
    intro n
    induction n with
    | zero => intro h hv; exact ⟨0, h, hv, .inl rfl⟩
    | succ n ih =>
      intro h hv
      by_cases hz : xs.getD n 0 = 0
      · exact ih (by omega) (by rw [← hv]; exact val_take_pred xs (n + 1) (by omega) h hz)
      · exact ⟨n + 1, h, hv, .inr hz⟩
  obtain ⟨k, hk, hv, hz⟩ := key xs.length (Nat.le_refl _) (by rw [List.take_length])
  have e := take_is_bl hb k hk hv hz
  have hl : (bl (val xs)).length = k := by rw [e, List.length_take]; omega
  rw [hl, e]
theorem rd_cut {w : World} {A : Option Addr} {xs : List Nat} (h : Rd w A (ints xs)) (hb : Bits xs) : Rd w A (ints (bl (val xs))) := by
  rw [bl_take hb, ← ints_take]; exact h.sub _
theorem length_bl_le (xs : List Nat) (hb : Bits xs) : (bl (val xs)).length ≤ xs.length := by
  have := congrArg List.length (bl_take hb)
  rw [List.length_take] at this; omega
theorem mod_all (V : Nat) : V % 2 ^ (bl V).length = V := Nat.mod_eq_of_lt ((length_bl_lt V _).1 (Nat.le_refl _))
/-! comparing -/
def cmpN (x y : Nat) : Int := if x < y then -1 else if y < x then 1 else 0
theorem lt_of_length {x y : Nat} (h : (bl x).length < (bl y).length) : x < y := by
  have h1 := (length_bl_lt x (bl x).length).1 (Nat.le_refl _)
  rcases Nat.lt_or_ge y (2 ^ (bl x).length) with h2 | h2
  · have := (length_bl_lt y _).2 h2; omega
  · omega
theorem div_bit (x k : Nat) (h : 0 < k) : x / 2 ^ (k - 1) = 2 * (x / 2 ^ k) + bit x (k - 1) := by
  unfold bit
  have : x / 2 ^ k = x / 2 ^ (k - 1) / 2 := by rw [Nat.div_div_eq_div_mul, ← Nat.pow_succ]; congr 2; omega
  rw [this]; omega
theorem lt_of_bit {x y k : Nat} (h0 : 0 < k) (h : x / 2 ^ k = y / 2 ^ k) (hb : bit x (k - 1) < bit y (k - 1)) : x < y := by
  have h1 := div_bit x k h0
  have h2 := div_bit y k h0
  have h3 : x / 2 ^ (k - 1) < y / 2 ^ (k - 1) := by omega
  rcases Nat.lt_or_ge x y with h | h
  · exact h
  · exact absurd (Nat.div_le_div_right (c := 2 ^ (k - 1)) h) (by omega)
theorem same_div {x y k : Nat} (h0 : 0 < k) (h : x / 2 ^ k = y / 2 ^ k) (hb : bit x (k - 1) = bit y (k - 1)) : x / 2 ^ (k - 1) = y / 2 ^ (k - 1) := by
  rw [div_bit x k h0, div_bit y k h0, h, hb]
theorem same_top {x y : Nat} (h : (bl x).length = (bl y).length) : x / 2 ^ (bl x).length = y / 2 ^ (bl x).length := by
  rw [Nat.div_eq_of_lt ((length_bl_lt x _).1 (Nat.le_refl _)), Nat.div_eq_of_lt ((length_bl_lt y _).1 (by omega))]

/-! adding and taking away digit by digit -/
theorem val_snoc (xs : List Nat) (b : Nat) : val (xs ++ [b]) = val xs + 2 ^ xs.length * b := by rw [val_append]; simp [val]
/-- one round of the sum -/
theorem plus_step (out xs ys : List Nat) (k c T : Nat) (hl : out.length = k) (h : val out + 2 ^ k * (c + val (xs.drop k) + val (ys.drop k)) = T) :
    val (out ++ [(c + xs.getD k 0 + ys.getD k 0) % 2]) + 2 ^ (k + 1) * ((c + xs.getD k 0 + ys.getD k 0) / 2 + val (xs.drop (k + 1)) + val (ys.drop (k + 1))) = T := by
  rw [val_snoc, hl, ← h, val_drop xs k, val_drop ys k, Nat.pow_succ]
  generalize xs.getD k 0 = p
  generalize ys.getD k 0 = q
  generalize val (xs.drop (k + 1)) = u
  generalize val (ys.drop (k + 1)) = v
  have e : c + (p + 2 * u) + (q + 2 * v) = (c + p + q) % 2 + 2 * ((c + p + q) / 2 + u + v) := by omega
  generalize (c + p + q) % 2 = r at *
  generalize (c + p + q) / 2 + u + v = z at *
  rw [e, Nat.mul_add, Nat.mul_assoc]
  omega
theorem bits_snoc {xs : List Nat} (h : Bits xs) {b : Nat} (hb : b ≤ 1) : Bits (xs ++ [b]) := by
  intro c hc
  rcases List.mem_append.1 hc with hc | hc
  · exact h c hc
  · simp only [List.mem_singleton] at hc; omega
theorem bits_getD {xs : List Nat} (h : Bits xs) (k : Nat) : xs.getD k 0 ≤ 1 := by
  by_cases hk : k < xs.length
  · rw [List.getD_eq_getElem?_getD, List.getElem?_eq_getElem hk]; exact h _ (List.getElem_mem hk)
  · rw [List.getD_eq_getElem?_getD, List.getElem?_eq_none (by omega)]; simp
theorem getD_past (xs : List Nat) (k : Nat) (h : xs.length ≤ k) : xs.getD k 0 = 0 := by
  rw [List.getD_eq_getElem?_getD, List.getElem?_eq_none h]; rfl
theorem val_past (xs : List Nat) (k : Nat) (h : xs.length ≤ k) : val (xs.drop k) = 0 := by rw [List.drop_eq_nil_of_le h]; rfl
theorem ints_snoc (xs : List Nat) (b : Nat) : ints xs ++ [.int .i64 (b : Int)] = ints (xs ++ [b]) := by simp [ints]
theorem OwnS.cap {s : Seg} {A : Option Addr} {n c : Nat} {cells : List Value} {E : TypeId} {sz : Nat} (h : OwnS s A n c cells E sz) : c ≤ 9223372036854775807 := by
  rcases h.2.2 with ⟨_, h, _⟩ | ⟨_, _, _, _, _, h⟩
  · omega
  · exact h
theorem own_cut {s : Seg} {A : Option Addr} {n c : Nat} {xs : List Nat} (h : OwnS s A n c (ints xs) 3 1) (hl : xs.length = n) (hb : Bits xs) : OwnS s A (bl (val xs)).length c (ints (bl (val xs))) 3 1 := by
  have := h.take (k := (bl (val xs)).length) (by rw [← hl]; exact length_bl_le xs hb)
  rw [Nat.mul_one, ints_take, ← bl_take hb] at this
  exact this
theorem RetI.rd {xs : List Nat} {v : Value} {s : Seg} (h : RetI xs v s) : ∃ A c, v = .slice A xs.length c ∧ xs.length ≤ c ∧ c ≤ 9223372036854775807 ∧ OwnS s A xs.length c (ints xs) 3 1 := by
  obtain ⟨A, c, rfl, h⟩ := h
  exact ⟨A, c, rfl, h.2.1, h.cap, h⟩

/-! one round of the difference -/
theorem less_step (out xs ys : List Nat) (k q : Nat) (p : Nat) (hl : out.length = k) (hk : k < xs.length) (q' : Nat) (hp : (p : Int) = (xs.getD k 0 : Int) - q - (ys.getD k 0 : Int) + 2 * q')
    (h : val (xs.take k) + 2 ^ k * q = val out + val (ys.take k)) : val (xs.take (k + 1)) + 2 ^ (k + 1) * q' = val (out ++ [p]) + val (ys.take (k + 1)) := by
  rw [val_snoc, hl, val_take_succ xs k hk]
  have hy : val (ys.take (k + 1)) = val (ys.take k) + 2 ^ k * ys.getD k 0 := by
    by_cases h2 : k < ys.length
    · exact val_take_succ ys k h2
    · rw [List.take_of_length_le (by omega), List.take_of_length_le (by omega), getD_past ys k (by omega)]; omega
  rw [hy, Nat.pow_succ]
  generalize xs.getD k 0 = x at *
  generalize ys.getD k 0 = y at *
  have e : p + y + q = x + 2 * q' := by omega
  have e2 : 2 ^ k * (p + y + q) = 2 ^ k * (x + 2 * q') := by rw [e]
  simp only [Nat.mul_add, ← Nat.mul_assoc] at e2
  omega
theorem zeros_ints (n : Nat) : zeros [.int .i64 0] n = ints (List.replicate n 0) := by rw [zeros_1]; simp [ints]
theorem set_fill (o : List Nat) (k n p : Nat) (v : Value) (hv : v = .int .i64 (p : Int)) (hl : o.length = k) (hk : k < n) :
    (ints (o ++ List.replicate (n - k) 0)).set (0 + ((k : Nat) : Int).toNat * 1) v = ints ((o ++ [p]) ++ List.replicate (n - (k + 1)) 0) := by
  subst hv; subst hl
  have e : n - o.length = (n - (o.length + 1)) + 1 := by omega
  rw [e, List.replicate_succ]
  simp [ints]
theorem own_full (b : Nat) (o : List Nat) (h : o.length ≤ 9223372036854775807) : OwnS [(b, Cel (ints o) 3)] (some ⟨b, 0, none⟩) o.length o.length (ints o) 3 1 := by
  have := OwnS.mk (g := b) (rest := []) (cells := ints o) (n := o.length) (c := o.length) (E := 3) (sz := 1) (by simp [ints]) (Nat.le_refl _) (by simp [ints]) h
  simpa using this
theorem less_end (o : List Nat) (x y q : Nat) (hl : o.length = (bl x).length) (hb : Bits o) (hq : q ≤ 1) (hyx : y ≤ x)
    (h : val ((bl x).take (bl x).length) + 2 ^ (bl x).length * q = val o + val ((bl y).take (bl x).length)) : val o = x - y := by
  have h1 : (bl y).length ≤ (bl x).length := by
    rw [length_bl_lt]; exact Nat.lt_of_le_of_lt hyx ((length_bl_lt x _).1 (Nat.le_refl _))
  rw [List.take_length, List.take_of_length_le h1, val_bl, val_bl] at h
  have h2 := val_lt hb
  rw [hl] at h2
  have : q = 0 ∨ q = 1 := by omega
  rcases this with rfl | rfl <;> omega
end Go.Fw

/- '==' on arrays and structs. No condition beyond each lemma's own. -/
namespace Go.Fw
section
variable {P : Program} {w : World} {T E : TypeId} {len d n : Nat}
theorem forIn_all {α : Type} (c : α → Bool) (body : α → Option Bool × Unit → Sem (ForInStep (Option Bool × Unit))) : ∀ (l : List α),
    (∀ i ∈ l, (body i (none, ())).run P w = .ok (if c i then .yield (none, ()) else .done (some false, ())) w) →
    (forIn l (none, ()) body).run P w = .ok (if l.all c then (none, ()) else (some false, ())) w
  | [], _ => by simp
  | i :: l, h => by
    have h1 := h i (by simp)
    have ih := forIn_all c body l fun j hj => h j (by simp [hj])
    simp only [List.forIn_cons, Sem.run_bind, h1, Result.andThen_ok]
    cases hc : c i
    · simp [hc]
    · simp [hc, ih]
def EqOk (P : Program) (d : Nat) (T : TypeId) (x y : Value) (b : Bool) : Prop := ∀ w, (Op.equalIn d T x y).run P w = .ok b w
theorem eq_int {k : IntKind} (hT : P.underlying T = some (.int k)) (a b : Int) : EqOk P (d + 1) T (.int k a) (.int k b) (decide (a = b)) := by
  intro w
  rw [Op.equalIn]
  simp only [Sem.run_bind, run_underlying hT, Result.andThen_ok, if_true, Sem.run_pure]
  rfl
theorem eq_bool (hT : P.underlying T = some .bool) (a b : Bool) : EqOk P (d + 1) T (.bool a) (.bool b) (decide (a = b)) := by
  intro w
  rw [Op.equalIn]
  simp only [Sem.run_bind, run_underlying hT, Result.andThen_ok, Sem.run_pure]
  rfl
theorem run_part1 (h : oneT P E = true) {cs : Array Value} {off : Nat} {v : Value} (hv : cs[off]? = some v) : (part E cs off).run P w = .ok v w := by
  simp only [part, Sem.run_bind, run_isAgg_one h, Result.andThen_ok, Bool.false_eq_true, if_false, hv, Sem.run_pure]
theorem run_partA (h : aggT P E = true) (hs : szT P E n) {cs : Array Value} {off : Nat} : (part E cs off).run P w = .ok (.agg (cs.extract off (off + n))) w := by
  simp only [part, Sem.run_bind, run_isAgg_agg h, Result.andThen_ok, if_true, run_sizeOf' hs, Sem.run_pure]
theorem eq_arr (hT : P.underlying T = some (.array len E)) (hs : szT P E n) (xs ys : Array Value) (c : Nat → Bool) (u v : Nat → Value)
    (hx : ∀ i, i < len → ∀ w, (part E xs (i * n)).run P w = .ok (u i) w) (hy : ∀ i, i < len → ∀ w, (part E ys (i * n)).run P w = .ok (v i) w) (hc : ∀ i, i < len → EqOk P d E (u i) (v i) (c i)) :
    EqOk P (d + 1) T (.agg xs) (.agg ys) ((List.range len).all c) := by
  intro w
  rw [Op.equalIn]
  simp only [Sem.run_bind, run_underlying hT, Result.andThen_ok, run_sizeOf' hs]
  rw [Std.Legacy.Range.forIn_eq_forIn_range']
  have hr : List.range' ([:len] : Std.Legacy.Range).start ([:len] : Std.Legacy.Range).size ([:len] : Std.Legacy.Range).step = List.range len := by
    simp [Std.Legacy.Range.size, List.range_eq_range']
  rw [hr, forIn_all c]
  · cases (List.range len).all c <;> rfl
  · intro i hi
    have hi := List.mem_range.1 hi
    simp only [Sem.run_bind, hx i hi, hy i hi, Result.andThen_ok, hc i hi w]
    cases c i <;> rfl
variable {ρ : Operand → Value} {dst : Option Tmp} {ty : TypeId} {pos : String} {af : Array Edge} {g : Option (Nat × Bool)} {x y : Operand} {T' : TypeId}
theorem R.eqlB {T' : TypeId} {b c : Bool} (hx : ρ x = .bool b) (hy : ρ y = .bool c) (hT : P.underlying T = some .bool) :
    (execOp ρ ⟨dst, .binOp .eql T x y T', ty, pos, af, g⟩).run P w = .ok (.value (.bool (decide (b = c)))) w := by
  have he : (Op.equal T (.bool b) (.bool c)).run P w = .ok (decide (b = c)) w := eq_bool hT b c w
  simp only [execOp, hx, hy, eqGuard, binOp, he, Sem.run_bind, Sem.run_pure, Result.andThen_ok, Bool.not_true, Bool.false_eq_true, if_false]
theorem R.neqB {T' : TypeId} {b c : Bool} (hx : ρ x = .bool b) (hy : ρ y = .bool c) (hT : P.underlying T = some .bool) :
    (execOp ρ ⟨dst, .binOp .neq T x y T', ty, pos, af, g⟩).run P w = .ok (.value (.bool (decide (b ≠ c)))) w := by
  have he : (Op.equal T (.bool b) (.bool c)).run P w = .ok (decide (b = c)) w := eq_bool hT b c w
  simp only [execOp, hx, hy, eqGuard, binOp, he, Sem.run_bind, Sem.run_pure, Result.andThen_ok, Bool.not_true, Bool.false_eq_true, if_false]
  simp
theorem R.eqlAgg {xs ys : Array Value} {b : Bool} (hx : ρ x = .agg xs) (hy : ρ y = .agg ys) (hE : EqOk P Op.maxDepth T (.agg xs) (.agg ys) b) (hG : P.eqGuardType P.depth T = false) :
    (execOp ρ ⟨dst, .binOp .eql T x y T', ty, pos, af, g⟩).run P w = .ok (.value (.bool b)) w := by
  have hg : (eqGuard .eql T x y (.agg xs) (.agg ys)).run P w = .ok () w := by
    simp [eqGuard, hG, Sem.run_bind, Result.andThen_ok]
  simp only [execOp, hx, hy, hg, binOp, Op.equal, hE w, Sem.run_bind, Sem.run_pure, Result.andThen_ok]
theorem R.neqAgg {xs ys : Array Value} {b : Bool} (hx : ρ x = .agg xs) (hy : ρ y = .agg ys) (hE : EqOk P Op.maxDepth T (.agg xs) (.agg ys) b) (hG : P.eqGuardType P.depth T = false) :
    (execOp ρ ⟨dst, .binOp .neq T x y T', ty, pos, af, g⟩).run P w = .ok (.value (.bool (!b))) w := by
  have hg : (eqGuard .neq T x y (.agg xs) (.agg ys)).run P w = .ok () w := by
    simp [eqGuard, hG, Sem.run_bind, Result.andThen_ok]
  simp only [execOp, hx, hy, hg, binOp, Op.equal, hE w, Sem.run_bind, Sem.run_pure, Result.andThen_ok]
end
theorem wide_parts (x : Nat) (hx : x < 115792089237316195423570985008687907853269984665640564039457584007913129639936) :
    x = dg x 0 + 18446744073709551616 * (dg x 1 + 18446744073709551616 * (dg x 2 + 18446744073709551616 * dg x 3)) := by
  have e1 : x / 340282366920938463463374607431768211456 = x / 18446744073709551616 / 18446744073709551616 := by rw [Nat.div_div_eq_div_mul]
  have e2 : x / 6277101735386680763835789423207666416102355444464034512896 = x / 18446744073709551616 / 18446744073709551616 / 18446744073709551616 := by rw [Nat.div_div_eq_div_mul, Nat.div_div_eq_div_mul]
  rw [dg0, dg1, dg2, dg3, e1, e2]
  omega
theorem wide_ext {x y : Nat} (hx : x < 115792089237316195423570985008687907853269984665640564039457584007913129639936) (hy : y < 115792089237316195423570985008687907853269984665640564039457584007913129639936)
    (h : ∀ i, i < 4 → dg x i = dg y i) : x = y := by
  rw [wide_parts x hx, wide_parts y hy, h 0 (by decide), h 1 (by decide), h 2 (by decide), h 3 (by decide)]
end Go.Fw
namespace Go.Proofs.Ytlapmbkfmbkdoaa
open Go Go.Fw
theorem eg31 : Try.prog.eqGuardType Try.prog.depth 31 = false := by kernel_rfl
theorem eqW29 {d : Nat} (x y : Nat) (hx : x < 115792089237316195423570985008687907853269984665640564039457584007913129639936) (hy : y < 115792089237316195423570985008687907853269984665640564039457584007913129639936) :
    EqOk Try.prog (d + 2) 31 (wv x) (wv y) (decide (x = y)) := by
  have h : EqOk Try.prog (d + 2) 31 (wv x) (wv y) ((List.range 4).all fun i => decide (((dg x i : Nat) : Int) = ((dg y i : Nat) : Int))) := by
    refine eq_arr (u := fun i => .int .u64 ((dg x i : Nat) : Int)) (v := fun i => .int .u64 ((dg y i : Nat) : Int)) Try.underlying31 sz29 _ _ _ ?_ ?_ ?_
    · intro i hi w
      refine run_part1 one29 ?_
      have := wc_at x i hi
      simpa using this
    · intro i hi w
      refine run_part1 one29 ?_
      have := wc_at y i hi
      simpa using this
    · intro i hi
      exact eq_int Try.underlying29 _ _
  have e : ((List.range 4).all fun i => decide (((dg x i : Nat) : Int) = ((dg y i : Nat) : Int))) = decide (x = y) := by
    by_cases hxy : x = y
    · subst hxy; simp
    · rw [decide_eq_false hxy]
      cases hb : ((List.range 4).all fun i => decide (((dg x i : Nat) : Int) = ((dg y i : Nat) : Int))) with
      | false => rfl
      | true =>
        rw [List.all_eq_true] at hb
        exact absurd (wide_ext hx hy fun i hi => by
          have := of_decide_eq_true (hb i (List.mem_range.2 hi))
          omega) hxy
  rw [← e]; exact h
theorem R.eqlW {ρ : Operand → Value} {dst : Option Tmp} {ty : TypeId} {pos : String} {af : Array Edge} {g : Option (Nat × Bool)} {a b : Operand} {T' : TypeId} {w : World} {x y : Nat}
    (ha : ρ a = wv x) (hb : ρ b = wv y) (hx : x < 115792089237316195423570985008687907853269984665640564039457584007913129639936) (hy : y < 115792089237316195423570985008687907853269984665640564039457584007913129639936) :
    (execOp ρ ⟨dst, .binOp .eql 31 a b T', ty, pos, af, g⟩).run Try.prog w = .ok (.value (.bool (decide (x = y)))) w :=
  R.eqlAgg ha hb (eqW29 (d := 9998) x y hx hy) eg31
theorem R.neqW {ρ : Operand → Value} {dst : Option Tmp} {ty : TypeId} {pos : String} {af : Array Edge} {g : Option (Nat × Bool)} {a b : Operand} {T' : TypeId} {w : World} {x y : Nat}
    (ha : ρ a = wv x) (hb : ρ b = wv y) (hx : x < 115792089237316195423570985008687907853269984665640564039457584007913129639936) (hy : y < 115792089237316195423570985008687907853269984665640564039457584007913129639936) :
    (execOp ρ ⟨dst, .binOp .neq 31 a b T', ty, pos, af, g⟩).run Try.prog w = .ok (.value (.bool (decide (¬ x = y)))) w :=
  R.as (R.neqAgg ha hb (eqW29 (d := 9998) x y hx hy) eg31) (by simp)
end Go.Proofs.Ytlapmbkfmbkdoaa
namespace Go.Fw
/-! differences part by part -/
def bw (x y k : Nat) : Nat := if x % 18446744073709551616 ^ k < y % 18446744073709551616 ^ k then 1 else 0
theorem bw_le (x y k : Nat) : bw x y k ≤ 1 := by unfold bw; split <;> omega
theorem bw_0 (x y : Nat) : bw x y 0 = 0 := by simp [bw, Nat.mod_one]
theorem bw_succ (x y k : Nat) : bw x y (k + 1) = if dg x k < dg y k + bw x y k then 1 else 0 := by
  have h1 := mod_succ x k
  have h2 := mod_succ y k
  have hp := pow_pos' k
  unfold bw
  rw [h1, h2]
  have hx := Nat.mod_lt x hp
  have hy := Nat.mod_lt y hp
  generalize x % 18446744073709551616 ^ k = xr at *
  generalize y % 18446744073709551616 ^ k = yr at *
  generalize 18446744073709551616 ^ k = p at *
  generalize dg x k = a at *
  generalize dg y k = b at *
  have key : a * p + xr < b * p + yr ↔ a < b + (if xr < yr then 1 else 0) := by
    constructor
    · intro h
      rcases Nat.lt_or_ge a b with hab | hab
      · omega
      · have hm : b * p ≤ a * p := Nat.mul_le_mul_right _ hab
        have : xr < yr := by omega
        rw [if_pos this]
        rcases Nat.lt_or_ge b a with h3 | h3
        · have h4 : (b + 1) * p ≤ a * p := Nat.mul_le_mul_right _ h3
          rw [Nat.add_mul] at h4; omega
        · omega
    · intro h
      split at h
      · rename_i h3
        have hm : a * p ≤ b * p := Nat.mul_le_mul_right _ (by omega)
        omega
      · have h4 : (a + 1) * p ≤ b * p := Nat.mul_le_mul_right _ (by omega)
        rw [Nat.add_mul] at h4; omega
  by_cases h : a * p + xr < b * p + yr
  · rw [if_pos h, if_pos (key.1 h)]
  · rw [if_neg h, if_neg (fun h' => h (key.2 h'))]
theorem dg_sub (x y k : Nat) (hk : k < 4) (hy : y < 115792089237316195423570985008687907853269984665640564039457584007913129639936) :
    dg (x + 115792089237316195423570985008687907853269984665640564039457584007913129639936 - y) k = (dg x k + 18446744073709551616 - dg y k - bw x y k) % 18446744073709551616 := by
  have hM : (115792089237316195423570985008687907853269984665640564039457584007913129639936 : Nat) = 18446744073709551616 ^ k * (18446744073709551616 * 18446744073709551616 ^ (3 - k)) := by
    have : k = 0 ∨ k = 1 ∨ k = 2 ∨ k = 3 := by omega
    rcases this with rfl | rfl | rfl | rfl <;> rfl
  have hp := pow_pos' k
  have hdy := dg_lt y k
  have hbw := bw_le x y k
  generalize 18446744073709551616 ^ (3 - k) = m at *
  generalize hMM : (115792089237316195423570985008687907853269984665640564039457584007913129639936 : Nat) = M at *
  have hx1 := Nat.div_add_mod x (18446744073709551616 ^ k)
  have hy1 := Nat.div_add_mod y (18446744073709551616 ^ k)
  have hxr := Nat.mod_lt x hp
  have hyr := Nat.mod_lt y hp
  have hyq : y / 18446744073709551616 ^ k < 18446744073709551616 * m := by
    rw [Nat.div_lt_iff_lt_mul hp, Nat.mul_comm, ← hM]; exact hy
  have hq : (x + M - y) / 18446744073709551616 ^ k = x / 18446744073709551616 ^ k + 18446744073709551616 * m - y / 18446744073709551616 ^ k - bw x y k := by
    unfold bw
    generalize 18446744073709551616 ^ k = p at *
    generalize x / p = xq at *
    generalize y / p = yq at *
    generalize x % p = xr at *
    generalize y % p = yr at *
    generalize 18446744073709551616 * m = t at *
    subst hM
    have hle : yq * p ≤ t * p := Nat.mul_le_mul_right _ (by omega)
    rw [Nat.mul_comm p xq] at hx1
    rw [Nat.mul_comm p yq] at hy1
    split
    · rename_i h
      have e : x + p * t - y = (xr + p - yr) + p * (xq + t - yq - 1) := by
        have h5 : p * (xq + t - yq - 1) + p + yq * p = xq * p + t * p := by
          have : xq + t = (xq + t - yq - 1) + 1 + yq := by omega
          have h6 := congrArg (· * p) this
          simp only [Nat.add_mul] at h6
          rw [Nat.mul_comm p]; omega
        rw [Nat.mul_comm p t]
        omega
      rw [e, Nat.add_mul_div_left _ _ hp, Nat.div_eq_of_lt (by omega)]; omega
    · rename_i h
      have e : x + p * t - y = (xr - yr) + p * (xq + t - yq) := by
        have h5 : p * (xq + t - yq) + yq * p = xq * p + t * p := by
          have : xq + t = (xq + t - yq) + yq := by omega
          have h6 := congrArg (· * p) this
          simp only [Nat.add_mul] at h6
          rw [Nat.mul_comm p]; omega
        rw [Nat.mul_comm p t]
        omega
      rw [e, Nat.add_mul_div_left _ _ hp, Nat.div_eq_of_lt (by omega)]; omega
  unfold dg at *
  rw [hq]
  generalize x / 18446744073709551616 ^ k = xq at *
  generalize y / 18446744073709551616 ^ k = yq at *
  omega
theorem dg_addM (z k : Nat) (hk : k < 4) : dg (z + 115792089237316195423570985008687907853269984665640564039457584007913129639936) k = dg z k := by
  have : k = 0 ∨ k = 1 ∨ k = 2 ∨ k = 3 := by omega
  rcases this with rfl | rfl | rfl | rfl <;> simp only [dg0, dg1, dg2, dg3] <;> omega
theorem wc_addM (z : Nat) : wc (z + 115792089237316195423570985008687907853269984665640564039457584007913129639936) = wc z := by
  simp only [wc, dg_addM z 0 (by decide), dg_addM z 1 (by decide), dg_addM z 2 (by decide), dg_addM z 3 (by decide)]
theorem bw_4 (x y : Nat) (hx : x < 115792089237316195423570985008687907853269984665640564039457584007913129639936) (hy : y < 115792089237316195423570985008687907853269984665640564039457584007913129639936) :
    bw x y 4 = if x < y then 1 else 0 := by
  unfold bw
  rw [show (18446744073709551616 : Nat) ^ 4 = 115792089237316195423570985008687907853269984665640564039457584007913129639936 from rfl, Nat.mod_eq_of_lt hx, Nat.mod_eq_of_lt hy]
end Go.Fw

/- The calls of cut and digits: binary digits of a number, for every number below 2^256. -/
namespace Go.Proofs.Ytlapmbkfmbkdoaa
open Go Go.Fw Go.RowKit
attribute [local irreducible] Go.Oper.wp Go.Code.wp Go.wpList Go.Fw.WL Go.Calls
end Go.Proofs.Ytlapmbkfmbkdoaa

/- test -/
namespace Go.Proofs.Ytlapmbkfmbkdoaa
open Go Go.Fw Go.RowKit
attribute [local irreducible] Go.Oper.wp Go.Code.wp Go.wpList Go.Fw.WL Go.Calls
end Go.Proofs.Ytlapmbkfmbkdoaa

/- test -/
namespace Go.Proofs.Ytlapmbkfmbkdoaa
open Go Go.Fw Go.RowKit
attribute [local irreducible] Go.Oper.wp Go.Code.wp Go.wpList Go.Fw.WL Go.Calls
end Go.Proofs.Ytlapmbkfmbkdoaa

/- test -/
namespace Go.Proofs.Ytlapmbkfmbkdoaa
open Go Go.Fw Go.RowKit
attribute [local irreducible] Go.Oper.wp Go.Code.wp Go.wpList Go.Fw.WL Go.Calls
theorem len_bl {x : Nat} (hx : x < 115792089237316195423570985008687907853269984665640564039457584007913129639936) : (bl x).length ≤ 256 := (length_bl_lt x 256).2 hx
def addW (x y : Nat) : Value := .tuple #[wv (if x + y < 115792089237316195423570985008687907853269984665640564039457584007913129639936 then x + y else 0), .int .i64 (if x + y < 115792089237316195423570985008687907853269984665640564039457584007913129639936 then 0 else 22)]
def subW (x y : Nat) : Value := .tuple #[wv (if y ≤ x then x - y else 0), .int .i64 (if y ≤ x then 0 else 23)]

end Go.Proofs.Ytlapmbkfmbkdoaa

/- The calls of wide.Add, wide.Sub, wide.IsZero, for every number below 2^256. -/
namespace Go.Proofs.Ytlapmbkfmbkdoaa
open Go Go.Fw Go.RowKit
attribute [local irreducible] Go.Oper.wp Go.Code.wp Go.wpList Go.Fw.WL Go.Calls
theorem add_calls (x y : Nat) (w0 : World) (hx : x < 115792089237316195423570985008687907853269984665640564039457584007913129639936) (hy : y < 115792089237316195423570985008687907853269984665640564039457584007913129639936) : Ret Try.prog 81 [wv x, wv y] w0 [] (fun v s => v = addW x y ∧ s = []) := by
  refine fn_start Try.func81 rfl Try.ntmps81 rfl [(0, wv x), (1, wv y)] ⟨rfl, rfl, trivial⟩ ?_
  intro Q a hP hF hR hN
  have hS := St.start w0
  refine wp_seq_k fun K1 hK1 => ?_
  refine wp_region_lit ?_
  refine so (wn rfl) (O.box rfl rfl hF (hF.ev rfl) rfl hS fun b2 a w hF hS => ?_)
  refine so (wn rfl) (O.box rfl rfl hF (hF.ev rfl) rfl hS fun b3 a w hF hS => ?_)
  refine so (wn rfl) (O.alloc rfl rfl hF ze31 rfl hS fun b4 a w hF hS => ?_)
  refine sv' hF (wn rfl) rfl rfl (R.assign (hF.ev rfl)) fun a hF => ?_
  refine s0 ?_
  refine then_n (hK1 _ _ ?_)
  refine wp_seq_k fun K2 hK2 => ?_
  refine wp_region_lit ?_
  refine so (wn rfl) (O.alloc rfl rfl hF ze31 rfl hS fun b6 a w hF hS => ?_)
  refine s0 ?_
  refine then_n (hK2 _ _ ?_)
  refine wp_seq_k fun K3 hK3 => ?_
  refine wp_region_lit ?_
  refine sv' hF (wn rfl) rfl rfl (R.assign (hF.ev rfl)) fun a hF => ?_
  refine s0 ?_
  refine then_n (hK3 _ _ ?_)
  refine wp_seq_k fun K4 hK4 => ?_
  refine wp_seq_k fun K5 hK5 => ?_
  refine wp_region_lit ?_
  refine sv' hF (wn rfl) rfl rfl (R.move (hF.ev rfl)) fun a hF => ?_
  refine s0 ?_
  refine then_n (hK5 _ _ ?_)
  refine wp_block ?_
  refine wp_loop_N (fun g a w => ∃ (k : Nat), 4 - k = g ∧ Fr 30 [(2, .pointer (some ⟨b2, 0, none⟩)), (3, .pointer (some ⟨b3, 0, none⟩)), (4, .pointer (some ⟨b4, 0, none⟩)), (6, .pointer (some ⟨b6, 0, none⟩)), (7, .int .u64 (cy x y k : Nat)), (9, .int .i64 (k : Nat))] a ∧ St w0 [] [[(b6, Cel (mkc 4 (dg (x + y)) k) 31)], [(b4, Cel ([.int .u64 0, .int .u64 0, .int .u64 0, .int .u64 0]) 31)], [(b3, Cel (wc y) 31)], [(b2, Cel (wc x) 31)]] w ∧ (k ≤ 4)) (4 - 0) ?_ ?_
  · exact ⟨0, rfl, hF.sub ⟨rfl, rfl, rfl, rfl, (by rw [cy_0]; rfl), rfl, trivial⟩, hS.sel [0, 1, 2, 3] rfl rfl, by omega⟩
  · rintro KL1 g a w ⟨k, hg1, hF, hS, hk⟩ hKL1
    refine wp_seq_k fun K6 hK6 => ?_
    refine wp_region_lit ?_
    refine sv' hF (wn rfl) rfl rfl (R.lss (hF.ev rfl) (hF.ev rfl)) fun a hF => ?_
    refine s0 ?_
    refine then_n (hK6 _ _ ?_)
    refine wp_seq_k fun K7 hK7 => ?_
    refine cD hF rfl (fun c1 => ?_) (fun c1 => ?_)
    ·
      refine wp_skip ?_
      refine then_n (hK7 _ _ ?_)
      refine wp_seq_k fun K8 hK8 => ?_
      refine wp_block ?_
      refine wp_seq_k fun K9 hK9 => ?_
      refine wp_region_lit ?_
      refine sv' hF (wn rfl) rfl rfl (R.move (hF.ev rfl)) fun a hF => ?_
      refine sv' hF (wn rfl) rfl rfl (R.assign (hF.ev rfl)) fun a hF => ?_
      refine s0 ?_
      refine then_n (hK9 _ _ ?_)
      refine wp_drawS hS [(0, 0), (1, 0), (2, 0), (3, 1), (4, 0), (5, 0), (6, 1), (7, 0), (8, 0), (9, 0), (10, 0), (11, 0), (12, 0), (13, 3), (14, 0)] mix (by kernel_rfl) (hP.then.block.then.then.block) fun w hS => ?_
      have hD := hS
      refine dq hF rfl (wn rfl) rfl rfl (fun w => R.move (hF.ev rfl)) fun a hF => ?_
      refine dq hF rfl (wn rfl) rfl rfl (fun w => R.move (hF.ev rfl)) fun a hF => ?_
      refine dq hF rfl (wn rfl) rfl rfl (fun w => R.indexA Try.underlying31 sz29 (hF.ev rfl) (hF.ev rfl) (by omega) (by omega)) fun a hF => ?_
      refine dr hF rfl (wn rfl) rfl rfl hD (fun w hD => R.load one29 (hF.ev rfl) hD (.t (.t (.t .h))) (wc_at x k (by omega))) fun a hF => ?_
      refine dq hF rfl (wn rfl) rfl rfl (fun w => R.move (hF.ev rfl)) fun a hF => ?_
      refine dq hF rfl (wn rfl) rfl rfl (fun w => R.indexA Try.underlying31 sz29 (hF.ev rfl) (hF.ev rfl) (by omega) (by omega)) fun a hF => ?_
      refine dr hF rfl (wn rfl) rfl rfl hD (fun w hD => R.load one29 (hF.ev rfl) hD (.t (.t .h)) (wc_at y k (by omega))) fun a hF => ?_
      refine dq hF rfl (wn rfl) rfl rfl (fun w => R.move (hF.ev rfl)) fun a hF => ?_
      refine dq hF rfl (wn rfl) rfl rfl (fun w => R.extern (hF.evs rfl) (x95 (dg x k) (dg y k) (cy x y k) (cy_le x y k) w)) fun a hF => ?_
      refine dq hF rfl (wn rfl) rfl rfl (fun w => R.move (hF.ev rfl)) fun a hF => ?_
      refine dq hF rfl (wn rfl) rfl rfl (fun w => R.extract (hF.ev rfl) rfl) fun a hF => ?_
      refine dq hF rfl (wn rfl) rfl rfl (fun w => R.extract (hF.ev rfl) rfl) fun a hF => ?_
      refine dq hF rfl (wn rfl) rfl rfl (fun w => R.indexA Try.underlying31 sz29 (hF.ev rfl) (hF.ev rfl) (by omega) (by omega)) fun a hF => ?_
      refine dw rfl (wn rfl) (O.store sz29 (hF.ev rfl) (hF.ev rfl) rfl rfl hS .h (mkc_at 4 (dg (x + y)) k _ (by rw [dg_add])) (by simp only [length_mkc]; omega) fun w hS => ?_)
      refine dq hF rfl (wn rfl) rfl rfl (fun w => R.assign (hF.ev rfl)) fun a hF => ?_
      refine d0 ?_
      refine blk_n ?_
      refine then_n (hK8 _ _ ?_)
      refine wp_region_lit ?_
      refine sv' hF (wn rfl) rfl rfl (R.addI (hF.ev rfl) (hF.ev rfl) (by omega)) fun a hF => ?_
      refine sv' hF (wn rfl) rfl rfl (R.move (hF.ev rfl)) fun a hF => ?_
      refine s0 ?_
      refine then_n (hKL1 (4 - (k + 1)) _ _ ?_ ?_)
      · omega
      · exact ⟨k + 1, rfl, hF.sub ⟨rfl, rfl, rfl, rfl, (by rw [cy_succ]; rfl), rfl, trivial⟩, hS.sel [0, 1, 2, 3] rfl rfl, by omega⟩
    ·
      obtain rfl : k = 4 := by omega
      rw [show mkc 4 (dg (x + y)) 4 = wc (x + y) from rfl] at hS
      refine wp_exit (then_x (then_x (blk_hit ?_)))
      refine then_n (hK4 _ _ ?_)
      refine wp_seq_k fun K10 hK10 => ?_
      refine wp_seq_k fun K11 hK11 => ?_
      refine wp_region_lit ?_
      refine sv' hF (wn rfl) rfl rfl (R.move (hF.ev rfl)) fun a hF => ?_
      refine sv' hF (wn rfl) rfl rfl (R.gtr (hF.ev rfl) (hF.ev rfl)) fun a hF => ?_
      refine s0 ?_
      refine then_n (hK11 _ _ ?_)
      refine cD hF rfl (fun c2 => ?_) (fun c2 => ?_)
      ·
        have e : ¬ (x + y < 115792089237316195423570985008687907853269984665640564039457584007913129639936) := by have := cy_4 x y hx hy; omega
        refine wp_seq_k fun K12 hK12 => ?_
        refine wp_region_lit ?_
        refine sv' hF (wn rfl) rfl rfl (R.buildArr (l := [_, _, _, _]) Try.underlying31 ze31 sz29 (hF.evp rfl) rfl) fun a hF => ?_
        refine so (wn rfl) (O.storeW sz31 (hF.ev rfl) (hF.ev rfl) rfl rfl (by simp [Value.oneCell']) hS (.t .h) rfl fun w hS => ?_)
        refine sv' hF (wn rfl) rfl rfl (R.assign (hF.ev rfl)) fun a hF => ?_
        refine s0 ?_
        refine then_n (hK12 _ _ ?_)
        refine wp_ret (then_r (hR _ _ _ _ _ hF (run_results Try.results81 (.cw hF rfl agg31 hS (.t .h) sz31 rfl (.t hF rfl (.nil)))) ?_))
        exact ⟨_, [], rfl, ⟨by simp only [addW, if_neg e]; rfl, rfl⟩, hS.none⟩
      ·
        have e : x + y < 115792089237316195423570985008687907853269984665640564039457584007913129639936 := by have := cy_4 x y hx hy; omega
        refine wp_skip ?_
        refine then_n (hK10 _ _ ?_)
        refine wp_seq_k fun K13 hK13 => ?_
        refine wp_region_lit ?_
        refine sv' hF (wn rfl) rfl rfl (R.loadW agg31 (hF.ev rfl) hS .h sz31 rfl) fun a hF => ?_
        refine so (wn rfl) (O.storeW sz31 (hF.ev rfl) (hF.ev rfl) rfl rfl (by simp [Value.oneCell']) hS (.t .h) rfl fun w hS => ?_)
        refine sv' hF (wn rfl) rfl rfl (R.assign (hF.ev rfl)) fun a hF => ?_
        refine s0 ?_
        refine then_n (hK13 _ _ ?_)
        refine wp_ret (hR _ _ _ _ _ hF (run_results Try.results81 (.cw hF rfl agg31 hS (.t .h) sz31 rfl (.t hF rfl (.nil)))) ?_)
        exact ⟨_, [], rfl, ⟨by simp only [addW, if_pos e]; rfl, rfl⟩, hS.none⟩

theorem sub_calls (x y : Nat) (w0 : World) (hx : x < 115792089237316195423570985008687907853269984665640564039457584007913129639936) (hy : y < 115792089237316195423570985008687907853269984665640564039457584007913129639936) : Ret Try.prog 82 [wv x, wv y] w0 [] (fun v s => v = subW x y ∧ s = []) := by
  refine fn_start Try.func82 rfl Try.ntmps82 rfl [(0, wv x), (1, wv y)] ⟨rfl, rfl, trivial⟩ ?_
  intro Q a hP hF hR hN
  have hS := St.start w0
  refine wp_seq_k fun K1 hK1 => ?_
  refine wp_region_lit ?_
  refine so (wn rfl) (O.box rfl rfl hF (hF.ev rfl) rfl hS fun b2 a w hF hS => ?_)
  refine so (wn rfl) (O.box rfl rfl hF (hF.ev rfl) rfl hS fun b3 a w hF hS => ?_)
  refine so (wn rfl) (O.alloc rfl rfl hF ze31 rfl hS fun b4 a w hF hS => ?_)
  refine sv' hF (wn rfl) rfl rfl (R.assign (hF.ev rfl)) fun a hF => ?_
  refine s0 ?_
  refine then_n (hK1 _ _ ?_)
  refine wp_seq_k fun K2 hK2 => ?_
  refine wp_region_lit ?_
  refine so (wn rfl) (O.alloc rfl rfl hF ze31 rfl hS fun b6 a w hF hS => ?_)
  refine s0 ?_
  refine then_n (hK2 _ _ ?_)
  refine wp_seq_k fun K3 hK3 => ?_
  refine wp_region_lit ?_
  refine sv' hF (wn rfl) rfl rfl (R.assign (hF.ev rfl)) fun a hF => ?_
  refine s0 ?_
  refine then_n (hK3 _ _ ?_)
  refine wp_seq_k fun K4 hK4 => ?_
  refine wp_seq_k fun K5 hK5 => ?_
  refine wp_region_lit ?_
  refine sv' hF (wn rfl) rfl rfl (R.move (hF.ev rfl)) fun a hF => ?_
  refine s0 ?_
  refine then_n (hK5 _ _ ?_)
  refine wp_block ?_
  refine wp_loop_N (fun g a w => ∃ (k : Nat), 4 - k = g ∧ Fr 30 [(2, .pointer (some ⟨b2, 0, none⟩)), (3, .pointer (some ⟨b3, 0, none⟩)), (4, .pointer (some ⟨b4, 0, none⟩)), (6, .pointer (some ⟨b6, 0, none⟩)), (7, .int .u64 (bw x y k : Nat)), (9, .int .i64 (k : Nat))] a ∧ St w0 [] [[(b6, Cel (mkc 4 (dg (x + 115792089237316195423570985008687907853269984665640564039457584007913129639936 - y)) k) 31)], [(b4, Cel ([.int .u64 0, .int .u64 0, .int .u64 0, .int .u64 0]) 31)], [(b3, Cel (wc y) 31)], [(b2, Cel (wc x) 31)]] w ∧ (k ≤ 4)) (4 - 0) ?_ ?_
  · exact ⟨0, rfl, hF.sub ⟨rfl, rfl, rfl, rfl, (by rw [bw_0]; rfl), rfl, trivial⟩, hS.sel [0, 1, 2, 3] rfl rfl, by omega⟩
  · rintro KL1 g a w ⟨k, hg1, hF, hS, hk⟩ hKL1
    refine wp_seq_k fun K6 hK6 => ?_
    refine wp_region_lit ?_
    refine sv' hF (wn rfl) rfl rfl (R.lss (hF.ev rfl) (hF.ev rfl)) fun a hF => ?_
    refine s0 ?_
    refine then_n (hK6 _ _ ?_)
    refine wp_seq_k fun K7 hK7 => ?_
    refine cD hF rfl (fun c1 => ?_) (fun c1 => ?_)
    ·
      refine wp_skip ?_
      refine then_n (hK7 _ _ ?_)
      refine wp_seq_k fun K8 hK8 => ?_
      refine wp_block ?_
      refine wp_seq_k fun K9 hK9 => ?_
      refine wp_region_lit ?_
      refine sv' hF (wn rfl) rfl rfl (R.move (hF.ev rfl)) fun a hF => ?_
      refine sv' hF (wn rfl) rfl rfl (R.assign (hF.ev rfl)) fun a hF => ?_
      refine s0 ?_
      refine then_n (hK9 _ _ ?_)
      refine wp_drawS hS [(0, 0), (1, 0), (2, 0), (3, 1), (4, 0), (5, 0), (6, 1), (7, 0), (8, 0), (9, 0), (10, 0), (11, 0), (12, 0), (13, 3), (14, 0)] mix (by kernel_rfl) (hP.then.block.then.then.block) fun w hS => ?_
      have hD := hS
      refine dq hF rfl (wn rfl) rfl rfl (fun w => R.move (hF.ev rfl)) fun a hF => ?_
      refine dq hF rfl (wn rfl) rfl rfl (fun w => R.move (hF.ev rfl)) fun a hF => ?_
      refine dq hF rfl (wn rfl) rfl rfl (fun w => R.indexA Try.underlying31 sz29 (hF.ev rfl) (hF.ev rfl) (by omega) (by omega)) fun a hF => ?_
      refine dr hF rfl (wn rfl) rfl rfl hD (fun w hD => R.load one29 (hF.ev rfl) hD (.t (.t (.t .h))) (wc_at x k (by omega))) fun a hF => ?_
      refine dq hF rfl (wn rfl) rfl rfl (fun w => R.move (hF.ev rfl)) fun a hF => ?_
      refine dq hF rfl (wn rfl) rfl rfl (fun w => R.indexA Try.underlying31 sz29 (hF.ev rfl) (hF.ev rfl) (by omega) (by omega)) fun a hF => ?_
      refine dr hF rfl (wn rfl) rfl rfl hD (fun w hD => R.load one29 (hF.ev rfl) hD (.t (.t .h)) (wc_at y k (by omega))) fun a hF => ?_
      refine dq hF rfl (wn rfl) rfl rfl (fun w => R.move (hF.ev rfl)) fun a hF => ?_
      refine dq hF rfl (wn rfl) rfl rfl (fun w => R.extern (hF.evs rfl) (x96 (dg x k) (dg y k) (bw x y k) (bw_le x y k) w)) fun a hF => ?_
      refine dq hF rfl (wn rfl) rfl rfl (fun w => R.move (hF.ev rfl)) fun a hF => ?_
      refine dq hF rfl (wn rfl) rfl rfl (fun w => R.extract (hF.ev rfl) rfl) fun a hF => ?_
      refine dq hF rfl (wn rfl) rfl rfl (fun w => R.extract (hF.ev rfl) rfl) fun a hF => ?_
      refine dq hF rfl (wn rfl) rfl rfl (fun w => R.indexA Try.underlying31 sz29 (hF.ev rfl) (hF.ev rfl) (by omega) (by omega)) fun a hF => ?_
      refine dw rfl (wn rfl) (O.store sz29 (hF.ev rfl) (hF.ev rfl) rfl rfl hS .h (mkc_at 4 (dg (x + 115792089237316195423570985008687907853269984665640564039457584007913129639936 - y)) k _ (by rw [dg_sub x y k (by omega) hy])) (by simp only [length_mkc]; omega) fun w hS => ?_)
      refine dq hF rfl (wn rfl) rfl rfl (fun w => R.assign (hF.ev rfl)) fun a hF => ?_
      refine d0 ?_
      refine blk_n ?_
      refine then_n (hK8 _ _ ?_)
      refine wp_region_lit ?_
      refine sv' hF (wn rfl) rfl rfl (R.addI (hF.ev rfl) (hF.ev rfl) (by omega)) fun a hF => ?_
      refine sv' hF (wn rfl) rfl rfl (R.move (hF.ev rfl)) fun a hF => ?_
      refine s0 ?_
      refine then_n (hKL1 (4 - (k + 1)) _ _ ?_ ?_)
      · omega
      · exact ⟨k + 1, rfl, hF.sub ⟨rfl, rfl, rfl, rfl, (by rw [bw_succ]; rfl), rfl, trivial⟩, hS.sel [0, 1, 2, 3] rfl rfl, by omega⟩
    ·
      obtain rfl : k = 4 := by omega
      rw [show mkc 4 (dg (x + 115792089237316195423570985008687907853269984665640564039457584007913129639936 - y)) 4 = wc (x + 115792089237316195423570985008687907853269984665640564039457584007913129639936 - y) from rfl] at hS
      refine wp_exit (then_x (then_x (blk_hit ?_)))
      refine then_n (hK4 _ _ ?_)
      refine wp_seq_k fun K10 hK10 => ?_
      refine wp_seq_k fun K11 hK11 => ?_
      refine wp_region_lit ?_
      refine sv' hF (wn rfl) rfl rfl (R.move (hF.ev rfl)) fun a hF => ?_
      refine sv' hF (wn rfl) rfl rfl (R.gtr (hF.ev rfl) (hF.ev rfl)) fun a hF => ?_
      refine s0 ?_
      refine then_n (hK11 _ _ ?_)
      refine cD hF rfl (fun c2 => ?_) (fun c2 => ?_)
      ·
        have e : ¬ (y ≤ x) := by have := bw_4 x y hx hy; split at this <;> omega
        refine wp_seq_k fun K12 hK12 => ?_
        refine wp_region_lit ?_
        refine sv' hF (wn rfl) rfl rfl (R.buildArr (l := [_, _, _, _]) Try.underlying31 ze31 sz29 (hF.evp rfl) rfl) fun a hF => ?_
        refine so (wn rfl) (O.storeW sz31 (hF.ev rfl) (hF.ev rfl) rfl rfl (by simp [Value.oneCell']) hS (.t .h) rfl fun w hS => ?_)
        refine sv' hF (wn rfl) rfl rfl (R.assign (hF.ev rfl)) fun a hF => ?_
        refine s0 ?_
        refine then_n (hK12 _ _ ?_)
        refine wp_ret (then_r (hR _ _ _ _ _ hF (run_results Try.results82 (.cw hF rfl agg31 hS (.t .h) sz31 rfl (.t hF rfl (.nil)))) ?_))
        exact ⟨_, [], rfl, ⟨by simp only [subW, if_neg e]; rfl, rfl⟩, hS.none⟩
      ·
        have e : y ≤ x := by have := bw_4 x y hx hy; split at this <;> omega
        have e2 : x + 115792089237316195423570985008687907853269984665640564039457584007913129639936 - y = (x - y) + 115792089237316195423570985008687907853269984665640564039457584007913129639936 := by omega
        rw [e2, wc_addM] at hS
        refine wp_skip ?_
        refine then_n (hK10 _ _ ?_)
        refine wp_seq_k fun K13 hK13 => ?_
        refine wp_region_lit ?_
        refine sv' hF (wn rfl) rfl rfl (R.loadW agg31 (hF.ev rfl) hS .h sz31 rfl) fun a hF => ?_
        refine so (wn rfl) (O.storeW sz31 (hF.ev rfl) (hF.ev rfl) rfl rfl (by simp [Value.oneCell']) hS (.t .h) rfl fun w hS => ?_)
        refine sv' hF (wn rfl) rfl rfl (R.assign (hF.ev rfl)) fun a hF => ?_
        refine s0 ?_
        refine then_n (hK13 _ _ ?_)
        refine wp_ret (hR _ _ _ _ _ hF (run_results Try.results82 (.cw hF rfl agg31 hS (.t .h) sz31 rfl (.t hF rfl (.nil)))) ?_)
        exact ⟨_, [], rfl, ⟨by simp only [subW, if_pos e]; rfl, rfl⟩, hS.none⟩

theorem isZero_calls (x : Nat) (w0 : World) (hx : x < 115792089237316195423570985008687907853269984665640564039457584007913129639936) : Ret Try.prog 87 [wv x] w0 [] (fun v s => v = .bool (decide (x = 0)) ∧ s = []) := by
  refine fn_start Try.func87 rfl Try.ntmps87 rfl [(0, wv x)] ⟨rfl, trivial⟩ ?_
  intro Q a hP hF hR hN
  have hS := St.start w0
  refine wp_seq_k fun K1 hK1 => ?_
  refine wp_region_lit ?_
  refine so (wn rfl) (O.box rfl rfl hF (hF.ev rfl) rfl hS fun b1 a w hF hS => ?_)
  refine sv' hF (wn rfl) rfl rfl (R.assign (hF.ev rfl)) fun a hF => ?_
  refine s0 ?_
  refine then_n (hK1 _ _ ?_)
  refine wp_seq_k fun K2 hK2 => ?_
  refine wp_region_lit ?_
  refine sv' hF (wn rfl) rfl rfl (R.loadW agg31 (hF.ev rfl) hS .h sz31 rfl) fun a hF => ?_
  refine sv' hF (wn rfl) rfl rfl (R.buildArr (l := [_, _, _, _]) Try.underlying31 ze31 sz29 (hF.evp rfl) rfl) fun a hF => ?_
  refine sv' hF (wn rfl) rfl rfl (R.eqlW (x := x) (y := 0) (hF.ev rfl) (hF.ev rfl) hx (by decide)) fun a hF => ?_
  refine sv' hF (wn rfl) rfl rfl (R.assign (hF.ev rfl)) fun a hF => ?_
  refine s0 ?_
  refine then_n (hK2 _ _ ?_)
  refine wp_ret (hR _ _ _ _ _ hF (run_results Try.results87 (.t hF rfl (.nil))) ?_)
  exact ⟨_, [], rfl, ⟨rfl, rfl⟩, hS.none⟩

end Go.Proofs.Ytlapmbkfmbkdoaa
