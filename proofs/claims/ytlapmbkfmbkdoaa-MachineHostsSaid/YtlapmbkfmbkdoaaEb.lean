/- Shifts and bits of int; calls through values. No condition beyond each lemma's own. -/
import Derived.Test.YtlapmbkfmbkdoaaM5
import Derived.Test.YtlapmbkfmbkdoaaM4
import Derived.Test.YtlapmbkfmbkdoaaTa
namespace Go.Fw
open Go.RowKit
section
variable {P : Program} {w : World} {ρ : Operand → Value} {dst : Option Tmp} {ty : TypeId} {pos : String} {af : Array Edge} {g : Option (Nat × Bool)} {x y : Operand} {T T' : TypeId}
theorem i64_and_nat (a b : Nat) (ha : a < 9223372036854775808) (hb : b < 9223372036854775808) : bits .and .i64 (a : Int) (b : Int) = ((a &&& b : Nat) : Int) := by
  have hx : a &&& b < 2 ^ 63 := Nat.and_lt_two_pow _ (by omega)
  show IntKind.i64.wrap ((BitVec.ofInt 64 (a : Int) &&& BitVec.ofInt 64 (b : Int)).toNat : Int) = _
  rw [BitVec.toNat_and, ofInt_u64 a (by omega), ofInt_u64 b (by omega), IntWalk.i64_in _ (by omega)]
theorem i64_or_nat (a b : Nat) (ha : a < 9223372036854775808) (hb : b < 9223372036854775808) : bits .or .i64 (a : Int) (b : Int) = ((a ||| b : Nat) : Int) := by
  have hx : a ||| b < 2 ^ 63 := Nat.or_lt_two_pow (by omega) (by omega)
  show IntKind.i64.wrap ((BitVec.ofInt 64 (a : Int) ||| BitVec.ofInt 64 (b : Int)).toNat : Int) = _
  rw [BitVec.toNat_or, ofInt_u64 a (by omega), ofInt_u64 b (by omega), IntWalk.i64_in _ (by omega)]
theorem R.andI {p q : Nat} (hx : ρ x = .int .i64 p) (hy : ρ y = .int .i64 q) (hp : p < 9223372036854775808) (hq : q < 9223372036854775808) :
    (execOp ρ ⟨dst, .binOp .and T x y T', ty, pos, af, g⟩).run P w = .ok (.value (.int .i64 ((p &&& q : Nat) : Int))) w := R.as (R.and hx hy) (by rw [i64_and_nat p q hp hq])
theorem R.orI {p q : Nat} (hx : ρ x = .int .i64 p) (hy : ρ y = .int .i64 q) (hp : p < 9223372036854775808) (hq : q < 9223372036854775808) :
    (execOp ρ ⟨dst, .binOp .or T x y T', ty, pos, af, g⟩).run P w = .ok (.value (.int .i64 ((p ||| q : Nat) : Int))) w := R.as (R.or hx hy) (by rw [i64_or_nat p q hp hq])
theorem R.shlI {yk : IntKind} {p m : Nat} (hx : ρ x = .int .i64 p) (hy : ρ y = .int yk m) (hm : m ≤ 64) (hr : p * 2 ^ m < 9223372036854775808) :
    (execOp ρ ⟨dst, .binOp .shl T x y T', ty, pos, af, g⟩).run P w = .ok (.value (.int .i64 ((p * 2 ^ m : Nat) : Int))) w :=
  R.as (R.shift (.inl rfl) hx hy (by
    simp only [Op.shift]
    rw [if_neg (by omega)]
    rfl)) (by
    have : min (Int.toNat (m : Int)) (IntKind.bits .i64) = m := by simp [IntKind.bits]; omega
    rw [this, IntWalk.i64_in _ (by
      have e : ((p : Int) * 2 ^ m) = ((p * 2 ^ m : Nat) : Int) := by simp
      rw [e]; omega)]
    congr 1)
theorem R.shrI {yk : IntKind} {p m : Nat} (hx : ρ x = .int .i64 p) (hy : ρ y = .int yk m) (hm : m ≤ 64) :
    (execOp ρ ⟨dst, .binOp .shr T x y T', ty, pos, af, g⟩).run P w = .ok (.value (.int .i64 ((p / 2 ^ m : Nat) : Int))) w :=
  R.as (R.shift (.inr rfl) hx hy (by
    simp only [Op.shift]
    rw [if_neg (by omega)]
    rfl)) (by
    have : min (Int.toNat (m : Int)) (IntKind.bits .i64) = m := by simp [IntKind.bits]; omega
    rw [this]
    congr 1
    rw [Int.fdiv_eq_ediv_of_nonneg _ (by exact Int.le_of_lt (Int.pow_pos (by omega)))]
    simp)
end
end Go.Fw
