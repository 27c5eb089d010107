/- '==' on arrays and structs. No condition beyond each lemma's own. -/
import Derived.Test.YthgecfjpacebeaaJ
namespace Go.Fw
section
variable {P : Program} {w : World} {T E : TypeId} {len d n : Nat}
theorem forIn_all {α : Type} (c : α → Bool) (body : α → Option Bool × Unit → Sem (ForInStep (Option Bool × Unit))) : ∀ (l : List α),
    (∀ i ∈ l, (body i (none, ())).run P w = .ok (if c i then .yield (none, ()) else .done (some false, ())) w) →
    (forIn l (none, ()) body).run P w = .ok (if l.all c then (none, ()) else (some false, ())) w
  | [], _ => by simp
  | i :: l, h => by
    have h1 := h i (by simp)
    have ih := forIn_all c body l fun j hj => h j (by simp [hj])
    simp only [List.forIn_cons, Sem.run_bind, h1, Result.andThen_ok]
    cases hc : c i
    · simp [hc]
    · simp [hc, ih]
def EqOk (P : Program) (d : Nat) (T : TypeId) (x y : Value) (b : Bool) : Prop := ∀ w, (Op.equalIn d T x y).run P w = .ok b w
theorem eq_int {k : IntKind} (hT : P.underlying T = some (.int k)) (a b : Int) : EqOk P (d + 1) T (.int k a) (.int k b) (decide (a = b)) := by
  intro w
  rw [Op.equalIn]
  simp only [Sem.run_bind, run_underlying hT, Result.andThen_ok, if_true, Sem.run_pure]
  rfl
theorem eq_bool (hT : P.underlying T = some .bool) (a b : Bool) : EqOk P (d + 1) T (.bool a) (.bool b) (decide (a = b)) := by
  intro w
  rw [Op.equalIn]
  simp only [Sem.run_bind, run_underlying hT, Result.andThen_ok, Sem.run_pure]
  rfl
theorem run_part1 (h : oneT P E = true) {cs : Array Value} {off : Nat} {v : Value} (hv : cs[off]? = some v) : (part E cs off).run P w = .ok v w := by
  simp only [part, Sem.run_bind, run_isAgg_one h, Result.andThen_ok, Bool.false_eq_true, if_false, hv, Sem.run_pure]
theorem run_partA (h : aggT P E = true) (hs : szT P E n) {cs : Array Value} {off : Nat} : (part E cs off).run P w = .ok (.agg (cs.extract off (off + n))) w := by
  simp only [part, Sem.run_bind, run_isAgg_agg h, Result.andThen_ok, if_true, run_sizeOf' hs, Sem.run_pure]
theorem eq_arr (hT : P.underlying T = some (.array len E)) (hs : szT P E n) (xs ys : Array Value) (c : Nat → Bool) (u v : Nat → Value)
    (hx : ∀ i, i < len → ∀ w, (part E xs (i * n)).run P w = .ok (u i) w) (hy : ∀ i, i < len → ∀ w, (part E ys (i * n)).run P w = .ok (v i) w) (hc : ∀ i, i < len → EqOk P d E (u i) (v i) (c i)) :
    EqOk P (d + 1) T (.agg xs) (.agg ys) ((List.range len).all c) := by
  intro w
  rw [Op.equalIn]
  simp only [Sem.run_bind, run_underlying hT, Result.andThen_ok, run_sizeOf' hs]
  rw [Std.Legacy.Range.forIn_eq_forIn_range']
  have hr : List.range' ([:len] : Std.Legacy.Range).start ([:len] : Std.Legacy.Range).size ([:len] : Std.Legacy.Range).step = List.range len := by
    simp [Std.Legacy.Range.size, List.range_eq_range']
  rw [hr, forIn_all c]
  · cases (List.range len).all c <;> rfl
  · intro i hi
    have hi := List.mem_range.1 hi
    simp only [Sem.run_bind, hx i hi, hy i hi, Result.andThen_ok, hc i hi w]
    cases c i <;> rfl
variable {ρ : Operand → Value} {dst : Option Tmp} {ty : TypeId} {pos : String} {af : Array Edge} {g : Option (Nat × Bool)} {x y : Operand} {T' : TypeId}
theorem R.eqlB {T' : TypeId} {b c : Bool} (hx : ρ x = .bool b) (hy : ρ y = .bool c) (hT : P.underlying T = some .bool) :
    (execOp ρ ⟨dst, .binOp .eql T x y T', ty, pos, af, g⟩).run P w = .ok (.value (.bool (decide (b = c)))) w := by
  have he : (Op.equal T (.bool b) (.bool c)).run P w = .ok (decide (b = c)) w := eq_bool hT b c w
  simp only [execOp, hx, hy, eqGuard, binOp, he, Sem.run_bind, Sem.run_pure, Result.andThen_ok, Bool.not_true, Bool.false_eq_true, if_false]
theorem R.neqB {T' : TypeId} {b c : Bool} (hx : ρ x = .bool b) (hy : ρ y = .bool c) (hT : P.underlying T = some .bool) :
    (execOp ρ ⟨dst, .binOp .neq T x y T', ty, pos, af, g⟩).run P w = .ok (.value (.bool (decide (b ≠ c)))) w := by
  have he : (Op.equal T (.bool b) (.bool c)).run P w = .ok (decide (b = c)) w := eq_bool hT b c w
  simp only [execOp, hx, hy, eqGuard, binOp, he, Sem.run_bind, Sem.run_pure, Result.andThen_ok, Bool.not_true, Bool.false_eq_true, if_false]
  simp
theorem R.eqlAgg {xs ys : Array Value} {b : Bool} (hx : ρ x = .agg xs) (hy : ρ y = .agg ys) (hE : EqOk P Op.maxDepth T (.agg xs) (.agg ys) b) (hG : P.eqGuardType P.depth T = false) :
    (execOp ρ ⟨dst, .binOp .eql T x y T', ty, pos, af, g⟩).run P w = .ok (.value (.bool b)) w := by
  have hg : (eqGuard .eql T x y (.agg xs) (.agg ys)).run P w = .ok () w := by
    simp [eqGuard, hG, Sem.run_bind, Result.andThen_ok]
  simp only [execOp, hx, hy, hg, binOp, Op.equal, hE w, Sem.run_bind, Sem.run_pure, Result.andThen_ok]
theorem R.neqAgg {xs ys : Array Value} {b : Bool} (hx : ρ x = .agg xs) (hy : ρ y = .agg ys) (hE : EqOk P Op.maxDepth T (.agg xs) (.agg ys) b) (hG : P.eqGuardType P.depth T = false) :
    (execOp ρ ⟨dst, .binOp .neq T x y T', ty, pos, af, g⟩).run P w = .ok (.value (.bool (!b))) w := by
  have hg : (eqGuard .neq T x y (.agg xs) (.agg ys)).run P w = .ok () w := by
    simp [eqGuard, hG, Sem.run_bind, Result.andThen_ok]
  simp only [execOp, hx, hy, hg, binOp, Op.equal, hE w, Sem.run_bind, Sem.run_pure, Result.andThen_ok]
end
theorem wide_parts (x : Nat) (hx : x < 115792089237316195423570985008687907853269984665640564039457584007913129639936) :
    x = dg x 0 + 18446744073709551616 * (dg x 1 + 18446744073709551616 * (dg x 2 + 18446744073709551616 * dg x 3)) := by
  have e1 : x / 340282366920938463463374607431768211456 = x / 18446744073709551616 / 18446744073709551616 := by rw [Nat.div_div_eq_div_mul]
  have e2 : x / 6277101735386680763835789423207666416102355444464034512896 = x / 18446744073709551616 / 18446744073709551616 / 18446744073709551616 := by rw [Nat.div_div_eq_div_mul, Nat.div_div_eq_div_mul]
  rw [dg0, dg1, dg2, dg3, e1, e2]
  omega
theorem wide_ext {x y : Nat} (hx : x < 115792089237316195423570985008687907853269984665640564039457584007913129639936) (hy : y < 115792089237316195423570985008687907853269984665640564039457584007913129639936)
    (h : ∀ i, i < 4 → dg x i = dg y i) : x = y := by
  rw [wide_parts x hx, wide_parts y hy, h 0 (by decide), h 1 (by decide), h 2 (by decide), h 3 (by decide)]
end Go.Fw
namespace Go.Proofs.Ythgecfjpacebeaa
open Go Go.Fw
theorem eg29 : Try.prog.eqGuardType Try.prog.depth 29 = false := by kernel_rfl
theorem eqW29 {d : Nat} (x y : Nat) (hx : x < 115792089237316195423570985008687907853269984665640564039457584007913129639936) (hy : y < 115792089237316195423570985008687907853269984665640564039457584007913129639936) :
    EqOk Try.prog (d + 2) 29 (wv x) (wv y) (decide (x = y)) := by
  have h : EqOk Try.prog (d + 2) 29 (wv x) (wv y) ((List.range 4).all fun i => decide (((dg x i : Nat) : Int) = ((dg y i : Nat) : Int))) := by
    refine eq_arr (u := fun i => .int .u64 ((dg x i : Nat) : Int)) (v := fun i => .int .u64 ((dg y i : Nat) : Int)) Try.underlying29 sz27 _ _ _ ?_ ?_ ?_
    · intro i hi w
      refine run_part1 one27 ?_
      have := wc_at x i hi
      simpa using this
    · intro i hi w
      refine run_part1 one27 ?_
      have := wc_at y i hi
      simpa using this
    · intro i hi
      exact eq_int Try.underlying27 _ _
  have e : ((List.range 4).all fun i => decide (((dg x i : Nat) : Int) = ((dg y i : Nat) : Int))) = decide (x = y) := by
    by_cases hxy : x = y
    · subst hxy; simp
    · rw [decide_eq_false hxy]
      cases hb : ((List.range 4).all fun i => decide (((dg x i : Nat) : Int) = ((dg y i : Nat) : Int))) with
      | false => rfl
      | true =>
        rw [List.all_eq_true] at hb
        exact absurd (wide_ext hx hy fun i hi => by
          have := of_decide_eq_true (hb i (List.mem_range.2 hi))
          omega) hxy
  rw [← e]; exact h
theorem R.eqlW {ρ : Operand → Value} {dst : Option Tmp} {ty : TypeId} {pos : String} {af : Array Edge} {g : Option (Nat × Bool)} {a b : Operand} {T' : TypeId} {w : World} {x y : Nat}
    (ha : ρ a = wv x) (hb : ρ b = wv y) (hx : x < 115792089237316195423570985008687907853269984665640564039457584007913129639936) (hy : y < 115792089237316195423570985008687907853269984665640564039457584007913129639936) :
    (execOp ρ ⟨dst, .binOp .eql 29 a b T', ty, pos, af, g⟩).run Try.prog w = .ok (.value (.bool (decide (x = y)))) w :=
  R.eqlAgg ha hb (eqW29 (d := 9998) x y hx hy) eg29
theorem R.neqW {ρ : Operand → Value} {dst : Option Tmp} {ty : TypeId} {pos : String} {af : Array Edge} {g : Option (Nat × Bool)} {a b : Operand} {T' : TypeId} {w : World} {x y : Nat}
    (ha : ρ a = wv x) (hb : ρ b = wv y) (hx : x < 115792089237316195423570985008687907853269984665640564039457584007913129639936) (hy : y < 115792089237316195423570985008687907853269984665640564039457584007913129639936) :
    (execOp ρ ⟨dst, .binOp .neq 29 a b T', ty, pos, af, g⟩).run Try.prog w = .ok (.value (.bool (decide (¬ x = y)))) w :=
  R.as (R.neqAgg ha hb (eqW29 (d := 9998) x y hx hy) eg29) (by simp)
end Go.Proofs.Ythgecfjpacebeaa
namespace Go.Fw
/-! differences part by part -/
def bw (x y k : Nat) : Nat := if x % 18446744073709551616 ^ k < y % 18446744073709551616 ^ k then 1 else 0
theorem bw_le (x y k : Nat) : bw x y k ≤ 1 := by unfold bw; split <;> omega
theorem bw_0 (x y : Nat) : bw x y 0 = 0 := by simp [bw, Nat.mod_one]
theorem bw_succ (x y k : Nat) : bw x y (k + 1) = if dg x k < dg y k + bw x y k then 1 else 0 := by
  have h1 := mod_succ x k
  have h2 := mod_succ y k
  have hp := pow_pos' k
  unfold bw
  rw [h1, h2]
  have hx := Nat.mod_lt x hp
  have hy := Nat.mod_lt y hp
  generalize x % 18446744073709551616 ^ k = xr at *
  generalize y % 18446744073709551616 ^ k = yr at *
  generalize 18446744073709551616 ^ k = p at *
  generalize dg x k = a at *
  generalize dg y k = b at *
  have key : a * p + xr < b * p + yr ↔ a < b + (if xr < yr then 1 else 0) := by
    constructor
    · intro h
      rcases Nat.lt_or_ge a b with hab | hab
      · omega
      · have hm : b * p ≤ a * p := Nat.mul_le_mul_right _ hab
        have : xr < yr := by omega
        rw [if_pos this]
        rcases Nat.lt_or_ge b a with h3 | h3
        · have h4 : (b + 1) * p ≤ a * p := Nat.mul_le_mul_right _ h3
          rw [Nat.add_mul] at h4; omega
        · omega
    · intro h
      split at h
      · rename_i h3
        have hm : a * p ≤ b * p := Nat.mul_le_mul_right _ (by omega)
        omega
      · have h4 : (a + 1) * p ≤ b * p := Nat.mul_le_mul_right _ (by omega)
        rw [Nat.add_mul] at h4; omega
  by_cases h : a * p + xr < b * p + yr
  · rw [if_pos h, if_pos (key.1 h)]
  · rw [if_neg h, if_neg (fun h' => h (key.2 h'))]
theorem dg_sub (x y k : Nat) (hk : k < 4) (hy : y < 115792089237316195423570985008687907853269984665640564039457584007913129639936) :
    dg (x + 115792089237316195423570985008687907853269984665640564039457584007913129639936 - y) k = (dg x k + 18446744073709551616 - dg y k - bw x y k) % 18446744073709551616 := by
  have hM : (115792089237316195423570985008687907853269984665640564039457584007913129639936 : Nat) = 18446744073709551616 ^ k * (18446744073709551616 * 18446744073709551616 ^ (3 - k)) := by
    have : k = 0 ∨ k = 1 ∨ k = 2 ∨ k = 3 := by omega
    rcases this with rfl | rfl | rfl | rfl <;> rfl
  have hp := pow_pos' k
  have hdy := dg_lt y k
  have hbw := bw_le x y k
  generalize 18446744073709551616 ^ (3 - k) = m at *
  generalize hMM : (115792089237316195423570985008687907853269984665640564039457584007913129639936 : Nat) = M at *
  have hx1 := Nat.div_add_mod x (18446744073709551616 ^ k)
  have hy1 := Nat.div_add_mod y (18446744073709551616 ^ k)
  have hxr := Nat.mod_lt x hp
  have hyr := Nat.mod_lt y hp
  have hyq : y / 18446744073709551616 ^ k < 18446744073709551616 * m := by
    rw [Nat.div_lt_iff_lt_mul hp, Nat.mul_comm, ← hM]; exact hy
  have hq : (x + M - y) / 18446744073709551616 ^ k = x / 18446744073709551616 ^ k + 18446744073709551616 * m - y / 18446744073709551616 ^ k - bw x y k := by
    unfold bw
    generalize 18446744073709551616 ^ k = p at *
    generalize x / p = xq at *
    generalize y / p = yq at *
    generalize x % p = xr at *
    generalize y % p = yr at *
    generalize 18446744073709551616 * m = t at *
    subst hM
    have hle : yq * p ≤ t * p := Nat.mul_le_mul_right _ (by omega)
    rw [Nat.mul_comm p xq] at hx1
    rw [Nat.mul_comm p yq] at hy1
    split
    · rename_i h
      have e : x + p * t - y = (xr + p - yr) + p * (xq + t - yq - 1) := by
        have h5 : p * (xq + t - yq - 1) + p + yq * p = xq * p + t * p := by
          have : xq + t = (xq + t - yq - 1) + 1 + yq := by omega
          have h6 := congrArg (· * p) this
          simp only [Nat.add_mul] at h6
          rw [Nat.mul_comm p]; omega
        rw [Nat.mul_comm p t]
        omega
      rw [e, Nat.add_mul_div_left _ _ hp, Nat.div_eq_of_lt (by omega)]; omega
    · rename_i h
      have e : x + p * t - y = (xr - yr) + p * (xq + t - yq) := by
        have h5 : p * (xq + t - yq) + yq * p = xq * p + t * p := by
          have : xq + t = (xq + t - yq) + yq := by omega
          have h6 := congrArg (· * p) this
          simp only [Nat.add_mul] at h6
          rw [Nat.mul_comm p]; omega
        rw [Nat.mul_comm p t]
        omega
      rw [e, Nat.add_mul_div_left _ _ hp, Nat.div_eq_of_lt (by omega)]; omega
  unfold dg at *
  rw [hq]
  generalize x / 18446744073709551616 ^ k = xq at *
  generalize y / 18446744073709551616 ^ k = yq at *
  omega
theorem dg_addM (z k : Nat) (hk : k < 4) : dg (z + 115792089237316195423570985008687907853269984665640564039457584007913129639936) k = dg z k := by
  have : k = 0 ∨ k = 1 ∨ k = 2 ∨ k = 3 := by omega
  rcases this with rfl | rfl | rfl | rfl <;> simp only [dg0, dg1, dg2, dg3] <;> omega
theorem wc_addM (z : Nat) : wc (z + 115792089237316195423570985008687907853269984665640564039457584007913129639936) = wc z := by
  simp only [wc, dg_addM z 0 (by decide), dg_addM z 1 (by decide), dg_addM z 2 (by decide), dg_addM z 3 (by decide)]
theorem bw_4 (x y : Nat) (hx : x < 115792089237316195423570985008687907853269984665640564039457584007913129639936) (hy : y < 115792089237316195423570985008687907853269984665640564039457584007913129639936) :
    bw x y 4 = if x < y then 1 else 0 := by
  unfold bw
  rw [show (18446744073709551616 : Nat) ^ 4 = 115792089237316195423570985008687907853269984665640564039457584007913129639936 from rfl, Nat.mod_eq_of_lt hx, Nat.mod_eq_of_lt hy]
end Go.Fw
