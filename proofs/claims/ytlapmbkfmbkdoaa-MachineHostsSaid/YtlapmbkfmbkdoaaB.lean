/- Steps: what single operations run to. No condition beyond each lemma's own. -/
import Derived.Test.YtlapmbkfmbkdoaaA
import Derived.Laws.BitsAllLaws
import Derived.IntWalk
namespace Go.Fw
open Go.RowKit

section
variable {P : Program} {ops : Array Oper} {Q : Exit → Act → World → Prop} {S : World → Prop} {a : Act} {w w' : World} {rest : List Oper} {r : List (Nat × Nat)} {o : Oper} {n i : Nat} {l : Env} {d : Nat} {v : Value} {K : Act → World → Prop}

/-! ### is it wanted -/
theorem wn (h : o.guard = none) : Region.wanted o (yielded ops a.tmps) = true := by simp [Region.wanted, h]
theorem wy (hF : Fr n l a) {j t : Nat} {b : Bool} (hg : o.guard = some (j, b)) (hj : (ops[j]?).bind (·.dst) = some t) (ht : look l t = some (.bool b)) :
    Region.wanted o (yielded ops a.tmps) = true := by
  simp [Region.wanted, hg, yields_of hF hj ht]
theorem ws (hF : Fr n l a) {j t : Nat} {b c : Bool} (hg : o.guard = some (j, b)) (hj : (ops[j]?).bind (·.dst) = some t) (ht : look l t = some (.bool c)) (hne : (c == b) = false) :
    Region.wanted o (yielded ops a.tmps) = false := by
  simp only [Region.wanted, hg, yields_of hF hj ht]
  cases b <;> cases c <;> simp_all

theorem wu (hF : Fr n l a) {j t : Nat} {b : Bool} (hg : o.guard = some (j, b)) (hj : (ops[j]?).bind (·.dst) = some t) (ht : look l t = some undef) :
    Region.wanted o (yielded ops a.tmps) = false := by
  have h := hF.get t _ ht
  have h2 : yielded ops a.tmps j = none := by
    rw [Array.getD_eq_getD_getElem?] at h
    cases hh : a.tmps[t]? with
    | none => simp [yielded, hj, hh]
    | some u =>
      rw [hh] at h
      simp only [Option.getD_some] at h
      subst h
      simp [yielded, hj, hh, undef]
  simp [Region.wanted, hg, h2]

/-! ### steps in the text's order -/
theorem so (hw : Region.wanted o (yielded ops a.tmps) = true) (h : o.wp P a w (wpList P ops Q rest) Q) : wpList P ops Q (o :: rest) a w := by
  unfold wpList; rw [if_pos hw]; exact .inl h
theorem sv' (hF : Fr n l a) (hw : Region.wanted o (yielded ops a.tmps) = true) (hd : o.dst = some d) (hn : Nat.blt d n = true) (hr : (execOp a.eval o).run P w = .ok (.value v) w)
    (h : ∀ a', Fr n ((d, v) :: l) a' → wpList P ops Q rest a' w) : wpList P ops Q (o :: rest) a w := so hw (O.val hF hd hn hr h)
theorem sk (hF : Fr n l a) (hw : Region.wanted o (yielded ops a.tmps) = false) (hd : o.dst = some d) (hn : Nat.blt d n = true)
    (h : ∀ a', Fr n ((d, undef) :: l) a' → wpList P ops Q rest a' w) : wpList P ops Q (o :: rest) a w := by
  unfold wpList; rw [if_neg (by simp [hw]), hd]; exact h _ (hF.put hn undef)
theorem sk0 (hw : Region.wanted o (yielded ops a.tmps) = false) (hd : o.dst = none)
    (h : wpList P ops Q rest a w) : wpList P ops Q (o :: rest) a w := by
  unfold wpList; rw [if_neg (by simp [hw]), hd]; exact h
theorem s0 (h : Q .normal a w) : wpList P ops Q [] a w := h

/-! ### steps in an order of our choice -/
theorem dq {K : Act → World → Prop} (hF : Fr n l a) (hi : ops[i]? = some o) (hw : Region.wanted o (yielded ops a.tmps) = true) (hd : o.dst = some d) (hn : Nat.blt d n = true)
    (hr : ∀ w, (execOp a.eval o).run P w = .ok (.value v) w) (h : ∀ a', Fr n ((d, v) :: l) a' → WL P ops Q S K r a' w) : WL P ops Q S K ((i, 0) :: r) a w :=
  ⟨o, hi, v, .inl ⟨hw, fun w _ => hr w⟩, by rw [hd]; exact h _ (hF.put hn v)⟩
theorem dr {K : Act → World → Prop} (hF : Fr n l a) (hi : ops[i]? = some o) (hw : Region.wanted o (yielded ops a.tmps) = true) (hd : o.dst = some d) (hn : Nat.blt d n = true) (hS : S w)
    (hr : ∀ w, S w → (execOp a.eval o).run P w = .ok (.value v) w) (h : ∀ a', Fr n ((d, v) :: l) a' → WL P ops Q S K r a' w) : WL P ops Q S K ((i, 1) :: r) a w :=
  ⟨o, hi, v, .inl ⟨hw, hr⟩, hS, by rw [hd]; exact h _ (hF.put hn v)⟩
theorem dl {K : Act → World → Prop} (hi : ops[i]? = some o) (hw : Region.wanted o (yielded ops a.tmps) = true) (h : o.wp P a w (fun a' w' => (S w → S w') ∧ WL P ops Q S K r a' w') Q) :
    WL P ops Q S K ((i, 2) :: r) a w := ⟨o, hi, by unfold wpOp; simp only [hi]; rw [if_pos hw]; exact .inl h⟩
theorem dw {K : Act → World → Prop} (hi : ops[i]? = some o) (hw : Region.wanted o (yielded ops a.tmps) = true) (h : o.wp P a w (WL P ops Q S K r) Q) :
    WL P ops Q S K ((i, 3) :: r) a w := ⟨o, hi, by unfold wpOp; simp only [hi]; rw [if_pos hw]; exact .inl h⟩
theorem dk {K : Act → World → Prop} (hF : Fr n l a) (hi : ops[i]? = some o) (hw : Region.wanted o (yielded ops a.tmps) = false) (hd : o.dst = some d) (hn : Nat.blt d n = true)
    (h : ∀ a', Fr n ((d, undef) :: l) a' → WL P ops Q S K r a' w) : WL P ops Q S K ((i, 0) :: r) a w :=
  ⟨o, hi, undef, .inr ⟨hw, rfl⟩, by rw [hd]; exact h _ (hF.put hn undef)⟩
theorem dk1 {K : Act → World → Prop} (hF : Fr n l a) (hi : ops[i]? = some o) (hw : Region.wanted o (yielded ops a.tmps) = false) (hd : o.dst = some d) (hn : Nat.blt d n = true) (hS : S w)
    (h : ∀ a', Fr n ((d, undef) :: l) a' → WL P ops Q S K r a' w) : WL P ops Q S K ((i, 1) :: r) a w :=
  ⟨o, hi, undef, .inr ⟨hw, rfl⟩, hS, by rw [hd]; exact h _ (hF.put hn undef)⟩
theorem dk2 {K : Act → World → Prop} (hF : Fr n l a) (hi : ops[i]? = some o) (hw : Region.wanted o (yielded ops a.tmps) = false) (hd : o.dst = some d) (hn : Nat.blt d n = true)
    (h : ∀ a', Fr n ((d, undef) :: l) a' → WL P ops Q S K r a' w) : WL P ops Q S K ((i, 2) :: r) a w :=
  ⟨o, hi, by unfold wpOp; simp only [hi]; rw [if_neg (by simp [hw]), hd]; exact ⟨fun h => h, h _ (hF.put hn undef)⟩⟩
theorem d0 {K : Act → World → Prop} (h : K a w) : WL P ops Q S K [] a w := h

/-! ### exits -/
theorem then_n {K : Act → World → Prop} (h : K a w) : Exit.then K Q .normal a w := h
theorem then_x {K : Act → World → Prop} {id : Nat} (h : Q (.exit id) a w) : Exit.then K Q (.exit id) a w := h
theorem then_r {K : Act → World → Prop} (h : Q .ret a w) : Exit.then K Q .ret a w := h
theorem blk_n {id : Nat} (h : Q .normal a w) : Exit.inBlock id Q .normal a w := h
theorem blk_hit {id : Nat} (h : Q .normal a w) : Exit.inBlock id Q (.exit id) a w := by simp only [Exit.inBlock, if_true]; exact h
theorem blk_miss {id id' : Nat} (hne : Nat.beq id' id = false) (h : Q (.exit id') a w) : Exit.inBlock id Q (.exit id') a w := by
  have : id' ≠ id := fun e => by subst e; simp at hne
  simp only [Exit.inBlock, if_neg this]; exact h
theorem blk_r {id : Nat} (h : Q .ret a w) : Exit.inBlock id Q .ret a w := h

theorem cT (hF : Fr n l a) {c : Operand} {x y : Code} (hc : opv l c = some (.bool true)) (h : x.wp P Q a w) : (Code.cond c x y).wp P Q a w := wp_cond_true (hF.ev hc) h
theorem cF (hF : Fr n l a) {c : Operand} {x y : Code} (hc : opv l c = some (.bool false)) (h : y.wp P Q a w) : (Code.cond c x y).wp P Q a w := wp_cond_false (hF.ev hc) h
theorem cS (hF : Fr n l a) {c : Operand} {x y : Code} {b : Bool} (hc : opv l c = some (.bool b)) (ht : b = true → x.wp P Q a w) (hf : b = false → y.wp P Q a w) : (Code.cond c x y).wp P Q a w :=
  wp_cond_split (hF.ev hc) ht hf
/-- a test whose condition is decided by a proposition -/
theorem cD (hF : Fr n l a) {c : Operand} {x y : Code} {p : Prop} [Decidable p] (hc : opv l c = some (.bool (decide p))) (ht : p → x.wp P Q a w) (hf : ¬ p → y.wp P Q a w) : (Code.cond c x y).wp P Q a w :=
  wp_cond_split (hF.ev hc) (fun h => ht (of_decide_eq_true h)) (fun h => hf (of_decide_eq_false h))

/-- A loop with a ghost; what a round hands on stands behind a name. -/
theorem wp_loop_I {γ : Type} {c : Code} (I : γ → Act → World → Prop) (m : γ → Nat) (g : γ) (h0 : I g a w)
    (round : ∀ (K : Act → World → Prop), ∀ g a w, I g a w → (∀ g' a' w', m g' < m g → I g' a' w' → K a' w') → c.wp P (Exit.then K Q) a w) : (Code.loop c).wp P Q a w := by
  refine wp_loop_ghost (fun k a w => ∃ g, m g = k ∧ I g a w) (m g) ⟨g, rfl, h0⟩ ?_
  rintro k a w ⟨g, rfl, hI⟩
  exact round _ g a w hI fun g' a' w' hlt hI' => ⟨m g', hlt, g', rfl, hI'⟩

/-! ### operations that look at no memory -/
variable {ρ : Operand → Value} {dst : Option Tmp} {ty : TypeId} {pos : String} {af : Array Edge} {g : Option (Nat × Bool)} {x y z : Operand} {T T' : TypeId}

theorem R.move (h : ρ x = v) : (execOp ρ ⟨dst, .move x, ty, pos, af, g⟩).run P w = .ok (.value v) w := by rw [← h]; rfl
theorem R.assign (h : ρ x = v) : (execOp ρ ⟨dst, .assign x, ty, pos, af, g⟩).run P w = .ok (.value v) w := by rw [← h]; rfl
theorem R.pickT {u : Value} (hc : ρ x = .bool true) (h : ρ y = u) : (execOp ρ ⟨dst, .pick x y z, ty, pos, af, g⟩).run P w = .ok (.value u) w := by
  simp [execOp, hc, asBool, h, go_sem]
theorem R.pickF {u : Value} (hc : ρ x = .bool false) (h : ρ z = u) : (execOp ρ ⟨dst, .pick x y z, ty, pos, af, g⟩).run P w = .ok (.value u) w := by
  simp [execOp, hc, asBool, h, go_sem]
theorem R.pickD {p q r : Prop} [Decidable p] [Decidable q] [Decidable r] (hc : ρ x = .bool (decide p)) (hy : ρ y = .bool (decide q)) (hz : ρ z = .bool (decide r)) : (execOp ρ ⟨dst, .pick x y z, ty, pos, af, g⟩).run P w = .ok (.value (.bool (decide (if p then q else r)))) w := by
  by_cases h : p <;> simp [execOp, hc, asBool, hy, hz, h, go_sem]
theorem R.pick {b c e : Bool} (hc : ρ x = .bool b) (hy : ρ y = .bool c) (hz : ρ z = .bool e) : (execOp ρ ⟨dst, .pick x y z, ty, pos, af, g⟩).run P w = .ok (.value (.bool (if b then c else e))) w := by
  cases b <;> simp [execOp, hc, asBool, hy, hz, go_sem]
def nth : List Value → Nat → Option Value
  | [], _ => none
  | v :: _, 0 => some v
  | _ :: r, n + 1 => nth r n
theorem nth_eq (l : List Value) (n : Nat) : l[n]? = nth l n := by
  induction l generalizing n with
  | nil => simp [nth]
  | cons v r ih => cases n <;> simp [nth, ih]
theorem R.extract {vs : List Value} {ix : Nat} (h : ρ x = .tuple vs.toArray) (hv : nth vs ix = some v) : (execOp ρ ⟨dst, .extract x ix, ty, pos, af, g⟩).run P w = .ok (.value v) w := by
  rw [← nth_eq] at hv
  simp [execOp, h, Instr.extract, hv, go_sem]
theorem R.not {b : Bool} (h : ρ x = .bool b) : (execOp ρ ⟨dst, .unOp .not T x, ty, pos, af, g⟩).run P w = .ok (.value (.bool (!b))) w := by
  simp [execOp, h, Op.unary, go_sem]
theorem R.neg {k : IntKind} {m : Int} (h : ρ x = .int k m) : (execOp ρ ⟨dst, .unOp .neg T x, ty, pos, af, g⟩).run P w = .ok (.value (.int k (k.wrap (0 - m)))) w := by
  simp [execOp, h, Op.unary, Op.intArith, go_sem]

/-! ### whole numbers -/
theorem R.bin {op : BinOp} {k : IntKind} {p q : Int} {v : Value} (hx : ρ x = .int k p) (hy : ρ y = .int k q) (hop : (match op with | .shl | .shr => false | _ => true) = true)
    (h : ((match op with
      | .add | .sub | .mul => Op.intArith op k p q
      | .quo | .rem => Op.intDiv op k p q
      | .and | .or | .xor | .andNot => Op.intBits op k p q
      | _ => Op.intCmp op p q : Sem Value).run P w) = .ok v w) :
    (execOp ρ ⟨dst, .binOp op T x y T', ty, pos, af, g⟩).run P w = .ok (.value v) w := by
  simp only [execOp, hx, hy, Sem.run_bind]
  cases op <;> simp_all [eqGuard, binOp, go_sem]
section
variable {k : IntKind} {p q : Int}
theorem R.add (hx : ρ x = .int k p) (hy : ρ y = .int k q) : (execOp ρ ⟨dst, .binOp .add T x y T', ty, pos, af, g⟩).run P w = .ok (.value (.int k (k.wrap (p + q)))) w := R.bin hx hy rfl rfl
theorem R.sub (hx : ρ x = .int k p) (hy : ρ y = .int k q) : (execOp ρ ⟨dst, .binOp .sub T x y T', ty, pos, af, g⟩).run P w = .ok (.value (.int k (k.wrap (p - q)))) w := R.bin hx hy rfl rfl
theorem R.mul (hx : ρ x = .int k p) (hy : ρ y = .int k q) : (execOp ρ ⟨dst, .binOp .mul T x y T', ty, pos, af, g⟩).run P w = .ok (.value (.int k (k.wrap (p * q)))) w := R.bin hx hy rfl rfl
theorem R.quo (hx : ρ x = .int k p) (hy : ρ y = .int k q) (hq : q ≠ 0) : (execOp ρ ⟨dst, .binOp .quo T x y T', ty, pos, af, g⟩).run P w = .ok (.value (.int k (k.wrap (p.tdiv q)))) w :=
  R.bin hx hy rfl (by simp [Op.intDiv, hq])
theorem R.rem (hx : ρ x = .int k p) (hy : ρ y = .int k q) (hq : q ≠ 0) : (execOp ρ ⟨dst, .binOp .rem T x y T', ty, pos, af, g⟩).run P w = .ok (.value (.int k (p.tmod q))) w :=
  R.bin hx hy rfl (by simp [Op.intDiv, hq])
theorem R.and (hx : ρ x = .int k p) (hy : ρ y = .int k q) : (execOp ρ ⟨dst, .binOp .and T x y T', ty, pos, af, g⟩).run P w = .ok (.value (.int k (bits .and k p q))) w := R.bin hx hy rfl rfl
theorem R.or (hx : ρ x = .int k p) (hy : ρ y = .int k q) : (execOp ρ ⟨dst, .binOp .or T x y T', ty, pos, af, g⟩).run P w = .ok (.value (.int k (bits .or k p q))) w := R.bin hx hy rfl rfl
theorem R.xor (hx : ρ x = .int k p) (hy : ρ y = .int k q) : (execOp ρ ⟨dst, .binOp .xor T x y T', ty, pos, af, g⟩).run P w = .ok (.value (.int k (bits .xor k p q))) w := R.bin hx hy rfl rfl
theorem R.andNot (hx : ρ x = .int k p) (hy : ρ y = .int k q) : (execOp ρ ⟨dst, .binOp .andNot T x y T', ty, pos, af, g⟩).run P w = .ok (.value (.int k (bits .andNot k p q))) w := R.bin hx hy rfl rfl
theorem R.eql (hx : ρ x = .int k p) (hy : ρ y = .int k q) : (execOp ρ ⟨dst, .binOp .eql T x y T', ty, pos, af, g⟩).run P w = .ok (.value (.bool (decide (p = q)))) w := R.bin hx hy rfl rfl
theorem R.neq (hx : ρ x = .int k p) (hy : ρ y = .int k q) : (execOp ρ ⟨dst, .binOp .neq T x y T', ty, pos, af, g⟩).run P w = .ok (.value (.bool (decide (¬ p = q)))) w :=
  R.bin hx hy rfl (by simp only [Op.intCmp, Sem.run_pure, bne, decide_not]; rfl)
theorem R.lss (hx : ρ x = .int k p) (hy : ρ y = .int k q) : (execOp ρ ⟨dst, .binOp .lss T x y T', ty, pos, af, g⟩).run P w = .ok (.value (.bool (decide (p < q)))) w := R.bin hx hy rfl rfl
theorem R.leq (hx : ρ x = .int k p) (hy : ρ y = .int k q) : (execOp ρ ⟨dst, .binOp .leq T x y T', ty, pos, af, g⟩).run P w = .ok (.value (.bool (decide (p ≤ q)))) w := R.bin hx hy rfl rfl
theorem R.gtr (hx : ρ x = .int k p) (hy : ρ y = .int k q) : (execOp ρ ⟨dst, .binOp .gtr T x y T', ty, pos, af, g⟩).run P w = .ok (.value (.bool (decide (p > q)))) w := R.bin hx hy rfl rfl
theorem R.geq (hx : ρ x = .int k p) (hy : ρ y = .int k q) : (execOp ρ ⟨dst, .binOp .geq T x y T', ty, pos, af, g⟩).run P w = .ok (.value (.bool (decide (p ≥ q)))) w := R.bin hx hy rfl rfl

/-- a result in another spelling -/
theorem R.as {v u : Value} (h : (execOp ρ o).run P w = .ok (.value v) w) (e : v = u) : (execOp ρ o).run P w = .ok (.value u) w := e ▸ h

theorem R.addI (hx : ρ x = .int .i64 p) (hy : ρ y = .int .i64 q) (h : -9223372036854775808 ≤ p + q ∧ p + q ≤ 9223372036854775807) :
    (execOp ρ ⟨dst, .binOp .add T x y T', ty, pos, af, g⟩).run P w = .ok (.value (.int .i64 (p + q))) w := R.as (R.add hx hy) (by rw [IntWalk.i64_in _ h])
theorem R.subI (hx : ρ x = .int .i64 p) (hy : ρ y = .int .i64 q) (h : -9223372036854775808 ≤ p - q ∧ p - q ≤ 9223372036854775807) :
    (execOp ρ ⟨dst, .binOp .sub T x y T', ty, pos, af, g⟩).run P w = .ok (.value (.int .i64 (p - q))) w := R.as (R.sub hx hy) (by rw [IntWalk.i64_in _ h])
theorem R.mulI (hx : ρ x = .int .i64 p) (hy : ρ y = .int .i64 q) (h : -9223372036854775808 ≤ p * q ∧ p * q ≤ 9223372036854775807) :
    (execOp ρ ⟨dst, .binOp .mul T x y T', ty, pos, af, g⟩).run P w = .ok (.value (.int .i64 (p * q))) w := R.as (R.mul hx hy) (by rw [IntWalk.i64_in _ h])
theorem R.quoI (hx : ρ x = .int .i64 p) (hy : ρ y = .int .i64 q) (h : 0 ≤ p ∧ p ≤ 9223372036854775807 ∧ 0 < q) :
    (execOp ρ ⟨dst, .binOp .quo T x y T', ty, pos, af, g⟩).run P w = .ok (.value (.int .i64 (p / q))) w := R.as (R.quo hx hy (by omega)) (by
      rw [Int.tdiv_eq_ediv_of_nonneg h.1, IntWalk.i64_in]
      have h1 : p / q ≤ p := Int.ediv_le_self _ h.1
      have h2 : 0 ≤ p / q := Int.ediv_nonneg h.1 (by omega)
      omega)
theorem R.remI (hx : ρ x = .int .i64 p) (hy : ρ y = .int .i64 q) (h : 0 ≤ p ∧ 0 < q) :
    (execOp ρ ⟨dst, .binOp .rem T x y T', ty, pos, af, g⟩).run P w = .ok (.value (.int .i64 (p % q))) w := R.as (R.rem hx hy (by omega)) (by rw [Int.tmod_eq_emod_of_nonneg h.1])
end
section
variable {p q : Nat}
theorem R.addU (hx : ρ x = .int .u64 p) (hy : ρ y = .int .u64 q) : (execOp ρ ⟨dst, .binOp .add T x y T', ty, pos, af, g⟩).run P w = .ok (.value (.int .u64 (((p + q) % 18446744073709551616 : Nat) : Int))) w :=
  R.as (R.add hx hy) (by rw [IntKind.wrap_u64]; congr 1)
theorem R.subU (hx : ρ x = .int .u64 p) (hy : ρ y = .int .u64 q) (hq : q < 18446744073709551616) :
    (execOp ρ ⟨dst, .binOp .sub T x y T', ty, pos, af, g⟩).run P w = .ok (.value (.int .u64 (((p + 18446744073709551616 - q) % 18446744073709551616 : Nat) : Int))) w :=
  R.as (R.sub hx hy) (by rw [IntKind.wrap_u64]; congr 1; omega)
theorem R.mulU (hx : ρ x = .int .u64 p) (hy : ρ y = .int .u64 q) : (execOp ρ ⟨dst, .binOp .mul T x y T', ty, pos, af, g⟩).run P w = .ok (.value (.int .u64 (((p * q) % 18446744073709551616 : Nat) : Int))) w :=
  R.as (R.mul hx hy) (by rw [IntKind.wrap_u64]; congr 1)
theorem R.quoU (hx : ρ x = .int .u64 p) (hy : ρ y = .int .u64 q) (hp : p < 18446744073709551616) (hq : 0 < q) :
    (execOp ρ ⟨dst, .binOp .quo T x y T', ty, pos, af, g⟩).run P w = .ok (.value (.int .u64 ((p / q : Nat) : Int))) w := R.as (R.quo hx hy (by omega)) (by
      rw [Int.tdiv_eq_ediv_of_nonneg (by omega), IntKind.wrap_u64]
      have h1 : p / q ≤ p := Nat.div_le_self _ _
      have h3 : ((p / q : Nat) : Int) = (p : Int) / (q : Int) := by simp
      rw [← h3]
      generalize p / q = z at *
      congr 1
      omega)
theorem R.remU (hx : ρ x = .int .u64 p) (hy : ρ y = .int .u64 q) (hq : 0 < q) :
    (execOp ρ ⟨dst, .binOp .rem T x y T', ty, pos, af, g⟩).run P w = .ok (.value (.int .u64 ((p % q : Nat) : Int))) w := R.as (R.rem hx hy (by omega)) (by
      rw [Int.tmod_eq_emod_of_nonneg (by omega)]; congr 1)
theorem R.andU (hx : ρ x = .int .u64 p) (hy : ρ y = .int .u64 q) (hp : p < 18446744073709551616) (hq : q < 18446744073709551616) :
    (execOp ρ ⟨dst, .binOp .and T x y T', ty, pos, af, g⟩).run P w = .ok (.value (.int .u64 ((p &&& q : Nat) : Int))) w := R.as (R.and hx hy) (by rw [u64_and_nat p q hp hq])
theorem R.orU (hx : ρ x = .int .u64 p) (hy : ρ y = .int .u64 q) (hp : p < 18446744073709551616) (hq : q < 18446744073709551616) :
    (execOp ρ ⟨dst, .binOp .or T x y T', ty, pos, af, g⟩).run P w = .ok (.value (.int .u64 ((p ||| q : Nat) : Int))) w := R.as (R.or hx hy) (by rw [u64_or_nat p q hp hq])
end
section
variable {k yk : IntKind} {p q : Int} {m : Nat}
theorem R.shift {op : BinOp} (hop : op = .shl ∨ op = .shr) (hx : ρ x = .int k p) (hy : ρ y = .int yk q) (h : (Op.shift op k p yk q).run P w = .ok v w) :
    (execOp ρ ⟨dst, .binOp op T x y T', ty, pos, af, g⟩).run P w = .ok (.value v) w := by
  simp only [execOp, hx, hy, Sem.run_bind]
  rcases hop with rfl | rfl <;> simp_all [eqGuard, binOp, go_sem]
theorem R.shlU {p : Nat} (hx : ρ x = .int .u64 p) (hy : ρ y = .int yk m) (hm : m ≤ 64) :
    (execOp ρ ⟨dst, .binOp .shl T x y T', ty, pos, af, g⟩).run P w = .ok (.value (.int .u64 ((p * 2 ^ m % 18446744073709551616 : Nat) : Int))) w :=
  R.as (R.shift (.inl rfl) hx hy (by
    simp only [Op.shift]
    rw [if_neg (by omega)]
    rfl)) (by
    have : min (Int.toNat (m : Int)) (IntKind.bits .u64) = m := by simp [IntKind.bits]; omega
    rw [this, IntKind.wrap_u64]
    congr 1)
theorem R.shrU {p : Nat} (hx : ρ x = .int .u64 p) (hy : ρ y = .int yk m) (hm : m ≤ 64) :
    (execOp ρ ⟨dst, .binOp .shr T x y T', ty, pos, af, g⟩).run P w = .ok (.value (.int .u64 ((p / 2 ^ m : Nat) : Int))) w :=
  R.as (R.shift (.inr rfl) hx hy (by
    simp only [Op.shift]
    rw [if_neg (by omega)]
    rfl)) (by
    have : min (Int.toNat (m : Int)) (IntKind.bits .u64) = m := by simp [IntKind.bits]; omega
    rw [this]
    congr 1
    rw [Int.fdiv_eq_ediv_of_nonneg _ (by exact Int.le_of_lt (Int.pow_pos (by omega)))]
    simp)
theorem R.convert {T U : TypeId} {D : TypeDesc} {c : IntKind} (hs : P.underlying T = some D) (ht : P.underlying U = some (.int k)) (hx : ρ x = .int c p) :
    (execOp ρ ⟨dst, .convert T U x, ty, pos, af, g⟩).run P w = .ok (.value (.int k (k.wrap p))) w := by
  simp [execOp, hx, Go.convert, run_underlying hs, run_underlying ht, Conv.intToInt, go_sem]
theorem R.convI {T U : TypeId} {D : TypeDesc} {c : IntKind} (hs : P.underlying T = some D) (ht : P.underlying U = some (.int .i64)) (hx : ρ x = .int c p) (h : -9223372036854775808 ≤ p ∧ p ≤ 9223372036854775807) :
    (execOp ρ ⟨dst, .convert T U x, ty, pos, af, g⟩).run P w = .ok (.value (.int .i64 p)) w := R.as (R.convert hs ht hx) (by rw [IntWalk.i64_in _ h])
theorem R.convU {T U : TypeId} {D : TypeDesc} {c : IntKind} {p : Nat} (hs : P.underlying T = some D) (ht : P.underlying U = some (.int .u64)) (hx : ρ x = .int c p) :
    (execOp ρ ⟨dst, .convert T U x, ty, pos, af, g⟩).run P w = .ok (.value (.int .u64 ((p % 18446744073709551616 : Nat) : Int))) w := R.as (R.convert hs ht hx) (by rw [IntKind.wrap_u64]; congr 1)
theorem R.convB {T U : TypeId} {D : TypeDesc} {c : IntKind} {p : Nat} (hs : P.underlying T = some D) (ht : P.underlying U = some (.int .u8)) (hx : ρ x = .int c p) :
    (execOp ρ ⟨dst, .convert T U x, ty, pos, af, g⟩).run P w = .ok (.value (.int .u8 ((p % 256 : Nat) : Int))) w := R.as (R.convert hs ht hx) (by rw [IntKind.wrap_u8']; congr 1)
end
end
end Go.Fw
