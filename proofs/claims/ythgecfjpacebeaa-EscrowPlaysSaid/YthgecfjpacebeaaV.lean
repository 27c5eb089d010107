/- What a vault is, and what each of its methods does, in plain terms. No condition beyond each lemma's own. -/
import Derived.Test.YthgecfjpacebeaaR
import Derived.Test.YthgecfjpacebeaaQ
namespace Go.Fw
open Go.RowKit

/-- a vault: per token whether it is stopped and how much is held; the indices paid; what is locked -/
structure Vau where
  tok : Int → Option (Bool × Nat)
  paid : Int → Bool
  lock : Nat
@[reducible] def tS (t : Option (Bool × Nat)) : Bool := (t.map (·.1)).getD false
@[reducible] def tH (t : Option (Bool × Nat)) : Nat := (t.map (·.2)).getD 0
@[reducible] def tokL (t : Option (Bool × Nat)) : List Value := .bool (tS t) :: wc (tH t)
def tokF (f : Int → Option (Bool × Nat)) (n : Int) : Option Value := (f n).map fun t => .agg (tokL (some t)).toArray
def paidF (f : Int → Bool) (n : Int) : Option Value := if f n then some (.agg #[]) else none
def PaidS (r : Option Nat) (sp : Seg) (f : Int → Bool) : Prop := (r = none ∧ sp = [] ∧ ∀ n, f n = false) ∨ ∃ b es c, r = some b ∧ sp = [(b, .map es c)] ∧ MapR .i64 es (paidF f)
def VaultS (bv : Nat) (V : Vau) (s : Seg) : Prop := ∃ bt es c r sp, s = (bv, Cel (.map (some bt) :: .map r :: wc V.lock) 100) :: (bt, .map es c) :: sp ∧ MapR .i64 es (tokF V.tok) ∧ PaidS r sp V.paid ∧ V.lock < 115792089237316195423570985008687907853269984665640564039457584007913129639936 ∧ ∀ n, tH (V.tok n) < 115792089237316195423570985008687907853269984665640564039457584007913129639936

theorem wc_0 : wc 0 = [.int .u64 0, .int .u64 0, .int .u64 0, .int .u64 0] := by simp [wc, dg]
theorem tokF_get (f : Int → Option (Bool × Nat)) (n : Int) : (tokF f n).getD (.agg #[.bool false, .int .u64 0, .int .u64 0, .int .u64 0, .int .u64 0]) = .agg (tokL (f n)).toArray := by
  unfold tokF
  cases f n with
  | none => simp [tokL, tS, tH, dg]
  | some t => simp
theorem tokF_some (f : Int → Option (Bool × Nat)) (n : Int) : (tokF f n).isSome = (f n).isSome := by simp [tokF]
theorem tokF_upd (f : Int → Option (Bool × Nat)) (n : Int) (t : Bool × Nat) : updF (tokF f) n (some (.agg (tokL (some t)).toArray)) = tokF (updF f n (some t)) := by
  funext m; unfold updF tokF; by_cases h : m = n <;> simp [h]
theorem paidF_get (f : Int → Bool) (n : Int) : (paidF f n).getD (.agg #[]) = .agg #[] := by unfold paidF; cases f n <;> simp
theorem paidF_some (f : Int → Bool) (n : Int) : (paidF f n).isSome = f n := by unfold paidF; cases f n <;> simp
theorem paidF_upd (f : Int → Bool) (n : Int) : updF (paidF f) n (some (.agg #[])) = paidF (updF f n true) := by
  funext m; unfold updF paidF; by_cases h : m = n <;> simp [h]
theorem PaidS.mapIn {r : Option Nat} {sp : Seg} {f : Int → Bool} {w0 w : World} {ks : List Nat} {bs : List Seg} (h : PaidS r sp f) (hS : St w0 ks bs w) (hs : HasS bs sp) : MapIn .i64 w (.map r) (paidF f) := by
  rcases h with ⟨rfl, rfl, hf⟩ | ⟨b, es, c, rfl, rfl, hR⟩
  · exact .inl ⟨rfl, fun n => by simp [paidF, hf n]⟩
  · exact .inr ⟨b, es, c, rfl, (hS.one hs).own (b, .map es c) (by simp), hR⟩

theorem MapIn.old {k : IntKind} {w0 w : World} {v : Value} {f : Int → Option Value} {bs : List Seg} (h : MapIn k w0 v f) (hS : St w0 [] bs w) : MapIn k w v f := by
  rcases h with h | ⟨b, es, c, rfl, hb, hR⟩
  · exact .inl h
  · exact .inr ⟨b, es, c, rfl, by rw [hS.keep b (Array.getElem?_eq_some_iff.1 hb).1 (by simp)]; exact hb, hR⟩
/-- one known segment cut in three -/
inductive OpenB : List Seg → Seg → Seg → Seg → Seg → List Seg → Prop
  | h {s x y z : Seg} {bs : List Seg} : OpenB (s :: bs) s x y z (x :: y :: z :: bs)
  | t {s x y z u : Seg} {bs bs' : List Seg} : OpenB bs s x y z bs' → OpenB (u :: bs) s x y z (u :: bs')
theorem OpenB.flat {bs bs' : List Seg} {s x y z : Seg} (h : OpenB bs s x y z bs') (he : s = x ++ (y ++ z)) : bs'.flatten = bs.flatten := by
  induction h with
  | h => simp [he]
  | t _ ih => simp [ih he]
section
variable {w0 w : World} {ks : List Nat} {bs bs' : List Seg} {bv bt c : Nat} {o1 o2 : Obj} {sp : Seg} {r : Option Nat} {k : Nat} {es : Array MapEntry} {V : Vau}
theorem St.openV (h : St w0 ks bs w) (ho : OpenB bs ((bv, o1) :: (bt, o2) :: sp) [(bv, o1)] [(bt, o2)] sp bs') : St w0 ks bs' w := h.flat (ho.flat (by simp))
theorem VaultS.close (hS : St w0 ks [[(bv, Cel (.map (some bt) :: .map r :: wc V.lock) 100)], [(bt, .map es c)], sp] w) (hT : MapR .i64 es (tokF V.tok)) (hP : PaidS r sp V.paid) (hL : V.lock < 115792089237316195423570985008687907853269984665640564039457584007913129639936) (hH : ∀ n, tH (V.tok n) < 115792089237316195423570985008687907853269984665640564039457584007913129639936) :
    ∃ s', VaultS bv V s' ∧ St w0 ks [s'] w := ⟨_, ⟨bt, es, c, r, sp, rfl, hT, hP, hL, hH⟩, hS.flat (by simp)⟩
theorem VaultS.tH_lt {s : Seg} (h : VaultS bv V s) (n : Int) : tH (V.tok n) < 115792089237316195423570985008687907853269984665640564039457584007913129639936 := by
  obtain ⟨_, _, _, _, _, _, _, _, _, hH⟩ := h; exact hH n
theorem VaultS.lock_lt {s : Seg} (h : VaultS bv V s) : V.lock < 115792089237316195423570985008687907853269984665640564039457584007913129639936 := by
  obtain ⟨_, _, _, _, _, _, _, _, hL, _⟩ := h; exact hL
theorem tH_upd {f : Int → Option (Bool × Nat)} {b : Bool} {x : Nat} {n : Int} (hH : ∀ n, tH (f n) < 115792089237316195423570985008687907853269984665640564039457584007913129639936) (hx : x < 115792089237316195423570985008687907853269984665640564039457584007913129639936) : ∀ m, tH (updF f n (some (b, x)) m) < 115792089237316195423570985008687907853269984665640564039457584007913129639936 := by
  intro m; unfold updF; by_cases h : m = n
  · simp [h]; exact hx
  · simp [h]; exact hH m
end
/-! what the methods do -/
def Vau.lst (V : Vau) (n : Int) : Option (Bool × Nat) := if 0 ≤ n ∧ n < 64 then V.tok n else none
def Vau.new : Vau := ⟨fun _ => none, fun _ => false, 0⟩
def Vau.err (V : Vau) (n : Int) : Int := if 0 ≤ n ∧ n < 64 then (if (V.tok n).isSome then 0 else 141) else 140
def Vau.list (V : Vau) (n : Int) : Vau × Int := if 0 ≤ n ∧ n < 64 then (if (V.tok n).isSome then (V, 142) else ({ V with tok := updF V.tok n (some (false, 0)) }, 0)) else (V, 140)
def Vau.stop (V : Vau) (n : Int) (b : Bool) : Vau × Int :=
  if V.err n ≠ 0 then (V, V.err n) else if tS (V.tok n) = b then (V, 143) else ({ V with tok := updF V.tok n (some (b, tH (V.tok n))) }, 0)
def Vau.deposit (V : Vau) (n : Int) (x : Nat) : Vau × Int :=
  if V.err n ≠ 0 then (V, V.err n) else if tS (V.tok n) = true then (V, 143) else if x = 0 then (V, 144) else
  if tH (V.tok n) + x < 115792089237316195423570985008687907853269984665640564039457584007913129639936 then ({ V with tok := updF V.tok n (some (tS (V.tok n), tH (V.tok n) + x)) }, 0) else (V, 145)
def Vau.pay (V : Vau) (i n : Int) (x : Nat) : Vau × Int :=
  if i < 0 ∨ 1099511627776 ≤ i then (V, 148) else if V.err n ≠ 0 then (V, V.err n) else if V.paid i = true then (V, 147) else
  if x ≤ tH (V.tok n) then ({ V with tok := updF V.tok n (some (tS (V.tok n), tH (V.tok n) - x)), paid := updF V.paid i true }, 0) else (V, 146)
def Vau.lockIt (V : Vau) (x : Nat) : Vau × Int := if V.lock + x < 115792089237316195423570985008687907853269984665640564039457584007913129639936 then ({ V with lock := V.lock + x }, 0) else (V, 145)
def Vau.free (V : Vau) (x : Nat) : Vau × Int := if x ≤ V.lock then ({ V with lock := V.lock - x }, 0) else (V, 149)

/-! a script's step -/
structure Stp where
  which : Int
  what : Int
  token : Int
  index : Int
  amt : Nat
@[reducible] def stpL (p : Stp) : List Value := .int .i64 p.which :: .int .i64 p.what :: .int .i64 p.token :: .int .i64 p.index :: wc p.amt
def i64OK (n : Int) : Prop := -9223372036854775808 ≤ n ∧ n ≤ 9223372036854775807
structure Stp.ok (p : Stp) : Prop where
  which : i64OK p.which
  what : i64OK p.what
  token : i64OK p.token
  index : i64OK p.index
  amt : p.amt < 115792089237316195423570985008687907853269984665640564039457584007913129639936
def pickN (c n : Int) : Int := (if c < 0 then -(c + 1) else c) % n
theorem pickN_0 (c : Int) {n : Int} (h : 0 < n) : 0 ≤ pickN c n := Int.emod_nonneg _ (by omega)
theorem pickN_lt (c : Int) {n : Int} (h : 0 < n) : pickN c n < n := Int.emod_lt_of_pos _ h
theorem pickN_id {c n : Int} (h0 : 0 ≤ c) (h : c < n) : pickN c n = c := by unfold pickN; rw [if_neg (by omega), Int.emod_eq_of_lt h0 h]
def Vau.chg (V : Vau) (p : Stp) : Vau × Int :=
  let k := pickN p.what 11
  if k = 0 then V.list p.token else if k = 1 then V.stop p.token true else if k = 2 then V.stop p.token false else
  if k = 3 then V.deposit p.token p.amt else if k = 4 then V.pay p.index p.token p.amt else if k = 5 then V.lockIt p.amt else if k = 6 then V.free p.amt else (V, 0)
theorem lst_of {V : Vau} {n : Int} (h : V.err n = 0) : V.lst n = V.tok n := by
  unfold Vau.err at h; unfold Vau.lst
  split at h
  · rename_i h1; rw [if_pos h1]
  · omega
theorem isSome_of {V : Vau} {n : Int} (h : V.err n = 0) : (V.tok n).isSome = true := by
  unfold Vau.err at h
  split at h
  · split at h
    · assumption
    · omega
  · omega
section
variable {P : Program} {w : World} {v z : Value} {ρ : Operand → Value} {dst : Option Tmp} {ty : TypeId} {pos : String} {af : Array Edge} {g : Option (Nat × Bool)} {x y : Operand} {T : TypeId}
theorem R.fieldAgg {fs : Array Field} {i m : Nat} {f : Field} {cs : Array Value} (hT : P.underlying T = some (.struct fs)) (hf : fs[i]? = some f) (ha : aggT P f.type = true) (hs : szT P f.type m) (hx : ρ x = .agg cs) (hv : v = .agg (cs.extract f.offset (f.offset + m))) :
    (execOp ρ ⟨dst, .field T x i, ty, pos, af, g⟩).run P w = .ok (.value v) w := by
  subst hv
  have h1 : (asAgg (.agg cs)).run P w = .ok cs w := rfl
  simp only [execOp, hx, Instr.field, run_underlying hT, hf, h1, run_partA ha hs, Sem.run_bind, Sem.run_pure, Result.andThen_ok]
theorem R.field1 {fs : Array Field} {i : Nat} {f : Field} {cs : Array Value} (hT : P.underlying T = some (.struct fs)) (hf : fs[i]? = some f) (ha : oneT P f.type = true) (hx : ρ x = .agg cs) (hv : cs[f.offset]? = some v) :
    (execOp ρ ⟨dst, .field T x i, ty, pos, af, g⟩).run P w = .ok (.value v) w := by
  have h1 : (asAgg (.agg cs)).run P w = .ok cs w := rfl
  simp only [execOp, hx, Instr.field, run_underlying hT, hf, h1, run_part1 ha hv, Sem.run_bind, Sem.run_pure, Result.andThen_ok]
end
end Go.Fw
namespace Go.Proofs.Ythgecfjpacebeaa
open Go Go.Fw
section
variable {ρ : Operand → Value} {dst : Option Tmp} {ty : TypeId} {pos : String} {af : Array Edge} {g : Option (Nat × Bool)} {x y : Operand} {w : World} {mv : Value} {p : Int}
theorem R.tokOk {f : Int → Option (Bool × Nat)} (hM : MapIn .i64 w mv (tokF f)) (hx : ρ x = mv) (hy : ρ y = .int .i64 p) :
    (execOp ρ ⟨dst, .lookup 95 x y true, ty, pos, af, g⟩).run Try.prog w = .ok (.value (.tuple [.agg (tokL (f p)).toArray, .bool (f p).isSome].toArray)) w :=
  R.lookupOk Try.underlying95 Try.underlying3 ze105 hM hx hy (by rw [tokF_get, tokF_some])
theorem R.tok1 {f : Int → Option (Bool × Nat)} (hM : MapIn .i64 w mv (tokF f)) (hx : ρ x = mv) (hy : ρ y = .int .i64 p) :
    (execOp ρ ⟨dst, .lookup 95 x y false, ty, pos, af, g⟩).run Try.prog w = .ok (.value (.agg (tokL (f p)).toArray)) w :=
  R.lookup1 Try.underlying95 Try.underlying3 ze105 hM hx hy (by rw [tokF_get])
theorem R.paidOk {f : Int → Bool} (hM : MapIn .i64 w mv (paidF f)) (hx : ρ x = mv) (hy : ρ y = .int .i64 p) :
    (execOp ρ ⟨dst, .lookup 96 x y true, ty, pos, af, g⟩).run Try.prog w = .ok (.value (.tuple [.agg ([] : List Value).toArray, .bool (f p)].toArray)) w :=
  R.lookupOk Try.underlying96 Try.underlying107 ze118 hM hx hy (by rw [paidF_get, paidF_some])
end
end Go.Proofs.Ythgecfjpacebeaa
