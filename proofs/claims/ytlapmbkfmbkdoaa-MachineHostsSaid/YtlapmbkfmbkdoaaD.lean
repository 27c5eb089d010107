/- Steps that look at memory, calls, a function's entry and end. No condition beyond each lemma's own. -/
import Derived.Test.YtlapmbkfmbkdoaaC
namespace Go.Fw
open Go.RowKit

def oneT (P : Program) (T : TypeId) : Bool := match P.underlying T with | some (.struct _) | some (.array _ _) | none => false | some _ => true
def aggT (P : Program) (T : TypeId) : Bool := match P.underlying T with | some (.struct _) | some (.array _ _) => true | _ => false
def szT (P : Program) (T : TypeId) (n : Nat) : Prop := (P.info? T).map (·.size) = some n
def zeT (P : Program) (T : TypeId) (v : Value) : Prop := (P.info? T).bind (·.zero) = some v
def nzT (P : Program) (T : TypeId) : Bool := match P.info? T with | some i => !Nat.beq i.size 0 | none => false

section
variable {P : Program} {ops : Array Oper} {Q : Exit → Act → World → Prop} {a : Act} {w w' w0 : World} {n : Nat} {env : Env} {d : Nat} {v : Value} {K : Act → World → Prop}
variable {ρ : Operand → Value} {dst : Option Tmp} {ty : TypeId} {pos : String} {af : Array Edge} {g : Option (Nat × Bool)} {x y z : Operand} {T E : TypeId}
variable {ks : List Nat} {bs bs' : List Seg} {b off : Nat} {l l' cs : List Value} {A : Option Addr}

theorem run_isAgg_one (h : oneT P T = true) (w : World) : (isAgg T).run P w = .ok false w := by
  unfold oneT at h
  cases hu : P.underlying T with
  | none => rw [hu] at h; simp at h
  | some dd => rw [hu] at h; cases dd <;> simp_all [isAgg, run_underlying hu, go_sem]
theorem run_isAgg_agg (h : aggT P T = true) (w : World) : (isAgg T).run P w = .ok true w := by
  unfold aggT at h
  cases hu : P.underlying T with
  | none => rw [hu] at h; simp at h
  | some dd => rw [hu] at h; cases dd <;> simp_all [isAgg, run_underlying hu, go_sem]
theorem run_sizeOf' (h : szT P T n) (w : World) : (sizeOf T).run P w = .ok n w := by
  unfold szT at h
  cases hi : P.info? T with
  | none => rw [hi] at h; simp at h
  | some i => rw [hi] at h; simp at h; simp [sizeOf, typeInfo, hi, h, Sem.run_bind, Result.andThen_ok]

theorem run_loadVar1 (h : oneT P T = true) {a : Addr} (hc : w.cell? a = some v) : (loadVar T a).run P w = .ok v w := by
  simp only [loadVar, Sem.run_bind, run_isAgg_one h, run_load, hc, Result.andThen_ok, Bool.false_eq_true, if_false]
theorem run_loadVarA (h : aggT P T = true) (hs : szT P T cs.length) {a : Addr} (hc : ∀ j v, cs[j]? = some v → w.cell? (a.add j) = some v) : (loadVar T a).run P w = .ok (.agg cs.toArray) w := by
  have := run_loadCells_list (P := P) (w := w) a cs hc
  simp only [loadVar, Sem.run_bind, run_isAgg_agg h, run_sizeOf' hs, this, Result.andThen_ok, if_true, Sem.run_pure]

/-! ### loads -/
theorem R.load (h : oneT P T = true) (hx : ρ x = .pointer (some ⟨b, off, none⟩)) (hS : St w0 ks bs w) (hb : HasB bs b (Cel l E)) (hv : l[off]? = some v) :
    (execOp ρ ⟨dst, .load T x, ty, pos, af, g⟩).run P w = .ok (.value v) w := by
  have hc : w.cell? ⟨b, off, none⟩ = some v := by rw [cell_Cel (hS.get hb)]; exact hv
  simp only [execOp, hx, Instr.loadAt, Instr.sureAddr, Sem.run_bind, Sem.run_pure, Result.andThen_ok, run_loadVar1 h hc]
theorem R.loadO {k : Nat} (h : oneT P T = true) (hx : ρ x = .pointer (A.map (·.add k))) (hA : Rd w A cs) (hv : cs[k]? = some v) :
    (execOp ρ ⟨dst, .load T x, ty, pos, af, g⟩).run P w = .ok (.value v) w := by
  obtain ⟨a, rfl, hc⟩ := hA k v hv
  simp only [Option.map_some] at hx
  simp only [execOp, hx, Instr.loadAt, Instr.sureAddr, Sem.run_bind, Sem.run_pure, Result.andThen_ok, run_loadVar1 h hc]
theorem R.loadA {m : Nat} (h : aggT P T = true) (hx : ρ x = .pointer (some ⟨b, off, none⟩)) (hS : St w0 ks bs w) (hb : HasB bs b (Cel l E)) (hs' : szT P T m) (hm : cs.length = m) (hl : ∀ j v, cs[j]? = some v → l[off + j]? = some v) :
    (execOp ρ ⟨dst, .load T x, ty, pos, af, g⟩).run P w = .ok (.value (.agg cs.toArray)) w := by
  have hs : szT P T cs.length := hm ▸ hs'
  have hc : ∀ j v, cs[j]? = some v → w.cell? ((⟨b, off, none⟩ : Addr).add j) = some v := fun j v hj => by rw [addr_add, cell_Cel (hS.get hb)]; exact hl j v hj
  simp only [execOp, hx, Instr.loadAt, Instr.sureAddr, Sem.run_bind, Sem.run_pure, Result.andThen_ok, run_loadVarA h hs hc]
theorem R.loadW {m : Nat} (h : aggT P T = true) (hx : ρ x = .pointer (some ⟨b, 0, none⟩)) (hS : St w0 ks bs w) (hb : HasB bs b (Cel l E)) (hs : szT P T m) (hm : l.length = m) :
    (execOp ρ ⟨dst, .load T x, ty, pos, af, g⟩).run P w = .ok (.value (.agg l.toArray)) w := R.loadA h hx hS hb hs hm (fun j v hj => by rw [Nat.zero_add]; exact hj)
theorem R.loadAO {k m : Nat} {xs : List Value} (h : aggT P T = true) (hx : ρ x = .pointer (A.map (·.add k))) (hA : Rd w A xs) (hs' : szT P T m) (hm : cs.length = m) (hpos : 0 < cs.length) (hl : ∀ j v, cs[j]? = some v → xs[k + j]? = some v) :
    (execOp ρ ⟨dst, .load T x, ty, pos, af, g⟩).run P w = .ok (.value (.agg cs.toArray)) w := by
  have hs : szT P T cs.length := hm ▸ hs'
  obtain ⟨a, rfl, _⟩ := hA (k + 0) cs[0] (hl 0 _ (by simp [hpos]))
  simp only [Option.map_some] at hx
  have hc : ∀ j v, cs[j]? = some v → w.cell? ((a.add k).add j) = some v := fun j v hj => by
    obtain ⟨a', h1, h2⟩ := hA _ _ (hl j v hj)
    simp only [Option.some.injEq] at h1
    rw [← h1] at h2
    have : (a.add k).add j = a.add (k + j) := by
      unfold Addr.add
      by_cases hj0 : j = 0
      · subst hj0; simp
      · by_cases hk0 : k = 0
        · subst hk0; simp
        · simp [hj0, hk0, Nat.add_assoc]
    rw [this]; exact h2
  simp only [execOp, hx, Instr.loadAt, Instr.sureAddr, Sem.run_bind, Sem.run_pure, Result.andThen_ok, run_loadVarA h hs hc]

/-! ### addresses -/
theorem R.fieldAddr {fs : Array Field} {i k : Nat} {f : Field} (hT : P.underlying T = some (.struct fs)) (hf : fs[i]? = some f) (hs : nzT P f.type = true) (hx : ρ x = .pointer (some ⟨b, off, none⟩)) (hk : f.offset = k) :
    (execOp ρ ⟨dst, .fieldAddr T x i, ty, pos, af, g⟩).run P w = .ok (.value (.pointer (some ⟨b, off + k, none⟩))) w := by
  subst hk
  unfold nzT at hs
  cases hi : P.info? f.type with
  | none => rw [hi] at hs; simp at hs
  | some inf =>
    rw [hi] at hs
    have hne : ¬ inf.size = 0 := fun e => by simp [e] at hs
    have hsz : (sizeOf f.type).run P w = .ok inf.size w := by simp [sizeOf, typeInfo, hi, Sem.run_bind, Result.andThen_ok]
    simp only [execOp, hx, Instr.fieldAt, run_underlying hT, hf, Instr.sureAddr, fieldPlace, hsz, hne, addr_add, if_false, Sem.run_bind, Sem.run_pure, Result.andThen_ok]
/-- a field's address, the place typed -/
theorem R.fieldAt {i k : Nat} (hf : ∀ w, (Instr.fieldAt T (.pointer (some ⟨b, off, none⟩)) i).run P w = .ok (.pointer (some ⟨b, off + k, none⟩)) w) (hx : ρ x = .pointer (some ⟨b, off, none⟩)) :
    (execOp ρ ⟨dst, .fieldAddr T x i, ty, pos, af, g⟩).run P w = .ok (.value (.pointer (some ⟨b, off + k, none⟩))) w := by
  simp only [execOp, hx, hf, Sem.run_bind, Sem.run_pure, Result.andThen_ok]
theorem R.indexA {len sz : Nat} {k : IntKind} {m : Int} (hT : P.underlying T = some (.array len E)) (hs : szT P E sz) (hx : ρ x = .pointer (some ⟨b, off, none⟩)) (hy : ρ y = .int k m) (h0 : 0 ≤ m) (h1 : m < len) :
    (execOp ρ ⟨dst, .indexAddr T x y, ty, pos, af, g⟩).run P w = .ok (.value (.pointer (some ⟨b, off + m.toNat * sz, none⟩))) w := by
  simp only [execOp, hx, hy, Instr.indexAt, asIntOf, run_underlying hT, Instr.sureAddr, run_sizeOf' hs, addr_add, and_self, if_true, h0, h1, Sem.run_bind, Sem.run_pure, Result.andThen_ok]
/-- a slice whose head is known -/
theorem R.indexS {len c sz : Nat} {k : IntKind} {m : Int} (hT : P.underlying T = some (.slice E)) (hs : szT P E sz) (hx : ρ x = .slice (some ⟨b, off, none⟩) len c) (hy : ρ y = .int k m) (h0 : 0 ≤ m) (h1 : m < len) :
    (execOp ρ ⟨dst, .indexAddr T x y, ty, pos, af, g⟩).run P w = .ok (.value (.pointer (some ⟨b, off + m.toNat * sz, none⟩))) w := by
  simp only [execOp, hx, hy, Instr.indexAt, asIntOf, run_underlying hT, run_sizeOf' hs, addr_add, and_self, if_true, h0, h1, Bool.and_false, Sem.run_bind, Sem.run_pure, Result.andThen_ok]
/-- any slice -/
theorem R.indexO {len c sz : Nat} {k : IntKind} {m : Int} (hT : P.underlying T = some (.slice E)) (hs : szT P E sz) (hx : ρ x = .slice A len c) (hA : A ≠ none) (hy : ρ y = .int k m) (h0 : 0 ≤ m) (h1 : m < len) :
    (execOp ρ ⟨dst, .indexAddr T x y, ty, pos, af, g⟩).run P w = .ok (.value (.pointer (A.map (·.add (m.toNat * sz))))) w := by
  cases A with
  | none => exact absurd rfl hA
  | some a => simp only [execOp, hx, hy, Instr.indexAt, asIntOf, run_underlying hT, run_sizeOf' hs, and_self, if_true, h0, h1, Bool.and_false, Option.map_some, Sem.run_bind, Sem.run_pure, Result.andThen_ok]

/-- an element of an array's value, or a byte of a string -/
theorem R.index1 {len : Nat} {k : IntKind} {m : Int} (hT : P.underlying T = some (.array len E)) (h1 : oneT P E = true) (hs : szT P E 1) (hx : ρ x = .agg l.toArray) (hy : ρ y = .int k m) (h0 : 0 ≤ m) (h2 : m < len) (hv : l[m.toNat]? = some v) :
    (execOp ρ ⟨dst, .index T x y, ty, pos, af, g⟩).run P w = .ok (.value v) w := by
  simp only [execOp, hx, hy, Instr.index, asIntOf, run_underlying hT, h0, h2, part, run_isAgg_one h1, run_sizeOf' hs, Nat.mul_one, List.getElem?_toArray, hv, and_self, if_true, Bool.false_eq_true, if_false, Sem.run_bind, Sem.run_pure, Result.andThen_ok]
theorem R.indexStr {k : IntKind} {m : Int} {s : ByteArray} (hT : P.underlying T = some .string) (hx : ρ x = .string s) (hy : ρ y = .int k m) (h0 : 0 ≤ m) (h2 : m.toNat < s.size) :
    (execOp ρ ⟨dst, .index T x y, ty, pos, af, g⟩).run P w = .ok (.value (.int .u8 ((s[m.toNat]'h2).toNat : Int))) w := by
  have : s[m.toNat]? = some (s[m.toNat]'h2) := by simp [h2]
  simp only [execOp, hx, hy, Instr.index, asIntOf, run_underlying hT, h0, this, if_true, Sem.run_bind, Sem.run_pure, Result.andThen_ok]

/-- a pointer against nil -/
theorem R.nilP {X : Addr} {T' : TypeId} (hx : ρ x = .pointer (some X)) (hy : ρ y = .pointer none) (hT : P.underlying T = some (.pointer E)) :
    (execOp ρ ⟨dst, .binOp .eql T x y T', ty, pos, af, g⟩).run P w = .ok (.value (.bool false)) w := by
  have he : (Op.equal T (.pointer (some X)) (.pointer none)).run P w = .ok false w := by
    unfold Op.equal Op.maxDepth
    rw [Op.equalIn]
    simp only [Sem.run_bind, run_underlying hT, Result.andThen_ok, Sem.run_pure]
  simp only [execOp, hx, hy, eqGuard, binOp, he, Sem.run_bind, Sem.run_pure, Result.andThen_ok, Bool.not_true, Bool.false_eq_true, if_false]
theorem R.nilCheck {X : Addr} (hx : ρ x = .pointer (some X)) : (execOp ρ ⟨dst, .nilCheck x, ty, pos, af, g⟩).run P w = .ok (.value (.pointer (some X))) w := by
  simp [execOp, hx, go_sem]

/-! ### stores -/
theorem O.store (hs : szT P T 1) (hx : ρ x = .pointer (some ⟨b, off, none⟩)) (hy : ρ y = v) (hρ : ρ = a.eval) (hv : v.oneCell' = true) (hS : St w0 ks bs w) (hu : UpB bs b (Cel l E) (Cel l' E) bs') (hl : l.set off v = l') (hlt : off < l.length)
    (h : ∀ w', St w0 ks bs' w' → K a w') : Oper.wp P ⟨none, .store T x y, ty, pos, af, g⟩ a w K Q := by
  subst hρ
  have hb := hS.get hu.has
  have hc : v.cells = #[v] := by cases v <;> first | rfl | simp [Value.oneCell'] at hv
  have hst := run_storeCells_Cel (P := P) [v] off 0 w l hb (by simp; omega) (by simp [hv])
  have hsp : spl l (off + 0) [v] = l' := by rw [Nat.add_zero, ← spl_cons _ _ _ _ hlt, spl_nil, hl]
  rw [hsp] at hst
  unfold Oper.wp
  have : (execOp a.eval ⟨none, .store T x y, ty, pos, af, g⟩).run P w = .ok .skip (World.setB w b (Cel l' E)) := by
    simp only [execOp, hx, hy, Instr.storeAt, Instr.sureAddr, storeVar, hc, run_sizeOf' hs, hst, List.size_toArray, List.length_cons, List.length_nil, ne_eq, not_true, if_false, Nat.zero_add, Sem.run_ite, Sem.run_bind, Sem.run_pure, Result.andThen_ok]
  rw [this, Oper.upon_skip]
  exact h _ (hS.setB hu)
theorem O.storeA {m : Nat} (hs' : szT P T m) (hx : ρ x = .pointer (some ⟨b, off, none⟩)) (hy : ρ y = .agg cs.toArray) (hm : cs.length = m) (hρ : ρ = a.eval) (hv : ∀ v ∈ cs, v.oneCell' = true) (hS : St w0 ks bs w) (hu : UpB bs b (Cel l E) (Cel l' E) bs') (hl : spl l off cs = l') (hlt : off + cs.length ≤ l.length)
    (h : ∀ w', St w0 ks bs' w' → K a w') : Oper.wp P ⟨none, .store T x y, ty, pos, af, g⟩ a w K Q := by
  subst hρ
  have hs : szT P T cs.length := hm ▸ hs'
  have hb := hS.get hu.has
  have hst := run_storeCells_Cel (P := P) cs off 0 w l hb (by omega) hv
  rw [Nat.add_zero, hl] at hst
  unfold Oper.wp
  have : (execOp a.eval ⟨none, .store T x y, ty, pos, af, g⟩).run P w = .ok .skip (World.setB w b (Cel l' E)) := by
    simp only [execOp, hx, hy, Instr.storeAt, Instr.sureAddr, storeVar, Value.cells, run_sizeOf' hs, hst, List.size_toArray, ne_eq, not_true, if_false, Sem.run_ite, Sem.run_bind, Sem.run_pure, Result.andThen_ok]
  rw [this, Oper.upon_skip]
  exact h _ (hS.setB hu)
theorem O.storeW {m : Nat} (hs : szT P T m) (hx : ρ x = .pointer (some ⟨b, 0, none⟩)) (hy : ρ y = .agg cs.toArray) (hm : cs.length = m) (hρ : ρ = a.eval) (hv : ∀ v ∈ cs, v.oneCell' = true) (hS : St w0 ks bs w) (hu : UpB bs b (Cel l E) (Cel cs E) bs') (hlt : cs.length = l.length)
    (h : ∀ w', St w0 ks bs' w' → K a w') : Oper.wp P ⟨none, .store T x y, ty, pos, af, g⟩ a w K Q :=
  O.storeA hs hx hy hm hρ hv hS hu (spl_all l cs hlt) (by omega) h

/-! ### new blocks -/
theorem O.box (hd : dst = some d) (hn : Nat.blt d n = true) (hF : Fr n env a) (hx : a.eval x = v) (hc : v.cells = l.toArray) (hS : St w0 ks bs w)
    (h : ∀ b a' w', Fr n ((d, .pointer (some ⟨b, 0, none⟩)) :: env) a' → St w0 ks ([(b, Cel l T)] :: bs) w' → K a' w') : Oper.wp P ⟨dst, .box T x, ty, pos, af, g⟩ a w K Q := by
  subst hd
  unfold Oper.wp
  have : (execOp a.eval ⟨some d, .box T x, ty, pos, af, g⟩).run P w = .ok (.value (.pointer (some ⟨w.heap.size, 0, none⟩))) (w.alloc (Cel l T)) := by
    simp only [execOp, Sem.run_bind, hx, Instr.box, newVar, newRow, hc]
    rfl
  rw [this, Oper.upon_value]
  exact h _ _ _ (hF.put hn _) (hS.alloc _)
theorem O.alloc (hd : dst = some d) (hn : Nat.blt d n = true) (hF : Fr n env a) (hz : zeT P T v) (hc : v.cells = l.toArray) (hS : St w0 ks bs w)
    (h : ∀ b a' w', Fr n ((d, .pointer (some ⟨b, 0, none⟩)) :: env) a' → St w0 ks ([(b, Cel l T)] :: bs) w' → K a' w') : Oper.wp P ⟨dst, .alloc T, ty, pos, af, g⟩ a w K Q := by
  subst hd
  unfold Oper.wp
  have hzv : (zeroValue T).run P w = .ok v w := by
    unfold zeT at hz
    cases hi : P.info? T with
    | none => rw [hi] at hz; simp at hz
    | some inf => rw [hi] at hz; simp at hz; simp [zeroValue, typeInfo, hi, hz, Sem.run_bind, Result.andThen_ok]
  have : (execOp a.eval ⟨some d, .alloc T, ty, pos, af, g⟩).run P w = .ok (.value (.pointer (some ⟨w.heap.size, 0, none⟩))) (w.alloc (Cel l T)) := by
    simp only [execOp, Instr.alloc, newVar, newRow, hc, Sem.run_bind, hzv, Result.andThen_ok]
    rfl
  rw [this, Oper.upon_value]
  exact h _ _ _ (hF.put hn _) (hS.alloc _)

/-! ### calls -/
theorem run_callFunc_enter {f : FuncId} {fn : Func} (hf : P.funcs[f]? = some fn) (hn : (fn.name == "runtime.NumGoroutine") = false) (hb : fn.body.isNone = false) (args : Array Value) (w : World) :
    (callFunc f args).run P w = .ok (.enter f args) w := by
  simp only [callFunc, hf, hn, hb, Sem.run_bind, Result.andThen_ok, run_program, Bool.false_eq_true, if_false, Sem.run_pure]

/-- What a call returns; s: its new blocks; of what was there only ks may have turned. -/
def Ret (P : Program) (f : FuncId) (vs : List Value) (w : World) (ks : List Nat) (R : Value → Seg → Prop) : Prop :=
  Calls P f vs.toArray w fun e w' => ∃ v s, e = .returned v ∧ R v s ∧ St w ks [s] w'

theorem run_call {f : FuncId} {xs : List Operand} {tys : Array TypeId} {vs : List Value} (hx : xs.map a.eval = vs) :
    (execOp a.eval ⟨dst, .call ⟨.value (.func f), xs.toArray, tys⟩, ty, pos, af, g⟩).run P w = (callFunc f vs.toArray).run P w := by
  subst hx
  simp [execOp, resolve, Deferred.ofValue, Act.eval, invoke]

theorem R.extern {f : FuncId} {xs : List Operand} {tys : Array TypeId} {vs : List Value} (hx : xs.map a.eval = vs) (he : (callFunc f vs.toArray).run P w = .ok (.value v) w) :
    (execOp a.eval ⟨dst, .call ⟨.value (.func f), xs.toArray, tys⟩, ty, pos, af, g⟩).run P w = .ok (.value v) w := by rw [run_call hx, he]

theorem O.call {f : FuncId} {xs : List Operand} {tys : Array TypeId} {vs : List Value} {R : Value → Seg → Prop} (hd : dst = some d) (hn : Nat.blt d n = true) (hF : Fr n env a)
    (he : ∀ args w, (callFunc f args).run P w = .ok (.enter f args) w) (hx : xs.map a.eval = vs) (hS : St w0 ks bs w) (hC : Ret P f vs w [] R)
    (h : ∀ v s a' w', R v s → Fr n ((d, v) :: env) a' → St w0 ks (s :: bs) w' → K a' w') : Oper.wp P ⟨dst, .call ⟨.value (.func f), xs.toArray, tys⟩, ty, pos, af, g⟩ a w K Q := by
  subst hd
  unfold Oper.wp
  rw [run_call hx, he, Oper.upon_enter]
  refine Calls.mono hC ?_
  rintro e w' ⟨v, s, rfl, hR, hs⟩
  exact h v s _ w' hR (hF.put hn v) (hS.comp0 hs)

/-- all of a list -/
def opvs (l : Env) : List Operand → Option (List Value)
  | [] => some []
  | x :: r => match opv l x, opvs l r with
    | some v, some vs => some (v :: vs)
    | _, _ => none
theorem Fr.evs {xs : List Operand} {vs : List Value} (h : Fr n env a) (hx : opvs env xs = some vs) : xs.map a.eval = vs := by
  induction xs generalizing vs with
  | nil => simp [opvs] at hx; simp [hx]
  | cons x r ih =>
    simp only [opvs] at hx
    cases h1 : opv env x with
    | none => rw [h1] at hx; simp at hx
    | some v =>
      cases h2 : opvs env r with
      | none => rw [h1, h2] at hx; simp at hx
      | some us =>
        rw [h1, h2] at hx
        simp only [Option.some.injEq] at hx
        rw [List.map_cons, h.ev h1, ih h2, hx]
def opvp (l : Env) : List (Nat × Operand) → Option (List (Nat × Value))
  | [] => some []
  | x :: r => match opv l x.2, opvp l r with
    | some v, some vs => some ((x.1, v) :: vs)
    | _, _ => none
theorem Fr.evp {xs : List (Nat × Operand)} {vs : List (Nat × Value)} (h : Fr n env a) (hx : opvp env xs = some vs) : xs.map (fun p => (p.1, a.eval p.2)) = vs := by
  induction xs generalizing vs with
  | nil => simp [opvp] at hx; simp [hx]
  | cons x r ih =>
    simp only [opvp] at hx
    cases h1 : opv env x.2 with
    | none => rw [h1] at hx; simp at hx
    | some v =>
      cases h2 : opvp env r with
      | none => rw [h1, h2] at hx; simp at hx
      | some us =>
        rw [h1, h2] at hx
        simp only [Option.some.injEq] at hx
        rw [List.map_cons, h.ev h1, ih h2, hx]
theorem R.build {xs : List (Nat × Operand)} {ps : List (Nat × Value)} (hx : xs.map (fun p => (p.1, a.eval p.2)) = ps) (hb : ∀ w, (Instr.build T ps.toArray).run P w = .ok v w) :
    (execOp a.eval ⟨dst, .build T xs.toArray, ty, pos, af, g⟩).run P w = .ok (.value v) w := by
  have : xs.toArray.map (fun (p : Nat × Operand) => (p.1, a.eval p.2)) = ps.toArray := by rw [← hx]; simp
  simp only [execOp]
  rw [show (xs.toArray.map fun (x : Nat × Operand) => match x with | (i, x) => (i, a.eval x)) = ps.toArray from this]
  simp only [hb, Sem.run_bind, Result.andThen_ok, Sem.run_pure]
theorem R.len {t : TypeId} {tys : List TypeId} {A : Option Addr} {m c : Nat} (hT : P.underlying t = some (.slice E)) (hx : a.eval x = .slice A m c) :
    (execOp a.eval ⟨dst, .call ⟨.builtin .len, [x].toArray, (t :: tys).toArray⟩, ty, pos, af, g⟩).run P w = .ok (.value (.int .i64 (m : Int))) w := by
  simp [execOp, resolve, invoke, builtin, Builtin.len_, hx, run_underlying hT, goInt, Sem.run_bind, Result.andThen_ok]
theorem R.lenS {t : TypeId} {tys : List TypeId} {s : ByteArray} (hT : P.underlying t = some .string) (hx : a.eval x = .string s) :
    (execOp a.eval ⟨dst, .call ⟨.builtin .len, [x].toArray, (t :: tys).toArray⟩, ty, pos, af, g⟩).run P w = .ok (.value (.int .i64 (s.size : Int))) w := by
  simp [execOp, resolve, invoke, builtin, Builtin.len_, hx, run_underlying hT, goInt, Sem.run_bind, Result.andThen_ok]

/-! ### a function's end -/
inductive ResEv (P : Program) (a : Act) (w : World) : List ResultVar → List Value → Prop
  | nil : ResEv P a w [] []
  | tmp {t : Nat} {v : Value} {rs : List ResultVar} {vs : List Value} (h : a.tmps.getD t undef = v) (hr : ResEv P a w rs vs) : ResEv P a w (.tmp t :: rs) (v :: vs)
  | cell {p : Nat} {X : Addr} {T : TypeId} {v : Value} {rs : List ResultVar} {vs : List Value} (h : a.tmps.getD p undef = .pointer (some X)) (hl : (loadVar T X).run P w = .ok v w) (hr : ResEv P a w rs vs) : ResEv P a w (.cell p T :: rs) (v :: vs)

def retVal : List Value → Value
  | [v] => v
  | vs => .tuple vs.toArray
def resOne (a : Act) : ResultVar → Sem Value
  | .tmp t => pure (a.tmps.getD t undef)
  | .cell p t => do loadVar t (← asAddr (a.tmps.getD p undef))
theorem run_results {fn : Func} {rs : List ResultVar} {vs : List Value} (hr : fn.results = rs.toArray) (h : ResEv P a w rs vs) : (results fn a.tmps).run P w = .ok (retVal vs) w := by
  have key : (rs.mapM (resOne a)).run P w = .ok vs w := by
    clear hr
    induction h with
    | nil => simp
    | tmp h _ ih => simp only [List.mapM_cons, Sem.run_bind, resOne, Sem.run_pure, h, ih, Result.andThen_ok]
    | @cell p X T v rs vs h hl _ ih =>
      have h2 : (resOne a (.cell p T)).run P w = .ok v w := by
        have h3 : (asAddr (.pointer (some X))).run P w = .ok X w := rfl
        simp only [resOne, Sem.run_bind, h, h3, hl, Result.andThen_ok]
      simp only [List.mapM_cons, Sem.run_bind, Sem.run_pure, h2, ih, Result.andThen_ok]
  have e : results fn a.tmps = (do let vs ← rs.toArray.mapM (resOne a); pure (if h : vs.size = 1 then vs[0] else .tuple vs)) := by
    unfold results; rw [hr]; rfl
  rw [e, List.mapM_toArray]
  have e2 : (List.toArray <$> rs.mapM (resOne a)).run P w = .ok vs.toArray w := by
    have : (List.toArray <$> rs.mapM (resOne a)) = (do let l ← rs.mapM (resOne a); pure l.toArray) := rfl
    rw [this]
    simp only [Sem.run_bind, key, Result.andThen_ok, Sem.run_pure]
  simp only [Sem.run_bind, e2, Result.andThen_ok, Sem.run_pure]
  congr 1
  match vs with
  | [] => simp [retVal]
  | [v] => simp [retVal]
  | u :: v :: r => simp [retVal]
theorem ResEv.t {t : Nat} {v : Value} {rs : List ResultVar} {vs : List Value} (hF : Fr n env a) (h : look env t = some v) (hr : ResEv P a w rs vs) : ResEv P a w (.tmp t :: rs) (v :: vs) := .tmp (hF.get _ _ h) hr
theorem ResEv.cw {p : Nat} {T : TypeId} {rs : List ResultVar} {vs : List Value} (hF : Fr n env a) (h : look env p = some (.pointer (some ⟨b, 0, none⟩))) (hT : aggT P T = true) (hS : St w0 ks bs w) (hb : HasB bs b (Cel l E)) {m : Nat} (hs : szT P T m) (hm : l.length = m)
    (hr : ResEv P a w rs vs) : ResEv P a w (.cell p T :: rs) (.agg l.toArray :: vs) :=
  .cell (hF.get _ _ h) (run_loadVarA hT (hm ▸ hs) fun j v hj => by rw [addr_add, cell_Cel (hS.get hb), Nat.zero_add]; exact hj) hr

theorem fn_start {f : FuncId} {fn : Func} {c : Code} {vs : List Value} {N : Nat} {R : Ending → World → Prop} (hf : P.funcs[f]? = some fn) (hb : fn.body = some c) (hN : fn.ntmps = N) (hsz : Nat.ble vs.length N = true) (env : Env)
    (he : AllLook (vs.zipIdx.map fun p => (p.2, p.1)) env)
    (h : ∀ (Q : Exit → Act → World → Prop) (a : Act), PanicOk Q → Fr N env a →
      (∀ n' env' a' w' v, Fr n' env' a' → (results fn a'.tmps).run P w' = .ok v w' → R (.returned v) w' → Q .ret a' w') →
      (∀ n' env' a' w' v, Fr n' env' a' → (results fn a'.tmps).run P w' = .ok v w' → R (.returned v) w' → Q .normal a' w') → c.wp P Q a w) : Calls P f vs.toArray w R := by
  refine calls_of_wp hf hb ?_
  rw [hN]
  refine h _ _ PanicOk.body (Fr.start (by simpa using Nat.le_of_ble_eq_true hsz) he) ?_ ?_
  · intro n' env' a' w' v hF hr hR; exact ⟨hF.defs, v, hr, hR⟩
  · intro n' env' a' w' v hF hr hR; exact ⟨hF.defs, v, hr, hR⟩
end

section
variable {P : Program} {ops : Array Oper} {Q : Exit → Act → World → Prop} {a : Act} {w w0 : World} {ks : List Nat} {bs bs' : List Seg}
/-- 'wp_draw' under what is known of the blocks. -/
theorem wp_drawS {id : Nat} (hS : St w0 ks bs w) (full : List (Nat × Nat)) (hm : P.follows .mixedOrders = true) (hc : drawOK ops full = true) (hQ : PanicOk Q)
    (h : ∀ w, St w0 ks bs w → WL P ops Q (St w0 ks bs) (Q .normal) full a w) : (Code.region id ops true).wp P Q a w :=
  wp_draw _ full hm hc hQ (h _ hS.drew)
theorem wp_draw2S {id : Nat} (hS : St w0 ks bs w) (pre : List (Nat × Nat)) (alts : List (List (Nat × Nat))) (hm : P.follows .mixedOrders = true) (hc : drawOK2 ops pre alts = true) (hQ : PanicOk Q)
    (h : ∀ w, St w0 ks bs w → WL P ops Q (St w0 ks bs) (fun a w => ∀ l ∈ alts, WL P ops Q (St w0 ks bs) (Q .normal) l a w) pre a w) : (Code.region id ops true).wp P Q a w :=
  wp_draw2 _ pre alts hm hc hQ (h _ hS.drew)
theorem wp_drawG {bd : List Seg} {id : Nat} (hS : St w0 ks bs w) (hD : St w0 ks bd w) (full : List (Nat × Nat)) (hm : P.follows .mixedOrders = true) (hc : drawOK ops full = true) (hQ : PanicOk Q)
    (h : ∀ w, St w0 ks bs w → St w0 ks bd w → WL P ops Q (St w0 ks bd) (Q .normal) full a w) : (Code.region id ops true).wp P Q a w :=
  wp_draw _ full hm hc hQ (h _ hS.drew hD.drew)
theorem wp_draw2G {bd : List Seg} {id : Nat} (hS : St w0 ks bs w) (hD : St w0 ks bd w) (pre : List (Nat × Nat)) (alts : List (List (Nat × Nat))) (hm : P.follows .mixedOrders = true) (hc : drawOK2 ops pre alts = true) (hQ : PanicOk Q)
    (h : ∀ w, St w0 ks bs w → St w0 ks bd w → WL P ops Q (St w0 ks bd) (fun a w => ∀ l ∈ alts, WL P ops Q (St w0 ks bd) (Q .normal) l a w) pre a w) : (Code.region id ops true).wp P Q a w :=
  wp_draw2 _ pre alts hm hc hQ (h _ hS.drew hD.drew)
theorem alts2 {R : List (Nat × Nat) → Prop} {l1 l2 : List (Nat × Nat)} (h1 : R l1) (h2 : R l2) : ∀ l ∈ [l1, l2], R l := by
  intro l hl
  simp only [List.mem_cons, List.not_mem_nil, or_false] at hl
  rcases hl with rfl | rfl
  · exact h1
  · exact h2
theorem wp_seqS {id : Nat} {l : List Oper} (h : wpList P l.toArray Q l a w) : (Code.region id l.toArray false).wp P Q a w := wp_region_lit h

def selS (bs : List Seg) : List Nat → List Seg
  | [] => []
  | i :: r => bs.getD i [] :: selS bs r
theorem mem_selS : ∀ (idx : List Nat) (p : Nat × Obj), p ∈ (selS bs idx).flatten → ∃ i ∈ idx, p ∈ bs.getD i []
  | [], p, h => by simp [selS] at h
  | i :: r, p, h => by
    simp only [selS, List.flatten_cons, List.mem_append] at h
    rcases h with h | h
    · exact ⟨i, by simp, h⟩
    · obtain ⟨j, hj, hp⟩ := mem_selS r p h
      exact ⟨j, by simp [hj], hp⟩
theorem mem_getD {p : Nat × Obj} {i : Nat} (h : p ∈ bs.getD i []) : p ∈ bs.flatten := by
  rw [List.getD_eq_getElem?_getD] at h
  cases hi : bs[i]? with
  | none => rw [hi] at h; simp at h
  | some s =>
    rw [hi] at h
    simp only [Option.getD_some] at h
    exact List.mem_flatten.2 ⟨s, List.mem_of_getElem? hi, h⟩
theorem apart_getD (hn : (keys bs).Nodup) {p q : Nat × Obj} {i j : Nat} (hp : p ∈ bs.getD i []) (hq : q ∈ bs.getD j []) (hij : i ≠ j) : p.1 ≠ q.1 := by
  induction bs generalizing i j with
  | nil => simp at hp
  | cons s bs ih =>
    simp only [keys, List.flatten_cons, List.map_append] at hn
    rw [List.nodup_append] at hn
    match i, j with
    | 0, 0 => exact absurd rfl hij
    | 0, j + 1 =>
      simp only [List.getD_cons_zero, List.getD_cons_succ] at hp hq
      exact hn.2.2 _ (List.mem_map_of_mem hp) _ (List.mem_map_of_mem (mem_getD hq))
    | i + 1, 0 =>
      simp only [List.getD_cons_zero, List.getD_cons_succ] at hp hq
      exact fun e => hn.2.2 _ (List.mem_map_of_mem hq) _ (List.mem_map_of_mem (mem_getD hp)) e.symm
    | i + 1, j + 1 =>
      simp only [List.getD_cons_succ] at hp hq
      exact ih hn.2.1 hp hq (by omega)
theorem nodup_getD (hn : (keys bs).Nodup) (i : Nat) : ((bs.getD i []).map (·.1)).Nodup := by
  induction bs generalizing i with
  | nil => simp
  | cons s bs ih =>
    simp only [keys, List.flatten_cons, List.map_append] at hn
    rw [List.nodup_append] at hn
    match i with
    | 0 => simpa using hn.1
    | i + 1 => simpa using ih hn.2.1 i
theorem nodup_selS (hn : (keys bs).Nodup) : ∀ (idx : List Nat), allDiff idx = true → (keys (selS bs idx)).Nodup
  | [], _ => by simp [selS, keys]
  | i :: r, h => by
    simp only [allDiff, Bool.and_eq_true] at h
    have ih := nodup_selS hn r h.2
    simp only [selS, keys, List.flatten_cons, List.map_append]
    rw [List.nodup_append]
    refine ⟨nodup_getD hn i, ih, ?_⟩
    intro x hx y hy
    obtain ⟨p, hp, rfl⟩ := List.mem_map.1 hx
    obtain ⟨q, hq, rfl⟩ := List.mem_map.1 hy
    obtain ⟨j, hj, hq⟩ := mem_selS r q hq
    refine apart_getD hn hp hq ?_
    have := List.all_eq_true.1 h.1 j hj
    rintro rfl
    simp at this
/-- Some of what is known, in another order. -/
theorem St.sel (h : St w0 ks bs w) (idx : List Nat) (hd : allDiff idx = true) (he : selS bs idx = bs') : St w0 ks bs' w := by
  subst he
  refine h.pick (fun p hp => ?_) (nodup_selS h.nodup idx hd)
  obtain ⟨i, _, hp⟩ := mem_selS idx p hp
  exact mem_getD hp
end
section
variable {P : Program} {Q : Exit → Act → World → Prop} {a : Act} {w : World} {n t : Nat} {env : Env} {c : Code}
theorem wp_loop_N (I : Nat → Act → World → Prop) (g : Nat) (h0 : I g a w)
    (round : ∀ (K : Act → World → Prop), ∀ g a w, I g a w → (∀ g' a' w', g' < g → I g' a' w' → K a' w') → c.wp P (Exit.then K Q) a w) : (Code.loop c).wp P Q a w := wp_loop_I I (fun g => g) g h0 round
theorem Fr.splitB {G : Prop} {b : Bool} (hF : Fr n env a) (hx : look env t = some (.bool b)) (hT : b = true → Fr n ((t, .bool true) :: env) a → G) (hN : b = false → Fr n ((t, .bool false) :: env) a → G) : G := by
  have key : ∀ u, some u = look env t → Fr n ((t, u) :: env) a := fun u hu => ⟨hF.size, hF.defs, fun s v hv => by
    simp only [look] at hv
    cases hb : Nat.beq t s
    · rw [hb] at hv; exact hF.get s v hv
    · rw [hb] at hv
      have : t = s := Nat.eq_of_beq_eq_true hb
      subst this
      simp only [cond_true] at hv
      exact hF.get t v (hu ▸ hv)⟩
  cases b
  · exact hN rfl (key _ hx.symm)
  · exact hT rfl (key _ hx.symm)
theorem Fr.splitD {G : Prop} {p : Prop} [Decidable p] (hF : Fr n env a) (hx : look env t = some (.bool (decide p))) (hT : p → Fr n ((t, .bool true) :: env) a → G) (hN : ¬ p → Fr n ((t, .bool false) :: env) a → G) : G :=
  hF.splitB hx (fun h => hT (of_decide_eq_true h)) (fun h => hN (of_decide_eq_false h))
variable {ρ : Operand → Value} {dst : Option Tmp} {ty : TypeId} {pos : String} {af : Array Edge} {g : Option (Nat × Bool)} {x y z : Operand} {T : TypeId}
theorem R.notD {p : Prop} [Decidable p] (h : ρ x = .bool (decide p)) : (execOp ρ ⟨dst, .unOp .not T x, ty, pos, af, g⟩).run P w = .ok (.value (.bool (decide (¬ p)))) w := R.as (R.not h) (by simp)
theorem getAt {l cs : List Value} {off : Nat} (h : (l.drop off).take cs.length = cs) : ∀ j v, cs[j]? = some v → l[off + j]? = some v := by
  intro j v hj
  rw [← h, List.getElem?_take] at hj
  split at hj
  · rw [List.getElem?_drop] at hj; exact hj
  · simp at hj
end

section
variable {P : Program} {a : Act} {w : World} {dst : Option Tmp} {ty : TypeId} {pos : String} {af : Array Edge} {g : Option (Nat × Bool)} {T E : TypeId}
/-- parts laid into a literal's cells -/
def fillL (place : Nat → Option (Nat × Nat)) (cells : List Value) : List (Nat × Value) → Option (List Value)
  | [] => some cells
  | (i, v) :: rest => match place i with
    | none => none
    | some (off, size) => match v with
      | .agg cs => bif Nat.beq cs.toList.length size && Nat.ble (off + cs.toList.length) cells.length then fillL place (spl cells off cs.toList) rest else none
      | v => bif Nat.beq 1 size && Nat.blt off cells.length then fillL place (cells.set off v) rest else none
theorem foldl_zip (off : Nat) : ∀ (vs : List Value) (k : Nat) (l : List Value), off + k + vs.length ≤ l.length → (vs.zipIdx k).foldl (fun cs (p : Value × Nat) => cs.setIfInBounds (off + p.2) p.1) l.toArray = (spl l (off + k) vs).toArray
  | [], k, l, _ => by simp [spl_nil]
  | v :: vs, k, l, h => by
    simp only [List.length_cons] at h
    simp only [List.zipIdx_cons, List.foldl_cons, List.setIfInBounds_toArray]
    rw [foldl_zip off vs (k + 1) (l.set (off + k) v) (by simp; omega), show off + (k + 1) = off + k + 1 from by omega, spl_cons _ _ _ _ (by omega)]
theorem fill_L (place : Nat → Option (Nat × Nat)) : ∀ (ps : List (Nat × Value)) (cells l : List Value), fillL place cells ps = some l → Instr.fill place cells.toArray ps = some l.toArray := by
  intro ps
  induction ps with
  | nil => intro cells l h; simp [fillL] at h; simp [Instr.fill, h]
  | cons p rest ih =>
    intro cells l h
    obtain ⟨i, v⟩ := p
    simp only [fillL] at h
    simp only [Instr.fill]
    cases hp : place i with
    | none => rw [hp] at h; simp at h
    | some q =>
      obtain ⟨off, size⟩ := q
      rw [hp] at h
      have one : ∀ u : Value, u.cells = #[u] → (bif Nat.beq 1 size && Nat.blt off cells.length then fillL place (cells.set off u) rest else none) = some l →
          (if u.cells.size ≠ size || off + u.cells.size > cells.toArray.size then none else Instr.fill place (u.cells.zipIdx.foldl (fun cs (x : Value × Nat) => cs.setIfInBounds (off + x.2) x.1) cells.toArray) rest) = some l.toArray := by
        intro u hu h'
        cases hb : (Nat.beq 1 size && Nat.blt off cells.length) with
        | false => rw [hb] at h'; simp at h'
        | true =>
          rw [hb] at h'
          simp only [cond_true] at h'
          simp only [Bool.and_eq_true] at hb
          have h1 := Nat.eq_of_beq_eq_true hb.1
          have h2 : off < cells.length := Nat.le_of_ble_eq_true hb.2
          subst h1
          have e : u.cells.zipIdx.foldl (fun cs (x : Value × Nat) => cs.setIfInBounds (off + x.2) x.1) cells.toArray = (cells.set off u).toArray := by rw [hu]; simp
          rw [e, hu, if_neg (by simp; omega)]
          exact ih _ _ h'
      match v, h with
      | .agg cs, h =>
        simp only at h
        cases hb : (Nat.beq cs.toList.length size && Nat.ble (off + cs.toList.length) cells.length) with
        | false => rw [hb] at h; simp at h
        | true =>
          rw [hb] at h
          simp only [Bool.and_eq_true] at hb
          have h1 := Nat.eq_of_beq_eq_true hb.1
          have h2 := Nat.le_of_ble_eq_true hb.2
          have e : (Value.agg cs).cells.zipIdx.foldl (fun cs (x : Value × Nat) => cs.setIfInBounds (off + x.2) x.1) cells.toArray = (spl cells off cs.toList).toArray := by
            have := foldl_zip off cs.toList 0 cells (by simpa using h2)
            rw [Nat.add_zero] at this
            rw [← this]
            simp only [Value.cells]
            rw [← Array.foldl_toList]
            simp
          simp only [Array.length_toList] at h1 h2
          simp only []
          rw [e]
          have h3 : ¬ (decide ((Value.agg cs).cells.size ≠ size) || decide (off + (Value.agg cs).cells.size > cells.toArray.size)) = true := by
            simp [Value.cells, h1]; omega
          rw [if_neg h3]
          exact ih _ _ (by simpa using h)
      | .bool _, h => exact one _ rfl h
      | .int _ _, h => exact one _ rfl h
      | .float _ _, h => exact one _ rfl h
      | .complex _ _ _, h => exact one _ rfl h
      | .string _, h => exact one _ rfl h
      | .pointer _, h => exact one _ rfl h
      | .slice _ _ _, h => exact one _ rfl h
      | .map _, h => exact one _ rfl h
      | .chan _, h => exact one _ rfl h
      | .func _ _ _, h => exact one _ rfl h
      | .nilFunc, h => exact one _ rfl h
      | .iface _ _, h => exact one _ rfl h
      | .nilIface, h => exact one _ rfl h
      | .tuple _, h => exact one _ rfl h
theorem R.buildArr {xs : List (Nat × Operand)} {ps : List (Nat × Value)} {zs l : List Value} {len sz : Nat} (hT : P.underlying T = some (.array len E)) (hz : zeT P T (.agg zs.toArray)) (hs : szT P E sz)
    (hx : xs.map (fun p => (p.1, a.eval p.2)) = ps) (hl : fillL (fun i => some (i * sz, sz)) zs ps = some l) :
    (execOp a.eval ⟨dst, .build T xs.toArray, ty, pos, af, g⟩).run P w = .ok (.value (.agg l.toArray)) w := by
  refine R.build hx fun w => ?_
  have hzv : (zeroValue T).run P w = .ok (.agg zs.toArray) w := by
    unfold zeT at hz
    cases hi : P.info? T with
    | none => rw [hi] at hz; simp at hz
    | some inf => rw [hi] at hz; simp at hz; simp [zeroValue, typeInfo, hi, hz, Sem.run_bind, Result.andThen_ok]
  have := fill_L _ _ _ _ hl
  simp only [Instr.build, Sem.run_bind, hzv, Result.andThen_ok, Value.cells, run_underlying hT, run_sizeOf' hs, this, Sem.run_pure]
def fldsOf (P : Program) (T : TypeId) : Array Field := match P.underlying T with | some (.struct fs) => fs | _ => #[]
theorem R.buildStr {xs : List (Nat × Operand)} {ps : List (Nat × Value)} {zs l : List Value} {fs : Array Field} {pl : List (Nat × Nat)} (hT : P.underlying T = some (.struct fs)) (hz : zeT P T (.agg zs.toArray))
    (hp' : ∀ w, ((fldsOf P T).mapM (m := Sem) fun f => do pure (f.offset, ← sizeOf f.type)).run P w = .ok pl.toArray w)
    (hx : xs.map (fun p => (p.1, a.eval p.2)) = ps) (hl : fillL (fun i => pl[i]?) zs ps = some l) :
    (execOp a.eval ⟨dst, .build T xs.toArray, ty, pos, af, g⟩).run P w = .ok (.value (.agg l.toArray)) w := by
  refine R.build hx fun w => ?_
  have hzv : (zeroValue T).run P w = .ok (.agg zs.toArray) w := by
    unfold zeT at hz
    cases hi : P.info? T with
    | none => rw [hi] at hz; simp at hz
    | some inf => rw [hi] at hz; simp at hz; simp [zeroValue, typeInfo, hi, hz, Sem.run_bind, Result.andThen_ok]
  have hp : ∀ w, (fs.mapM (m := Sem) fun f => do pure (f.offset, ← sizeOf f.type)).run P w = .ok pl.toArray w := by
    have e : fldsOf P T = fs := by simp [fldsOf, hT]
    rw [e] at hp'; exact hp'
  have h2 : Instr.fill (fun i => pl.toArray[i]?) zs.toArray ps = some l.toArray := fill_L _ _ _ _ (by simpa using hl)
  simp only [Instr.build, Sem.run_bind, hzv, Result.andThen_ok, Value.cells, run_underlying hT, hp, h2, Sem.run_pure]
end
end Go.Fw
