/- What is read while a call turns other blocks; calls through function values and interfaces. No condition beyond each lemma's own. -/
import Derived.Test.YtlapmbkfmbkdoaaDf
namespace Go.Fw
open Go.RowKit Go.Proofs.Ytlapmbkfmbkdoaa
/-! reading what lies apart from what turns -/
def RdK (w : World) (ks : List Nat) (A : Option Addr) (cs : List Value) : Prop := Rd w A cs ∧ ∀ a, A = some a → cs ≠ [] → a.block ∉ ks
section
variable {w0 w w' : World} {ks ks' : List Nat} {bs bs' : List Seg} {s s1 s2 s' t : Seg} {A : Option Addr} {cs : List Value} {b off : Nat} {l : List Value} {E : TypeId}
theorem RdK.nil (w : World) (ks : List Nat) (A : Option Addr) : RdK w ks A [] := ⟨Rd.nil _ _, fun _ _ h => absurd rfl h⟩
theorem RdK.old (h : RdK w0 ks A cs) (hs : St w0 ks bs w) : Rd w A cs := by
  intro j v hj
  obtain ⟨a, ha, hc⟩ := h.1 j v hj
  refine ⟨a, ha, ?_⟩
  rw [World.cell?_of_block (w := w0)]
  · exact hc
  · refine hs.keep _ (lt_of_cell hc) ?_
    rw [add_block]
    exact h.2 a ha (by intro e; subst e; simp at hj)
theorem Rd.lt (h : Rd w A cs) {a : Addr} (ha : A = some a) (hne : cs ≠ []) : a.block < w.heap.size := by
  cases cs with
  | nil => exact absurd rfl hne
  | cons v r =>
    obtain ⟨a', ha', hc⟩ := h 0 v rfl
    rw [ha] at ha'
    simp only [Option.some.injEq] at ha'
    subst ha'
    have := lt_of_cell hc
    rwa [add_block] at this
theorem RdK.down (h : RdK w0 ks A cs) (hS : St w0 ks bs w) (hs : HasS bs s) : RdK w (s.map (·.1)) A cs := by
  refine ⟨h.old hS, fun a ha hne hm => ?_⟩
  obtain ⟨p, hp, e⟩ := List.mem_map.1 hm
  have hpf : p ∈ bs.flatten := List.mem_flatten.2 ⟨s, hs.mem, hp⟩
  rcases hS.place p hpf with h1 | h1
  · have := h.1.lt ha hne
    omega
  · exact h.2 a ha hne (e ▸ h1)
theorem RdK.nok (h : Rd w A cs) : RdK w [] A cs := ⟨h, fun _ _ _ => by simp⟩
/-- what lies in a known block, apart from another known segment -/
theorem RdK.apart {o : Obj} (hS : St w0 ks [t, s] w) (hr : Rd w (some ⟨b, off, none⟩) cs) (hb : (b, o) ∈ t) : RdK w (s.map (·.1)) (some ⟨b, off, none⟩) cs := by
  refine ⟨hr, fun a ha _ hm => ?_⟩
  simp only [Option.some.injEq] at ha
  subst ha
  have hn := hS.nodup
  simp only [keys, List.flatten_cons, List.flatten_nil, List.append_nil, List.map_append] at hn
  exact (List.nodup_append.1 hn).2.2 _ (List.mem_map_of_mem hb) _ hm rfl
theorem RdK.part (h : RdK w ks A cs) (k : Nat) : RdK w ks A (cs.take k) := ⟨h.1.sub k, fun a ha hne => h.2 a ha (by intro e; subst e; simp at hne)⟩
end
section
variable {P : Program} {ops : Array Oper} {Q : Exit → Act → World → Prop} {a : Act} {w w' w0 : World} {n : Nat} {env : Env} {d : Nat} {v z : Value} {K : Act → World → Prop}
variable {dst : Option Tmp} {ty : TypeId} {pos : String} {af : Array Edge} {g : Option (Nat × Bool)}
variable {ks : List Nat} {bs bs' : List Seg} {s : Seg}
/-- a call through a function value, which turns the segment s -/
theorem O.callV {f : FuncId} {fo : Operand} {xs : List Operand} {tys : Array TypeId} {vs : List Value} {R : Value → Seg → Prop} {bsf : Seg → List Seg} (hd : dst = some d) (hn : Nat.blt d n = true) (hF : Fr n env a)
    (hfo : a.eval fo = .func (.func f) #[] #[])
    (he : ∀ args w, (callFunc f args).run P w = .ok (.enter f args) w) (hx : xs.map a.eval = vs) (hS : St w0 ks bs w) (hC : Ret P f vs w (s.map (·.1)) R) (hr : ∀ s', RepB bs s s' (bsf s'))
    (h : ∀ v s' a' w', R v s' → Fr n ((d, v) :: env) a' → St w0 ks (bsf s') w' → K a' w') : Oper.wp P ⟨dst, .call ⟨.value fo, xs.toArray, tys⟩, ty, pos, af, g⟩ a w K Q := by
  subst hd
  have e : (execOp a.eval ⟨some d, .call ⟨.value fo, xs.toArray, tys⟩, ty, pos, af, g⟩).run P w = (callFunc f vs.toArray).run P w := by
    subst hx
    simp [execOp, resolve, Deferred.ofValue, hfo, invoke]
  unfold Oper.wp
  rw [e, he, Oper.upon_enter]
  refine Calls.mono hC ?_
  rintro e w' ⟨v, s', rfl, hR, hs⟩
  exact h v s' _ w' hR (hF.put hn v) (hS.compK (hr s') hs)
/-- a call of an interface's method, which turns the segment s -/
theorem O.callM {f : FuncId} {ro : Operand} {nm : String} {t : TypeId} {u u' : Value} {xs : List Operand} {tys : Array TypeId} {vs : List Value} {R : Value → Seg → Prop} {bsf : Seg → List Seg} (hd : dst = some d) (hn : Nat.blt d n = true) (hF : Fr n env a)
    (hro : a.eval ro = .iface t u) (hm : ∀ w, (method (P.types.size + Made.depth) t u nm).run P w = .ok (f, u') w)
    (he : ∀ args w, (callFunc f args).run P w = .ok (.enter f args) w) (hx : xs.map a.eval = vs) (hS : St w0 ks bs w) (hC : Ret P f (u' :: vs) w (s.map (·.1)) R) (hr : ∀ s', RepB bs s s' (bsf s'))
    (h : ∀ v s' a' w', R v s' → Fr n ((d, v) :: env) a' → St w0 ks (bsf s') w' → K a' w') : Oper.wp P ⟨dst, .call ⟨.invoke ro nm, xs.toArray, tys⟩, ty, pos, af, g⟩ a w K Q := by
  subst hd
  have e : (execOp a.eval ⟨some d, .call ⟨.invoke ro nm, xs.toArray, tys⟩, ty, pos, af, g⟩).run P w = (callFunc f (u' :: vs).toArray).run P w := by
    subst hx
    have e2 : List.take xs.length (List.map a.eval xs) = List.map a.eval xs := List.take_of_length_le (by simp)
    simp [execOp, resolve, hro, invoke, callMethod, Sem.run_bind, run_program, hm, e2]
  unfold Oper.wp
  rw [e, he, Oper.upon_enter]
  refine Calls.mono hC ?_
  rintro e w' ⟨v, s', rfl, hR, hs⟩
  exact h v s' _ w' hR (hF.put hn v) (hS.compK (hr s') hs)
/-- a call that turns a part of a segment alone -/
theorem Ret.frame {f : FuncId} {vs : List Value} {s1 s2 : Seg} {R : Value → Seg → Prop} (ho : Own w (s1 ++ s2)) (h : Ret P f vs w (s1.map (·.1)) R) : Ret P f vs w ((s1 ++ s2).map (·.1)) fun v s' => ∃ s1', R v s1' ∧ s' = s1' ++ s2 := by
  refine Calls.mono h ?_
  rintro e w' ⟨v, s', rfl, hR, hs⟩
  have h1 : St w ((s1 ++ s2).map (·.1)) [s1, s2] w := (St.enter ho).flat (by simp)
  exact ⟨v, s' ++ s2, rfl, ⟨s', hR, rfl⟩, (h1.compK .h hs).flat (by simp)⟩
theorem Ret.mono {f : FuncId} {vs : List Value} {R R' : Value → Seg → Prop} (h : Ret P f vs w ks R) (hr : ∀ v s, R v s → R' v s) : Ret P f vs w ks R' := by
  refine Calls.mono h ?_
  rintro e w' ⟨v, s', he, hR, hs⟩
  exact ⟨v, s', he, hr _ _ hR, hs⟩
/-- a call that turns nothing, of which a segment is asked -/
theorem Ret.still {f : FuncId} {vs : List Value} {s : Seg} {R : Value → Prop} (ho : Own w s) (h : Ret P f vs w [] (fun v s' => R v ∧ s' = [])) : Ret P f vs w (s.map (·.1)) fun v s' => R v ∧ s' = s := by
  refine Calls.mono h ?_
  rintro e w' ⟨v, s', rfl, ⟨hR, rfl⟩, hs⟩
  exact ⟨v, s, rfl, ⟨hR, rfl⟩, ((St.enter ho).comp0 hs).tail⟩
end
end Go.Fw
