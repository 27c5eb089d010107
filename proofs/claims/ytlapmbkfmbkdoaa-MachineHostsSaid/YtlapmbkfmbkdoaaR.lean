/- Maps whose keys are integers; calls that change given blocks. No condition beyond each lemma's own. -/
import Derived.Test.YtlapmbkfmbkdoaaE
import Derived.MapKept
namespace Go.Fw
open Go.RowKit

def mk (e : MapEntry) : Int := match e.key with | .int _ m => m | _ => 0
def IK (k : IntKind) (l : List MapEntry) : Prop := ∀ e ∈ l, ∃ m, e.key = .int k m
def fnd (n : Int) : List MapEntry → Option Value
  | [] => none
  | e :: l => if mk e = n then some e.val else fnd n l
def MapR (k : IntKind) (es : Array MapEntry) (f : Int → Option Value) : Prop := IK k es.toList ∧ ∀ n, fnd n es.toList = f n
def updF {α : Type} (f : Int → α) (n : Int) (v : α) : Int → α := fun m => if m = n then v else f m
def MapIn (k : IntKind) (w : World) (v : Value) (f : Int → Option Value) : Prop :=
  (v = .map none ∧ ∀ n, f n = none) ∨ ∃ b es c, v = .map (some b) ∧ w.heap[b]? = some (.map es c) ∧ MapR k es f

section
variable {k : IntKind} {n : Int} {l : List MapEntry} {v z mv : Value} {es : Array MapEntry} {f : Int → Option Value}

theorem MapR.nil : MapR k #[] (fun _ => none) := ⟨by simp [IK], fun _ => rfl⟩
theorem findNow_none : ∀ (l : List MapEntry) (i : Nat), IK k l → fnd n l = none → Instr.findNow (.int k) (.int k n) l i = some none
  | [], _, _, _ => rfl
  | e :: l, i, h, hf => by
    obtain ⟨m, hm⟩ := h e (by simp)
    have hk : mk e = m := by simp [mk, hm]
    simp only [fnd, hk] at hf
    have hne : ¬ m = n := fun he => by simp [he] at hf
    rw [if_neg hne] at hf
    have : (n == m) = false := by simpa using Ne.symm hne
    simp only [Instr.findNow, hm, Instr.sameNow, if_true, this]
    exact findNow_none l (i + 1) (fun e he => h e (by simp [he])) hf
theorem findNow_some : ∀ (l : List MapEntry) (i : Nat), IK k l → fnd n l = some v →
    ∃ j e, Instr.findNow (.int k) (.int k n) l i = some (some (i + j, v)) ∧ l[j]? = some e ∧ e.key = .int k n ∧ ∀ g : MapEntry → MapEntry, mk (g e) = n → ∀ m, fnd m (l.modify j g) = if m = n then some (g e).val else fnd m l
  | [], _, _, h => by simp [fnd] at h
  | e :: l, i, h, hf => by
    obtain ⟨m, hm⟩ := h e (by simp)
    have hk : mk e = m := by simp [mk, hm]
    simp only [fnd, hk] at hf
    by_cases he : m = n
    · subst he
      rw [if_pos rfl] at hf
      simp only [Option.some.injEq] at hf
      refine ⟨0, e, ?_, by simp, hm, ?_⟩
      · simp [Instr.findNow, hm, Instr.sameNow, hf]
      · intro g hg p
        simp only [List.modify_zero_cons, fnd, hg, hk]
        by_cases hp : p = m
        · subst hp; simp
        · rw [if_neg (Ne.symm hp), if_neg hp, if_neg (Ne.symm hp)]
    · rw [if_neg he] at hf
      have hb : (n == m) = false := by simpa using Ne.symm he
      obtain ⟨j, e', h1, h2, h3, h4⟩ := findNow_some l (i + 1) (fun e he => h e (by simp [he])) hf
      refine ⟨j + 1, e', ?_, by simpa using h2, h3, ?_⟩
      · simp only [Instr.findNow, hm, Instr.sameNow, if_true, hb, h1]
        rw [Nat.add_right_comm, Nat.add_assoc]
      · intro g hg p
        simp only [List.modify_succ_cons, fnd, hk]
        rw [h4 g hg p]
        by_cases hp : p = n
        · subst hp; rw [if_neg he]; simp
        · simp [hp]
theorem fnd_push (e : MapEntry) (m : Int) : ∀ (l : List MapEntry), fnd (mk e) l = none → fnd m (l ++ [e]) = if m = mk e then some e.val else fnd m l
  | [], _ => by simp only [List.nil_append, fnd]; by_cases h : m = mk e <;> simp [h, eq_comm]
  | a :: l, h => by
    simp only [fnd] at h
    have hne : ¬ mk a = mk e := fun he => by simp [he] at h
    rw [if_neg hne] at h
    simp only [List.cons_append, fnd, fnd_push e m l h]
    by_cases h1 : m = mk e
    · subst h1; simp [hne]
    · simp [h1]
end

section
variable {P : Program} {ops : Array Oper} {Q : Exit → Act → World → Prop} {a : Act} {w w' w0 : World} {n : Nat} {env : Env} {d : Nat} {v mv z : Value} {K : Act → World → Prop}
variable {ρ : Operand → Value} {dst : Option Tmp} {ty : TypeId} {pos : String} {af : Array Edge} {g : Option (Nat × Bool)} {x y y' : Operand} {T E Kt : TypeId}
variable {ks : List Nat} {bs bs' : List Seg} {b off : Nat} {k : IntKind} {p : Int} {es : Array MapEntry} {c : Nat} {f : Int → Option Value} {s s' : Seg}

theorem zeT.run (h : zeT P E z) (w : World) : (zeroValue E).run P w = .ok z w := by
  unfold zeT at h
  cases hi : P.info? E with
  | none => rw [hi] at h; simp at h
  | some inf => rw [hi] at h; simp at h; simp [zeroValue, typeInfo, hi, h, Sem.run_bind, Result.andThen_ok]
theorem run_checkInt (hK : P.underlying Kt = some (.int k)) (e : Bool) (p : Int) (w : World) : (Instr.checkKey e 10000 Kt (.int k p)).run P w = .ok () w := by
  rw [Instr.checkKey]
  simp only [Sem.run_bind, run_underlying hK, Result.andThen_ok, Sem.run_pure]
theorem run_findInt (hK : P.underlying Kt = some (.int k)) {l : List MapEntry} {r : Option (Nat × Value)} (h : Instr.findNow (.int k) (.int k p) l 0 = some r) (w : World) : (Instr.findKey Kt (.int k p) l).run P w = .ok r w := by
  simp only [Instr.findKey, Sem.run_bind, run_underlying hK, Result.andThen_ok, h, Sem.run_pure]
theorem run_lookup (hT : P.underlying T = some (.map Kt E)) (hK : P.underlying Kt = some (.int k)) (hz : zeT P E z) (hM : MapIn k w mv f) (ok : Bool) :
    (Instr.lookup T mv (.int k p) ok).run P w = .ok (if ok then .tuple #[(f p).getD z, .bool (f p).isSome] else (f p).getD z) w := by
  rcases hM with ⟨rfl, hf⟩ | ⟨b, es, c, rfl, hb, hR⟩
  · have h1 : Instr.findNow (.int k) (.int k p) [] 0 = some none := rfl
    simp only [Instr.lookup, Sem.run_bind, run_underlying hT, Result.andThen_ok, Sem.run_pure, run_checkInt hK, run_findInt hK h1, hz.run, hf p, Option.getD_none, Option.isSome_none]
  · cases hfp : f p with
    | none =>
      have h1 := findNow_none es.toList 0 hR.1 ((hR.2 p).trans hfp)
      simp only [Instr.lookup, Sem.run_bind, run_underlying hT, Result.andThen_ok, Sem.run_pure, MapKept.run_getObj_map hb, run_checkInt hK, run_findInt hK h1, hz.run, Option.getD_none, Option.isSome_none]
    | some u =>
      obtain ⟨j, e, h1, _⟩ := findNow_some es.toList 0 hR.1 ((hR.2 p).trans hfp)
      simp only [Instr.lookup, Sem.run_bind, run_underlying hT, Result.andThen_ok, Sem.run_pure, MapKept.run_getObj_map hb, run_checkInt hK, run_findInt hK h1, Option.getD_some, Option.isSome_some]
theorem R.lookupOk (hT : P.underlying T = some (.map Kt E)) (hK : P.underlying Kt = some (.int k)) (hz : zeT P E z) (hM : MapIn k w mv f) (hx : ρ x = mv) (hy : ρ y = .int k p) (hv : v = .tuple [(f p).getD z, .bool (f p).isSome].toArray) :
    (execOp ρ ⟨dst, .lookup T x y true, ty, pos, af, g⟩).run P w = .ok (.value v) w := by
  subst hv
  simp only [execOp, hx, hy, run_lookup hT hK hz hM, Sem.run_bind, Result.andThen_ok, Sem.run_pure, if_true]
theorem R.lookup1 (hT : P.underlying T = some (.map Kt E)) (hK : P.underlying Kt = some (.int k)) (hz : zeT P E z) (hM : MapIn k w mv f) (hx : ρ x = mv) (hy : ρ y = .int k p) (hv : v = (f p).getD z) :
    (execOp ρ ⟨dst, .lookup T x y false, ty, pos, af, g⟩).run P w = .ok (.value v) w := by
  subst hv
  simp only [execOp, hx, hy, run_lookup hT hK hz hM, Sem.run_bind, Result.andThen_ok, Sem.run_pure, Bool.false_eq_true, if_false]
theorem MapIn.of (hS : St w0 ks bs w) (hb : HasB bs b (.map es c)) (hR : MapR k es f) : MapIn k w (.map (some b)) f := .inr ⟨b, es, c, rfl, hS.get hb, hR⟩

theorem O.makeMap (hd : dst = some d) (hn : Nat.blt d n = true) (hF : Fr n env a) (hS : St w0 ks bs w)
    (h : ∀ b a' w', Fr n ((d, .map (some b)) :: env) a' → St w0 ks ([(b, .map #[] 0)] :: bs) w' → K a' w') : Oper.wp P ⟨dst, .makeMap T none, ty, pos, af, g⟩ a w K Q := by
  subst hd
  unfold Oper.wp
  have : (execOp a.eval ⟨some d, .makeMap T none, ty, pos, af, g⟩).run P w = .ok (.value (.map (some w.heap.size))) (w.alloc (.map #[] 0)) := by
    simp only [execOp, Instr.makeMap, newObj, Sem.run_bind, Option.map_none, Sem.run_pure]
    rfl
  rw [this, Oper.upon_value]
  exact h _ _ _ (hF.put hn _) (hS.alloc _)
theorem O.mapUpdate {u : Value} (hT : P.underlying T = some (.map Kt E)) (hK : P.underlying Kt = some (.int k)) (hx : ρ x = .map (some b)) (hy : ρ y = .int k p) (hu : ρ y' = u) (hρ : ρ = a.eval) (hR : MapR k es f) (hS : St w0 ks bs w)
    {bs2 : Obj → List Seg} (hU : ∀ o, UpB bs b (.map es c) o (bs2 o))
    (h : ∀ es' c' w', MapR k es' (updF f p (some u)) → St w0 ks (bs2 (.map es' c')) w' → K a w') : Oper.wp P ⟨none, .mapUpdate T x y y', ty, pos, af, g⟩ a w K Q := by
  subst hρ
  have hb := hS.get (hU (.map es c)).has
  have key : ∃ es' c', (Instr.mapUpdate T (.map (some b)) (.int k p) u).run P w = .ok () (World.setB w b (.map es' c')) ∧ MapR k es' (updF f p (some u)) := by
    cases hfp : f p with
    | none =>
      have h1 := findNow_none es.toList 0 hR.1 ((hR.2 p).trans hfp)
      refine ⟨es.push { key := .int k p, val := u, born := c }, c + 1, ?_, ?_, ?_⟩
      · simp [Instr.mapUpdate, run_underlying hT, MapKept.run_getObj_map hb, run_checkInt hK, run_findInt hK h1, MapKept.run_setObj_map _ hb, Result.andThen, World.setB]
      · intro e he
        simp only [Array.toList_push, List.mem_append, List.mem_singleton] at he
        rcases he with he | rfl
        · exact hR.1 e he
        · exact ⟨p, rfl⟩
      · intro m
        rw [Array.toList_push, fnd_push _ _ _ (by simpa [mk] using (hR.2 p).trans hfp), hR.2 m]
        rfl
    | some u0 =>
      obtain ⟨j, e, h1, h2, h3, h4⟩ := findNow_some es.toList 0 hR.1 ((hR.2 p).trans hfp)
      have hj : es[j]? = some e := by simpa using h2
      have hks : (Instr.keyThatStays (.int k p) (.int k p)).run P w = .ok (.int k p) w := by
        simp [Instr.keyThatStays, Instr.sameBits]
      refine ⟨es.modify j (fun e' => { e' with key := .int k p, val := u }), c, ?_, ?_, ?_⟩
      · simp [Instr.mapUpdate, run_underlying hT, MapKept.run_getObj_map hb, run_checkInt hK, run_findInt hK h1, hj, h3, hks, MapKept.run_setObj_map _ hb, Result.andThen, World.setB]
      · intro x hx
        rw [Array.toList_modify] at hx
        obtain ⟨i, hi⟩ := List.mem_iff_getElem?.1 hx
        rw [List.getElem?_modify] at hi
        by_cases hji : j = i
        · subst hji; rw [h2] at hi; simp at hi; subst hi; exact ⟨p, rfl⟩
        · simp only [hji, if_false] at hi
          cases hq : es.toList[i]? with
          | none => rw [hq] at hi; simp at hi
          | some q => rw [hq] at hi; simp at hi; subst hi; exact hR.1 q (List.mem_of_getElem? hq)
      · intro m
        rw [Array.toList_modify, h4 _ (by simp [mk]) m, hR.2 m]
        rfl
  obtain ⟨es', c', h1, h2⟩ := key
  unfold Oper.wp
  have : (execOp a.eval ⟨none, .mapUpdate T x y y', ty, pos, af, g⟩).run P w = .ok .skip (World.setB w b (.map es' c')) := by
    simp only [execOp, hx, hy, hu, h1, Sem.run_bind, Result.andThen_ok, Sem.run_pure]
  rw [this, Oper.upon_skip]
  exact h _ _ _ h2 (hS.setB (hU _))

/-- a map against nil -/
theorem R.nilM {T' : TypeId} {r : Option Nat} (hx : ρ x = .map r) (hy : ρ y = .map none) (hT : P.underlying T = some (.map Kt E)) :
    (execOp ρ ⟨dst, .binOp .eql T x y T', ty, pos, af, g⟩).run P w = .ok (.value (.bool (decide (r = none)))) w := by
  have he : (Op.equal T (.map r) (.map none)).run P w = .ok (decide (r = none)) w := by
    unfold Op.equal Op.maxDepth
    rw [Op.equalIn]
    cases r <;> simp [run_underlying hT, Result.andThen_ok, Sem.run_pure]
  simp only [execOp, hx, hy, eqGuard, binOp, he, Sem.run_bind, Sem.run_pure, Result.andThen_ok, Bool.not_true, Bool.false_eq_true, if_false]

/-- Of given blocks: what they hold. -/
def Own (w : World) (s : Seg) : Prop := (∀ p ∈ s, w.heap[p.1]? = some p.2) ∧ (s.map (·.1)).Nodup
theorem St.enter (h : Own w s) : St w (s.map (·.1)) [s] w :=
  ⟨rfl, rfl, rfl, Nat.le_refl _, fun _ _ _ => rfl, by simpa using h.1, fun p hp => .inr (List.mem_map_of_mem (by simpa using hp)), by simpa [keys] using h.2⟩
theorem St.own1 (h : St w0 ks bs w) (hs : HasS bs s) : Own w s := by
  have := h.one hs
  exact ⟨fun p hp => this.own p (by simpa using hp), by simpa [keys] using this.nodup⟩
theorem St.flat (h : St w0 ks bs w) (he : bs'.flatten = bs.flatten) : St w0 ks bs' w :=
  ⟨h.os, h.tape, h.output, h.size, h.keep, he ▸ h.own, he ▸ h.place, by unfold keys; rw [he]; exact h.nodup⟩
/-- What a call that changes the segment s alone leaves. -/
theorem St.compK (h : St w0 ks bs w) (hr : RepB bs s s' bs') (h2 : St w (s.map (·.1)) [s'] w') : St w0 ks bs' w' := by
  have hmem : ∀ p ∈ s, p ∈ bs.flatten := fun p hp => List.mem_flatten.2 ⟨s, hr.mem, hp⟩
  have hap := hr.apart h.nodup
  have hdis : ∀ p ∈ bs.flatten, (∀ q ∈ s, p.1 ≠ q.1) → w'.heap[p.1]? = w.heap[p.1]? := fun p hp hn => by
    refine h2.keep p.1 (h.lt hp) fun hm => ?_
    obtain ⟨q, hq, e⟩ := List.mem_map.1 hm
    exact hn q hq e.symm
  have hpl : ∀ p ∈ s', w.heap.size ≤ p.1 ∨ ∃ q ∈ s, q.1 = p.1 := fun p hp => by
    rcases h2.place p (by simpa using hp) with h | h
    · exact .inl h
    · obtain ⟨q, hq, e⟩ := List.mem_map.1 h; exact .inr ⟨q, hq, e⟩
  refine ⟨h2.os.trans h.os, h2.tape.trans h.tape, h2.output.trans h.output, Nat.le_trans h.size h2.size, ?_, ?_, ?_, ?_⟩
  · intro i hi hks
    rw [h2.keep i (Nat.lt_of_lt_of_le hi h.size) ?_]
    · exact h.keep i hi hks
    · intro hm
      obtain ⟨q, hq, rfl⟩ := List.mem_map.1 hm
      rcases h.place q (hmem q hq) with h1 | h1
      · omega
      · exact hks h1
  · intro p hp
    rcases hap p hp with h1 | ⟨h1, h3⟩
    · exact h2.own p (by simpa using h1)
    · rw [hdis p h1 h3]; exact h.own p h1
  · intro p hp
    rcases hap p hp with h1 | ⟨h1, h3⟩
    · rcases hpl p h1 with h4 | ⟨q, hq, e⟩
      · exact .inl (Nat.le_trans h.size h4)
      · rw [← e]; exact h.place q (hmem q hq)
    · exact h.place p h1
  · refine hr.nodup h.nodup (by simpa [keys] using h2.nodup) ?_ ?_
    · intro p hp q hq
      by_cases hqs : q ∈ s
      · exact .inl hqs
      · refine .inr fun e => ?_
        rcases hpl p hp with h4 | ⟨r, hr', e2⟩
        · have := h.lt hq; omega
        · have : r = q := by
            have h5 := h.own r (hmem r hr'); have h6 := h.own q hq
            have : r.1 = q.1 := e2.trans e
            rw [this, h6] at h5
            exact Prod.ext this (Option.some.inj h5).symm
          exact hqs (this ▸ hr')
    · intro p hp q hq hn e
      rcases hpl p hp with h4 | ⟨r, hr', e2⟩
      · have := h.lt hq; omega
      · exact hn r hr' (e.symm.trans e2.symm)
theorem O.callK {f : FuncId} {xs : List Operand} {tys : Array TypeId} {vs : List Value} {R : Value → Seg → Prop} {bsf : Seg → List Seg} (hd : dst = some d) (hn : Nat.blt d n = true) (hF : Fr n env a)
    (he : ∀ args w, (callFunc f args).run P w = .ok (.enter f args) w) (hx : xs.map a.eval = vs) (hS : St w0 ks bs w) (hC : Ret P f vs w (s.map (·.1)) R) (hr : ∀ s', RepB bs s s' (bsf s'))
    (h : ∀ v s' a' w', R v s' → Fr n ((d, v) :: env) a' → St w0 ks (bsf s') w' → K a' w') : Oper.wp P ⟨dst, .call ⟨.value (.func f), xs.toArray, tys⟩, ty, pos, af, g⟩ a w K Q := by
  subst hd
  unfold Oper.wp
  rw [run_call hx, he, Oper.upon_enter]
  refine Calls.mono hC ?_
  rintro e w' ⟨v, s', rfl, hR, hs⟩
  exact h v s' _ w' hR (hF.put hn v) (hS.compK (hr s') hs)
end
end Go.Fw
