/- Slices: made, appended to, cut. No condition beyond each lemma's own. -/
import Derived.Test.YtlapmbkfmbkdoaaD
import Derived.Laws.MakeOwn
namespace Go.Fw
open Go.RowKit

def infT (P : Program) (E : TypeId) (z : Value) (sz by_ : Nat) : Prop := (P.info? E).map (fun i => (i.zero, i.size, i.bytes)) = some (some z, sz, by_)
/-- A slice of len n and cap c whose cells are the head of its own block, or a nil one. -/
def OwnS (s : Seg) (A : Option Addr) (n c : Nat) (cells : List Value) (E : TypeId) (sz : Nat) : Prop :=
  cells.length = n * sz ∧ n ≤ c ∧ ((A = none ∧ c = 0 ∧ s = []) ∨ ∃ g rest, A = some ⟨g, 0, none⟩ ∧ s = [(g, Cel (cells ++ rest) E)] ∧ (cells ++ rest).length = c * sz ∧ c ≤ maxLen)

section
variable {P : Program} {ops : Array Oper} {Q : Exit → Act → World → Prop} {a : Act} {w w' w0 : World} {n m c c2 sz by_ : Nat} {N : Nat} {env : Env} {d : Nat} {v z : Value} {K : Act → World → Prop}
variable {ρ : Operand → Value} {dst : Option Tmp} {ty : TypeId} {pos : String} {af : Array Edge} {g : Option (Nat × Bool)} {x y : Operand} {T E : TypeId}
variable {ks : List Nat} {bs bs' : List Seg} {b off : Nat} {l l' cs cells news : List Value} {A B : Option Addr} {s : Seg}

theorem infT.get (h : infT P E z sz by_) : ∃ i, P.info? E = some i ∧ i.zero = some z ∧ i.size = sz ∧ i.bytes = by_ := by
  unfold infT at h
  cases hi : P.info? E with
  | none => rw [hi] at h; simp at h
  | some i => rw [hi] at h; simp at h; exact ⟨i, rfl, h.1, h.2.1, h.2.2⟩
theorem infT.szT (h : infT P E z sz by_) : Fw.szT P E sz := by
  obtain ⟨i, h1, _, h2, _⟩ := h.get
  simp [Fw.szT, h1, h2]

theorem OwnS.nil (E : TypeId) (sz : Nat) : OwnS [] none 0 0 [] E sz := ⟨by simp, Nat.le_refl _, .inl ⟨rfl, rfl, rfl⟩⟩
theorem OwnS.mk {g : Nat} {rest : List Value} (h1 : cells.length = n * sz) (h2 : n ≤ c) (h3 : (cells ++ rest).length = c * sz) (h4 : c ≤ maxLen) : OwnS [(g, Cel (cells ++ rest) E)] (some ⟨g, 0, none⟩) n c cells E sz := ⟨h1, h2, .inr ⟨g, rest, rfl, rfl, h3, h4⟩⟩
/-- cut at its end -/
theorem OwnS.take {k : Nat} (h : OwnS s A n c cells E sz) (hk : k ≤ n) : OwnS s A k c (cells.take (k * sz)) E sz := by
  obtain ⟨h1, h2, h3⟩ := h
  refine ⟨by rw [List.length_take, h1]; exact Nat.min_eq_left (Nat.mul_le_mul_right _ hk), by omega, ?_⟩
  rcases h3 with h3 | ⟨g, rest, rfl, rfl, h4, h5⟩
  · exact .inl h3
  · refine .inr ⟨g, cells.drop (k * sz) ++ rest, rfl, ?_, ?_, h5⟩
    · rw [← List.append_assoc, List.take_append_drop]
    · rw [← List.append_assoc, List.take_append_drop, h4]
theorem OwnS.rd (h : OwnS s A n c cells E sz) (hS : St w0 ks bs w) (hs : HasS bs s) : Rd w A cells := by
  obtain ⟨h1, h2, h3⟩ := h
  rcases h3 with ⟨rfl, h4, rfl⟩ | ⟨g, rest, rfl, rfl, h4, h5⟩
  · have : cells = [] := List.eq_nil_of_length_eq_zero (by rw [h1]; have : n = 0 := by omega
                                                           simp [this])
    subst this; exact Rd.nil _ _
  · intro j v hj
    refine ⟨_, rfl, ?_⟩
    have hb := hS.own (g, Cel (cells ++ rest) E) (List.mem_flatten.2 ⟨_, hs.mem, by simp⟩)
    rw [addr_add, cell_Cel hb, Nat.zero_add]
    have hlt := (List.getElem?_eq_some_iff.1 hj).1
    rw [List.getElem?_append_left hlt]; exact hj
theorem Rd.ne (h : Rd w A cs) (hp : 0 < cs.length) : A ≠ none := by
  obtain ⟨a, ha, _⟩ := h 0 cs[0] (by simp [hp])
  rw [ha]; simp

/-! ### cuts -/
theorem R.sliceHi {p : Int} {k : IntKind} (hT : P.underlying T = some (.slice E)) (hx : ρ x = .slice A n c) (hy : ρ y = .int k p) (h0 : 0 ≤ p) (h1 : p ≤ c) :
    ∀ w, szT P E sz → (execOp ρ ⟨dst, .slice T x none (some y) none, ty, pos, af, g⟩).run P w = .ok (.value (.slice A p.toNat c)) w := by
  intro w hs
  have e : (if c = 0 then A else A.map (·.add (0 * sz))) = A := by
    cases A with
    | none => simp
    | some a => simp [Addr.add]
  simp only [execOp, hx, hy, Option.map_none, Option.map_some, Instr.sliceAt, Instr.slice, run_underlying hT, Instr.sliceBounds, Instr.sliceBound, asIntOf, run_sizeOf' hs, h0, h1, and_self, if_true,
    Sem.run_bind, Sem.run_pure, Result.andThen_ok, e, Nat.sub_zero]

/-! ### new ones -/
def zeros (zs : List Value) (n : Nat) : List Value := (List.replicate n zs).flatten
theorem length_zeros (zs : List Value) (n : Nat) : (zeros zs n).length = n * zs.length := by simp [zeros, List.length_flatten]
theorem zeros_1 (z : Value) (n : Nat) : zeros [z] n = List.replicate n z := by
  induction n with
  | zero => rfl
  | succ n ih => simp only [zeros, List.replicate_succ, List.flatten_cons] at *; rw [ih]; rfl
theorem get_zeros (zs : List Value) : ∀ (n i : Nat), i < n * zs.length → (zeros zs n)[i]? = zs[i % zs.length]?
  | 0, i, h => by simp at h
  | n + 1, i, h => by
    simp only [zeros, List.replicate_succ, List.flatten_cons]
    by_cases hi : i < zs.length
    · rw [List.getElem?_append_left hi, Nat.mod_eq_of_lt hi]
    · rw [List.getElem?_append_right (by omega)]
      have := get_zeros zs n (i - zs.length) (by rw [Nat.succ_mul] at h; omega)
      simp only [zeros] at this
      rw [this, ← Nat.mod_eq_sub_mod (by omega)]
theorem made_zeros (zs : List Value) (n : Nat) : madeCells zs.toArray (n * zs.length) = (zeros zs n).toArray := by
  apply Array.ext_getElem?
  intro i
  simp only [madeCells, Array.getElem?_map, List.getElem?_toArray]
  by_cases h : i < n * zs.length
  · have hpos : 0 < zs.length := by
      rcases Nat.eq_zero_or_pos zs.length with h0 | h0
      · rw [h0] at h; simp at h
      · exact h0
    have hm := Nat.mod_lt i hpos
    rw [get_zeros zs n i h]
    simp [h, hm]
  · have h1 : (zeros zs n)[i]? = none := by rw [List.getElem?_eq_none]; rw [length_zeros]; omega
    rw [h1]
    simp [h]
theorem zero_zeros (zs : List Value) (n : Nat) : Builtin.zeroCells zs.toArray n = (zeros zs n).toArray := by
  have := made_zeros zs n
  simpa [madeCells, Builtin.zeroCells] using this

theorem O.makeSlice {k1 k2 : IntKind} {p q : Int} {zs : List Value} (hd : dst = some d) (hn : Nat.blt d N = true) (hF : Fr N env a) (hT : P.underlying T = some (.slice E)) (hi : infT P E z sz by_) (hz : z.cells = zs.toArray) (hzl : zs.length = sz)
    (hx : a.eval x = .int k1 p) (hy : a.eval y = .int k2 q) (h0 : 0 ≤ p) (h1 : p ≤ q) (h2 : (by_ : Int) * q ≤ 281474976710656) (h3 : q ≤ 9223372036854775807) (hS : St w0 ks bs w)
    (h : ∀ b a' w', Fr N ((d, .slice (some ⟨b, 0, none⟩) p.toNat q.toNat) :: env) a' → St w0 ks ([(b, Cel (zeros zs q.toNat) E)] :: bs) w' → K a' w') : Oper.wp P ⟨dst, .makeSlice T x y, ty, pos, af, g⟩ a w K Q := by
  subst hd
  obtain ⟨i, e1, e2, e3, e4⟩ := hi.get
  subst e3; subst e4
  have hr := run_make (P := P) w T E i z hT e1 e2 k1 k2 p q h0 h1 h2 h3
  rw [hz, ← hzl, made_zeros] at hr
  unfold Oper.wp
  have : (execOp a.eval ⟨some d, .makeSlice T x y, ty, pos, af, g⟩).run P w = .ok (.value (.slice (some ⟨w.heap.size, 0, none⟩) p.toNat q.toNat)) (w.alloc (Cel (zeros zs q.toNat) E)) := by
    simp only [execOp, hx, hy, Sem.run_bind, hr, Result.andThen_ok, Sem.run_pure]
  rw [this, Oper.upon_value]
  exact h _ _ _ (hF.put hn _) (hS.alloc _)

theorem O.buildSlice {len : Nat} {xs : List (Nat × Operand)} {ps : List (Nat × Value)} {zs : List Value} (hd : dst = some d) (hn : Nat.blt d N = true) (hF : Fr N env a) (hT : P.underlying T = some (.slice E)) (hi : infT P E z sz by_) (hz : z.cells = zs.toArray) (hzl : zs.length = sz)
    (hx : xs.map (fun p => (p.1, a.eval p.2)) = ps) (hlen : len * sz ≤ 16777216) (hl : fillL (fun i => some (i * sz, sz)) (zeros zs len) ps = some l) (hS : St w0 ks bs w)
    (h : ∀ b a' w', Fr N ((d, .slice (some ⟨b, 0, none⟩) len len) :: env) a' → St w0 ks ([(b, Cel l E)] :: bs) w' → K a' w') : Oper.wp P ⟨dst, .buildSlice T len xs.toArray, ty, pos, af, g⟩ a w K Q := by
  subst hd
  obtain ⟨i, e1, e2, e3, e4⟩ := hi.get
  have hs := hi.szT
  have hzv : (zeroValue E).run P w = .ok z w := by simp [zeroValue, typeInfo, e1, e2, Sem.run_bind, Result.andThen_ok]
  have hmade : (Array.range (len * sz)).map (fun i => zs.toArray[i % zs.toArray.size]!) = (zeros zs len).toArray := by rw [← hzl]; exact made_zeros zs len
  have h2 := fill_L _ _ _ _ hl
  have hps : xs.toArray.map (fun (p : Nat × Operand) => (p.1, a.eval p.2)) = ps.toArray := by rw [← hx]; simp
  have hb : (Instr.buildSlice T len ps.toArray).run P w = .ok (.slice (some ⟨w.heap.size, 0, none⟩) len len) (w.alloc (Cel l E)) := by
    by_cases h0 : len * sz = 0
    · have hmade' : (Array.range (len * sz)).map (fun i => (#[] : Array Value)[i % (#[] : Array Value).size]!) = (zeros zs len).toArray := by rw [← hmade, h0]; simp
      simp only [Instr.buildSlice, run_underlying hT, run_sizeOf' hs, Sem.run_bind, Result.andThen_ok, if_neg (show ¬ len * sz > 2 ^ 24 by omega), Sem.run_pure, hmade', h2, newRow, run_newObj, if_pos h0]
      rfl
    · simp only [Instr.buildSlice, run_underlying hT, run_sizeOf' hs, Sem.run_bind, Result.andThen_ok, if_neg (show ¬ len * sz > 2 ^ 24 by omega), Sem.run_pure, hzv, hz, hmade, h2, newRow, run_newObj, if_neg h0]
      rfl
  unfold Oper.wp
  have : (execOp a.eval ⟨some d, .buildSlice T len xs.toArray, ty, pos, af, g⟩).run P w = .ok (.value (.slice (some ⟨w.heap.size, 0, none⟩) len len)) (w.alloc (Cel l E)) := by
    simp only [execOp]
    rw [show (xs.toArray.map fun (x : Nat × Operand) => match x with | (i, x) => (i, a.eval x)) = ps.toArray from hps]
    simp only [Sem.run_bind, hb, Result.andThen_ok, Sem.run_pure]
  rw [this, Oper.upon_value]
  exact h _ _ _ (hF.put hn _) (hS.alloc _)

/-! ### append -/
theorem RepB.mem {s' : Seg} (h : RepB bs s s' bs') : s ∈ bs := by
  induction h with
  | h => simp
  | t _ ih => simp [ih]
theorem RepB.mem' {s' : Seg} (h : RepB bs s s' bs') : ∀ p ∈ bs'.flatten, p ∈ s' ∨ p ∈ bs.flatten := by
  induction h with
  | h => intro p hp; simp only [List.flatten_cons, List.mem_append] at hp ⊢; rcases hp with hp | hp; exact .inl hp; exact .inr (.inr hp)
  | t _ ih =>
    intro p hp
    simp only [List.flatten_cons, List.mem_append] at hp ⊢
    rcases hp with hp | hp
    · exact .inr (.inl hp)
    · rcases ih p hp with h | h
      · exact .inl h
      · exact .inr (.inr h)
/-- those of bs' that aren't of s' stand in bs beside s -/
theorem RepB.apart {s' : Seg} (h : RepB bs s s' bs') (hn : (keys bs).Nodup) : ∀ p ∈ bs'.flatten, p ∈ s' ∨ (p ∈ bs.flatten ∧ ∀ q ∈ s, p.1 ≠ q.1) := by
  induction h with
  | @h s s' bs =>
    intro p hp
    simp only [List.flatten_cons, List.mem_append] at hp ⊢
    simp only [keys, List.flatten_cons, List.map_append] at hn
    rw [List.nodup_append] at hn
    rcases hp with hp | hp
    · exact .inl hp
    · exact .inr ⟨.inr hp, fun q hq e => hn.2.2 _ (List.mem_map_of_mem hq) _ (List.mem_map_of_mem hp) e.symm⟩
  | @t s s' t bs bs' hr ih =>
    intro p hp
    simp only [List.flatten_cons, List.mem_append] at hp ⊢
    simp only [keys, List.flatten_cons, List.map_append] at hn
    rw [List.nodup_append] at hn
    rcases hp with hp | hp
    · exact .inr ⟨.inl hp, fun q hq e => hn.2.2 _ (List.mem_map_of_mem hp) _ (List.mem_map_of_mem (List.mem_flatten.2 ⟨s, hr.mem, hq⟩)) e⟩
    · rcases ih hn.2.1 p hp with h | h
      · exact .inl h
      · exact .inr ⟨.inr h.1, h.2⟩
theorem RepB.nodup {s' : Seg} (h : RepB bs s s' bs') (hn : (keys bs).Nodup) (hs' : (s'.map (·.1)).Nodup) (hap : ∀ p ∈ s', ∀ q ∈ bs.flatten, q ∈ s ∨ p.1 ≠ q.1) (hn2 : ∀ p ∈ s', ∀ q ∈ bs.flatten, (∀ r ∈ s, q.1 ≠ r.1) → p.1 ≠ q.1) : (keys bs').Nodup := by
  induction h with
  | @h s s' bs =>
    simp only [keys, List.flatten_cons, List.map_append] at hn ⊢
    rw [List.nodup_append] at hn ⊢
    refine ⟨hs', hn.2.1, ?_⟩
    intro x hx y hy e
    obtain ⟨p, hp, rfl⟩ := List.mem_map.1 hx
    obtain ⟨q, hq, rfl⟩ := List.mem_map.1 hy
    exact hn2 p hp q (by simp [hq]) (fun r hr e2 => hn.2.2 _ (List.mem_map_of_mem hr) _ (List.mem_map_of_mem hq) e2.symm) e
  | @t s s' t bs bs' hr ih =>
    simp only [keys, List.flatten_cons, List.map_append] at hn ⊢
    rw [List.nodup_append] at hn ⊢
    refine ⟨hn.1, ih hn.2.1 hs' (fun p hp q hq => hap p hp q (by simp [hq])) (fun p hp q hq => hn2 p hp q (by simp [hq])), ?_⟩
    intro x hx y hy e
    obtain ⟨p, hp, rfl⟩ := List.mem_map.1 hx
    obtain ⟨q, hq, rfl⟩ := List.mem_map.1 hy
    rcases hr.apart hn.2.1 q hq with h | h
    · exact hn2 q h p (by simp [hp]) (fun r hr' e2 => hn.2.2 _ (List.mem_map_of_mem hp) _ (List.mem_map_of_mem (List.mem_flatten.2 ⟨s, hr.mem, hr'⟩)) e2) e.symm
    · exact hn.2.2 _ (List.mem_map_of_mem hp) _ (List.mem_map_of_mem h.1) e
/-- one segment turned: its own block rewritten, or a new one in its place -/
theorem St.rep {s' : Seg} (h : St w0 ks bs w) (hr : RepB bs s s' bs') (hos : w'.os = w.os) (htape : w'.tape = w.tape) (hout : w'.output = w.output) (hsize : w.heap.size ≤ w'.heap.size)
    (hkeep : ∀ k, k < w.heap.size → (∀ q ∈ s, k ≠ q.1) → w'.heap[k]? = w.heap[k]?) (hown : ∀ p ∈ s', w'.heap[p.1]? = some p.2) (hs' : (s'.map (·.1)).Nodup)
    (hpl : ∀ p ∈ s', w.heap.size ≤ p.1 ∨ ∃ q ∈ s, p.1 = q.1) : St w0 ks bs' w' := by
  have hq : ∀ q ∈ s, q ∈ bs.flatten := fun q hq => List.mem_flatten.2 ⟨s, hr.mem, hq⟩
  refine ⟨hos.trans h.os, htape.trans h.tape, hout.trans h.output, Nat.le_trans h.size hsize, ?_, ?_, ?_, ?_⟩
  · intro k hk hks
    rw [hkeep k (Nat.lt_of_lt_of_le hk h.size) (fun q hqs e => ?_)]
    · exact h.keep k hk hks
    · rcases h.place q (hq q hqs) with h1 | h1
      · omega
      · exact hks (e ▸ h1)
  · intro p hp
    rcases hr.apart h.nodup p hp with h1 | ⟨h1, h2⟩
    · exact hown p h1
    · rw [hkeep p.1 (h.lt h1) h2]; exact h.own p h1
  · intro p hp
    rcases hr.mem' p hp with h1 | h1
    · rcases hpl p h1 with h2 | ⟨q, hqs, e⟩
      · exact .inl (Nat.le_trans h.size h2)
      · rw [e]; exact h.place q (hq q hqs)
    · exact h.place p h1
  · refine hr.nodup h.nodup hs' ?_ ?_
    · intro p hp q hqb
      by_cases hqs : q ∈ s
      · exact .inl hqs
      · refine .inr fun e => ?_
        rcases hpl p hp with h2 | ⟨r, hrs, e2⟩
        · have := h.lt hqb; omega
        · have h3 := h.own q hqb
          have h4 := h.own r (hq r hrs)
          rw [← e, e2, h4] at h3
          apply hqs
          have : q = r := Prod.ext (by omega) (by simpa using h3.symm)
          rw [this]; exact hrs
    · intro p hp q hqb hap e
      rcases hpl p hp with h2 | ⟨r, hrs, e2⟩
      · have := h.lt hqb; omega
      · exact hap r hrs (by omega)

theorem O.append {t : TypeId} {zs : List Value} {ad : Addr} {f : Seg → List Seg} (hd : dst = some d) (hn : Nat.blt d N = true) (hF : Fr N env a) (hT : P.underlying t = some (.slice E)) (hi : infT P E z sz by_) (hz : z.cells = zs.toArray) (hzl : zs.length = sz) (hpos : 0 < sz)
    (hx : a.eval x = .slice A n c) (hy : a.eval y = .slice (some ad) m c2) (hS : St w0 ks bs w) (hO : OwnS s A n c cells E sz) (hr : ∀ s', RepB bs s s' (f s'))
    (hB : Rd w (some ad) news) (hl : news.length = m * sz) (h1 : ∀ u ∈ news, u.oneCell' = true) (h63 : n + m ≤ maxLen) (hby : (n + m) * by_ ≤ 140737488355328)
    (h : ∀ A' c' s' a' w', OwnS s' A' (n + m) c' (cells ++ news) E sz → Fr N ((d, .slice A' (n + m) c') :: env) a' → St w0 ks (f s') w' → K a' w') :
    Oper.wp P ⟨dst, .call ⟨.builtin .append, [x, y].toArray, #[t, t]⟩, ty, pos, af, g⟩ a w K Q := by
  subst hd
  obtain ⟨i, e1, e2, e3, e4⟩ := hi.get
  subst e3; subst e4
  have hnews : ∀ j u, news[j]? = some u → w.cell? (ad.add j) = some u := fun j u hj => by
    obtain ⟨ad', h5, h6⟩ := hB j u hj
    simp only [Option.some.injEq] at h5
    rw [h5]; exact h6
  have hml : n + m ≤ 9223372036854775807 := by simp only [maxLen] at h63; exact h63
  have fin : ∀ v' w', (Builtin.append_ #[t, t] ty #[.slice A n c, .slice (some ad) m c2]).run P w = .ok v' w' →
      (∃ A' c' s', v' = .slice A' (n + m) c' ∧ OwnS s' A' (n + m) c' (cells ++ news) E i.size ∧ St w0 ks (f s') w') → Oper.wp P ⟨some d, .call ⟨.builtin .append, [x, y].toArray, #[t, t]⟩, ty, pos, af, g⟩ a w K Q := by
    rintro v' w' hrun ⟨A', c', s', rfl, ho, hst⟩
    unfold Oper.wp
    have : (execOp a.eval ⟨some d, .call ⟨.builtin .append, [x, y].toArray, #[t, t]⟩, ty, pos, af, g⟩).run P w = .ok (.value (.slice A' (n + m) c')) w' := by
      simp only [execOp, resolve, invoke, builtin, Sem.run_bind, Sem.run_pure, Result.andThen_ok, List.map_toArray, List.map_cons, List.map_nil, hx, hy, hrun]
    rw [this, Oper.upon_value]
    exact h _ _ _ _ _ ho (hF.put hn _) hst
  obtain ⟨o1, o2, o3⟩ := hO
  have hlen : (cells ++ news).length = (n + m) * i.size := by rw [List.length_append, o1, hl, Nat.add_mul]
  rcases o3 with ⟨rfl, rfl, rfl⟩ | ⟨gb, rest, rfl, rfl, o4, o5⟩
  · have hn0 : n = 0 := by omega
    subst hn0
    have hc0 : cells = [] := List.eq_nil_of_length_eq_zero (by simpa using o1)
    subst hc0
    by_cases hm0 : m = 0
    · subst hm0
      have hnn : news = [] := List.eq_nil_of_length_eq_zero (by simpa using hl)
      subst hnn
      refine fin (.slice none 0 0) w ?_ ⟨none, 0, [], rfl, OwnS.nil _ _, ?_⟩
      · simp [Builtin.append_, run_underlying hT, sizeOf, typeInfo, e1, Builtin.lenOf, Builtin.firstCells, loadCells, loadCellsFrom]
      · exact hS.rep (hr []) rfl rfl rfl (Nat.le_refl _) (fun k hk _ => rfl) (by simp) (by simp) (by simp)
    · have hrun := run_append_nil (P := P) w t ty E i z hT e1 e2 ad m c2 news hl hnews (by omega) (by omega) (by simp only [Nat.zero_add] at hby; omega)
      have hcap := grownCap_ge w m 0 E
      have hcm : grownCap w m 0 E ≤ maxLen := grownCap_le_maxLen w m 0 E (by omega)
      rw [hz, zero_zeros] at hrun
      have e5 : (news.toArray ++ (zeros zs (grownCap w m 0 E - m)).toArray) = (([] ++ news) ++ zeros zs (grownCap w m 0 E - m)).toArray := by simp
      rw [e5] at hrun
      refine fin _ _ hrun ⟨some ⟨w.heap.size, 0, none⟩, grownCap w m 0 E, [(w.heap.size, Cel (([] ++ news) ++ zeros zs (grownCap w m 0 E - m)) E)], by simp, ?_, ?_⟩
      · refine OwnS.mk hlen (by omega) ?_ hcm
        rw [List.length_append, hlen, length_zeros, hzl, ← Nat.add_mul]; congr 1; omega
      · refine hS.rep (hr _) rfl rfl rfl (by simp) (fun k hk _ => Below.heap_alloc w.drew _ k hk) (fun p hp => by
          simp only [List.mem_singleton] at hp
          subst hp
          exact heap_alloc_new w.drew _) (by simp) (by simp)
  · have hgm : (gb, Cel (cells ++ rest) E) ∈ bs.flatten := List.mem_flatten.2 ⟨_, (hr []).mem, by simp⟩
    have hgb := hS.own _ hgm
    simp only at hgb
    by_cases hroom : n + m ≤ c
    · have hfit : n * i.size + news.length ≤ (cells ++ rest).toArray.size := by simp only [List.size_toArray]; rw [hl, o4, ← Nat.add_mul]; exact Nat.mul_le_mul_right _ hroom
      have hrun := run_append_room (P := P) w t ty E i hT e1 gb n c (cells ++ rest).toArray hgb ad m c2 news hl hnews h1 hroom hfit
      have e5 : ((cells ++ rest).take (n * i.size) ++ news ++ (cells ++ rest).drop (n * i.size + news.length)) = (cells ++ news) ++ rest.drop news.length := by
        rw [← o1, List.take_left, List.drop_append]
        simp
      simp only [e5] at hrun
      refine fin _ _ hrun ⟨some ⟨gb, 0, none⟩, c, [(gb, Cel ((cells ++ news) ++ rest.drop news.length) E)], rfl, ?_, ?_⟩
      · refine OwnS.mk hlen hroom ?_ o5
        have := congrArg List.length e5
        simp only [List.length_append, List.length_take, List.length_drop, List.size_toArray] at this o4 hfit ⊢
        omega
      · refine hS.rep (hr _) rfl rfl rfl (by simp) (fun k hk hne => ?_) ?_ (by simp) (by simp)
        · exact setRow_other w gb k _ (hne (gb, Cel (cells ++ rest) E) (by simp))
        · intro p hp
          simp only [List.mem_singleton] at hp
          subst hp
          exact setRow_heap w gb _ _ E _ hgb
    · have holds : ∀ j u, cells[j]? = some u → w.cell? ((⟨gb, 0, none⟩ : Addr).add j) = some u := fun j u hj => by
        rw [addr_add, cell_Cel hgb, Nat.zero_add, List.getElem?_append_left (List.getElem?_eq_some_iff.1 hj).1]; exact hj
      have hrun := run_append_grow (P := P) w t ty E i z hT e1 e2 ⟨gb, 0, none⟩ n c cells o1 holds ad m c2 news hl hnews (by omega) (by omega) (growslice_fits (by omega) hby)
      have hcap := grownCap_ge w (n + m) c E
      have hcm : grownCap w (n + m) c E ≤ maxLen := grownCap_le_maxLen w (n + m) c E h63
      rw [hz, zero_zeros] at hrun
      have e5 : (cells.toArray ++ news.toArray ++ (zeros zs (grownCap w (n + m) c E - (n + m))).toArray) = ((cells ++ news) ++ zeros zs (grownCap w (n + m) c E - (n + m))).toArray := by simp
      rw [e5] at hrun
      refine fin _ _ hrun ⟨some ⟨w.heap.size, 0, none⟩, _, [(w.heap.size, Cel ((cells ++ news) ++ zeros zs (grownCap w (n + m) c E - (n + m))) E)], rfl, ?_, ?_⟩
      · refine OwnS.mk hlen (by omega) ?_ hcm
        rw [List.length_append, hlen, length_zeros, hzl, ← Nat.add_mul]; congr 1; omega
      · refine hS.rep (hr _) rfl rfl rfl (by simp) (fun k hk _ => Below.heap_alloc w.drew _ k hk) (fun p hp => by
          simp only [List.mem_singleton] at hp
          subst hp
          exact heap_alloc_new w.drew _) (by simp) (by simp)
end
end Go.Fw
