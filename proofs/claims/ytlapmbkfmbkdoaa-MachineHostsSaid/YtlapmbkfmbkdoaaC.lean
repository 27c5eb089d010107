/- Worlds: what is known of the blocks. No condition beyond each lemma's own. -/
import Derived.Test.YtlapmbkfmbkdoaaB
import Derived.Laws.Rows
namespace Go.Fw
open Go.RowKit

abbrev Seg := List (Nat × Obj)
abbrev Cel (l : List Value) (E : TypeId) : Obj := .cells l.toArray E (0, 0)
def keys (bs : List Seg) : List Nat := bs.flatten.map (·.1)

/-- Since w0: blocks that stood there are as they were, but for those of ks; of the blocks of bs we know what they hold. -/
structure St (w0 : World) (ks : List Nat) (bs : List Seg) (w : World) : Prop where
  os : w.os = w0.os
  tape : w.tape = w0.tape
  output : w.output = w0.output
  size : w0.heap.size ≤ w.heap.size
  keep : ∀ k, k < w0.heap.size → k ∉ ks → w.heap[k]? = w0.heap[k]?
  own : ∀ p ∈ bs.flatten, w.heap[p.1]? = some p.2
  place : ∀ p ∈ bs.flatten, w0.heap.size ≤ p.1 ∨ p.1 ∈ ks
  nodup : (keys bs).Nodup

/-- bs knows block b. -/
inductive HasB : List Seg → Nat → Obj → Prop
  | h {b : Nat} {o : Obj} {bs : List Seg} : HasB ([(b, o)] :: bs) b o
  | t {b : Nat} {o : Obj} {s : Seg} {bs : List Seg} : HasB bs b o → HasB (s :: bs) b o
  | i {b : Nat} {o : Obj} {s : Seg} {bs : List Seg} : (b, o) ∈ s → HasB (s :: bs) b o
/-- bs' is bs but for what block b holds. -/
inductive UpB : List Seg → Nat → Obj → Obj → List Seg → Prop
  | h {b o o' bs} : UpB ([(b, o)] :: bs) b o o' ([(b, o')] :: bs)
  | t {b o o' s bs bs'} : UpB bs b o o' bs' → UpB (s :: bs) b o o' (s :: bs')
/-- bs' is bs with the segment s turned to s'. -/
inductive RepB : List Seg → Seg → Seg → List Seg → Prop
  | h {s s' bs} : RepB (s :: bs) s s' (s' :: bs)
  | t {s s' t bs bs'} : RepB bs s s' bs' → RepB (t :: bs) s s' (t :: bs')

def World.setB (w : World) (b : Nat) (o : Obj) : World := { w with heap := w.heap.setIfInBounds b o }

section
variable {w0 w w' w1 : World} {ks : List Nat} {bs bs' : List Seg} {b off : Nat} {o o' : Obj} {s s' : Seg} {v : Value} {l cs : List Value} {E : TypeId}

theorem HasB.mem (h : HasB bs b o) : (b, o) ∈ bs.flatten := by
  induction h with
  | h => simp
  | t _ ih => simp [ih]
  | i hm => simp [hm]
theorem St.get (h : St w0 ks bs w) (hb : HasB bs b o) : w.heap[b]? = some o := h.own _ hb.mem

theorem UpB.has (h : UpB bs b o o' bs') : HasB bs b o := by
  induction h with
  | h => exact .h
  | t _ ih => exact .t ih
theorem UpB.keys (h : UpB bs b o o' bs') : keys bs' = keys bs := by
  induction h with
  | h => simp [Fw.keys]
  | t _ ih => simp only [Fw.keys, List.flatten_cons, List.map_append] at *; rw [ih]
theorem UpB.mem (h : UpB bs b o o' bs') (hn : (Fw.keys bs).Nodup) : ∀ p ∈ bs'.flatten, p = (b, o') ∨ (p.1 ≠ b ∧ p ∈ bs.flatten) := by
  induction h with
  | @h b o o' bs =>
    intro p hp
    simp only [List.flatten_cons, List.singleton_append, List.mem_cons] at hp
    rcases hp with rfl | hp
    · exact .inl rfl
    · refine .inr ⟨fun e => ?_, by simp [hp]⟩
      simp only [Fw.keys, List.flatten_cons, List.singleton_append, List.map_cons, List.nodup_cons] at hn
      exact hn.1 (e ▸ List.mem_map_of_mem hp)
  | @t b o o' s bs bs' hu ih =>
    intro p hp
    simp only [List.flatten_cons, List.mem_append] at hp
    simp only [Fw.keys, List.flatten_cons, List.map_append] at hn
    rw [List.nodup_append] at hn
    rcases hp with hp | hp
    · refine .inr ⟨fun e => ?_, by simp [hp]⟩
      refine hn.2.2 p.1 (List.mem_map_of_mem hp) b ?_ e
      have := hu.has.mem
      exact List.mem_map_of_mem (f := (·.1)) this
    · rcases ih hn.2.1 p hp with h | ⟨h1, h2⟩
      · exact .inl h
      · exact .inr ⟨h1, by simp [h2]⟩

theorem St.start (w : World) : St w [] [] w := ⟨rfl, rfl, rfl, Nat.le_refl _, fun _ _ _ => rfl, by simp, by simp, by simp [keys]⟩
theorem St.drew (h : St w0 ks bs w) : St w0 ks bs w.drew := ⟨h.os, h.tape, h.output, h.size, h.keep, h.own, h.place, h.nodup⟩
theorem St.drawn (h : St w0 ks bs w) (n : Nat) : St w0 ks bs { w with drawn := n } := ⟨h.os, h.tape, h.output, h.size, h.keep, h.own, h.place, h.nodup⟩

theorem St.lt (h : St w0 ks bs w) {p : Nat × Obj} (hp : p ∈ bs.flatten) : p.1 < w.heap.size := by
  have := h.own p hp
  exact (Array.getElem?_eq_some_iff.1 this).1

theorem St.alloc (h : St w0 ks bs w) (o : Obj) : St w0 ks ([(w.heap.size, o)] :: bs) (w.alloc o) := by
  refine ⟨h.os, h.tape, h.output, ?_, ?_, ?_, ?_, ?_⟩
  · have h1 := h.size
    have h2 : (w.alloc o).heap.size = w.heap.size + 1 := by simp
    omega
  · intro k hk hks
    have := h.size
    rw [Below.heap_alloc _ _ _ (by omega)]
    exact h.keep k hk hks
  · intro p hp
    simp only [List.flatten_cons, List.singleton_append, List.mem_cons] at hp
    rcases hp with rfl | hp
    · exact heap_alloc_new w o
    · rw [Below.heap_alloc _ _ _ (h.lt hp)]; exact h.own p hp
  · intro p hp
    simp only [List.flatten_cons, List.singleton_append, List.mem_cons] at hp
    rcases hp with rfl | hp
    · exact .inl h.size
    · exact h.place p hp
  · simp only [keys, List.flatten_cons, List.singleton_append, List.map_cons, List.nodup_cons]
    refine ⟨fun hm => ?_, h.nodup⟩
    obtain ⟨p, hp, e⟩ := List.mem_map.1 hm
    have := h.lt hp
    omega

theorem St.setB (h : St w0 ks bs w) (hu : UpB bs b o o' bs') : St w0 ks bs' (World.setB w b o') := by
  have hb := hu.has.mem
  have hlt := h.lt hb
  have hpl := h.place _ hb
  refine ⟨h.os, h.tape, h.output, by simpa [World.setB] using h.size, ?_, ?_, ?_, by rw [hu.keys]; exact h.nodup⟩
  · intro k hk hks
    have : b ≠ k := by
      rintro rfl
      rcases hpl with h1 | h1
      · simp only at h1; omega
      · exact hks h1
    simp only [World.setB]
    rw [Array.getElem?_setIfInBounds_ne this]
    exact h.keep k hk hks
  · intro p hp
    rcases hu.mem h.nodup p hp with rfl | ⟨h1, h2⟩
    · simp only at hlt
      simp [World.setB, hlt]
    · simp only [World.setB]
      rw [Array.getElem?_setIfInBounds_ne (Ne.symm h1)]
      exact h.own p h2
  · intro p hp
    rcases hu.mem h.nodup p hp with rfl | ⟨h1, h2⟩
    · exact hpl
    · exact h.place p h2

/-- What a call that keeps all that was there, but for its own new blocks, leaves. -/
theorem St.comp0 (h : St w0 ks bs w) (h2 : St w [] [s] w') : St w0 ks (s :: bs) w' := by
  have hnew : ∀ p ∈ s, w.heap.size ≤ p.1 := fun p hp => by
    rcases h2.place p (by simp [hp]) with h | h
    · exact h
    · simp at h
  refine ⟨h2.os.trans h.os, h2.tape.trans h.tape, h2.output.trans h.output, Nat.le_trans h.size h2.size, ?_, ?_, ?_, ?_⟩
  · intro k hk hks
    rw [h2.keep k (Nat.lt_of_lt_of_le hk h.size) (by simp)]
    exact h.keep k hk hks
  · intro p hp
    simp only [List.flatten_cons, List.mem_append] at hp
    rcases hp with hp | hp
    · exact h2.own p (by simp [hp])
    · rw [h2.keep p.1 (h.lt hp) (by simp)]; exact h.own p hp
  · intro p hp
    simp only [List.flatten_cons, List.mem_append] at hp
    rcases hp with hp | hp
    · exact .inl (Nat.le_trans h.size (hnew p hp))
    · exact h.place p hp
  · simp only [keys, List.flatten_cons, List.map_append]
    rw [List.nodup_append]
    refine ⟨by simpa [keys] using h2.nodup, h.nodup, ?_⟩
    intro x hx y hy e
    obtain ⟨p, hp, rfl⟩ := List.mem_map.1 hx
    obtain ⟨q, hq, rfl⟩ := List.mem_map.1 hy
    have := hnew p hp
    have := h.lt hq
    omega

/-- Only some of what is known. -/
theorem St.pick (h : St w0 ks bs w) (hm : ∀ p ∈ bs'.flatten, p ∈ bs.flatten) (hn : (keys bs').Nodup) : St w0 ks bs' w :=
  ⟨h.os, h.tape, h.output, h.size, h.keep, fun p hp => h.own p (hm p hp), fun p hp => h.place p (hm p hp), hn⟩
theorem St.none (h : St w0 ks bs w) : St w0 ks [[]] w := h.pick (by simp) (by simp [keys])
theorem St.cons0 (h : St w0 ks bs w) : St w0 ks ([] :: bs) w := h.pick (by simp) (by simpa [keys] using h.nodup)
theorem St.tail (h : St w0 ks (s :: bs) w) : St w0 ks bs w :=
  h.pick (fun p hp => by simp [hp]) (by have := h.nodup; simp only [keys, List.flatten_cons, List.map_append] at this ⊢; exact (List.nodup_append.1 this).2.1)
theorem St.swap {t : Seg} (h : St w0 ks (s :: t :: bs) w) : St w0 ks (t :: s :: bs) w := by
  refine h.pick (fun p hp => ?_) ?_
  · simp only [List.flatten_cons, List.mem_append] at hp ⊢
    rcases hp with hp | hp | hp
    · exact .inr (.inl hp)
    · exact .inl hp
    · exact .inr (.inr hp)
  · have := h.nodup
    simp only [keys, List.flatten_cons, List.map_append] at this ⊢
    rw [← List.append_assoc] at this ⊢
    refine (List.Perm.nodup_iff ?_).1 this
    exact List.Perm.append_right _ List.perm_append_comm
/-- one known segment alone -/
inductive HasS : List Seg → Seg → Prop
  | h {x : Seg} {bx : List Seg} : HasS (x :: bx) x
  | t {x y : Seg} {bx : List Seg} : HasS bx x → HasS (y :: bx) x
theorem HasS.mem (h : HasS bs s) : s ∈ bs := by
  induction h with
  | h => simp
  | t _ ih => simp [ih]
theorem St.one (h : St w0 ks bs w) (hs : HasS bs s) : St w0 ks [s] w := by
  induction hs with
  | h =>
    refine h.pick (fun p hp => by simpa using Or.inl (by simpa using hp)) ?_
    have := h.nodup
    simp only [keys, List.flatten_cons, List.map_append, List.flatten_nil, List.append_nil] at this ⊢
    exact (List.nodup_append.1 this).1
  | t _ ih => exact ih h.tail

/-! ### cells -/
theorem cell_Cel (hb : w.heap[b]? = some (Cel l E)) (off : Nat) : w.cell? ⟨b, off, none⟩ = l[off]? := by
  simp [World.cell?, hb]
theorem frozen_Cel (hb : w.heap[b]? = some (Cel l E)) (off : Nat) : w.frozen? ⟨b, off, none⟩ = false := by
  simp [World.frozen?, hb]
theorem setCell_Cel (hb : w.heap[b]? = some (Cel l E)) (off : Nat) (v : Value) : w.setCell ⟨b, off, none⟩ v = World.setB w b (Cel (l.set off v) E) := by
  simp only [World.setCell, World.setB]
  congr 1
  apply Array.ext_getElem?
  intro i
  rw [Array.getElem?_modify, Array.getElem?_setIfInBounds]
  by_cases e : b = i
  · subst e
    obtain ⟨hlt, hq⟩ := Array.getElem?_eq_some_iff.1 hb
    simp [hlt, hq]
  · simp [e]

/-- what stands in l once cs is laid over it from off on -/
def spl (l : List Value) (off : Nat) (cs : List Value) : List Value := l.take off ++ cs ++ l.drop (off + cs.length)
theorem spl_nil (l : List Value) (off : Nat) : spl l off [] = l := by simp [spl]
theorem spl_cons (l : List Value) (off : Nat) (v : Value) (cs : List Value) (h : off < l.length) : spl (l.set off v) (off + 1) cs = spl l off (v :: cs) := by
  simp only [spl, List.take_set, List.length_cons]
  rw [List.drop_set_of_lt (by omega), List.take_succ_eq_append_getElem h]
  have h1 : (List.take off l ++ [l[off]]).set off v = List.take off l ++ [v] := by
    rw [List.set_append]
    simp [Nat.min_eq_left (Nat.le_of_lt h)]
  rw [h1, show off + 1 + cs.length = off + (cs.length + 1) from by omega]
  simp
theorem spl_all (l cs : List Value) (h : cs.length = l.length) : spl l 0 cs = cs := by simp [spl, h]
theorem length_spl (l : List Value) (off : Nat) (cs : List Value) (h : off + cs.length ≤ l.length) : (spl l off cs).length = l.length := by
  simp [spl]; omega

theorem setB_setB (w : World) (b : Nat) (o o' : Obj) : World.setB (World.setB w b o) b o' = World.setB w b o' := by
  simp [World.setB]
theorem setB_same (hb : w.heap[b]? = some o) : World.setB w b o = w := by
  have hlt := (Array.getElem?_eq_some_iff.1 hb)
  simp only [World.setB]
  congr 1
  apply Array.ext_getElem?
  intro i
  rw [Array.getElem?_setIfInBounds]
  by_cases e : b = i
  · subst e; obtain ⟨h1, h2⟩ := hlt; simp [h1, h2]
  · simp [e]
theorem heap_setB (hb : b < w.heap.size) : (World.setB w b o).heap[b]? = some o := by simp [World.setB, hb]

variable {P : Program}
theorem run_storeCells_Cel : ∀ (vs : List Value) (off i : Nat) (w : World) (l : List Value), w.heap[b]? = some (Cel l E) → off + i + vs.length ≤ l.length → (∀ v ∈ vs, v.oneCell' = true) →
    (storeCells ⟨b, off, none⟩ vs i).run P w = .ok () (World.setB w b (Cel (spl l (off + i) vs) E)) := by
  intro vs
  induction vs with
  | nil => intro off i w l hb _ _; simp [storeCells, spl_nil, setB_same hb]
  | cons v vs ih =>
    intro off i w l hb hlen h1
    simp only [List.length_cons] at hlen
    have hadd : (⟨b, off, none⟩ : Addr).add i = ⟨b, off + i, none⟩ := by
      unfold Addr.add; split
      · subst_vars; rfl
      · rfl
    have hlt : off + i < l.length := by omega
    have hcell : w.cell? ⟨b, off + i, none⟩ = some l[off + i] := by rw [cell_Cel hb]; simp [hlt]
    simp only [storeCells, Sem.run_bind, hadd, run_store P w _ v _ (h1 v (by simp)), hcell, frozen_Cel hb, Bool.false_eq_true, if_false, Result.andThen]
    rw [setCell_Cel hb]
    have hb' : (World.setB w b (Cel (l.set (off + i) v) E)).heap[b]? = some (Cel (l.set (off + i) v) E) := heap_setB (Array.getElem?_eq_some_iff.1 hb).1
    rw [ih off (i + 1) _ (l.set (off + i) v) hb' (by simp; omega) (fun u hu => h1 u (by simp [hu])), setB_setB]
    rw [show off + (i + 1) = off + i + 1 from by omega, spl_cons _ _ _ _ hlt]

/-! ### reading -/
/-- From A on the cells are cs. -/
def Rd (w : World) (A : Option Addr) (cs : List Value) : Prop := ∀ j v, cs[j]? = some v → ∃ a, A = some a ∧ w.cell? (a.add j) = some v

theorem Rd.nil (w : World) (A : Option Addr) : Rd w A [] := fun j v h => by simp at h
theorem addr_add (b off k : Nat) : (⟨b, off, none⟩ : Addr).add k = ⟨b, off + k, none⟩ := by
  unfold Addr.add; split
  · subst_vars; rfl
  · rfl
theorem Rd.own (h : St w0 ks bs w) (hb : HasB bs b (Cel l E)) (hl : ∀ j v, cs[j]? = some v → l[off + j]? = some v) : Rd w (some ⟨b, off, none⟩) cs := by
  intro j v hj
  exact ⟨_, rfl, by rw [addr_add, cell_Cel (h.get hb)]; exact hl j v hj⟩
theorem Rd.own0 (h : St w0 ks bs w) (hb : HasB bs b (Cel l E)) : Rd w (some ⟨b, 0, none⟩) l := Rd.own h hb fun j v hj => by rw [Nat.zero_add]; exact hj
theorem lt_of_cell {a : Addr} (h : w.cell? a = some v) : a.block < w.heap.size := block_lt_of_cell h
theorem add_block (a : Addr) (k : Nat) : (a.add k).block = a.block := by unfold Addr.add; split <;> rfl
theorem Rd.old {A : Option Addr} (h : Rd w0 A cs) (hs : St w0 [] bs w) : Rd w A cs := by
  intro j v hj
  obtain ⟨a, ha, hc⟩ := h j v hj
  refine ⟨a, ha, ?_⟩
  rw [World.cell?_of_block (w := w0)]
  · exact hc
  · exact hs.keep _ (lt_of_cell hc) (by simp)
theorem Rd.sub {A : Option Addr} (h : Rd w A cs) (k : Nat) : Rd w A (cs.take k) := by
  intro j v hj
  rw [List.getElem?_take] at hj
  split at hj
  · exact h j v hj
  · simp at hj
end
end Go.Fw
