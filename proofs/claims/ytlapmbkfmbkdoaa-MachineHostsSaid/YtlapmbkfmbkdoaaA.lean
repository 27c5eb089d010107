/- The core: frames as association lists, worlds as known blocks, steps of the walk. No condition. -/
import Derived.WalkKit
import Derived.WalkSpells
import Derived.Orders
import Derived.OrdersHeld
import Derived.Deep.LoopGhost
import Derived.OwnWalk
import Derived.RowKit3
import Derived.Below
namespace Go.Fw
open Go.RowKit

/-! ### frames -/
abbrev Env := List (Nat × Value)
def look : Env → Nat → Option Value
  | [], _ => none
  | (k, v) :: l, t => cond (Nat.beq k t) (some v) (look l t)

structure Fr (n : Nat) (l : Env) (a : Act) : Prop where
  size : a.tmps.size = n
  defs : a.defers = []
  get : ∀ t v, look l t = some v → a.tmps.getD t undef = v

def opv (l : Env) : Operand → Option Value
  | .tmp t => look l t
  | .const v => some v
  | .global g => some (.pointer (some ⟨g, 0, none⟩))
  | .func f => some (.func (.func f) #[] #[])

section
variable {P : Program} {ops : Array Oper} {Q : Exit → Act → World → Prop} {a : Act} {w w' : World} {rest : List Oper} {o : Oper} {n : Nat} {l : Env} {d : Nat} {v : Value} {x y z : Operand}

theorem Fr.ev (h : Fr n l a) (hx : opv l x = some v) : a.eval x = v := by
  cases x with
  | tmp t => exact h.get t v hx
  | const c => simpa [opv, Act.eval] using hx
  | global g => simpa [opv, Act.eval] using hx
  | func f => simpa [opv, Act.eval] using hx

theorem Fr.put (h : Fr n l a) (hd : Nat.blt d n = true) (v : Value) : Fr n ((d, v) :: l) (a.put (some d) v) := by
  have hlt : d < a.tmps.size := by rw [h.size]; exact Nat.le_of_ble_eq_true hd
  refine ⟨by simp [Act.put, h.size], h.defs, fun t u hu => ?_⟩
  simp only [look] at hu
  simp only [Act.put]
  by_cases e : d = t
  · subst e
    simp only [Nat.beq_refl, cond_true, Option.some.injEq] at hu
    subst hu
    simp [Array.getD_eq_getD_getElem?, hlt]
  · have : Nat.beq d t = false := by
      cases hb : Nat.beq d t
      · rfl
      · exact absurd (Nat.eq_of_beq_eq_true hb) e
    rw [this] at hu
    have := h.get t u hu
    simp only [Array.getD_eq_getD_getElem?] at this ⊢
    rw [Array.getElem?_setIfInBounds_ne e]
    exact this

theorem Fr.put0 (h : Fr n l a) (v : Value) : Fr n l (a.put none v) := h

/-- Every entry of l' is found in l. -/
def AllLook (l : Env) : Env → Prop
  | [] => True
  | (t, v) :: r => look l t = some v ∧ AllLook l r

theorem AllLook.find : ∀ {l' : Env}, AllLook l l' → ∀ t v, look l' t = some v → look l t = some v
  | [], _, t, v, h => by simp [look] at h
  | (k, u) :: r, ⟨h1, h2⟩, t, v, h => by
    simp only [look] at h
    cases hb : Nat.beq k t
    · rw [hb] at h; exact AllLook.find h2 t v h
    · rw [hb] at h
      have : k = t := Nat.eq_of_beq_eq_true hb
      simp only [cond_true, Option.some.injEq] at h
      rw [← this, ← h]; exact h1

theorem Fr.sub {l' : Env} (h : Fr n l a) (hs : AllLook l l') : Fr n l' a := ⟨h.size, h.defs, fun t v hv => h.get t v (hs.find t v hv)⟩

theorem Fr.start {args : Array Value} {N : Nat} {l : Env} (hn : args.size ≤ N) (hl : AllLook (args.toList.zipIdx.map fun p => (p.2, p.1)) l) :
    Fr N l { tmps := args ++ Array.replicate (N - args.size) undef, defers := [] } := by
  refine ⟨by simp; omega, rfl, fun t v hv => ?_⟩
  have h := hl.find t v hv
  have key : ∀ (xs : List Value) (k t : Nat) (v : Value), look ((xs.zipIdx k).map fun p => (p.2, p.1)) t = some v → k ≤ t ∧ xs[t - k]? = some v := by
    intro xs
    induction xs with
    | nil => intro k t v h; simp [look] at h
    | cons x xs ih =>
      intro k t v h
      simp only [List.zipIdx_cons, List.map_cons, look] at h
      cases hb : Nat.beq k t
      · rw [hb] at h
        obtain ⟨h1, h2⟩ := ih (k + 1) t v h
        refine ⟨by omega, ?_⟩
        have : t - k = (t - (k + 1)) + 1 := by omega
        rw [this]; simpa using h2
      · rw [hb] at h
        have : k = t := Nat.eq_of_beq_eq_true hb
        subst this
        simp at h
        simp [h]
  obtain ⟨_, h2⟩ := key _ 0 t v h
  have h3 : args[t]? = some v := by simpa using h2
  have hlt : t < args.size := by
    rcases Nat.lt_or_ge t args.size with h | h
    · exact h
    · simp [Array.getElem?_eq_none h] at h3
  simp [Array.getD_eq_getD_getElem?, Array.getElem?_append, hlt]
  simpa [Array.getElem?_eq_getElem hlt] using h3

/-! ### steps in a region of the text's order -/
theorem wpl_cons (hg : o.guard = none) (h : o.wp P a w (wpList P ops Q rest) Q) : wpList P ops Q (o :: rest) a w := by
  unfold wpList
  rw [if_pos (by simp [Region.wanted, hg])]
  exact .inl h

/-- A value and nothing else. -/
theorem O.val {K : Act → World → Prop} (hF : Fr n l a) (hd : o.dst = some d) (hn : Nat.blt d n = true) (hr : (execOp a.eval o).run P w = .ok (.value v) w')
    (h : ∀ a', Fr n ((d, v) :: l) a' → K a' w') : o.wp P a w K Q := by
  unfold Oper.wp
  rw [hr, Oper.upon_value, hd]
  exact h _ (hF.put hn v)

theorem sv (hF : Fr n l a) (hg : o.guard = none) (hd : o.dst = some d) (hn : Nat.blt d n = true) (hr : (execOp a.eval o).run P w = .ok (.value v) w')
    (h : ∀ a', Fr n ((d, v) :: l) a' → wpList P ops Q rest a' w') : wpList P ops Q (o :: rest) a w :=
  wpl_cons hg (O.val hF hd hn hr h)

theorem yields_of (hF : Fr n l a) {j t : Nat} {b : Bool} (hj : (ops[j]?).bind (·.dst) = some t) (ht : look l t = some (.bool b)) : yielded ops a.tmps j = some b := by
  have h := hF.get t _ ht
  have h2 : a.tmps[t]? = some (.bool b) := by
    rw [Array.getD_eq_getD_getElem?] at h
    cases hh : a.tmps[t]? with
    | none => rw [hh] at h; simp [undef] at h
    | some u => rw [hh] at h; simpa using h
  simp [yielded, hj, h2]
end

/-! ### a region that draws its order: one order of our choice, checked closed -/
/-- A panic's end doesn't look at the temporaries. -/
def PanicOk (Q : Exit → Act → World → Prop) : Prop := ∀ c a d v w, Q (.panic c) (a.put d v) w → Q (.panic c) a w
theorem PanicOk.then {Q : Exit → Act → World → Prop} {K : Act → World → Prop} (h : PanicOk Q) : PanicOk (Exit.then K Q) := fun c a d v w hh => h c a d v w hh
theorem PanicOk.block {Q : Exit → Act → World → Prop} {id : Nat} (h : PanicOk Q) : PanicOk (Exit.inBlock id Q) := fun c a d v w hh => h c a d v w hh
theorem PanicOk.body {P : Program} {fn : Func} {R : Ending → World → Prop} : PanicOk (bodyPost P fn R) := fun c a d v w hh => by
  cases d <;> exact hh

section
variable {P : Program} {ops : Array Oper} {Q : Exit → Act → World → Prop} {S : World → Prop} {W : Nat → Bool}

/-- Whatever order is picked; no operation but a writer turns 'S'. -/
def wpW (P : Program) (ops : Array Oper) (Q : Exit → Act → World → Prop) (S : World → Prop) (W : Nat → Bool) : Nat → Array Bool → Act → World → Prop
  | 0, listed, a, w => Region.ready .any ops listed = [] ∧ Q .normal a w
  | fuel + 1, listed, a, w =>
    (Region.ready .any ops listed = [] → Q .normal a w) ∧
    ∀ i ∈ Region.ready .any ops listed, wpOp P ops Q i (fun a' w' => (W i = false → S w → S w') ∧ wpW P ops Q S W fuel (listed.setIfInBounds i true) a' w') a w

theorem wpAny_of_wpW : ∀ (fuel : Nat) (listed : Array Bool) (a : Act) (w : World), wpW P ops Q S W fuel listed a w → wpAny P .any ops Q fuel listed a w
  | 0, _, _, _, h => h
  | fuel + 1, _, _, _, h => ⟨h.1, fun i hi => wpOp_mono (fun a' w' h' => wpAny_of_wpW fuel _ a' w' h'.2) (h.2 i hi)⟩

theorem wpW_first {S' : World → Prop} {i : Nat} {oi : Oper} {v : Value} (hi : ops[i]? = some oi) (hsel : Region.noSelect ops = true) (hQ : PanicOk Q)
    (hpres : ∀ j oj, ops[j]? = some oj → j ≠ i → (∀ e ∈ oj.after, Region.binds .any e = true → e.on ≠ i) → ∀ w w', (W j = false → S w → S w') → S' w → S' w') :
    ∀ (fuel : Nat) (listed : Array Bool) (a : Act) (w : World),
      (∀ j oj, ops[j]? = some oj → j ≠ i → listed.getD j true = false → (∀ e ∈ oj.after, Region.binds .any e = true → e.on ≠ i) → oi.apart ops oj = true) →
      i ∈ Region.ready .any ops listed → YieldsIf P ops S' oi v a → S' w →
      wpW P ops Q S W fuel (listed.setIfInBounds i true) (a.put oi.dst v) w → wpW P ops Q S W (fuel + 1) listed a w := by
  intro fuel
  induction fuel with
  | zero =>
    intro listed a w _ hr hy hS H
    refine ⟨fun h => absurd (h ▸ hr) (by simp), fun j hj => ?_⟩
    by_cases hji : j = i
    · subst hji; exact hy.wpOp hi hS ⟨fun _ h => h, H⟩
    · have h2 := ready_mono hj hji
      rw [H.1] at h2
      simp at h2
  | succ fuel ih =>
    intro listed a w hfree hr hy hS H
    refine ⟨fun h => absurd (h ▸ hr) (by simp), fun j hj => ?_⟩
    by_cases hji : j = i
    · subst hji; exact hy.wpOp hi hS ⟨fun _ h => h, H⟩
    · have h1 := H.2 j (ready_mono hj hji)
      obtain ⟨hun, oj, hoj, hdeps⟩ := mem_ready.1 hj
      have hnot : ∀ e ∈ oj.after, Region.binds .any e = true → e.on ≠ i := by
        intro e he hb heq
        have d1 := hdeps e he hb
        have d0 := (mem_ready.1 hr).1
        rw [heq] at d1
        by_cases hlt : i < listed.size
        · simp [hlt] at d0 d1; rw [d0] at d1; exact absurd d1 (by simp)
        · simp [Array.getElem?_eq_none (Nat.le_of_not_lt hlt)] at d1
      have h2 := wpOp_putIf hoj (hfree j oj hoj hji hun hnot) (fun cs b => Region.noSelect_spec hsel i oi cs b hi) (fun cs b => Region.noSelect_spec hsel j oj cs b hoj) (fun c a w => hQ c a oi.dst v w) hy h1
      refine wpOp_mono (fun a' w' h3 => ⟨h3.2.1, ?_⟩) h2
      refine ih (listed.setIfInBounds j true) a' w' ?_ (ready_mono hr (Ne.symm hji)) h3.1 (hpres j oj hoj hji hnot w w' h3.2.1 hS) ?_
      · intro k ok hk hki hkun hkno
        refine hfree k ok hk hki ?_ hkno
        by_cases hjk : j = k
        · subst hjk; exact hun
        · rw [getD_set_ne true hjk] at hkun; exact hkun
      · rw [Array.setIfInBounds_comm _ _ hji]
        exact h3.2.2

/-- Those that have come up, the last first. -/
def lst (n : Nat) : List Nat → Array Bool
  | [] => Array.replicate n false
  | i :: r => (lst n r).setIfInBounds i true

def waitsFor (ops : Array Oper) (j i : Nat) : Bool := match ops[j]? with
  | none => false
  | some oj => oj.after.any fun e => Region.binds .any e && e.on == i

/-- The closed check of an order: number and kind (0: looks at no memory, 1: reads, 2: leaves S as it was, 3: writes). -/
def linOK (ops : Array Oper) (full : List (Nat × Nat)) : List Nat → List (Nat × Nat) → Bool
  | _, [] => true
  | done, (i, c) :: r =>
    (match c with
      | 0 => Region.free .any ops (lst ops.size done) i && (Region.ready .any ops (lst ops.size done)).contains i
      | 1 => Region.free .any ops (lst ops.size done) i && (Region.ready .any ops (lst ops.size done)).contains i && full.all fun p => Nat.ble p.2 2 || waitsFor ops p.1 i
      | _ => Region.ready .any ops (lst ops.size done) == [i]) && linOK ops full (i :: done) r

def isWriter (full : List (Nat × Nat)) (j : Nat) : Bool := full.any fun p => p.1 == j && Nat.ble 3 p.2

def skipped (o : Oper) (ops : Array Oper) (a : Act) : Prop := Region.wanted o (yielded ops a.tmps) = false
/-- The walk along the order. -/
def WL (P : Program) (ops : Array Oper) (Q : Exit → Act → World → Prop) (S : World → Prop) (K : Act → World → Prop) : List (Nat × Nat) → Act → World → Prop
  | [], a, w => K a w
  | (i, c) :: r, a, w => ∃ o, ops[i]? = some o ∧
    match c with
      | 0 => ∃ v, YieldsIf P ops (fun _ => True) o v a ∧ WL P ops Q S K r (a.put o.dst v) w
      | 1 => ∃ v, YieldsIf P ops S o v a ∧ S w ∧ WL P ops Q S K r (a.put o.dst v) w
      | 2 => wpOp P ops Q i (fun a' w' => (S w → S w') ∧ WL P ops Q S K r a' w') a w
      | _ => wpOp P ops Q i (fun a' w' => WL P ops Q S K r a' w') a w

theorem not_waits {j i : Nat} {oj : Oper} (hj : ops[j]? = some oj) (h : ∀ e ∈ oj.after, Region.binds .any e = true → e.on ≠ i) : waitsFor ops j i = false := by
  unfold waitsFor
  rw [hj]
  cases hb : oj.after.any fun e => Region.binds .any e && e.on == i
  · exact hb
  · obtain ⟨e, he, hh⟩ := Array.any_eq_true'.1 hb
    simp only [Bool.and_eq_true, beq_iff_eq] at hh
    exact absurd hh.2 (h e he hh.1)

theorem wpW_of_WL {K : Act → World → Prop} (full : List (Nat × Nat)) (hsel : Region.noSelect ops = true) (hQ : PanicOk Q) (hnd : full.Pairwise (fun p q => p.1 ≠ q.1)) :
    ∀ (todo : List (Nat × Nat)) (m : Nat) (done : List Nat) (a : Act) (w : World), (∀ p ∈ todo, p ∈ full) → linOK ops full done todo = true →
      (∀ a w, K a w → wpW P ops Q S (isWriter full) m (lst ops.size ((todo.map (·.1)).reverse ++ done)) a w) → WL P ops Q S K todo a w →
      wpW P ops Q S (isWriter full) (todo.length + m) (lst ops.size done) a w := by
  have huni : ∀ (i c c' : Nat), (i, c) ∈ full → (i, c') ∈ full → c = c' := by
    intro i c c' h1 h2
    clear hsel hQ
    induction full with
    | nil => simp at h1
    | cons p r ih =>
      rw [List.pairwise_cons] at hnd
      rcases List.mem_cons.1 h1 with e1 | e1 <;> rcases List.mem_cons.1 h2 with e2 | e2
      · rw [← e1] at e2; exact (Prod.mk.injEq .. ▸ e2).2.symm
      · exact absurd (by rw [← e1]) (hnd.1 _ e2)
      · exact absurd (by rw [← e2]) (hnd.1 _ e1)
      · exact ih hnd.2 e1 e2
  intro todo
  induction todo with
  | nil =>
    intro m done a w _ _ hK h
    simpa using hK a w h
  | cons p r ih =>
    intro m done a w hmem hl hK h
    obtain ⟨i, c⟩ := p
    rw [show ((i, c) :: r).length + m = (r.length + m) + 1 from by simp only [List.length_cons]; omega]
    have hK' : ∀ a w, K a w → wpW P ops Q S (isWriter full) m (lst ops.size ((r.map (·.1)).reverse ++ (i :: done))) a w := by simpa using hK
    clear hK
    have hmem' : ∀ p ∈ r, p ∈ full := fun p hp => hmem p (List.mem_cons_of_mem _ hp)
    have hic : (i, c) ∈ full := hmem _ (List.mem_cons_self)
    simp only [linOK, Bool.and_eq_true] at hl
    obtain ⟨hl1, hl2⟩ := hl
    obtain ⟨o, hi, h⟩ := h
    match c, hl1, h, hic with
    | 0, hl1, h, _ =>
      simp only [Bool.and_eq_true] at hl1
      obtain ⟨v, hy, hw⟩ := h
      refine wpW_first (S' := fun _ => True) hi hsel hQ (fun _ _ _ _ _ _ _ _ _ => trivial) _ _ a w (Region.free_spec hi hl1.1) (by simpa using hl1.2) hy trivial ?_
      exact ih m (i :: done) _ w hmem' hl2 hK' hw
    | 1, hl1, h, _ =>
      simp only [Bool.and_eq_true] at hl1
      obtain ⟨v, hy, hS, hw⟩ := h
      refine wpW_first (S' := S) hi hsel hQ ?_ _ _ a w (Region.free_spec hi hl1.1.1) (by simpa using hl1.1.2) hy hS ?_
      · intro j oj hj hji hno w1 w2 hk hS1
        refine hk ?_ hS1
        cases hwr : isWriter full j
        · rfl
        · obtain ⟨q, hq, hq2⟩ := List.any_eq_true.1 hwr
          simp only [Bool.and_eq_true, beq_iff_eq] at hq2
          have h3 := List.all_eq_true.1 hl1.2 q hq
          have h4 : Nat.ble q.2 2 = false := by
            have := Nat.le_of_ble_eq_true hq2.2
            cases hb : Nat.ble q.2 2
            · rfl
            · have := Nat.le_of_ble_eq_true hb; omega
          simp only [h4, Bool.false_or] at h3
          rw [hq2.1, not_waits hj hno] at h3
          exact absurd h3 (by simp)
      · exact ih m (i :: done) _ w hmem' hl2 hK' hw
    | 2, hl1, h, hic =>
      have hr : Region.ready .any ops (lst ops.size done) = [i] := by simpa using hl1
      refine ⟨fun h0 => by rw [hr] at h0; simp at h0, fun j hj => ?_⟩
      rw [hr] at hj
      have : j = i := by simpa using hj
      subst this
      exact wpOp_mono (fun a' w' h' => ⟨fun _ => h'.1, ih m (j :: done) a' w' hmem' hl2 hK' h'.2⟩) h
    | c + 3, hl1, h, hic =>
      have hr : Region.ready .any ops (lst ops.size done) = [i] := by simpa using hl1
      refine ⟨fun h0 => by rw [hr] at h0; simp at h0, fun j hj => ?_⟩
      rw [hr] at hj
      have : j = i := by simpa using hj
      subst this
      exact wpOp_mono (fun a' w' h' => ⟨fun hWf hSw => by
        have : isWriter full j = true := List.any_eq_true.2 ⟨_, hic, by simp [Nat.ble_eq]⟩
        rw [this] at hWf; simp at hWf, ih m (j :: done) a' w' hmem' hl2 hK' h'⟩) h
def allDiff : List Nat → Bool
  | [] => true
  | i :: r => r.all (fun j => !Nat.beq i j) && allDiff r
theorem allDiff_spec : ∀ {full : List (Nat × Nat)}, allDiff (full.map (·.1)) = true → full.Pairwise (fun p q => p.1 ≠ q.1)
  | [], _ => .nil
  | p :: r, h => by
    simp only [List.map_cons, allDiff, Bool.and_eq_true] at h
    refine .cons (fun q hq e => ?_) (allDiff_spec h.2)
    have := List.all_eq_true.1 h.1 q.1 (List.mem_map_of_mem hq)
    rw [e] at this
    simp at this
def endOK (ops : Array Oper) (l : List (Nat × Nat)) : Bool := (Region.ready .any ops (lst ops.size (l.map (·.1)).reverse)).isEmpty
def drawOK (ops : Array Oper) (full : List (Nat × Nat)) : Bool :=
  Region.noSelect ops && allDiff (full.map (·.1)) && Nat.beq full.length ops.size && (linOK ops full [] full && endOK ops full)

/-- **A region that draws its order, walked along one order.** -/
theorem wp_draw {id : Nat} {a : Act} {w : World} (S : World → Prop) (full : List (Nat × Nat)) (hm : P.follows .mixedOrders = true) (hc : drawOK ops full = true) (hQ : PanicOk Q)
    (h : WL P ops Q S (Q .normal) full a w.drew) : (Code.region id ops true).wp P Q a w := by
  simp only [drawOK, Bool.and_eq_true] at hc
  obtain ⟨⟨⟨h1, h2⟩, h3⟩, h4, h5⟩ := hc
  refine wp_region_any hm (wpAny_of_wpW (S := S) (W := isWriter full) _ _ _ _ ?_)
  have := wpW_of_WL (P := P) (Q := Q) (S := S) full h1 hQ (allDiff_spec h2) full 0 [] a w.drew (fun _ h => h) h4 (fun a w hk => ⟨by simpa [endOK] using h5, hk⟩) h
  rw [Nat.add_zero, Nat.eq_of_beq_eq_true h3] at this
  exact this

/-- the check of an order whose tail may come in several ways, each of which begins with an operation that does not commute -/
def altsOK (ops : Array Oper) (full pre : List (Nat × Nat)) (alts : List (List (Nat × Nat))) : Bool :=
  (Region.ready .any ops (lst ops.size (pre.map (·.1)).reverse) == alts.map fun l => (l.headD (0, 0)).1) &&
  alts.all fun l => match l with
    | [] => false
    | (i, c) :: r => Nat.ble 2 c && l.all (fun p => full.contains p) && Nat.beq (pre ++ l).length ops.size && linOK ops full (i :: (pre.map (·.1)).reverse) r && endOK ops (pre ++ l)
def drawOK2 (ops : Array Oper) (pre : List (Nat × Nat)) (alts : List (List (Nat × Nat))) : Bool :=
  !alts.isEmpty && Region.noSelect ops && allDiff ((pre ++ alts.headD []).map (·.1)) && linOK ops (pre ++ alts.headD []) [] pre && Nat.beq (pre ++ alts.headD []).length ops.size && altsOK ops (pre ++ alts.headD []) pre alts
theorem wp_draw2 {id : Nat} {a : Act} {w : World} (S : World → Prop) (pre : List (Nat × Nat)) (alts : List (List (Nat × Nat))) (hm : P.follows .mixedOrders = true) (hc : drawOK2 ops pre alts = true) (hQ : PanicOk Q)
    (h : WL P ops Q S (fun a w => ∀ l ∈ alts, WL P ops Q S (Q .normal) l a w) pre a w.drew) : (Code.region id ops true).wp P Q a w := by
  simp only [drawOK2, altsOK, Bool.and_eq_true] at hc
  obtain ⟨⟨⟨⟨⟨h0, h1⟩, h2⟩, h3⟩, h4⟩, h5, h6⟩ := hc
  generalize hfull : pre ++ alts.headD [] = full at *
  refine wp_region_any hm (wpAny_of_wpW (S := S) (W := isWriter full) _ _ _ _ ?_)
  have hl := Nat.eq_of_beq_eq_true h4
  have hnd := allDiff_spec h2
  have hpre : ∀ p ∈ pre, p ∈ full := fun p hp => by rw [← hfull]; simp [hp]
  have hlen : full.length = pre.length + (alts.headD []).length := by rw [← hfull]; simp
  have key := wpW_of_WL (P := P) (Q := Q) (S := S) full h1 hQ hnd pre (alts.headD []).length [] a w.drew hpre h3 (fun a w hk => ?_) h
  · rw [← hlen, hl] at key
    exact key
  · have hr : Region.ready .any ops (lst ops.size ((pre.map (·.1)).reverse ++ [])) = alts.map fun l => (l.headD (0, 0)).1 := by simpa using h5
    have hne : alts ≠ [] := by
      rintro rfl
      simp at h0
    obtain ⟨al0, als, rfl⟩ := List.exists_cons_of_ne_nil hne
    have h7 := List.all_eq_true.1 h6
    cases al0 with
    | nil => exact absurd (h7 [] (by simp)) (by simp)
    | cons q0 r0 =>
      simp only [List.headD_cons, List.length_cons] at hlen ⊢
      refine ⟨fun h8 => by rw [hr] at h8; simp at h8, fun i hi => ?_⟩
      rw [hr] at hi
      obtain ⟨l, hlm, rfl⟩ := List.mem_map.1 hi
      have h8 := h7 l hlm
      have h9 := hk l hlm
      match l, h8, h9 with
      | (i, c) :: r, h8, h9 =>
        simp only [Bool.and_eq_true] at h8
        obtain ⟨⟨⟨⟨g1, g2⟩, g3⟩, g4⟩, g5⟩ := h8
        have hmem : ∀ p ∈ (i, c) :: r, p ∈ full := fun p hp => by simpa using List.all_eq_true.1 g2 p hp
        have hrl : r.length = r0.length := by
          have := Nat.eq_of_beq_eq_true g3
          simp only [List.length_append, List.length_cons] at this
          omega
        have next : ∀ a w, WL P ops Q S (Q .normal) r a w → wpW P ops Q S (isWriter full) r0.length ((lst ops.size ((pre.map (·.1)).reverse ++ [])).setIfInBounds i true) a w := by
          intro a w hw
          have := wpW_of_WL (P := P) (Q := Q) (S := S) full h1 hQ hnd r 0 (i :: (pre.map (·.1)).reverse) a w (fun p hp => hmem p (by simp [hp])) g4 (fun a w hk => ⟨by simpa [endOK] using g5, hk⟩) hw
          rw [Nat.add_zero, hrl] at this
          simpa [lst] using this
        have hc2 := Nat.le_of_ble_eq_true g1
        simp only [List.headD_cons]
        have hic : (i, c) ∈ full := hmem _ (by simp)
        obtain ⟨o, ho, h9⟩ := h9
        match c, hc2, h9, hic with
        | 2, _, h9, _ =>
          exact wpOp_mono (fun a' w' h' => ⟨fun _ => h'.1, next a' w' h'.2⟩) h9
        | c + 3, _, h9, hic =>
          exact wpOp_mono (fun a' w' h' => ⟨fun hWf hSw => by
            have : isWriter full i = true := List.any_eq_true.2 ⟨_, hic, by simp [Nat.ble_eq]⟩
            rw [this] at hWf; simp at hWf, next a' w' h'⟩) h9
end

end Go.Fw
