/- Part 1 of what the row MachineThereAndBack needs, with no condition beyond each lemma's own. -/
import Derived.Test.YtlapmbkfmbkdoaaGreatDoorRows
import Derived.WalkKit
import Derived.WalkSpells
import Derived.Orders
import Derived.OrdersHeld
import Derived.Deep.LoopGhost
import Derived.OwnWalk
import Derived.RowKit3
import Derived.Below
import Derived.Laws.BitsAllLaws
import Derived.IntWalk
import Derived.Laws.Rows
import Derived.Laws.MakeOwn
import Derived.Laws.Externs
import Derived.Scope
import Derived.MapKept
import Derived.Laws.BytesArg
import Derived.Laws.Strings
import Derived.SizedLaws
import Derived.ProofKit
import Derived.OpenShut
import Derived.ShutString
import Derived.ChangeOld
import Derived.Deep.Slices
import Derived.Shelf.LaysM
import Derived.Shelf.Strconv.Itoa3
import Derived.WalkSmall
import Derived.Shelf.Strings.Builder1
import Derived.Lib.Builder
import Derived.Lib.AppendStr
import Derived.Lib.SplitLaws
import Derived.Lib.FieldsP
import Derived.Laws.Strings2
import Derived.Laws.Strings3
import Derived.Shelf.Lays
import Derived.Shelf.Strings.Split
import Derived.Shelf.Strings.Cut
import Derived.Shelf.Strings.FieldsFuncAny
import Derived.Shelf.Small.Wraps
import Derived.Handed
import Derived.SevenTiedAt
import Derived.LaidMore
import Derived.MakeChecks
import Derived.Lay
section
namespace Go.Fw
open Go.RowKit
abbrev Env := List (Nat × Value)
def look : Env → Nat → Option Value
  | [], _ => none
  | (k, v) :: l, t => cond (Nat.beq k t) (some v) (look l t)
structure Fr (n : Nat) (l : Env) (a : Act) : Prop where
  size : a.tmps.size = n
  defs : a.defers = []
  get : ∀ t v, look l t = some v → a.tmps.getD t undef = v
def opv (l : Env) : Operand → Option Value
  | .tmp t => look l t
  | .const v => some v
  | .global g => some (.pointer (some ⟨g, 0, none⟩))
  | .func f => some (.func (.func f) #[] #[])
section
variable {P : Program} {ops : Array Oper} {Q : Exit → Act → World → Prop} {a : Act} {w w' : World} {rest : List Oper} {o : Oper} {n : Nat} {l : Env} {d : Nat} {v : Value} {x y z : Operand}
theorem Fr.ev (h : Fr n l a) (hx : opv l x = some v) : a.eval x = v := by
  cases x with
  | tmp t => exact h.get t v hx
  | const c => simpa [opv, Act.eval] using hx
  | global g => simpa [opv, Act.eval] using hx
  | func f => simpa [opv, Act.eval] using hx
theorem Fr.put (h : Fr n l a) (hd : Nat.blt d n = true) (v : Value) : Fr n ((d, v) :: l) (a.put (some d) v) := by
  have hlt : d < a.tmps.size := by rw [h.size]; exact Nat.le_of_ble_eq_true hd
  refine ⟨by simp [Act.put, h.size], h.defs, fun t u hu => ?_⟩
  simp only [look] at hu
  simp only [Act.put]
  by_cases e : d = t
  · subst e
    simp only [Nat.beq_refl, cond_true, Option.some.injEq] at hu
    subst hu
    simp [Array.getD_eq_getD_getElem?, hlt]
  · have : Nat.beq d t = false := by
      cases hb : Nat.beq d t
      · rfl
      · exact absurd (Nat.eq_of_beq_eq_true hb) e
    rw [this] at hu
    have := h.get t u hu
    simp only [Array.getD_eq_getD_getElem?] at this ⊢
    rw [Array.getElem?_setIfInBounds_ne e]
    exact this
def AllLook (l : Env) : Env → Prop
  | [] => True
  | (t, v) :: r => look l t = some v ∧ AllLook l r
theorem AllLook.find : ∀ {l' : Env}, AllLook l l' → ∀ t v, look l' t = some v → look l t = some v
  | [], _, t, v, h => by simp [look] at h
  | (k, u) :: r, ⟨h1, h2⟩, t, v, h => by
    simp only [look] at h
    cases hb : Nat.beq k t
    · rw [hb] at h; exact AllLook.find h2 t v h
    · rw [hb] at h
      have : k = t := Nat.eq_of_beq_eq_true hb
      simp only [cond_true, Option.some.injEq] at h
      rw [← this, ← h]; exact h1
theorem Fr.sub {l' : Env} (h : Fr n l a) (hs : AllLook l l') : Fr n l' a := ⟨h.size, h.defs, fun t v hv => h.get t v (hs.find t v hv)⟩
theorem Fr.start {args : Array Value} {N : Nat} {l : Env} (hn : args.size ≤ N) (hl : AllLook (args.toList.zipIdx.map fun p => (p.2, p.1)) l) :
    Fr N l { tmps := args ++ Array.replicate (N - args.size) undef, defers := [] } := by
  refine ⟨by simp; omega, rfl, fun t v hv => ?_⟩
  have h := hl.find t v hv
  have key : ∀ (xs : List Value) (k t : Nat) (v : Value), look ((xs.zipIdx k).map fun p => (p.2, p.1)) t = some v → k ≤ t ∧ xs[t - k]? = some v := by
    intro xs
    induction xs with
    | nil => intro k t v h; simp [look] at h
    | cons x xs ih =>
      intro k t v h
      simp only [List.zipIdx_cons, List.map_cons, look] at h
      cases hb : Nat.beq k t
      · rw [hb] at h
        obtain ⟨h1, h2⟩ := ih (k + 1) t v h
        refine ⟨by omega, ?_⟩
        have : t - k = (t - (k + 1)) + 1 := by omega
        rw [this]; simpa using h2
      · rw [hb] at h
        have : k = t := Nat.eq_of_beq_eq_true hb
        subst this
        simp at h
        simp [h]
  obtain ⟨_, h2⟩ := key _ 0 t v h
  have h3 : args[t]? = some v := by simpa using h2
  have hlt : t < args.size := by
    rcases Nat.lt_or_ge t args.size with h | h
    · exact h
    · simp [Array.getElem?_eq_none h] at h3
  simp [Array.getD_eq_getD_getElem?, Array.getElem?_append, hlt]
  simpa [Array.getElem?_eq_getElem hlt] using h3
theorem O.val {K : Act → World → Prop} (hF : Fr n l a) (hd : o.dst = some d) (hn : Nat.blt d n = true) (hr : (execOp a.eval o).run P w = .ok (.value v) w')
    (h : ∀ a', Fr n ((d, v) :: l) a' → K a' w') : o.wp P a w K Q := by
  unfold Oper.wp
  rw [hr, Oper.upon_value, hd]
  exact h _ (hF.put hn v)
theorem yields_of (hF : Fr n l a) {j t : Nat} {b : Bool} (hj : (ops[j]?).bind (·.dst) = some t) (ht : look l t = some (.bool b)) : yielded ops a.tmps j = some b := by
  have h := hF.get t _ ht
  have h2 : a.tmps[t]? = some (.bool b) := by
    rw [Array.getD_eq_getD_getElem?] at h
    cases hh : a.tmps[t]? with
    | none => rw [hh] at h; simp [undef] at h
    | some u => rw [hh] at h; simpa using h
  simp [yielded, hj, h2]
end
def PanicOk (Q : Exit → Act → World → Prop) : Prop := ∀ c a d v w, Q (.panic c) (a.put d v) w → Q (.panic c) a w
theorem PanicOk.then {Q : Exit → Act → World → Prop} {K : Act → World → Prop} (h : PanicOk Q) : PanicOk (Exit.then K Q) := fun c a d v w hh => h c a d v w hh
theorem PanicOk.block {Q : Exit → Act → World → Prop} {id : Nat} (h : PanicOk Q) : PanicOk (Exit.inBlock id Q) := fun c a d v w hh => h c a d v w hh
theorem PanicOk.body {P : Program} {fn : Func} {R : Ending → World → Prop} : PanicOk (bodyPost P fn R) := fun c a d v w hh => by
  cases d <;> exact hh
section
variable {P : Program} {ops : Array Oper} {Q : Exit → Act → World → Prop} {S : World → Prop} {W : Nat → Bool}
def wpW (P : Program) (ops : Array Oper) (Q : Exit → Act → World → Prop) (S : World → Prop) (W : Nat → Bool) : Nat → Array Bool → Act → World → Prop
  | 0, listed, a, w => Region.ready .any ops listed = [] ∧ Q .normal a w
  | fuel + 1, listed, a, w =>
    (Region.ready .any ops listed = [] → Q .normal a w) ∧
    ∀ i ∈ Region.ready .any ops listed, wpOp P ops Q i (fun a' w' => (W i = false → S w → S w') ∧ wpW P ops Q S W fuel (listed.setIfInBounds i true) a' w') a w
theorem wpAny_of_wpW : ∀ (fuel : Nat) (listed : Array Bool) (a : Act) (w : World), wpW P ops Q S W fuel listed a w → wpAny P .any ops Q fuel listed a w
  | 0, _, _, _, h => h
  | fuel + 1, _, _, _, h => ⟨h.1, fun i hi => wpOp_mono (fun a' w' h' => wpAny_of_wpW fuel _ a' w' h'.2) (h.2 i hi)⟩
theorem wpW_first {S' : World → Prop} {i : Nat} {oi : Oper} {v : Value} (hi : ops[i]? = some oi) (hsel : Region.noSelect ops = true) (hQ : PanicOk Q)
    (hpres : ∀ j oj, ops[j]? = some oj → j ≠ i → (∀ e ∈ oj.after, Region.binds .any e = true → e.on ≠ i) → ∀ w w', (W j = false → S w → S w') → S' w → S' w') :
    ∀ (fuel : Nat) (listed : Array Bool) (a : Act) (w : World),
      (∀ j oj, ops[j]? = some oj → j ≠ i → listed.getD j true = false → (∀ e ∈ oj.after, Region.binds .any e = true → e.on ≠ i) → oi.apart ops oj = true) →
      i ∈ Region.ready .any ops listed → YieldsIf P ops S' oi v a → S' w →
      wpW P ops Q S W fuel (listed.setIfInBounds i true) (a.put oi.dst v) w → wpW P ops Q S W (fuel + 1) listed a w := by
  intro fuel
  induction fuel with
  | zero =>
    intro listed a w _ hr hy hS H
    refine ⟨fun h => absurd (h ▸ hr) (by simp), fun j hj => ?_⟩
    by_cases hji : j = i
    · subst hji; exact hy.wpOp hi hS ⟨fun _ h => h, H⟩
    · have h2 := ready_mono hj hji
      rw [H.1] at h2
      simp at h2
  | succ fuel ih =>
    intro listed a w hfree hr hy hS H
    refine ⟨fun h => absurd (h ▸ hr) (by simp), fun j hj => ?_⟩
    by_cases hji : j = i
    · subst hji; exact hy.wpOp hi hS ⟨fun _ h => h, H⟩
    · have h1 := H.2 j (ready_mono hj hji)
      obtain ⟨hun, oj, hoj, hdeps⟩ := mem_ready.1 hj
      have hnot : ∀ e ∈ oj.after, Region.binds .any e = true → e.on ≠ i := by
        intro e he hb heq
        have d1 := hdeps e he hb
        have d0 := (mem_ready.1 hr).1
        rw [heq] at d1
        by_cases hlt : i < listed.size
        · simp [hlt] at d0 d1; rw [d0] at d1; exact absurd d1 (by simp)
        · simp [Array.getElem?_eq_none (Nat.le_of_not_lt hlt)] at d1
      have h2 := wpOp_putIf hoj (hfree j oj hoj hji hun hnot) (fun cs b => Region.noSelect_spec hsel i oi cs b hi) (fun cs b => Region.noSelect_spec hsel j oj cs b hoj) (fun c a w => hQ c a oi.dst v w) hy h1
      refine wpOp_mono (fun a' w' h3 => ⟨h3.2.1, ?_⟩) h2
      refine ih (listed.setIfInBounds j true) a' w' ?_ (ready_mono hr (Ne.symm hji)) h3.1 (hpres j oj hoj hji hnot w w' h3.2.1 hS) ?_
      · intro k ok hk hki hkun hkno
        refine hfree k ok hk hki ?_ hkno
        by_cases hjk : j = k
        · subst hjk; exact hun
        · rw [getD_set_ne true hjk] at hkun; exact hkun
      · rw [Array.setIfInBounds_comm _ _ hji]
        exact h3.2.2
def lst (n : Nat) : List Nat → Array Bool
  | [] => Array.replicate n false
  | i :: r => (lst n r).setIfInBounds i true
def waitsFor (ops : Array Oper) (j i : Nat) : Bool := match ops[j]? with
  | none => false
  | some oj => oj.after.any fun e => Region.binds .any e && e.on == i
def linOK (ops : Array Oper) (full : List (Nat × Nat)) : List Nat → List (Nat × Nat) → Bool
  | _, [] => true
  | done, (i, c) :: r =>
    (match c with
      | 0 => Region.free .any ops (lst ops.size done) i && (Region.ready .any ops (lst ops.size done)).contains i
      | 1 => Region.free .any ops (lst ops.size done) i && (Region.ready .any ops (lst ops.size done)).contains i && full.all fun p => Nat.ble p.2 2 || waitsFor ops p.1 i
      | _ => Region.ready .any ops (lst ops.size done) == [i]) && linOK ops full (i :: done) r
def isWriter (full : List (Nat × Nat)) (j : Nat) : Bool := full.any fun p => p.1 == j && Nat.ble 3 p.2
def WL (P : Program) (ops : Array Oper) (Q : Exit → Act → World → Prop) (S : World → Prop) (K : Act → World → Prop) : List (Nat × Nat) → Act → World → Prop
  | [], a, w => K a w
  | (i, c) :: r, a, w => ∃ o, ops[i]? = some o ∧
    match c with
      | 0 => ∃ v, YieldsIf P ops (fun _ => True) o v a ∧ WL P ops Q S K r (a.put o.dst v) w
      | 1 => ∃ v, YieldsIf P ops S o v a ∧ S w ∧ WL P ops Q S K r (a.put o.dst v) w
      | 2 => wpOp P ops Q i (fun a' w' => (S w → S w') ∧ WL P ops Q S K r a' w') a w
      | _ => wpOp P ops Q i (fun a' w' => WL P ops Q S K r a' w') a w
theorem not_waits {j i : Nat} {oj : Oper} (hj : ops[j]? = some oj) (h : ∀ e ∈ oj.after, Region.binds .any e = true → e.on ≠ i) : waitsFor ops j i = false := by
  unfold waitsFor
  rw [hj]
  cases hb : oj.after.any fun e => Region.binds .any e && e.on == i
  · exact hb
  · obtain ⟨e, he, hh⟩ := Array.any_eq_true'.1 hb
    simp only [Bool.and_eq_true, beq_iff_eq] at hh
    exact absurd hh.2 (h e he hh.1)
theorem wpW_of_WL {K : Act → World → Prop} (full : List (Nat × Nat)) (hsel : Region.noSelect ops = true) (hQ : PanicOk Q) (hnd : full.Pairwise (fun p q => p.1 ≠ q.1)) :
    ∀ (todo : List (Nat × Nat)) (m : Nat) (done : List Nat) (a : Act) (w : World), (∀ p ∈ todo, p ∈ full) → linOK ops full done todo = true →
      (∀ a w, K a w → wpW P ops Q S (isWriter full) m (lst ops.size ((todo.map (·.1)).reverse ++ done)) a w) → WL P ops Q S K todo a w →
      wpW P ops Q S (isWriter full) (todo.length + m) (lst ops.size done) a w := by
  have huni : ∀ (i c c' : Nat), (i, c) ∈ full → (i, c') ∈ full → c = c' := by
    intro i c c' h1 h2
    clear hsel hQ
    induction full with
    | nil => simp at h1
    | cons p r ih =>
      rw [List.pairwise_cons] at hnd
      rcases List.mem_cons.1 h1 with e1 | e1 <;> rcases List.mem_cons.1 h2 with e2 | e2
      · rw [← e1] at e2; exact (Prod.mk.injEq .. ▸ e2).2.symm
      · exact absurd (by rw [← e1]) (hnd.1 _ e2)
      · exact absurd (by rw [← e2]) (hnd.1 _ e1)
      · exact ih hnd.2 e1 e2
  intro todo
  induction todo with
  | nil =>
    intro m done a w _ _ hK h
    simpa using hK a w h
  | cons p r ih =>
    intro m done a w hmem hl hK h
    obtain ⟨i, c⟩ := p
    rw [show ((i, c) :: r).length + m = (r.length + m) + 1 from by simp only [List.length_cons]; omega]
    have hK' : ∀ a w, K a w → wpW P ops Q S (isWriter full) m (lst ops.size ((r.map (·.1)).reverse ++ (i :: done))) a w := by simpa using hK
    clear hK
    have hmem' : ∀ p ∈ r, p ∈ full := fun p hp => hmem p (List.mem_cons_of_mem _ hp)
    have hic : (i, c) ∈ full := hmem _ (List.mem_cons_self)
    simp only [linOK, Bool.and_eq_true] at hl
    obtain ⟨hl1, hl2⟩ := hl
    obtain ⟨o, hi, h⟩ := h
    match c, hl1, h, hic with
    | 0, hl1, h, _ =>
      simp only [Bool.and_eq_true] at hl1
      obtain ⟨v, hy, hw⟩ := h
      refine wpW_first (S' := fun _ => True) hi hsel hQ (fun _ _ _ _ _ _ _ _ _ => trivial) _ _ a w (Region.free_spec hi hl1.1) (by simpa using hl1.2) hy trivial ?_
      exact ih m (i :: done) _ w hmem' hl2 hK' hw
    | 1, hl1, h, _ =>
      simp only [Bool.and_eq_true] at hl1
      obtain ⟨v, hy, hS, hw⟩ := h
      refine wpW_first (S' := S) hi hsel hQ ?_ _ _ a w (Region.free_spec hi hl1.1.1) (by simpa using hl1.1.2) hy hS ?_
      · intro j oj hj hji hno w1 w2 hk hS1
        refine hk ?_ hS1
        cases hwr : isWriter full j
        · rfl
        · obtain ⟨q, hq, hq2⟩ := List.any_eq_true.1 hwr
          simp only [Bool.and_eq_true, beq_iff_eq] at hq2
          have h3 := List.all_eq_true.1 hl1.2 q hq
          have h4 : Nat.ble q.2 2 = false := by
            have := Nat.le_of_ble_eq_true hq2.2
            cases hb : Nat.ble q.2 2
            · rfl
            · have := Nat.le_of_ble_eq_true hb; omega
          simp only [h4, Bool.false_or] at h3
          rw [hq2.1, not_waits hj hno] at h3
          exact absurd h3 (by simp)
      · exact ih m (i :: done) _ w hmem' hl2 hK' hw
    | 2, hl1, h, hic =>
      have hr : Region.ready .any ops (lst ops.size done) = [i] := by simpa using hl1
      refine ⟨fun h0 => by rw [hr] at h0; simp at h0, fun j hj => ?_⟩
      rw [hr] at hj
      have : j = i := by simpa using hj
      subst this
      exact wpOp_mono (fun a' w' h' => ⟨fun _ => h'.1, ih m (j :: done) a' w' hmem' hl2 hK' h'.2⟩) h
    | c + 3, hl1, h, hic =>
      have hr : Region.ready .any ops (lst ops.size done) = [i] := by simpa using hl1
      refine ⟨fun h0 => by rw [hr] at h0; simp at h0, fun j hj => ?_⟩
      rw [hr] at hj
      have : j = i := by simpa using hj
      subst this
      exact wpOp_mono (fun a' w' h' => ⟨fun hWf hSw => by
        have : isWriter full j = true := List.any_eq_true.2 ⟨_, hic, by simp [Nat.ble_eq]⟩
        rw [this] at hWf; simp at hWf, ih m (j :: done) a' w' hmem' hl2 hK' h'⟩) h
def allDiff : List Nat → Bool
  | [] => true
  | i :: r => r.all (fun j => !Nat.beq i j) && allDiff r
theorem allDiff_spec : ∀ {full : List (Nat × Nat)}, allDiff (full.map (·.1)) = true → full.Pairwise (fun p q => p.1 ≠ q.1)
  | [], _ => .nil
  | p :: r, h => by
    simp only [List.map_cons, allDiff, Bool.and_eq_true] at h
    refine .cons (fun q hq e => ?_) (allDiff_spec h.2)
    have := List.all_eq_true.1 h.1 q.1 (List.mem_map_of_mem hq)
    rw [e] at this
    simp at this
def endOK (ops : Array Oper) (l : List (Nat × Nat)) : Bool := (Region.ready .any ops (lst ops.size (l.map (·.1)).reverse)).isEmpty
def drawOK (ops : Array Oper) (full : List (Nat × Nat)) : Bool :=
  Region.noSelect ops && allDiff (full.map (·.1)) && Nat.beq full.length ops.size && (linOK ops full [] full && endOK ops full)
theorem wp_draw {id : Nat} {a : Act} {w : World} (S : World → Prop) (full : List (Nat × Nat)) (hm : P.follows .mixedOrders = true) (hc : drawOK ops full = true) (hQ : PanicOk Q)
    (h : WL P ops Q S (Q .normal) full a w.drew) : (Code.region id ops true).wp P Q a w := by
  simp only [drawOK, Bool.and_eq_true] at hc
  obtain ⟨⟨⟨h1, h2⟩, h3⟩, h4, h5⟩ := hc
  refine wp_region_any hm (wpAny_of_wpW (S := S) (W := isWriter full) _ _ _ _ ?_)
  have := wpW_of_WL (P := P) (Q := Q) (S := S) full h1 hQ (allDiff_spec h2) full 0 [] a w.drew (fun _ h => h) h4 (fun a w hk => ⟨by simpa [endOK] using h5, hk⟩) h
  rw [Nat.add_zero, Nat.eq_of_beq_eq_true h3] at this
  exact this
def altsOK (ops : Array Oper) (full pre : List (Nat × Nat)) (alts : List (List (Nat × Nat))) : Bool :=
  (Region.ready .any ops (lst ops.size (pre.map (·.1)).reverse) == alts.map fun l => (l.headD (0, 0)).1) &&
  alts.all fun l => match l with
    | [] => false
    | (i, c) :: r => Nat.ble 2 c && l.all (fun p => full.contains p) && Nat.beq (pre ++ l).length ops.size && linOK ops full (i :: (pre.map (·.1)).reverse) r && endOK ops (pre ++ l)
def drawOK2 (ops : Array Oper) (pre : List (Nat × Nat)) (alts : List (List (Nat × Nat))) : Bool :=
  !alts.isEmpty && Region.noSelect ops && allDiff ((pre ++ alts.headD []).map (·.1)) && linOK ops (pre ++ alts.headD []) [] pre && Nat.beq (pre ++ alts.headD []).length ops.size && altsOK ops (pre ++ alts.headD []) pre alts
theorem wp_draw2 {id : Nat} {a : Act} {w : World} (S : World → Prop) (pre : List (Nat × Nat)) (alts : List (List (Nat × Nat))) (hm : P.follows .mixedOrders = true) (hc : drawOK2 ops pre alts = true) (hQ : PanicOk Q)
    (h : WL P ops Q S (fun a w => ∀ l ∈ alts, WL P ops Q S (Q .normal) l a w) pre a w.drew) : (Code.region id ops true).wp P Q a w := by
  simp only [drawOK2, altsOK, Bool.and_eq_true] at hc
  obtain ⟨⟨⟨⟨⟨h0, h1⟩, h2⟩, h3⟩, h4⟩, h5, h6⟩ := hc
  generalize hfull : pre ++ alts.headD [] = full at *
  refine wp_region_any hm (wpAny_of_wpW (S := S) (W := isWriter full) _ _ _ _ ?_)
  have hl := Nat.eq_of_beq_eq_true h4
  have hnd := allDiff_spec h2
  have hpre : ∀ p ∈ pre, p ∈ full := fun p hp => by rw [← hfull]; simp [hp]
  have hlen : full.length = pre.length + (alts.headD []).length := by rw [← hfull]; simp
  have key := wpW_of_WL (P := P) (Q := Q) (S := S) full h1 hQ hnd pre (alts.headD []).length [] a w.drew hpre h3 (fun a w hk => ?_) h
  · rw [← hlen, hl] at key
    exact key
  · have hr : Region.ready .any ops (lst ops.size ((pre.map (·.1)).reverse ++ [])) = alts.map fun l => (l.headD (0, 0)).1 := by simpa using h5
    have hne : alts ≠ [] := by
      rintro rfl
      simp at h0
    obtain ⟨al0, als, rfl⟩ := List.exists_cons_of_ne_nil hne
    have h7 := List.all_eq_true.1 h6
    cases al0 with
    | nil => exact absurd (h7 [] (by simp)) (by simp)
    | cons q0 r0 =>
      simp only [List.headD_cons, List.length_cons] at hlen ⊢
      refine ⟨fun h8 => by rw [hr] at h8; simp at h8, fun i hi => ?_⟩
      rw [hr] at hi
      obtain ⟨l, hlm, rfl⟩ := List.mem_map.1 hi
      have h8 := h7 l hlm
      have h9 := hk l hlm
      match l, h8, h9 with
      | (i, c) :: r, h8, h9 =>
        simp only [Bool.and_eq_true] at h8
        obtain ⟨⟨⟨⟨g1, g2⟩, g3⟩, g4⟩, g5⟩ := h8
        have hmem : ∀ p ∈ (i, c) :: r, p ∈ full := fun p hp => by simpa using List.all_eq_true.1 g2 p hp
        have hrl : r.length = r0.length := by
          have := Nat.eq_of_beq_eq_true g3
          simp only [List.length_append, List.length_cons] at this
          omega
        have next : ∀ a w, WL P ops Q S (Q .normal) r a w → wpW P ops Q S (isWriter full) r0.length ((lst ops.size ((pre.map (·.1)).reverse ++ [])).setIfInBounds i true) a w := by
          intro a w hw
          have := wpW_of_WL (P := P) (Q := Q) (S := S) full h1 hQ hnd r 0 (i :: (pre.map (·.1)).reverse) a w (fun p hp => hmem p (by simp [hp])) g4 (fun a w hk => ⟨by simpa [endOK] using g5, hk⟩) hw
          rw [Nat.add_zero, hrl] at this
          simpa [lst] using this
        have hc2 := Nat.le_of_ble_eq_true g1
        simp only [List.headD_cons]
        have hic : (i, c) ∈ full := hmem _ (by simp)
        obtain ⟨o, ho, h9⟩ := h9
        match c, hc2, h9, hic with
        | 2, _, h9, _ =>
          exact wpOp_mono (fun a' w' h' => ⟨fun _ => h'.1, next a' w' h'.2⟩) h9
        | c + 3, _, h9, hic =>
          exact wpOp_mono (fun a' w' h' => ⟨fun hWf hSw => by
            have : isWriter full i = true := List.any_eq_true.2 ⟨_, hic, by simp [Nat.ble_eq]⟩
            rw [this] at hWf; simp at hWf, next a' w' h'⟩) h9
end
end Go.Fw
end
section
namespace Go.Fw
open Go.RowKit
section
variable {P : Program} {ops : Array Oper} {Q : Exit → Act → World → Prop} {S : World → Prop} {a : Act} {w w' : World} {rest : List Oper} {r : List (Nat × Nat)} {o : Oper} {n i : Nat} {l : Env} {d : Nat} {v : Value} {K : Act → World → Prop}
theorem wn (h : o.guard = none) : Region.wanted o (yielded ops a.tmps) = true := by simp [Region.wanted, h]
theorem wy (hF : Fr n l a) {j t : Nat} {b : Bool} (hg : o.guard = some (j, b)) (hj : (ops[j]?).bind (·.dst) = some t) (ht : look l t = some (.bool b)) :
    Region.wanted o (yielded ops a.tmps) = true := by
  simp [Region.wanted, hg, yields_of hF hj ht]
theorem ws (hF : Fr n l a) {j t : Nat} {b c : Bool} (hg : o.guard = some (j, b)) (hj : (ops[j]?).bind (·.dst) = some t) (ht : look l t = some (.bool c)) (hne : (c == b) = false) :
    Region.wanted o (yielded ops a.tmps) = false := by
  simp only [Region.wanted, hg, yields_of hF hj ht]
  cases b <;> cases c <;> simp_all
theorem wu (hF : Fr n l a) {j t : Nat} {b : Bool} (hg : o.guard = some (j, b)) (hj : (ops[j]?).bind (·.dst) = some t) (ht : look l t = some undef) :
    Region.wanted o (yielded ops a.tmps) = false := by
  have h := hF.get t _ ht
  have h2 : yielded ops a.tmps j = none := by
    rw [Array.getD_eq_getD_getElem?] at h
    cases hh : a.tmps[t]? with
    | none => simp [yielded, hj, hh]
    | some u =>
      rw [hh] at h
      simp only [Option.getD_some] at h
      subst h
      simp [yielded, hj, hh, undef]
  simp [Region.wanted, hg, h2]
theorem so (hw : Region.wanted o (yielded ops a.tmps) = true) (h : o.wp P a w (wpList P ops Q rest) Q) : wpList P ops Q (o :: rest) a w := by
  unfold wpList; rw [if_pos hw]; exact .inl h
theorem sv' (hF : Fr n l a) (hw : Region.wanted o (yielded ops a.tmps) = true) (hd : o.dst = some d) (hn : Nat.blt d n = true) (hr : (execOp a.eval o).run P w = .ok (.value v) w)
    (h : ∀ a', Fr n ((d, v) :: l) a' → wpList P ops Q rest a' w) : wpList P ops Q (o :: rest) a w := so hw (O.val hF hd hn hr h)
theorem sk (hF : Fr n l a) (hw : Region.wanted o (yielded ops a.tmps) = false) (hd : o.dst = some d) (hn : Nat.blt d n = true)
    (h : ∀ a', Fr n ((d, undef) :: l) a' → wpList P ops Q rest a' w) : wpList P ops Q (o :: rest) a w := by
  unfold wpList; rw [if_neg (by simp [hw]), hd]; exact h _ (hF.put hn undef)
theorem s0 (h : Q .normal a w) : wpList P ops Q [] a w := h
theorem dq {K : Act → World → Prop} (hF : Fr n l a) (hi : ops[i]? = some o) (hw : Region.wanted o (yielded ops a.tmps) = true) (hd : o.dst = some d) (hn : Nat.blt d n = true)
    (hr : ∀ w, (execOp a.eval o).run P w = .ok (.value v) w) (h : ∀ a', Fr n ((d, v) :: l) a' → WL P ops Q S K r a' w) : WL P ops Q S K ((i, 0) :: r) a w :=
  ⟨o, hi, v, .inl ⟨hw, fun w _ => hr w⟩, by rw [hd]; exact h _ (hF.put hn v)⟩
theorem dr {K : Act → World → Prop} (hF : Fr n l a) (hi : ops[i]? = some o) (hw : Region.wanted o (yielded ops a.tmps) = true) (hd : o.dst = some d) (hn : Nat.blt d n = true) (hS : S w)
    (hr : ∀ w, S w → (execOp a.eval o).run P w = .ok (.value v) w) (h : ∀ a', Fr n ((d, v) :: l) a' → WL P ops Q S K r a' w) : WL P ops Q S K ((i, 1) :: r) a w :=
  ⟨o, hi, v, .inl ⟨hw, hr⟩, hS, by rw [hd]; exact h _ (hF.put hn v)⟩
theorem dl {K : Act → World → Prop} (hi : ops[i]? = some o) (hw : Region.wanted o (yielded ops a.tmps) = true) (h : o.wp P a w (fun a' w' => (S w → S w') ∧ WL P ops Q S K r a' w') Q) :
    WL P ops Q S K ((i, 2) :: r) a w := ⟨o, hi, by unfold wpOp; simp only [hi]; rw [if_pos hw]; exact .inl h⟩
theorem dw {K : Act → World → Prop} (hi : ops[i]? = some o) (hw : Region.wanted o (yielded ops a.tmps) = true) (h : o.wp P a w (WL P ops Q S K r) Q) :
    WL P ops Q S K ((i, 3) :: r) a w := ⟨o, hi, by unfold wpOp; simp only [hi]; rw [if_pos hw]; exact .inl h⟩
theorem dk {K : Act → World → Prop} (hF : Fr n l a) (hi : ops[i]? = some o) (hw : Region.wanted o (yielded ops a.tmps) = false) (hd : o.dst = some d) (hn : Nat.blt d n = true)
    (h : ∀ a', Fr n ((d, undef) :: l) a' → WL P ops Q S K r a' w) : WL P ops Q S K ((i, 0) :: r) a w :=
  ⟨o, hi, undef, .inr ⟨hw, rfl⟩, by rw [hd]; exact h _ (hF.put hn undef)⟩
theorem dk1 {K : Act → World → Prop} (hF : Fr n l a) (hi : ops[i]? = some o) (hw : Region.wanted o (yielded ops a.tmps) = false) (hd : o.dst = some d) (hn : Nat.blt d n = true) (hS : S w)
    (h : ∀ a', Fr n ((d, undef) :: l) a' → WL P ops Q S K r a' w) : WL P ops Q S K ((i, 1) :: r) a w :=
  ⟨o, hi, undef, .inr ⟨hw, rfl⟩, hS, by rw [hd]; exact h _ (hF.put hn undef)⟩
theorem dk2 {K : Act → World → Prop} (hF : Fr n l a) (hi : ops[i]? = some o) (hw : Region.wanted o (yielded ops a.tmps) = false) (hd : o.dst = some d) (hn : Nat.blt d n = true)
    (h : ∀ a', Fr n ((d, undef) :: l) a' → WL P ops Q S K r a' w) : WL P ops Q S K ((i, 2) :: r) a w :=
  ⟨o, hi, by unfold wpOp; simp only [hi]; rw [if_neg (by simp [hw]), hd]; exact ⟨fun h => h, h _ (hF.put hn undef)⟩⟩
theorem d0 {K : Act → World → Prop} (h : K a w) : WL P ops Q S K [] a w := h
theorem then_n {K : Act → World → Prop} (h : K a w) : Exit.then K Q .normal a w := h
theorem then_x {K : Act → World → Prop} {id : Nat} (h : Q (.exit id) a w) : Exit.then K Q (.exit id) a w := h
theorem then_r {K : Act → World → Prop} (h : Q .ret a w) : Exit.then K Q .ret a w := h
theorem blk_n {id : Nat} (h : Q .normal a w) : Exit.inBlock id Q .normal a w := h
theorem blk_hit {id : Nat} (h : Q .normal a w) : Exit.inBlock id Q (.exit id) a w := by simp only [Exit.inBlock, if_true]; exact h
theorem blk_miss {id id' : Nat} (hne : Nat.beq id' id = false) (h : Q (.exit id') a w) : Exit.inBlock id Q (.exit id') a w := by
  have : id' ≠ id := fun e => by subst e; simp at hne
  simp only [Exit.inBlock, if_neg this]; exact h
theorem blk_r {id : Nat} (h : Q .ret a w) : Exit.inBlock id Q .ret a w := h
theorem cT (hF : Fr n l a) {c : Operand} {x y : Code} (hc : opv l c = some (.bool true)) (h : x.wp P Q a w) : (Code.cond c x y).wp P Q a w := wp_cond_true (hF.ev hc) h
theorem cF (hF : Fr n l a) {c : Operand} {x y : Code} (hc : opv l c = some (.bool false)) (h : y.wp P Q a w) : (Code.cond c x y).wp P Q a w := wp_cond_false (hF.ev hc) h
theorem cS (hF : Fr n l a) {c : Operand} {x y : Code} {b : Bool} (hc : opv l c = some (.bool b)) (ht : b = true → x.wp P Q a w) (hf : b = false → y.wp P Q a w) : (Code.cond c x y).wp P Q a w :=
  wp_cond_split (hF.ev hc) ht hf
theorem cD (hF : Fr n l a) {c : Operand} {x y : Code} {p : Prop} [Decidable p] (hc : opv l c = some (.bool (decide p))) (ht : p → x.wp P Q a w) (hf : ¬ p → y.wp P Q a w) : (Code.cond c x y).wp P Q a w :=
  wp_cond_split (hF.ev hc) (fun h => ht (of_decide_eq_true h)) (fun h => hf (of_decide_eq_false h))
theorem wp_loop_I {γ : Type} {c : Code} (I : γ → Act → World → Prop) (m : γ → Nat) (g : γ) (h0 : I g a w)
    (round : ∀ (K : Act → World → Prop), ∀ g a w, I g a w → (∀ g' a' w', m g' < m g → I g' a' w' → K a' w') → c.wp P (Exit.then K Q) a w) : (Code.loop c).wp P Q a w := by
  refine wp_loop_ghost (fun k a w => ∃ g, m g = k ∧ I g a w) (m g) ⟨g, rfl, h0⟩ ?_
  rintro k a w ⟨g, rfl, hI⟩
  exact round _ g a w hI fun g' a' w' hlt hI' => ⟨m g', hlt, g', rfl, hI'⟩
variable {ρ : Operand → Value} {dst : Option Tmp} {ty : TypeId} {pos : String} {af : Array Edge} {g : Option (Nat × Bool)} {x y z : Operand} {T T' : TypeId}
theorem R.move (h : ρ x = v) : (execOp ρ ⟨dst, .move x, ty, pos, af, g⟩).run P w = .ok (.value v) w := by rw [← h]; rfl
theorem R.assign (h : ρ x = v) : (execOp ρ ⟨dst, .assign x, ty, pos, af, g⟩).run P w = .ok (.value v) w := by rw [← h]; rfl
theorem R.pickT {u : Value} (hc : ρ x = .bool true) (h : ρ y = u) : (execOp ρ ⟨dst, .pick x y z, ty, pos, af, g⟩).run P w = .ok (.value u) w := by
  simp [execOp, hc, asBool, h, go_sem]
theorem R.pickF {u : Value} (hc : ρ x = .bool false) (h : ρ z = u) : (execOp ρ ⟨dst, .pick x y z, ty, pos, af, g⟩).run P w = .ok (.value u) w := by
  simp [execOp, hc, asBool, h, go_sem]
def nth : List Value → Nat → Option Value
  | [], _ => none
  | v :: _, 0 => some v
  | _ :: r, n + 1 => nth r n
theorem nth_eq (l : List Value) (n : Nat) : l[n]? = nth l n := by
  induction l generalizing n with
  | nil => simp [nth]
  | cons v r ih => cases n <;> simp [nth, ih]
theorem R.extract {vs : List Value} {ix : Nat} (h : ρ x = .tuple vs.toArray) (hv : nth vs ix = some v) : (execOp ρ ⟨dst, .extract x ix, ty, pos, af, g⟩).run P w = .ok (.value v) w := by
  rw [← nth_eq] at hv
  simp [execOp, h, Instr.extract, hv, go_sem]
theorem R.not {b : Bool} (h : ρ x = .bool b) : (execOp ρ ⟨dst, .unOp .not T x, ty, pos, af, g⟩).run P w = .ok (.value (.bool (!b))) w := by
  simp [execOp, h, Op.unary, go_sem]
theorem R.bin {op : BinOp} {k : IntKind} {p q : Int} {v : Value} (hx : ρ x = .int k p) (hy : ρ y = .int k q) (hop : (match op with | .shl | .shr => false | _ => true) = true)
    (h : ((match op with
      | .add | .sub | .mul => Op.intArith op k p q
      | .quo | .rem => Op.intDiv op k p q
      | .and | .or | .xor | .andNot => Op.intBits op k p q
      | _ => Op.intCmp op p q : Sem Value).run P w) = .ok v w) :
    (execOp ρ ⟨dst, .binOp op T x y T', ty, pos, af, g⟩).run P w = .ok (.value v) w := by
  simp only [execOp, hx, hy, Sem.run_bind]
  cases op <;> simp_all [eqGuard, binOp, go_sem]
section
variable {k : IntKind} {p q : Int}
theorem R.add (hx : ρ x = .int k p) (hy : ρ y = .int k q) : (execOp ρ ⟨dst, .binOp .add T x y T', ty, pos, af, g⟩).run P w = .ok (.value (.int k (k.wrap (p + q)))) w := R.bin hx hy rfl rfl
theorem R.sub (hx : ρ x = .int k p) (hy : ρ y = .int k q) : (execOp ρ ⟨dst, .binOp .sub T x y T', ty, pos, af, g⟩).run P w = .ok (.value (.int k (k.wrap (p - q)))) w := R.bin hx hy rfl rfl
theorem R.mul (hx : ρ x = .int k p) (hy : ρ y = .int k q) : (execOp ρ ⟨dst, .binOp .mul T x y T', ty, pos, af, g⟩).run P w = .ok (.value (.int k (k.wrap (p * q)))) w := R.bin hx hy rfl rfl
theorem R.quo (hx : ρ x = .int k p) (hy : ρ y = .int k q) (hq : q ≠ 0) : (execOp ρ ⟨dst, .binOp .quo T x y T', ty, pos, af, g⟩).run P w = .ok (.value (.int k (k.wrap (p.tdiv q)))) w :=
  R.bin hx hy rfl (by simp [Op.intDiv, hq])
theorem R.rem (hx : ρ x = .int k p) (hy : ρ y = .int k q) (hq : q ≠ 0) : (execOp ρ ⟨dst, .binOp .rem T x y T', ty, pos, af, g⟩).run P w = .ok (.value (.int k (p.tmod q))) w :=
  R.bin hx hy rfl (by simp [Op.intDiv, hq])
theorem R.and (hx : ρ x = .int k p) (hy : ρ y = .int k q) : (execOp ρ ⟨dst, .binOp .and T x y T', ty, pos, af, g⟩).run P w = .ok (.value (.int k (bits .and k p q))) w := R.bin hx hy rfl rfl
theorem R.or (hx : ρ x = .int k p) (hy : ρ y = .int k q) : (execOp ρ ⟨dst, .binOp .or T x y T', ty, pos, af, g⟩).run P w = .ok (.value (.int k (bits .or k p q))) w := R.bin hx hy rfl rfl
theorem R.eql (hx : ρ x = .int k p) (hy : ρ y = .int k q) : (execOp ρ ⟨dst, .binOp .eql T x y T', ty, pos, af, g⟩).run P w = .ok (.value (.bool (decide (p = q)))) w := R.bin hx hy rfl rfl
theorem R.neq (hx : ρ x = .int k p) (hy : ρ y = .int k q) : (execOp ρ ⟨dst, .binOp .neq T x y T', ty, pos, af, g⟩).run P w = .ok (.value (.bool (decide (¬ p = q)))) w :=
  R.bin hx hy rfl (by simp only [Op.intCmp, Sem.run_pure, bne, decide_not]; rfl)
theorem R.lss (hx : ρ x = .int k p) (hy : ρ y = .int k q) : (execOp ρ ⟨dst, .binOp .lss T x y T', ty, pos, af, g⟩).run P w = .ok (.value (.bool (decide (p < q)))) w := R.bin hx hy rfl rfl
theorem R.leq (hx : ρ x = .int k p) (hy : ρ y = .int k q) : (execOp ρ ⟨dst, .binOp .leq T x y T', ty, pos, af, g⟩).run P w = .ok (.value (.bool (decide (p ≤ q)))) w := R.bin hx hy rfl rfl
theorem R.gtr (hx : ρ x = .int k p) (hy : ρ y = .int k q) : (execOp ρ ⟨dst, .binOp .gtr T x y T', ty, pos, af, g⟩).run P w = .ok (.value (.bool (decide (p > q)))) w := R.bin hx hy rfl rfl
theorem R.geq (hx : ρ x = .int k p) (hy : ρ y = .int k q) : (execOp ρ ⟨dst, .binOp .geq T x y T', ty, pos, af, g⟩).run P w = .ok (.value (.bool (decide (p ≥ q)))) w := R.bin hx hy rfl rfl
theorem R.as {v u : Value} (h : (execOp ρ o).run P w = .ok (.value v) w) (e : v = u) : (execOp ρ o).run P w = .ok (.value u) w := e ▸ h
theorem R.addI (hx : ρ x = .int .i64 p) (hy : ρ y = .int .i64 q) (h : -9223372036854775808 ≤ p + q ∧ p + q ≤ 9223372036854775807) :
    (execOp ρ ⟨dst, .binOp .add T x y T', ty, pos, af, g⟩).run P w = .ok (.value (.int .i64 (p + q))) w := R.as (R.add hx hy) (by rw [IntWalk.i64_in _ h])
theorem R.subI (hx : ρ x = .int .i64 p) (hy : ρ y = .int .i64 q) (h : -9223372036854775808 ≤ p - q ∧ p - q ≤ 9223372036854775807) :
    (execOp ρ ⟨dst, .binOp .sub T x y T', ty, pos, af, g⟩).run P w = .ok (.value (.int .i64 (p - q))) w := R.as (R.sub hx hy) (by rw [IntWalk.i64_in _ h])
theorem R.mulI (hx : ρ x = .int .i64 p) (hy : ρ y = .int .i64 q) (h : -9223372036854775808 ≤ p * q ∧ p * q ≤ 9223372036854775807) :
    (execOp ρ ⟨dst, .binOp .mul T x y T', ty, pos, af, g⟩).run P w = .ok (.value (.int .i64 (p * q))) w := R.as (R.mul hx hy) (by rw [IntWalk.i64_in _ h])
theorem R.quoI (hx : ρ x = .int .i64 p) (hy : ρ y = .int .i64 q) (h : 0 ≤ p ∧ p ≤ 9223372036854775807 ∧ 0 < q) :
    (execOp ρ ⟨dst, .binOp .quo T x y T', ty, pos, af, g⟩).run P w = .ok (.value (.int .i64 (p / q))) w := R.as (R.quo hx hy (by omega)) (by
      rw [Int.tdiv_eq_ediv_of_nonneg h.1, IntWalk.i64_in]
      have h1 : p / q ≤ p := Int.ediv_le_self _ h.1
      have h2 : 0 ≤ p / q := Int.ediv_nonneg h.1 (by omega)
      omega)
end
section
variable {p q : Nat}
theorem R.addU (hx : ρ x = .int .u64 p) (hy : ρ y = .int .u64 q) : (execOp ρ ⟨dst, .binOp .add T x y T', ty, pos, af, g⟩).run P w = .ok (.value (.int .u64 (((p + q) % 18446744073709551616 : Nat) : Int))) w :=
  R.as (R.add hx hy) (by rw [IntKind.wrap_u64]; congr 1)
theorem R.subU (hx : ρ x = .int .u64 p) (hy : ρ y = .int .u64 q) (hq : q < 18446744073709551616) :
    (execOp ρ ⟨dst, .binOp .sub T x y T', ty, pos, af, g⟩).run P w = .ok (.value (.int .u64 (((p + 18446744073709551616 - q) % 18446744073709551616 : Nat) : Int))) w :=
  R.as (R.sub hx hy) (by rw [IntKind.wrap_u64]; congr 1; omega)
theorem R.mulU (hx : ρ x = .int .u64 p) (hy : ρ y = .int .u64 q) : (execOp ρ ⟨dst, .binOp .mul T x y T', ty, pos, af, g⟩).run P w = .ok (.value (.int .u64 (((p * q) % 18446744073709551616 : Nat) : Int))) w :=
  R.as (R.mul hx hy) (by rw [IntKind.wrap_u64]; congr 1)
theorem R.quoU (hx : ρ x = .int .u64 p) (hy : ρ y = .int .u64 q) (hp : p < 18446744073709551616) (hq : 0 < q) :
    (execOp ρ ⟨dst, .binOp .quo T x y T', ty, pos, af, g⟩).run P w = .ok (.value (.int .u64 ((p / q : Nat) : Int))) w := R.as (R.quo hx hy (by omega)) (by
      rw [Int.tdiv_eq_ediv_of_nonneg (by omega), IntKind.wrap_u64]
      have h1 : p / q ≤ p := Nat.div_le_self _ _
      have h3 : ((p / q : Nat) : Int) = (p : Int) / (q : Int) := by simp
      rw [← h3]
      generalize p / q = z at *
      congr 1
      omega)
theorem R.remU (hx : ρ x = .int .u64 p) (hy : ρ y = .int .u64 q) (hq : 0 < q) :
    (execOp ρ ⟨dst, .binOp .rem T x y T', ty, pos, af, g⟩).run P w = .ok (.value (.int .u64 ((p % q : Nat) : Int))) w := R.as (R.rem hx hy (by omega)) (by
      rw [Int.tmod_eq_emod_of_nonneg (by omega)]; congr 1)
theorem R.andU (hx : ρ x = .int .u64 p) (hy : ρ y = .int .u64 q) (hp : p < 18446744073709551616) (hq : q < 18446744073709551616) :
    (execOp ρ ⟨dst, .binOp .and T x y T', ty, pos, af, g⟩).run P w = .ok (.value (.int .u64 ((p &&& q : Nat) : Int))) w := R.as (R.and hx hy) (by rw [u64_and_nat p q hp hq])
theorem R.orU (hx : ρ x = .int .u64 p) (hy : ρ y = .int .u64 q) (hp : p < 18446744073709551616) (hq : q < 18446744073709551616) :
    (execOp ρ ⟨dst, .binOp .or T x y T', ty, pos, af, g⟩).run P w = .ok (.value (.int .u64 ((p ||| q : Nat) : Int))) w := R.as (R.or hx hy) (by rw [u64_or_nat p q hp hq])
end
section
variable {k yk : IntKind} {p q : Int} {m : Nat}
theorem R.shift {op : BinOp} (hop : op = .shl ∨ op = .shr) (hx : ρ x = .int k p) (hy : ρ y = .int yk q) (h : (Op.shift op k p yk q).run P w = .ok v w) :
    (execOp ρ ⟨dst, .binOp op T x y T', ty, pos, af, g⟩).run P w = .ok (.value v) w := by
  simp only [execOp, hx, hy, Sem.run_bind]
  rcases hop with rfl | rfl <;> simp_all [eqGuard, binOp, go_sem]
theorem R.shlU {p : Nat} (hx : ρ x = .int .u64 p) (hy : ρ y = .int yk m) (hm : m ≤ 64) :
    (execOp ρ ⟨dst, .binOp .shl T x y T', ty, pos, af, g⟩).run P w = .ok (.value (.int .u64 ((p * 2 ^ m % 18446744073709551616 : Nat) : Int))) w :=
  R.as (R.shift (.inl rfl) hx hy (by
    simp only [Op.shift]
    rw [if_neg (by omega)]
    rfl)) (by
    have : min (Int.toNat (m : Int)) (IntKind.bits .u64) = m := by simp [IntKind.bits]; omega
    rw [this, IntKind.wrap_u64]
    congr 1)
theorem R.shrU {p : Nat} (hx : ρ x = .int .u64 p) (hy : ρ y = .int yk m) (hm : m ≤ 64) :
    (execOp ρ ⟨dst, .binOp .shr T x y T', ty, pos, af, g⟩).run P w = .ok (.value (.int .u64 ((p / 2 ^ m : Nat) : Int))) w :=
  R.as (R.shift (.inr rfl) hx hy (by
    simp only [Op.shift]
    rw [if_neg (by omega)]
    rfl)) (by
    have : min (Int.toNat (m : Int)) (IntKind.bits .u64) = m := by simp [IntKind.bits]; omega
    rw [this]
    congr 1
    rw [Int.fdiv_eq_ediv_of_nonneg _ (by exact Int.le_of_lt (Int.pow_pos (by omega)))]
    simp)
theorem R.convert {T U : TypeId} {D : TypeDesc} {c : IntKind} (hs : P.underlying T = some D) (ht : P.underlying U = some (.int k)) (hx : ρ x = .int c p) :
    (execOp ρ ⟨dst, .convert T U x, ty, pos, af, g⟩).run P w = .ok (.value (.int k (k.wrap p))) w := by
  simp [execOp, hx, Go.convert, run_underlying hs, run_underlying ht, Conv.intToInt, go_sem]
theorem R.convI {T U : TypeId} {D : TypeDesc} {c : IntKind} (hs : P.underlying T = some D) (ht : P.underlying U = some (.int .i64)) (hx : ρ x = .int c p) (h : -9223372036854775808 ≤ p ∧ p ≤ 9223372036854775807) :
    (execOp ρ ⟨dst, .convert T U x, ty, pos, af, g⟩).run P w = .ok (.value (.int .i64 p)) w := R.as (R.convert hs ht hx) (by rw [IntWalk.i64_in _ h])
theorem R.convU {T U : TypeId} {D : TypeDesc} {c : IntKind} {p : Nat} (hs : P.underlying T = some D) (ht : P.underlying U = some (.int .u64)) (hx : ρ x = .int c p) :
    (execOp ρ ⟨dst, .convert T U x, ty, pos, af, g⟩).run P w = .ok (.value (.int .u64 ((p % 18446744073709551616 : Nat) : Int))) w := R.as (R.convert hs ht hx) (by rw [IntKind.wrap_u64]; congr 1)
theorem R.convB {T U : TypeId} {D : TypeDesc} {c : IntKind} {p : Nat} (hs : P.underlying T = some D) (ht : P.underlying U = some (.int .u8)) (hx : ρ x = .int c p) :
    (execOp ρ ⟨dst, .convert T U x, ty, pos, af, g⟩).run P w = .ok (.value (.int .u8 ((p % 256 : Nat) : Int))) w := R.as (R.convert hs ht hx) (by rw [IntKind.wrap_u8']; congr 1)
end
theorem mv {ty : TypeId} {pos : String} {af : Array Edge} {x : Operand} (hF : Fr n l a) (hn : Nat.blt d n = true) (hx : opv l x = some v) (h : ∀ a', Fr n ((d, v) :: l) a' → wpList P ops Q rest a' w) : wpList P ops Q (⟨some d, .move x, ty, pos, af, none⟩ :: rest) a w := sv' hF (wn rfl) rfl hn (R.move (hF.ev hx)) h
theorem av {ty : TypeId} {pos : String} {af : Array Edge} {x : Operand} (hF : Fr n l a) (hn : Nat.blt d n = true) (hx : opv l x = some v) (h : ∀ a', Fr n ((d, v) :: l) a' → wpList P ops Q rest a' w) : wpList P ops Q (⟨some d, .assign x, ty, pos, af, none⟩ :: rest) a w := sv' hF (wn rfl) rfl hn (R.assign (hF.ev hx)) h
theorem xv {ty : TypeId} {pos : String} {af : Array Edge} {x : Operand} {ix : Nat} {vs : List Value} (hF : Fr n l a) (hn : Nat.blt d n = true) (hx : opv l x = some (.tuple vs.toArray)) (hv : nth vs ix = some v) (h : ∀ a', Fr n ((d, v) :: l) a' → wpList P ops Q rest a' w) : wpList P ops Q (⟨some d, .extract x ix, ty, pos, af, none⟩ :: rest) a w := sv' hF (wn rfl) rfl hn (R.extract (hF.ev hx) hv) h
theorem dm {ty : TypeId} {pos : String} {af : Array Edge} {x : Operand} {K : Act → World → Prop} (hF : Fr n l a) (hi : ops[i]? = some ⟨some d, .move x, ty, pos, af, none⟩) (hn : Nat.blt d n = true) (hx : opv l x = some v) (h : ∀ a', Fr n ((d, v) :: l) a' → WL P ops Q S K r a' w) : WL P ops Q S K ((i, 0) :: r) a w := dq hF hi (wn rfl) rfl hn (fun w => R.move (hF.ev hx)) h
theorem da {ty : TypeId} {pos : String} {af : Array Edge} {x : Operand} {K : Act → World → Prop} (hF : Fr n l a) (hi : ops[i]? = some ⟨some d, .assign x, ty, pos, af, none⟩) (hn : Nat.blt d n = true) (hx : opv l x = some v) (h : ∀ a', Fr n ((d, v) :: l) a' → WL P ops Q S K r a' w) : WL P ops Q S K ((i, 0) :: r) a w := dq hF hi (wn rfl) rfl hn (fun w => R.assign (hF.ev hx)) h
theorem dx {ty : TypeId} {pos : String} {af : Array Edge} {x : Operand} {ix : Nat} {vs : List Value} {K : Act → World → Prop} (hF : Fr n l a) (hi : ops[i]? = some ⟨some d, .extract x ix, ty, pos, af, none⟩) (hn : Nat.blt d n = true) (hx : opv l x = some (.tuple vs.toArray)) (hv : nth vs ix = some v) (h : ∀ a', Fr n ((d, v) :: l) a' → WL P ops Q S K r a' w) : WL P ops Q S K ((i, 0) :: r) a w := dq hF hi (wn rfl) rfl hn (fun w => R.extract (hF.ev hx) hv) h
theorem kz (hF : Fr n l a) {j t : Nat} {b c : Bool} (hg : o.guard = some (j, b)) (hj : (ops[j]?).bind (·.dst) = some t) (ht : look l t = some (.bool c)) (hne : (c == b) = false) (hd : o.dst = some d) (hn : Nat.blt d n = true) (h : ∀ a', Fr n ((d, undef) :: l) a' → wpList P ops Q rest a' w) : wpList P ops Q (o :: rest) a w := sk hF (ws hF hg hj ht hne) hd hn h
theorem ku (hF : Fr n l a) {j t : Nat} {b : Bool} (hg : o.guard = some (j, b)) (hj : (ops[j]?).bind (·.dst) = some t) (ht : look l t = some undef) (hd : o.dst = some d) (hn : Nat.blt d n = true) (h : ∀ a', Fr n ((d, undef) :: l) a' → wpList P ops Q rest a' w) : wpList P ops Q (o :: rest) a w := sk hF (wu hF hg hj ht) hd hn h
theorem my {ty : TypeId} {pos : String} {af : Array Edge} {x : Operand} {j t : Nat} {b : Bool} (hF : Fr n l a) (hj : (ops[j]?).bind (·.dst) = some t) (ht : look l t = some (.bool b)) (hn : Nat.blt d n = true) (hx : opv l x = some v) (h : ∀ a', Fr n ((d, v) :: l) a' → wpList P ops Q rest a' w) : wpList P ops Q (⟨some d, .move x, ty, pos, af, some (j, b)⟩ :: rest) a w := sv' hF (wy hF rfl hj ht) rfl hn (R.move (hF.ev hx)) h
theorem sw (hF : Fr n l a) (hg : o.guard = none) (hd : o.dst = some d) (hn : Nat.blt d n = true) (hr : (execOp a.eval o).run P w = .ok (.value v) w) (h : ∀ a', Fr n ((d, v) :: l) a' → wpList P ops Q rest a' w) : wpList P ops Q (o :: rest) a w := sv' hF (wn hg) hd hn hr h
theorem dv {K : Act → World → Prop} (hF : Fr n l a) (hi : ops[i]? = some o) (hg : o.guard = none) (hd : o.dst = some d) (hn : Nat.blt d n = true) (hr : ∀ w, (execOp a.eval o).run P w = .ok (.value v) w) (h : ∀ a', Fr n ((d, v) :: l) a' → WL P ops Q S K r a' w) : WL P ops Q S K ((i, 0) :: r) a w := dq hF hi (wn hg) hd hn hr h
theorem ds {K : Act → World → Prop} (hF : Fr n l a) (hi : ops[i]? = some o) (hg : o.guard = none) (hd : o.dst = some d) (hn : Nat.blt d n = true) (hS : S w) (hr : ∀ w, S w → (execOp a.eval o).run P w = .ok (.value v) w) (h : ∀ a', Fr n ((d, v) :: l) a' → WL P ops Q S K r a' w) : WL P ops Q S K ((i, 1) :: r) a w := dr hF hi (wn hg) hd hn hS hr h
theorem pT {ty : TypeId} {pos : String} {af : Array Edge} {x y z : Operand} (hF : Fr n l a) (hn : Nat.blt d n = true) (hc : opv l x = some (.bool true)) (hx : opv l y = some v) (h : ∀ a', Fr n ((d, v) :: l) a' → wpList P ops Q rest a' w) : wpList P ops Q (⟨some d, .pick x y z, ty, pos, af, none⟩ :: rest) a w := sv' hF (wn rfl) rfl hn (R.pickT (hF.ev hc) (hF.ev hx)) h
theorem pF {ty : TypeId} {pos : String} {af : Array Edge} {x y z : Operand} (hF : Fr n l a) (hn : Nat.blt d n = true) (hc : opv l x = some (.bool false)) (hx : opv l z = some v) (h : ∀ a', Fr n ((d, v) :: l) a' → wpList P ops Q rest a' w) : wpList P ops Q (⟨some d, .pick x y z, ty, pos, af, none⟩ :: rest) a w := sv' hF (wn rfl) rfl hn (R.pickF (hF.ev hc) (hF.ev hx)) h
theorem aI {ty T T' : TypeId} {pos : String} {af : Array Edge} {x y : Operand} {p q : Int} (hF : Fr n l a) (hn : Nat.blt d n = true) (hx : opv l x = some (.int .i64 p)) (hy : opv l y = some (.int .i64 q)) (hb : -9223372036854775808 ≤ p + q ∧ p + q ≤ 9223372036854775807) (h : ∀ a', Fr n ((d, .int .i64 (p + q)) :: l) a' → wpList P ops Q rest a' w) : wpList P ops Q (⟨some d, .binOp .add T x y T', ty, pos, af, none⟩ :: rest) a w := sv' hF (wn rfl) rfl hn (R.addI (hF.ev hx) (hF.ev hy) hb) h
theorem eL {ty T T' : TypeId} {pos : String} {af : Array Edge} {x y : Operand} {k : IntKind} {p q : Int} (hF : Fr n l a) (hn : Nat.blt d n = true) (hx : opv l x = some (.int k p)) (hy : opv l y = some (.int k q)) (h : ∀ a', Fr n ((d, .bool (decide (p = q))) :: l) a' → wpList P ops Q rest a' w) : wpList P ops Q (⟨some d, .binOp .eql T x y T', ty, pos, af, none⟩ :: rest) a w := sv' hF (wn rfl) rfl hn (R.eql (hF.ev hx) (hF.ev hy)) h
theorem lS {ty T T' : TypeId} {pos : String} {af : Array Edge} {x y : Operand} {k : IntKind} {p q : Int} (hF : Fr n l a) (hn : Nat.blt d n = true) (hx : opv l x = some (.int k p)) (hy : opv l y = some (.int k q)) (h : ∀ a', Fr n ((d, .bool (decide (p < q))) :: l) a' → wpList P ops Q rest a' w) : wpList P ops Q (⟨some d, .binOp .lss T x y T', ty, pos, af, none⟩ :: rest) a w := sv' hF (wn rfl) rfl hn (R.lss (hF.ev hx) (hF.ev hy)) h
theorem Y {α : Sort _} {a : α} : a = a := rfl
end
end Go.Fw
end
section
namespace Go.Fw
open Go.RowKit
abbrev Seg := List (Nat × Obj)
abbrev Cel (l : List Value) (E : TypeId) : Obj := .cells l.toArray E (0, 0)
def keys (bs : List Seg) : List Nat := bs.flatten.map (·.1)
structure St (w0 : World) (ks : List Nat) (bs : List Seg) (w : World) : Prop where
  os : w.os = w0.os
  tape : w.tape = w0.tape
  output : w.output = w0.output
  size : w0.heap.size ≤ w.heap.size
  keep : ∀ k, k < w0.heap.size → k ∉ ks → w.heap[k]? = w0.heap[k]?
  own : ∀ p ∈ bs.flatten, w.heap[p.1]? = some p.2
  place : ∀ p ∈ bs.flatten, w0.heap.size ≤ p.1 ∨ p.1 ∈ ks
  nodup : (keys bs).Nodup
inductive HasB : List Seg → Nat → Obj → Prop
  | h {b : Nat} {o : Obj} {bs : List Seg} : HasB ([(b, o)] :: bs) b o
  | t {b : Nat} {o : Obj} {s : Seg} {bs : List Seg} : HasB bs b o → HasB (s :: bs) b o
  | i {b : Nat} {o : Obj} {s : Seg} {bs : List Seg} : (b, o) ∈ s → HasB (s :: bs) b o
inductive UpB : List Seg → Nat → Obj → Obj → List Seg → Prop
  | h {b o o' bs} : UpB ([(b, o)] :: bs) b o o' ([(b, o')] :: bs)
  | t {b o o' s bs bs'} : UpB bs b o o' bs' → UpB (s :: bs) b o o' (s :: bs')
inductive RepB : List Seg → Seg → Seg → List Seg → Prop
  | h {s s' bs} : RepB (s :: bs) s s' (s' :: bs)
  | t {s s' t bs bs'} : RepB bs s s' bs' → RepB (t :: bs) s s' (t :: bs')
def World.setB (w : World) (b : Nat) (o : Obj) : World := { w with heap := w.heap.setIfInBounds b o }
section
variable {w0 w w' w1 : World} {ks : List Nat} {bs bs' : List Seg} {b off : Nat} {o o' : Obj} {s s' : Seg} {v : Value} {l cs : List Value} {E : TypeId}
theorem HasB.mem (h : HasB bs b o) : (b, o) ∈ bs.flatten := by
  induction h with
  | h => simp
  | t _ ih => simp [ih]
  | i hm => simp [hm]
theorem St.get (h : St w0 ks bs w) (hb : HasB bs b o) : w.heap[b]? = some o := h.own _ hb.mem
theorem UpB.has (h : UpB bs b o o' bs') : HasB bs b o := by
  induction h with
  | h => exact .h
  | t _ ih => exact .t ih
theorem UpB.keys (h : UpB bs b o o' bs') : keys bs' = keys bs := by
  induction h with
  | h => simp [Fw.keys]
  | t _ ih => simp only [Fw.keys, List.flatten_cons, List.map_append] at *; rw [ih]
theorem UpB.mem (h : UpB bs b o o' bs') (hn : (Fw.keys bs).Nodup) : ∀ p ∈ bs'.flatten, p = (b, o') ∨ (p.1 ≠ b ∧ p ∈ bs.flatten) := by
  induction h with
  | @h b o o' bs =>
    intro p hp
    simp only [List.flatten_cons, List.singleton_append, List.mem_cons] at hp
    rcases hp with rfl | hp
    · exact .inl rfl
    · refine .inr ⟨fun e => ?_, by simp [hp]⟩
      simp only [Fw.keys, List.flatten_cons, List.singleton_append, List.map_cons, List.nodup_cons] at hn
      exact hn.1 (e ▸ List.mem_map_of_mem hp)
  | @t b o o' s bs bs' hu ih =>
    intro p hp
    simp only [List.flatten_cons, List.mem_append] at hp
    simp only [Fw.keys, List.flatten_cons, List.map_append] at hn
    rw [List.nodup_append] at hn
    rcases hp with hp | hp
    · refine .inr ⟨fun e => ?_, by simp [hp]⟩
      refine hn.2.2 p.1 (List.mem_map_of_mem hp) b ?_ e
      have := hu.has.mem
      exact List.mem_map_of_mem (f := (·.1)) this
    · rcases ih hn.2.1 p hp with h | ⟨h1, h2⟩
      · exact .inl h
      · exact .inr ⟨h1, by simp [h2]⟩
theorem St.start (w : World) : St w [] [] w := ⟨rfl, rfl, rfl, Nat.le_refl _, fun _ _ _ => rfl, by simp, by simp, by simp [keys]⟩
theorem St.drew (h : St w0 ks bs w) : St w0 ks bs w.drew := ⟨h.os, h.tape, h.output, h.size, h.keep, h.own, h.place, h.nodup⟩
theorem St.lt (h : St w0 ks bs w) {p : Nat × Obj} (hp : p ∈ bs.flatten) : p.1 < w.heap.size := by
  have := h.own p hp
  exact (Array.getElem?_eq_some_iff.1 this).1
theorem St.alloc (h : St w0 ks bs w) (o : Obj) : St w0 ks ([(w.heap.size, o)] :: bs) (w.alloc o) := by
  refine ⟨h.os, h.tape, h.output, ?_, ?_, ?_, ?_, ?_⟩
  · have h1 := h.size
    have h2 : (w.alloc o).heap.size = w.heap.size + 1 := by simp
    omega
  · intro k hk hks
    have := h.size
    rw [Below.heap_alloc _ _ _ (by omega)]
    exact h.keep k hk hks
  · intro p hp
    simp only [List.flatten_cons, List.singleton_append, List.mem_cons] at hp
    rcases hp with rfl | hp
    · exact heap_alloc_new w o
    · rw [Below.heap_alloc _ _ _ (h.lt hp)]; exact h.own p hp
  · intro p hp
    simp only [List.flatten_cons, List.singleton_append, List.mem_cons] at hp
    rcases hp with rfl | hp
    · exact .inl h.size
    · exact h.place p hp
  · simp only [keys, List.flatten_cons, List.singleton_append, List.map_cons, List.nodup_cons]
    refine ⟨fun hm => ?_, h.nodup⟩
    obtain ⟨p, hp, e⟩ := List.mem_map.1 hm
    have := h.lt hp
    omega
theorem St.setB (h : St w0 ks bs w) (hu : UpB bs b o o' bs') : St w0 ks bs' (World.setB w b o') := by
  have hb := hu.has.mem
  have hlt := h.lt hb
  have hpl := h.place _ hb
  refine ⟨h.os, h.tape, h.output, by simpa [World.setB] using h.size, ?_, ?_, ?_, by rw [hu.keys]; exact h.nodup⟩
  · intro k hk hks
    have : b ≠ k := by
      rintro rfl
      rcases hpl with h1 | h1
      · simp only at h1; omega
      · exact hks h1
    simp only [World.setB]
    rw [Array.getElem?_setIfInBounds_ne this]
    exact h.keep k hk hks
  · intro p hp
    rcases hu.mem h.nodup p hp with rfl | ⟨h1, h2⟩
    · simp only at hlt
      simp [World.setB, hlt]
    · simp only [World.setB]
      rw [Array.getElem?_setIfInBounds_ne (Ne.symm h1)]
      exact h.own p h2
  · intro p hp
    rcases hu.mem h.nodup p hp with rfl | ⟨h1, h2⟩
    · exact hpl
    · exact h.place p h2
theorem St.comp0 (h : St w0 ks bs w) (h2 : St w [] [s] w') : St w0 ks (s :: bs) w' := by
  have hnew : ∀ p ∈ s, w.heap.size ≤ p.1 := fun p hp => by
    rcases h2.place p (by simp [hp]) with h | h
    · exact h
    · simp at h
  refine ⟨h2.os.trans h.os, h2.tape.trans h.tape, h2.output.trans h.output, Nat.le_trans h.size h2.size, ?_, ?_, ?_, ?_⟩
  · intro k hk hks
    rw [h2.keep k (Nat.lt_of_lt_of_le hk h.size) (by simp)]
    exact h.keep k hk hks
  · intro p hp
    simp only [List.flatten_cons, List.mem_append] at hp
    rcases hp with hp | hp
    · exact h2.own p (by simp [hp])
    · rw [h2.keep p.1 (h.lt hp) (by simp)]; exact h.own p hp
  · intro p hp
    simp only [List.flatten_cons, List.mem_append] at hp
    rcases hp with hp | hp
    · exact .inl (Nat.le_trans h.size (hnew p hp))
    · exact h.place p hp
  · simp only [keys, List.flatten_cons, List.map_append]
    rw [List.nodup_append]
    refine ⟨by simpa [keys] using h2.nodup, h.nodup, ?_⟩
    intro x hx y hy e
    obtain ⟨p, hp, rfl⟩ := List.mem_map.1 hx
    obtain ⟨q, hq, rfl⟩ := List.mem_map.1 hy
    have := hnew p hp
    have := h.lt hq
    omega
theorem St.pick (h : St w0 ks bs w) (hm : ∀ p ∈ bs'.flatten, p ∈ bs.flatten) (hn : (keys bs').Nodup) : St w0 ks bs' w :=
  ⟨h.os, h.tape, h.output, h.size, h.keep, fun p hp => h.own p (hm p hp), fun p hp => h.place p (hm p hp), hn⟩
theorem St.none (h : St w0 ks bs w) : St w0 ks [[]] w := h.pick (by simp) (by simp [keys])
theorem St.cons0 (h : St w0 ks bs w) : St w0 ks ([] :: bs) w := h.pick (by simp) (by simpa [keys] using h.nodup)
theorem St.tail (h : St w0 ks (s :: bs) w) : St w0 ks bs w :=
  h.pick (fun p hp => by simp [hp]) (by have := h.nodup; simp only [keys, List.flatten_cons, List.map_append] at this ⊢; exact (List.nodup_append.1 this).2.1)
inductive HasS : List Seg → Seg → Prop
  | h {x : Seg} {bx : List Seg} : HasS (x :: bx) x
  | t {x y : Seg} {bx : List Seg} : HasS bx x → HasS (y :: bx) x
theorem HasS.mem (h : HasS bs s) : s ∈ bs := by
  induction h with
  | h => simp
  | t _ ih => simp [ih]
theorem St.one (h : St w0 ks bs w) (hs : HasS bs s) : St w0 ks [s] w := by
  induction hs with
  | h =>
    refine h.pick (fun p hp => by simpa using Or.inl (by simpa using hp)) ?_
    have := h.nodup
    simp only [keys, List.flatten_cons, List.map_append, List.flatten_nil, List.append_nil] at this ⊢
    exact (List.nodup_append.1 this).1
  | t _ ih => exact ih h.tail
theorem cell_Cel (hb : w.heap[b]? = some (Cel l E)) (off : Nat) : w.cell? ⟨b, off, none⟩ = l[off]? := by
  simp [World.cell?, hb]
theorem frozen_Cel (hb : w.heap[b]? = some (Cel l E)) (off : Nat) : w.frozen? ⟨b, off, none⟩ = false := by
  simp [World.frozen?, hb]
theorem setCell_Cel (hb : w.heap[b]? = some (Cel l E)) (off : Nat) (v : Value) : w.setCell ⟨b, off, none⟩ v = World.setB w b (Cel (l.set off v) E) := by
  simp only [World.setCell, World.setB]
  congr 1
  apply Array.ext_getElem?
  intro i
  rw [Array.getElem?_modify, Array.getElem?_setIfInBounds]
  by_cases e : b = i
  · subst e
    obtain ⟨hlt, hq⟩ := Array.getElem?_eq_some_iff.1 hb
    simp [hlt, hq]
  · simp [e]
def spl (l : List Value) (off : Nat) (cs : List Value) : List Value := l.take off ++ cs ++ l.drop (off + cs.length)
theorem spl_nil (l : List Value) (off : Nat) : spl l off [] = l := by simp [spl]
theorem spl_cons (l : List Value) (off : Nat) (v : Value) (cs : List Value) (h : off < l.length) : spl (l.set off v) (off + 1) cs = spl l off (v :: cs) := by
  simp only [spl, List.take_set, List.length_cons]
  rw [List.drop_set_of_lt (by omega), List.take_succ_eq_append_getElem h]
  have h1 : (List.take off l ++ [l[off]]).set off v = List.take off l ++ [v] := by
    rw [List.set_append]
    simp [Nat.min_eq_left (Nat.le_of_lt h)]
  rw [h1, show off + 1 + cs.length = off + (cs.length + 1) from by omega]
  simp
theorem spl_all (l cs : List Value) (h : cs.length = l.length) : spl l 0 cs = cs := by simp [spl, h]
theorem setB_setB (w : World) (b : Nat) (o o' : Obj) : World.setB (World.setB w b o) b o' = World.setB w b o' := by
  simp [World.setB]
theorem setB_same (hb : w.heap[b]? = some o) : World.setB w b o = w := by
  have hlt := (Array.getElem?_eq_some_iff.1 hb)
  simp only [World.setB]
  congr 1
  apply Array.ext_getElem?
  intro i
  rw [Array.getElem?_setIfInBounds]
  by_cases e : b = i
  · subst e; obtain ⟨h1, h2⟩ := hlt; simp [h1, h2]
  · simp [e]
theorem heap_setB (hb : b < w.heap.size) : (World.setB w b o).heap[b]? = some o := by simp [World.setB, hb]
variable {P : Program}
theorem run_storeCells_Cel : ∀ (vs : List Value) (off i : Nat) (w : World) (l : List Value), w.heap[b]? = some (Cel l E) → off + i + vs.length ≤ l.length → (∀ v ∈ vs, v.oneCell' = true) →
    (storeCells ⟨b, off, none⟩ vs i).run P w = .ok () (World.setB w b (Cel (spl l (off + i) vs) E)) := by
  intro vs
  induction vs with
  | nil => intro off i w l hb _ _; simp [storeCells, spl_nil, setB_same hb]
  | cons v vs ih =>
    intro off i w l hb hlen h1
    simp only [List.length_cons] at hlen
    have hadd : (⟨b, off, none⟩ : Addr).add i = ⟨b, off + i, none⟩ := by
      unfold Addr.add; split
      · subst_vars; rfl
      · rfl
    have hlt : off + i < l.length := by omega
    have hcell : w.cell? ⟨b, off + i, none⟩ = some l[off + i] := by rw [cell_Cel hb]; simp [hlt]
    simp only [storeCells, Sem.run_bind, hadd, run_store P w _ v _ (h1 v (by simp)), hcell, frozen_Cel hb, Bool.false_eq_true, if_false, Result.andThen]
    rw [setCell_Cel hb]
    have hb' : (World.setB w b (Cel (l.set (off + i) v) E)).heap[b]? = some (Cel (l.set (off + i) v) E) := heap_setB (Array.getElem?_eq_some_iff.1 hb).1
    rw [ih off (i + 1) _ (l.set (off + i) v) hb' (by simp; omega) (fun u hu => h1 u (by simp [hu])), setB_setB]
    rw [show off + (i + 1) = off + i + 1 from by omega, spl_cons _ _ _ _ hlt]
def Rd (w : World) (A : Option Addr) (cs : List Value) : Prop := ∀ j v, cs[j]? = some v → ∃ a, A = some a ∧ w.cell? (a.add j) = some v
theorem Rd.nil (w : World) (A : Option Addr) : Rd w A [] := fun j v h => by simp at h
theorem addr_add (b off k : Nat) : (⟨b, off, none⟩ : Addr).add k = ⟨b, off + k, none⟩ := by
  unfold Addr.add; split
  · subst_vars; rfl
  · rfl
theorem Rd.own (h : St w0 ks bs w) (hb : HasB bs b (Cel l E)) (hl : ∀ j v, cs[j]? = some v → l[off + j]? = some v) : Rd w (some ⟨b, off, none⟩) cs := by
  intro j v hj
  exact ⟨_, rfl, by rw [addr_add, cell_Cel (h.get hb)]; exact hl j v hj⟩
theorem Rd.own0 (h : St w0 ks bs w) (hb : HasB bs b (Cel l E)) : Rd w (some ⟨b, 0, none⟩) l := Rd.own h hb fun j v hj => by rw [Nat.zero_add]; exact hj
theorem lt_of_cell {a : Addr} (h : w.cell? a = some v) : a.block < w.heap.size := block_lt_of_cell h
theorem add_block (a : Addr) (k : Nat) : (a.add k).block = a.block := by unfold Addr.add; split <;> rfl
theorem Rd.old {A : Option Addr} (h : Rd w0 A cs) (hs : St w0 [] bs w) : Rd w A cs := by
  intro j v hj
  obtain ⟨a, ha, hc⟩ := h j v hj
  refine ⟨a, ha, ?_⟩
  rw [World.cell?_of_block (w := w0)]
  · exact hc
  · exact hs.keep _ (lt_of_cell hc) (by simp)
theorem Rd.sub {A : Option Addr} (h : Rd w A cs) (k : Nat) : Rd w A (cs.take k) := by
  intro j v hj
  rw [List.getElem?_take] at hj
  split at hj
  · exact h j v hj
  · simp at hj
end
end Go.Fw
end
section
namespace Go.Fw
open Go.RowKit
def oneT (P : Program) (T : TypeId) : Bool := match P.underlying T with | some (.struct _) | some (.array _ _) | none => false | some _ => true
def aggT (P : Program) (T : TypeId) : Bool := match P.underlying T with | some (.struct _) | some (.array _ _) => true | _ => false
def szT (P : Program) (T : TypeId) (n : Nat) : Prop := (P.info? T).map (·.size) = some n
def zeT (P : Program) (T : TypeId) (v : Value) : Prop := (P.info? T).bind (·.zero) = some v
def nzT (P : Program) (T : TypeId) : Bool := match P.info? T with | some i => !Nat.beq i.size 0 | none => false
section
variable {P : Program} {ops : Array Oper} {Q : Exit → Act → World → Prop} {a : Act} {w w' w0 : World} {n : Nat} {env : Env} {d : Nat} {v : Value} {K : Act → World → Prop}
variable {ρ : Operand → Value} {dst : Option Tmp} {ty : TypeId} {pos : String} {af : Array Edge} {g : Option (Nat × Bool)} {x y z : Operand} {T E : TypeId}
variable {ks : List Nat} {bs bs' : List Seg} {b off : Nat} {l l' cs : List Value} {A : Option Addr}
theorem run_isAgg_one (h : oneT P T = true) (w : World) : (isAgg T).run P w = .ok false w := by
  unfold oneT at h
  cases hu : P.underlying T with
  | none => rw [hu] at h; simp at h
  | some dd => rw [hu] at h; cases dd <;> simp_all [isAgg, run_underlying hu, go_sem]
theorem run_isAgg_agg (h : aggT P T = true) (w : World) : (isAgg T).run P w = .ok true w := by
  unfold aggT at h
  cases hu : P.underlying T with
  | none => rw [hu] at h; simp at h
  | some dd => rw [hu] at h; cases dd <;> simp_all [isAgg, run_underlying hu, go_sem]
theorem run_sizeOf' (h : szT P T n) (w : World) : (sizeOf T).run P w = .ok n w := by
  unfold szT at h
  cases hi : P.info? T with
  | none => rw [hi] at h; simp at h
  | some i => rw [hi] at h; simp at h; simp [sizeOf, typeInfo, hi, h, Sem.run_bind, Result.andThen_ok]
theorem run_loadVar1 (h : oneT P T = true) {a : Addr} (hc : w.cell? a = some v) : (loadVar T a).run P w = .ok v w := by
  simp only [loadVar, Sem.run_bind, run_isAgg_one h, run_load, hc, Result.andThen_ok, Bool.false_eq_true, if_false]
theorem run_loadVarA (h : aggT P T = true) (hs : szT P T cs.length) {a : Addr} (hc : ∀ j v, cs[j]? = some v → w.cell? (a.add j) = some v) : (loadVar T a).run P w = .ok (.agg cs.toArray) w := by
  have := run_loadCells_list (P := P) (w := w) a cs hc
  simp only [loadVar, Sem.run_bind, run_isAgg_agg h, run_sizeOf' hs, this, Result.andThen_ok, if_true, Sem.run_pure]
theorem R.load (h : oneT P T = true) (hx : ρ x = .pointer (some ⟨b, off, none⟩)) (hS : St w0 ks bs w) (hb : HasB bs b (Cel l E)) (hv : l[off]? = some v) :
    (execOp ρ ⟨dst, .load T x, ty, pos, af, g⟩).run P w = .ok (.value v) w := by
  have hc : w.cell? ⟨b, off, none⟩ = some v := by rw [cell_Cel (hS.get hb)]; exact hv
  simp only [execOp, hx, Instr.loadAt, Instr.sureAddr, Sem.run_bind, Sem.run_pure, Result.andThen_ok, run_loadVar1 h hc]
theorem R.loadO {k : Nat} (h : oneT P T = true) (hx : ρ x = .pointer (A.map (·.add k))) (hA : Rd w A cs) (hv : cs[k]? = some v) :
    (execOp ρ ⟨dst, .load T x, ty, pos, af, g⟩).run P w = .ok (.value v) w := by
  obtain ⟨a, rfl, hc⟩ := hA k v hv
  simp only [Option.map_some] at hx
  simp only [execOp, hx, Instr.loadAt, Instr.sureAddr, Sem.run_bind, Sem.run_pure, Result.andThen_ok, run_loadVar1 h hc]
theorem R.loadA {m : Nat} (h : aggT P T = true) (hx : ρ x = .pointer (some ⟨b, off, none⟩)) (hS : St w0 ks bs w) (hb : HasB bs b (Cel l E)) (hs' : szT P T m) (hm : cs.length = m) (hl : ∀ j v, cs[j]? = some v → l[off + j]? = some v) :
    (execOp ρ ⟨dst, .load T x, ty, pos, af, g⟩).run P w = .ok (.value (.agg cs.toArray)) w := by
  have hs : szT P T cs.length := hm ▸ hs'
  have hc : ∀ j v, cs[j]? = some v → w.cell? ((⟨b, off, none⟩ : Addr).add j) = some v := fun j v hj => by rw [addr_add, cell_Cel (hS.get hb)]; exact hl j v hj
  simp only [execOp, hx, Instr.loadAt, Instr.sureAddr, Sem.run_bind, Sem.run_pure, Result.andThen_ok, run_loadVarA h hs hc]
theorem R.loadW {m : Nat} (h : aggT P T = true) (hx : ρ x = .pointer (some ⟨b, 0, none⟩)) (hS : St w0 ks bs w) (hb : HasB bs b (Cel l E)) (hs : szT P T m) (hm : l.length = m) :
    (execOp ρ ⟨dst, .load T x, ty, pos, af, g⟩).run P w = .ok (.value (.agg l.toArray)) w := R.loadA h hx hS hb hs hm (fun j v hj => by rw [Nat.zero_add]; exact hj)
theorem R.loadAO {k m : Nat} {xs : List Value} (h : aggT P T = true) (hx : ρ x = .pointer (A.map (·.add k))) (hA : Rd w A xs) (hs' : szT P T m) (hm : cs.length = m) (hpos : 0 < cs.length) (hl : ∀ j v, cs[j]? = some v → xs[k + j]? = some v) :
    (execOp ρ ⟨dst, .load T x, ty, pos, af, g⟩).run P w = .ok (.value (.agg cs.toArray)) w := by
  have hs : szT P T cs.length := hm ▸ hs'
  obtain ⟨a, rfl, _⟩ := hA (k + 0) cs[0] (hl 0 _ (by simp [hpos]))
  simp only [Option.map_some] at hx
  have hc : ∀ j v, cs[j]? = some v → w.cell? ((a.add k).add j) = some v := fun j v hj => by
    obtain ⟨a', h1, h2⟩ := hA _ _ (hl j v hj)
    simp only [Option.some.injEq] at h1
    rw [← h1] at h2
    have : (a.add k).add j = a.add (k + j) := by
      unfold Addr.add
      by_cases hj0 : j = 0
      · subst hj0; simp
      · by_cases hk0 : k = 0
        · subst hk0; simp
        · simp [hj0, hk0, Nat.add_assoc]
    rw [this]; exact h2
  simp only [execOp, hx, Instr.loadAt, Instr.sureAddr, Sem.run_bind, Sem.run_pure, Result.andThen_ok, run_loadVarA h hs hc]
theorem R.fieldAddr {fs : Array Field} {i k : Nat} {f : Field} (hT : P.underlying T = some (.struct fs)) (hf : fs[i]? = some f) (hs : nzT P f.type = true) (hx : ρ x = .pointer (some ⟨b, off, none⟩)) (hk : f.offset = k) :
    (execOp ρ ⟨dst, .fieldAddr T x i, ty, pos, af, g⟩).run P w = .ok (.value (.pointer (some ⟨b, off + k, none⟩))) w := by
  subst hk
  unfold nzT at hs
  cases hi : P.info? f.type with
  | none => rw [hi] at hs; simp at hs
  | some inf =>
    rw [hi] at hs
    have hne : ¬ inf.size = 0 := fun e => by simp [e] at hs
    have hsz : (sizeOf f.type).run P w = .ok inf.size w := by simp [sizeOf, typeInfo, hi, Sem.run_bind, Result.andThen_ok]
    simp only [execOp, hx, Instr.fieldAt, run_underlying hT, hf, Instr.sureAddr, fieldPlace, hsz, hne, addr_add, if_false, Sem.run_bind, Sem.run_pure, Result.andThen_ok]
theorem R.indexA {len sz : Nat} {k : IntKind} {m : Int} (hT : P.underlying T = some (.array len E)) (hs : szT P E sz) (hx : ρ x = .pointer (some ⟨b, off, none⟩)) (hy : ρ y = .int k m) (h0 : 0 ≤ m) (h1 : m < len) :
    (execOp ρ ⟨dst, .indexAddr T x y, ty, pos, af, g⟩).run P w = .ok (.value (.pointer (some ⟨b, off + m.toNat * sz, none⟩))) w := by
  simp only [execOp, hx, hy, Instr.indexAt, asIntOf, run_underlying hT, Instr.sureAddr, run_sizeOf' hs, addr_add, and_self, if_true, h0, h1, Sem.run_bind, Sem.run_pure, Result.andThen_ok]
theorem R.indexS {len c sz : Nat} {k : IntKind} {m : Int} (hT : P.underlying T = some (.slice E)) (hs : szT P E sz) (hx : ρ x = .slice (some ⟨b, off, none⟩) len c) (hy : ρ y = .int k m) (h0 : 0 ≤ m) (h1 : m < len) :
    (execOp ρ ⟨dst, .indexAddr T x y, ty, pos, af, g⟩).run P w = .ok (.value (.pointer (some ⟨b, off + m.toNat * sz, none⟩))) w := by
  simp only [execOp, hx, hy, Instr.indexAt, asIntOf, run_underlying hT, run_sizeOf' hs, addr_add, and_self, if_true, h0, h1, Bool.and_false, Sem.run_bind, Sem.run_pure, Result.andThen_ok]
theorem R.indexO {len c sz : Nat} {k : IntKind} {m : Int} (hT : P.underlying T = some (.slice E)) (hs : szT P E sz) (hx : ρ x = .slice A len c) (hA : A ≠ none) (hy : ρ y = .int k m) (h0 : 0 ≤ m) (h1 : m < len) :
    (execOp ρ ⟨dst, .indexAddr T x y, ty, pos, af, g⟩).run P w = .ok (.value (.pointer (A.map (·.add (m.toNat * sz))))) w := by
  cases A with
  | none => exact absurd rfl hA
  | some a => simp only [execOp, hx, hy, Instr.indexAt, asIntOf, run_underlying hT, run_sizeOf' hs, and_self, if_true, h0, h1, Bool.and_false, Option.map_some, Sem.run_bind, Sem.run_pure, Result.andThen_ok]
theorem R.index1 {len : Nat} {k : IntKind} {m : Int} (hT : P.underlying T = some (.array len E)) (h1 : oneT P E = true) (hs : szT P E 1) (hx : ρ x = .agg l.toArray) (hy : ρ y = .int k m) (h0 : 0 ≤ m) (h2 : m < len) (hv : l[m.toNat]? = some v) :
    (execOp ρ ⟨dst, .index T x y, ty, pos, af, g⟩).run P w = .ok (.value v) w := by
  simp only [execOp, hx, hy, Instr.index, asIntOf, run_underlying hT, h0, h2, part, run_isAgg_one h1, run_sizeOf' hs, Nat.mul_one, List.getElem?_toArray, hv, and_self, if_true, Bool.false_eq_true, if_false, Sem.run_bind, Sem.run_pure, Result.andThen_ok]
theorem R.indexStr {k : IntKind} {m : Int} {s : ByteArray} (hT : P.underlying T = some .string) (hx : ρ x = .string s) (hy : ρ y = .int k m) (h0 : 0 ≤ m) (h2 : m.toNat < s.size) :
    (execOp ρ ⟨dst, .index T x y, ty, pos, af, g⟩).run P w = .ok (.value (.int .u8 ((s[m.toNat]'h2).toNat : Int))) w := by
  have : s[m.toNat]? = some (s[m.toNat]'h2) := by simp [h2]
  simp only [execOp, hx, hy, Instr.index, asIntOf, run_underlying hT, h0, this, if_true, Sem.run_bind, Sem.run_pure, Result.andThen_ok]
theorem R.nilP {X : Addr} {T' : TypeId} (hx : ρ x = .pointer (some X)) (hy : ρ y = .pointer none) (hT : P.underlying T = some (.pointer E)) :
    (execOp ρ ⟨dst, .binOp .eql T x y T', ty, pos, af, g⟩).run P w = .ok (.value (.bool false)) w := by
  have he : (Op.equal T (.pointer (some X)) (.pointer none)).run P w = .ok false w := by
    unfold Op.equal Op.maxDepth
    rw [Op.equalIn]
    simp only [Sem.run_bind, run_underlying hT, Result.andThen_ok, Sem.run_pure]
  simp only [execOp, hx, hy, eqGuard, binOp, he, Sem.run_bind, Sem.run_pure, Result.andThen_ok, Bool.not_true, Bool.false_eq_true, if_false]
theorem R.nilCheck {X : Addr} (hx : ρ x = .pointer (some X)) : (execOp ρ ⟨dst, .nilCheck x, ty, pos, af, g⟩).run P w = .ok (.value (.pointer (some X))) w := by
  simp [execOp, hx, go_sem]
theorem O.store (hs : szT P T 1) (hx : ρ x = .pointer (some ⟨b, off, none⟩)) (hy : ρ y = v) (hρ : ρ = a.eval) (hv : v.oneCell' = true) (hS : St w0 ks bs w) (hu : UpB bs b (Cel l E) (Cel l' E) bs') (hl : l.set off v = l') (hlt : off < l.length)
    (h : ∀ w', St w0 ks bs' w' → K a w') : Oper.wp P ⟨none, .store T x y, ty, pos, af, g⟩ a w K Q := by
  subst hρ
  have hb := hS.get hu.has
  have hc : v.cells = #[v] := by cases v <;> first | rfl | simp [Value.oneCell'] at hv
  have hst := run_storeCells_Cel (P := P) [v] off 0 w l hb (by simp; omega) (by simp [hv])
  have hsp : spl l (off + 0) [v] = l' := by rw [Nat.add_zero, ← spl_cons _ _ _ _ hlt, spl_nil, hl]
  rw [hsp] at hst
  unfold Oper.wp
  have : (execOp a.eval ⟨none, .store T x y, ty, pos, af, g⟩).run P w = .ok .skip (World.setB w b (Cel l' E)) := by
    simp only [execOp, hx, hy, Instr.storeAt, Instr.sureAddr, storeVar, hc, run_sizeOf' hs, hst, List.size_toArray, List.length_cons, List.length_nil, ne_eq, not_true, if_false, Nat.zero_add, Sem.run_ite, Sem.run_bind, Sem.run_pure, Result.andThen_ok]
  rw [this, Oper.upon_skip]
  exact h _ (hS.setB hu)
theorem O.storeA {m : Nat} (hs' : szT P T m) (hx : ρ x = .pointer (some ⟨b, off, none⟩)) (hy : ρ y = .agg cs.toArray) (hm : cs.length = m) (hρ : ρ = a.eval) (hv : ∀ v ∈ cs, v.oneCell' = true) (hS : St w0 ks bs w) (hu : UpB bs b (Cel l E) (Cel l' E) bs') (hl : spl l off cs = l') (hlt : off + cs.length ≤ l.length)
    (h : ∀ w', St w0 ks bs' w' → K a w') : Oper.wp P ⟨none, .store T x y, ty, pos, af, g⟩ a w K Q := by
  subst hρ
  have hs : szT P T cs.length := hm ▸ hs'
  have hb := hS.get hu.has
  have hst := run_storeCells_Cel (P := P) cs off 0 w l hb (by omega) hv
  rw [Nat.add_zero, hl] at hst
  unfold Oper.wp
  have : (execOp a.eval ⟨none, .store T x y, ty, pos, af, g⟩).run P w = .ok .skip (World.setB w b (Cel l' E)) := by
    simp only [execOp, hx, hy, Instr.storeAt, Instr.sureAddr, storeVar, Value.cells, run_sizeOf' hs, hst, List.size_toArray, ne_eq, not_true, if_false, Sem.run_ite, Sem.run_bind, Sem.run_pure, Result.andThen_ok]
  rw [this, Oper.upon_skip]
  exact h _ (hS.setB hu)
theorem O.storeW {m : Nat} (hs : szT P T m) (hx : ρ x = .pointer (some ⟨b, 0, none⟩)) (hy : ρ y = .agg cs.toArray) (hm : cs.length = m) (hρ : ρ = a.eval) (hv : ∀ v ∈ cs, v.oneCell' = true) (hS : St w0 ks bs w) (hu : UpB bs b (Cel l E) (Cel cs E) bs') (hlt : cs.length = l.length)
    (h : ∀ w', St w0 ks bs' w' → K a w') : Oper.wp P ⟨none, .store T x y, ty, pos, af, g⟩ a w K Q :=
  O.storeA hs hx hy hm hρ hv hS hu (spl_all l cs hlt) (by omega) h
theorem O.box (hd : dst = some d) (hn : Nat.blt d n = true) (hF : Fr n env a) (hx : a.eval x = v) (hc : v.cells = l.toArray) (hS : St w0 ks bs w)
    (h : ∀ b a' w', Fr n ((d, .pointer (some ⟨b, 0, none⟩)) :: env) a' → St w0 ks ([(b, Cel l T)] :: bs) w' → K a' w') : Oper.wp P ⟨dst, .box T x, ty, pos, af, g⟩ a w K Q := by
  subst hd
  unfold Oper.wp
  have : (execOp a.eval ⟨some d, .box T x, ty, pos, af, g⟩).run P w = .ok (.value (.pointer (some ⟨w.heap.size, 0, none⟩))) (w.alloc (Cel l T)) := by
    simp only [execOp, Sem.run_bind, hx, Instr.box, newVar, newRow, hc]
    rfl
  rw [this, Oper.upon_value]
  exact h _ _ _ (hF.put hn _) (hS.alloc _)
theorem O.alloc (hd : dst = some d) (hn : Nat.blt d n = true) (hF : Fr n env a) (hz : zeT P T v) (hc : v.cells = l.toArray) (hS : St w0 ks bs w)
    (h : ∀ b a' w', Fr n ((d, .pointer (some ⟨b, 0, none⟩)) :: env) a' → St w0 ks ([(b, Cel l T)] :: bs) w' → K a' w') : Oper.wp P ⟨dst, .alloc T, ty, pos, af, g⟩ a w K Q := by
  subst hd
  unfold Oper.wp
  have hzv : (zeroValue T).run P w = .ok v w := by
    unfold zeT at hz
    cases hi : P.info? T with
    | none => rw [hi] at hz; simp at hz
    | some inf => rw [hi] at hz; simp at hz; simp [zeroValue, typeInfo, hi, hz, Sem.run_bind, Result.andThen_ok]
  have : (execOp a.eval ⟨some d, .alloc T, ty, pos, af, g⟩).run P w = .ok (.value (.pointer (some ⟨w.heap.size, 0, none⟩))) (w.alloc (Cel l T)) := by
    simp only [execOp, Instr.alloc, newVar, newRow, hc, Sem.run_bind, hzv, Result.andThen_ok]
    rfl
  rw [this, Oper.upon_value]
  exact h _ _ _ (hF.put hn _) (hS.alloc _)
theorem run_callFunc_enter {f : FuncId} {fn : Func} (hf : P.funcs[f]? = some fn) (hn : (fn.name == "runtime.NumGoroutine") = false) (hb : fn.body.isNone = false) (args : Array Value) (w : World) :
    (callFunc f args).run P w = .ok (.enter f args) w := by
  simp only [callFunc, hf, hn, hb, Sem.run_bind, Result.andThen_ok, run_program, Bool.false_eq_true, if_false, Sem.run_pure]
def Ret (P : Program) (f : FuncId) (vs : List Value) (w : World) (ks : List Nat) (R : Value → Seg → Prop) : Prop :=
  Calls P f vs.toArray w fun e w' => ∃ v s, e = .returned v ∧ R v s ∧ St w ks [s] w'
theorem run_call {f : FuncId} {xs : List Operand} {tys : Array TypeId} {vs : List Value} (hx : xs.map a.eval = vs) :
    (execOp a.eval ⟨dst, .call ⟨.value (.func f), xs.toArray, tys⟩, ty, pos, af, g⟩).run P w = (callFunc f vs.toArray).run P w := by
  subst hx
  simp [execOp, resolve, Deferred.ofValue, Act.eval, invoke]
theorem R.extern {f : FuncId} {xs : List Operand} {tys : Array TypeId} {vs : List Value} (hx : xs.map a.eval = vs) (he : (callFunc f vs.toArray).run P w = .ok (.value v) w) :
    (execOp a.eval ⟨dst, .call ⟨.value (.func f), xs.toArray, tys⟩, ty, pos, af, g⟩).run P w = .ok (.value v) w := by rw [run_call hx, he]
theorem O.call {f : FuncId} {xs : List Operand} {tys : Array TypeId} {vs : List Value} {R : Value → Seg → Prop} (hd : dst = some d) (hn : Nat.blt d n = true) (hF : Fr n env a)
    (he : ∀ args w, (callFunc f args).run P w = .ok (.enter f args) w) (hx : xs.map a.eval = vs) (hS : St w0 ks bs w) (hC : Ret P f vs w [] R)
    (h : ∀ v s a' w', R v s → Fr n ((d, v) :: env) a' → St w0 ks (s :: bs) w' → K a' w') : Oper.wp P ⟨dst, .call ⟨.value (.func f), xs.toArray, tys⟩, ty, pos, af, g⟩ a w K Q := by
  subst hd
  unfold Oper.wp
  rw [run_call hx, he, Oper.upon_enter]
  refine Calls.mono hC ?_
  rintro e w' ⟨v, s, rfl, hR, hs⟩
  exact h v s _ w' hR (hF.put hn v) (hS.comp0 hs)
def opvs (l : Env) : List Operand → Option (List Value)
  | [] => some []
  | x :: r => match opv l x, opvs l r with
    | some v, some vs => some (v :: vs)
    | _, _ => none
theorem Fr.evs {xs : List Operand} {vs : List Value} (h : Fr n env a) (hx : opvs env xs = some vs) : xs.map a.eval = vs := by
  induction xs generalizing vs with
  | nil => simp [opvs] at hx; simp [hx]
  | cons x r ih =>
    simp only [opvs] at hx
    cases h1 : opv env x with
    | none => rw [h1] at hx; simp at hx
    | some v =>
      cases h2 : opvs env r with
      | none => rw [h1, h2] at hx; simp at hx
      | some us =>
        rw [h1, h2] at hx
        simp only [Option.some.injEq] at hx
        rw [List.map_cons, h.ev h1, ih h2, hx]
def opvp (l : Env) : List (Nat × Operand) → Option (List (Nat × Value))
  | [] => some []
  | x :: r => match opv l x.2, opvp l r with
    | some v, some vs => some ((x.1, v) :: vs)
    | _, _ => none
theorem Fr.evp {xs : List (Nat × Operand)} {vs : List (Nat × Value)} (h : Fr n env a) (hx : opvp env xs = some vs) : xs.map (fun p => (p.1, a.eval p.2)) = vs := by
  induction xs generalizing vs with
  | nil => simp [opvp] at hx; simp [hx]
  | cons x r ih =>
    simp only [opvp] at hx
    cases h1 : opv env x.2 with
    | none => rw [h1] at hx; simp at hx
    | some v =>
      cases h2 : opvp env r with
      | none => rw [h1, h2] at hx; simp at hx
      | some us =>
        rw [h1, h2] at hx
        simp only [Option.some.injEq] at hx
        rw [List.map_cons, h.ev h1, ih h2, hx]
theorem R.build {xs : List (Nat × Operand)} {ps : List (Nat × Value)} (hx : xs.map (fun p => (p.1, a.eval p.2)) = ps) (hb : ∀ w, (Instr.build T ps.toArray).run P w = .ok v w) :
    (execOp a.eval ⟨dst, .build T xs.toArray, ty, pos, af, g⟩).run P w = .ok (.value v) w := by
  have : xs.toArray.map (fun (p : Nat × Operand) => (p.1, a.eval p.2)) = ps.toArray := by rw [← hx]; simp
  simp only [execOp]
  rw [show (xs.toArray.map fun (x : Nat × Operand) => match x with | (i, x) => (i, a.eval x)) = ps.toArray from this]
  simp only [hb, Sem.run_bind, Result.andThen_ok, Sem.run_pure]
theorem R.len {t : TypeId} {tys : List TypeId} {A : Option Addr} {m c : Nat} (hT : P.underlying t = some (.slice E)) (hx : a.eval x = .slice A m c) :
    (execOp a.eval ⟨dst, .call ⟨.builtin .len, [x].toArray, (t :: tys).toArray⟩, ty, pos, af, g⟩).run P w = .ok (.value (.int .i64 (m : Int))) w := by
  simp [execOp, resolve, invoke, builtin, Builtin.len_, hx, run_underlying hT, goInt, Sem.run_bind, Result.andThen_ok]
theorem R.lenS {t : TypeId} {tys : List TypeId} {s : ByteArray} (hT : P.underlying t = some .string) (hx : a.eval x = .string s) :
    (execOp a.eval ⟨dst, .call ⟨.builtin .len, [x].toArray, (t :: tys).toArray⟩, ty, pos, af, g⟩).run P w = .ok (.value (.int .i64 (s.size : Int))) w := by
  simp [execOp, resolve, invoke, builtin, Builtin.len_, hx, run_underlying hT, goInt, Sem.run_bind, Result.andThen_ok]
inductive ResEv (P : Program) (a : Act) (w : World) : List ResultVar → List Value → Prop
  | nil : ResEv P a w [] []
  | tmp {t : Nat} {v : Value} {rs : List ResultVar} {vs : List Value} (h : a.tmps.getD t undef = v) (hr : ResEv P a w rs vs) : ResEv P a w (.tmp t :: rs) (v :: vs)
  | cell {p : Nat} {X : Addr} {T : TypeId} {v : Value} {rs : List ResultVar} {vs : List Value} (h : a.tmps.getD p undef = .pointer (some X)) (hl : (loadVar T X).run P w = .ok v w) (hr : ResEv P a w rs vs) : ResEv P a w (.cell p T :: rs) (v :: vs)
def retVal : List Value → Value
  | [v] => v
  | vs => .tuple vs.toArray
def resOne (a : Act) : ResultVar → Sem Value
  | .tmp t => pure (a.tmps.getD t undef)
  | .cell p t => do loadVar t (← asAddr (a.tmps.getD p undef))
theorem run_results {fn : Func} {rs : List ResultVar} {vs : List Value} (hr : fn.results = rs.toArray) (h : ResEv P a w rs vs) : (results fn a.tmps).run P w = .ok (retVal vs) w := by
  have key : (rs.mapM (resOne a)).run P w = .ok vs w := by
    clear hr
    induction h with
    | nil => simp
    | tmp h _ ih => simp only [List.mapM_cons, Sem.run_bind, resOne, Sem.run_pure, h, ih, Result.andThen_ok]
    | @cell p X T v rs vs h hl _ ih =>
      have h2 : (resOne a (.cell p T)).run P w = .ok v w := by
        have h3 : (asAddr (.pointer (some X))).run P w = .ok X w := rfl
        simp only [resOne, Sem.run_bind, h, h3, hl, Result.andThen_ok]
      simp only [List.mapM_cons, Sem.run_bind, Sem.run_pure, h2, ih, Result.andThen_ok]
  have e : results fn a.tmps = (do let vs ← rs.toArray.mapM (resOne a); pure (if h : vs.size = 1 then vs[0] else .tuple vs)) := by
    unfold results; rw [hr]; rfl
  rw [e, List.mapM_toArray]
  have e2 : (List.toArray <$> rs.mapM (resOne a)).run P w = .ok vs.toArray w := by
    have : (List.toArray <$> rs.mapM (resOne a)) = (do let l ← rs.mapM (resOne a); pure l.toArray) := rfl
    rw [this]
    simp only [Sem.run_bind, key, Result.andThen_ok, Sem.run_pure]
  simp only [Sem.run_bind, e2, Result.andThen_ok, Sem.run_pure]
  congr 1
  match vs with
  | [] => simp [retVal]
  | [v] => simp [retVal]
  | u :: v :: r => simp [retVal]
theorem ResEv.t {t : Nat} {v : Value} {rs : List ResultVar} {vs : List Value} (hF : Fr n env a) (h : look env t = some v) (hr : ResEv P a w rs vs) : ResEv P a w (.tmp t :: rs) (v :: vs) := .tmp (hF.get _ _ h) hr
theorem ResEv.cw {p : Nat} {T : TypeId} {rs : List ResultVar} {vs : List Value} (hF : Fr n env a) (h : look env p = some (.pointer (some ⟨b, 0, none⟩))) (hT : aggT P T = true) (hS : St w0 ks bs w) (hb : HasB bs b (Cel l E)) {m : Nat} (hs : szT P T m) (hm : l.length = m)
    (hr : ResEv P a w rs vs) : ResEv P a w (.cell p T :: rs) (.agg l.toArray :: vs) :=
  .cell (hF.get _ _ h) (run_loadVarA hT (hm ▸ hs) fun j v hj => by rw [addr_add, cell_Cel (hS.get hb), Nat.zero_add]; exact hj) hr
theorem fn_start {f : FuncId} {fn : Func} {c : Code} {vs : List Value} {N : Nat} {R : Ending → World → Prop} (hf : P.funcs[f]? = some fn) (hb : fn.body = some c) (hN : fn.ntmps = N) (hsz : Nat.ble vs.length N = true) (env : Env)
    (he : AllLook (vs.zipIdx.map fun p => (p.2, p.1)) env)
    (h : ∀ (Q : Exit → Act → World → Prop) (a : Act), PanicOk Q → Fr N env a →
      (∀ n' env' a' w' v, Fr n' env' a' → (results fn a'.tmps).run P w' = .ok v w' → R (.returned v) w' → Q .ret a' w') →
      (∀ n' env' a' w' v, Fr n' env' a' → (results fn a'.tmps).run P w' = .ok v w' → R (.returned v) w' → Q .normal a' w') → c.wp P Q a w) : Calls P f vs.toArray w R := by
  refine calls_of_wp hf hb ?_
  rw [hN]
  refine h _ _ PanicOk.body (Fr.start (by simpa using Nat.le_of_ble_eq_true hsz) he) ?_ ?_
  · intro n' env' a' w' v hF hr hR; exact ⟨hF.defs, v, hr, hR⟩
  · intro n' env' a' w' v hF hr hR; exact ⟨hF.defs, v, hr, hR⟩
end
section
variable {P : Program} {ops : Array Oper} {Q : Exit → Act → World → Prop} {a : Act} {w w0 : World} {ks : List Nat} {bs bs' : List Seg}
theorem wp_drawS {id : Nat} (hS : St w0 ks bs w) (full : List (Nat × Nat)) (hm : P.follows .mixedOrders = true) (hc : drawOK ops full = true) (hQ : PanicOk Q)
    (h : ∀ w, St w0 ks bs w → WL P ops Q (St w0 ks bs) (Q .normal) full a w) : (Code.region id ops true).wp P Q a w :=
  wp_draw _ full hm hc hQ (h _ hS.drew)
theorem wp_drawG {bd : List Seg} {id : Nat} (hS : St w0 ks bs w) (hD : St w0 ks bd w) (full : List (Nat × Nat)) (hm : P.follows .mixedOrders = true) (hc : drawOK ops full = true) (hQ : PanicOk Q)
    (h : ∀ w, St w0 ks bs w → St w0 ks bd w → WL P ops Q (St w0 ks bd) (Q .normal) full a w) : (Code.region id ops true).wp P Q a w :=
  wp_draw _ full hm hc hQ (h _ hS.drew hD.drew)
theorem wp_draw2G {bd : List Seg} {id : Nat} (hS : St w0 ks bs w) (hD : St w0 ks bd w) (pre : List (Nat × Nat)) (alts : List (List (Nat × Nat))) (hm : P.follows .mixedOrders = true) (hc : drawOK2 ops pre alts = true) (hQ : PanicOk Q)
    (h : ∀ w, St w0 ks bs w → St w0 ks bd w → WL P ops Q (St w0 ks bd) (fun a w => ∀ l ∈ alts, WL P ops Q (St w0 ks bd) (Q .normal) l a w) pre a w) : (Code.region id ops true).wp P Q a w :=
  wp_draw2 _ pre alts hm hc hQ (h _ hS.drew hD.drew)
theorem alts2 {R : List (Nat × Nat) → Prop} {l1 l2 : List (Nat × Nat)} (h1 : R l1) (h2 : R l2) : ∀ l ∈ [l1, l2], R l := by
  intro l hl
  simp only [List.mem_cons, List.not_mem_nil, or_false] at hl
  rcases hl with rfl | rfl
  · exact h1
  · exact h2
def selS (bs : List Seg) : List Nat → List Seg
  | [] => []
  | i :: r => bs.getD i [] :: selS bs r
theorem mem_selS : ∀ (idx : List Nat) (p : Nat × Obj), p ∈ (selS bs idx).flatten → ∃ i ∈ idx, p ∈ bs.getD i []
  | [], p, h => by simp [selS] at h
  | i :: r, p, h => by
    simp only [selS, List.flatten_cons, List.mem_append] at h
    rcases h with h | h
    · exact ⟨i, by simp, h⟩
    · obtain ⟨j, hj, hp⟩ := mem_selS r p h
      exact ⟨j, by simp [hj], hp⟩
theorem mem_getD {p : Nat × Obj} {i : Nat} (h : p ∈ bs.getD i []) : p ∈ bs.flatten := by
  rw [List.getD_eq_getElem?_getD] at h
  cases hi : bs[i]? with
  | none => rw [hi] at h; simp at h
  | some s =>
    rw [hi] at h
    simp only [Option.getD_some] at h
    exact List.mem_flatten.2 ⟨s, List.mem_of_getElem? hi, h⟩
theorem apart_getD (hn : (keys bs).Nodup) {p q : Nat × Obj} {i j : Nat} (hp : p ∈ bs.getD i []) (hq : q ∈ bs.getD j []) (hij : i ≠ j) : p.1 ≠ q.1 := by
  induction bs generalizing i j with
  | nil => simp at hp
  | cons s bs ih =>
    simp only [keys, List.flatten_cons, List.map_append] at hn
    rw [List.nodup_append] at hn
    match i, j with
    | 0, 0 => exact absurd rfl hij
    | 0, j + 1 =>
      simp only [List.getD_cons_zero, List.getD_cons_succ] at hp hq
      exact hn.2.2 _ (List.mem_map_of_mem hp) _ (List.mem_map_of_mem (mem_getD hq))
    | i + 1, 0 =>
      simp only [List.getD_cons_zero, List.getD_cons_succ] at hp hq
      exact fun e => hn.2.2 _ (List.mem_map_of_mem hq) _ (List.mem_map_of_mem (mem_getD hp)) e.symm
    | i + 1, j + 1 =>
      simp only [List.getD_cons_succ] at hp hq
      exact ih hn.2.1 hp hq (by omega)
theorem nodup_getD (hn : (keys bs).Nodup) (i : Nat) : ((bs.getD i []).map (·.1)).Nodup := by
  induction bs generalizing i with
  | nil => simp
  | cons s bs ih =>
    simp only [keys, List.flatten_cons, List.map_append] at hn
    rw [List.nodup_append] at hn
    match i with
    | 0 => simpa using hn.1
    | i + 1 => simpa using ih hn.2.1 i
theorem nodup_selS (hn : (keys bs).Nodup) : ∀ (idx : List Nat), allDiff idx = true → (keys (selS bs idx)).Nodup
  | [], _ => by simp [selS, keys]
  | i :: r, h => by
    simp only [allDiff, Bool.and_eq_true] at h
    have ih := nodup_selS hn r h.2
    simp only [selS, keys, List.flatten_cons, List.map_append]
    rw [List.nodup_append]
    refine ⟨nodup_getD hn i, ih, ?_⟩
    intro x hx y hy
    obtain ⟨p, hp, rfl⟩ := List.mem_map.1 hx
    obtain ⟨q, hq, rfl⟩ := List.mem_map.1 hy
    obtain ⟨j, hj, hq⟩ := mem_selS r q hq
    refine apart_getD hn hp hq ?_
    have := List.all_eq_true.1 h.1 j hj
    rintro rfl
    simp at this
theorem St.sel (h : St w0 ks bs w) (idx : List Nat) (hd : allDiff idx = true) (he : selS bs idx = bs') : St w0 ks bs' w := by
  subst he
  refine h.pick (fun p hp => ?_) (nodup_selS h.nodup idx hd)
  obtain ⟨i, _, hp⟩ := mem_selS idx p hp
  exact mem_getD hp
end
section
variable {P : Program} {Q : Exit → Act → World → Prop} {a : Act} {w : World} {n t : Nat} {env : Env} {c : Code}
theorem wp_loop_N (I : Nat → Act → World → Prop) (g : Nat) (h0 : I g a w)
    (round : ∀ (K : Act → World → Prop), ∀ g a w, I g a w → (∀ g' a' w', g' < g → I g' a' w' → K a' w') → c.wp P (Exit.then K Q) a w) : (Code.loop c).wp P Q a w := wp_loop_I I (fun g => g) g h0 round
theorem Fr.splitB {G : Prop} {b : Bool} (hF : Fr n env a) (hx : look env t = some (.bool b)) (hT : b = true → Fr n ((t, .bool true) :: env) a → G) (hN : b = false → Fr n ((t, .bool false) :: env) a → G) : G := by
  have key : ∀ u, some u = look env t → Fr n ((t, u) :: env) a := fun u hu => ⟨hF.size, hF.defs, fun s v hv => by
    simp only [look] at hv
    cases hb : Nat.beq t s
    · rw [hb] at hv; exact hF.get s v hv
    · rw [hb] at hv
      have : t = s := Nat.eq_of_beq_eq_true hb
      subst this
      simp only [cond_true] at hv
      exact hF.get t v (hu ▸ hv)⟩
  cases b
  · exact hN rfl (key _ hx.symm)
  · exact hT rfl (key _ hx.symm)
theorem Fr.splitD {G : Prop} {p : Prop} [Decidable p] (hF : Fr n env a) (hx : look env t = some (.bool (decide p))) (hT : p → Fr n ((t, .bool true) :: env) a → G) (hN : ¬ p → Fr n ((t, .bool false) :: env) a → G) : G :=
  hF.splitB hx (fun h => hT (of_decide_eq_true h)) (fun h => hN (of_decide_eq_false h))
variable {ρ : Operand → Value} {dst : Option Tmp} {ty : TypeId} {pos : String} {af : Array Edge} {g : Option (Nat × Bool)} {x y z : Operand} {T : TypeId}
theorem R.notD {p : Prop} [Decidable p] (h : ρ x = .bool (decide p)) : (execOp ρ ⟨dst, .unOp .not T x, ty, pos, af, g⟩).run P w = .ok (.value (.bool (decide (¬ p)))) w := R.as (R.not h) (by simp)
theorem getAt {l cs : List Value} {off : Nat} (h : (l.drop off).take cs.length = cs) : ∀ j v, cs[j]? = some v → l[off + j]? = some v := by
  intro j v hj
  rw [← h, List.getElem?_take] at hj
  split at hj
  · rw [List.getElem?_drop] at hj; exact hj
  · simp at hj
end
section
variable {P : Program} {a : Act} {w : World} {dst : Option Tmp} {ty : TypeId} {pos : String} {af : Array Edge} {g : Option (Nat × Bool)} {T E : TypeId}
def fillL (place : Nat → Option (Nat × Nat)) (cells : List Value) : List (Nat × Value) → Option (List Value)
  | [] => some cells
  | (i, v) :: rest => match place i with
    | none => none
    | some (off, size) => match v with
      | .agg cs => bif Nat.beq cs.toList.length size && Nat.ble (off + cs.toList.length) cells.length then fillL place (spl cells off cs.toList) rest else none
      | v => bif Nat.beq 1 size && Nat.blt off cells.length then fillL place (cells.set off v) rest else none
theorem foldl_zip (off : Nat) : ∀ (vs : List Value) (k : Nat) (l : List Value), off + k + vs.length ≤ l.length → (vs.zipIdx k).foldl (fun cs (p : Value × Nat) => cs.setIfInBounds (off + p.2) p.1) l.toArray = (spl l (off + k) vs).toArray
  | [], k, l, _ => by simp [spl_nil]
  | v :: vs, k, l, h => by
    simp only [List.length_cons] at h
    simp only [List.zipIdx_cons, List.foldl_cons, List.setIfInBounds_toArray]
    rw [foldl_zip off vs (k + 1) (l.set (off + k) v) (by simp; omega), show off + (k + 1) = off + k + 1 from by omega, spl_cons _ _ _ _ (by omega)]
theorem fill_L (place : Nat → Option (Nat × Nat)) : ∀ (ps : List (Nat × Value)) (cells l : List Value), fillL place cells ps = some l → Instr.fill place cells.toArray ps = some l.toArray := by
  intro ps
  induction ps with
  | nil => intro cells l h; simp [fillL] at h; simp [Instr.fill, h]
  | cons p rest ih =>
    intro cells l h
    obtain ⟨i, v⟩ := p
    simp only [fillL] at h
    simp only [Instr.fill]
    cases hp : place i with
    | none => rw [hp] at h; simp at h
    | some q =>
      obtain ⟨off, size⟩ := q
      rw [hp] at h
      have one : ∀ u : Value, u.cells = #[u] → (bif Nat.beq 1 size && Nat.blt off cells.length then fillL place (cells.set off u) rest else none) = some l →
          (if u.cells.size ≠ size || off + u.cells.size > cells.toArray.size then none else Instr.fill place (u.cells.zipIdx.foldl (fun cs (x : Value × Nat) => cs.setIfInBounds (off + x.2) x.1) cells.toArray) rest) = some l.toArray := by
        intro u hu h'
        cases hb : (Nat.beq 1 size && Nat.blt off cells.length) with
        | false => rw [hb] at h'; simp at h'
        | true =>
          rw [hb] at h'
          simp only [cond_true] at h'
          simp only [Bool.and_eq_true] at hb
          have h1 := Nat.eq_of_beq_eq_true hb.1
          have h2 : off < cells.length := Nat.le_of_ble_eq_true hb.2
          subst h1
          have e : u.cells.zipIdx.foldl (fun cs (x : Value × Nat) => cs.setIfInBounds (off + x.2) x.1) cells.toArray = (cells.set off u).toArray := by rw [hu]; simp
          rw [e, hu, if_neg (by simp; omega)]
          exact ih _ _ h'
      match v, h with
      | .agg cs, h =>
        simp only at h
        cases hb : (Nat.beq cs.toList.length size && Nat.ble (off + cs.toList.length) cells.length) with
        | false => rw [hb] at h; simp at h
        | true =>
          rw [hb] at h
          simp only [Bool.and_eq_true] at hb
          have h1 := Nat.eq_of_beq_eq_true hb.1
          have h2 := Nat.le_of_ble_eq_true hb.2
          have e : (Value.agg cs).cells.zipIdx.foldl (fun cs (x : Value × Nat) => cs.setIfInBounds (off + x.2) x.1) cells.toArray = (spl cells off cs.toList).toArray := by
            have := foldl_zip off cs.toList 0 cells (by simpa using h2)
            rw [Nat.add_zero] at this
            rw [← this]
            simp only [Value.cells]
            rw [← Array.foldl_toList]
            simp
          simp only [Array.length_toList] at h1 h2
          simp only []
          rw [e]
          have h3 : ¬ (decide ((Value.agg cs).cells.size ≠ size) || decide (off + (Value.agg cs).cells.size > cells.toArray.size)) = true := by
            simp [Value.cells, h1]; omega
          rw [if_neg h3]
          exact ih _ _ (by simpa using h)
      | .bool _, h => exact one _ rfl h
      | .int _ _, h => exact one _ rfl h
      | .float _ _, h => exact one _ rfl h
      | .complex _ _ _, h => exact one _ rfl h
      | .string _, h => exact one _ rfl h
      | .pointer _, h => exact one _ rfl h
      | .slice _ _ _, h => exact one _ rfl h
      | .map _, h => exact one _ rfl h
      | .chan _, h => exact one _ rfl h
      | .func _ _ _, h => exact one _ rfl h
      | .nilFunc, h => exact one _ rfl h
      | .iface _ _, h => exact one _ rfl h
      | .nilIface, h => exact one _ rfl h
      | .tuple _, h => exact one _ rfl h
theorem R.buildArr {xs : List (Nat × Operand)} {ps : List (Nat × Value)} {zs l : List Value} {len sz : Nat} (hT : P.underlying T = some (.array len E)) (hz : zeT P T (.agg zs.toArray)) (hs : szT P E sz)
    (hx : xs.map (fun p => (p.1, a.eval p.2)) = ps) (hl : fillL (fun i => some (i * sz, sz)) zs ps = some l) :
    (execOp a.eval ⟨dst, .build T xs.toArray, ty, pos, af, g⟩).run P w = .ok (.value (.agg l.toArray)) w := by
  refine R.build hx fun w => ?_
  have hzv : (zeroValue T).run P w = .ok (.agg zs.toArray) w := by
    unfold zeT at hz
    cases hi : P.info? T with
    | none => rw [hi] at hz; simp at hz
    | some inf => rw [hi] at hz; simp at hz; simp [zeroValue, typeInfo, hi, hz, Sem.run_bind, Result.andThen_ok]
  have := fill_L _ _ _ _ hl
  simp only [Instr.build, Sem.run_bind, hzv, Result.andThen_ok, Value.cells, run_underlying hT, run_sizeOf' hs, this, Sem.run_pure]
def fldsOf (P : Program) (T : TypeId) : Array Field := match P.underlying T with | some (.struct fs) => fs | _ => #[]
theorem R.buildStr {xs : List (Nat × Operand)} {ps : List (Nat × Value)} {zs l : List Value} {fs : Array Field} {pl : List (Nat × Nat)} (hT : P.underlying T = some (.struct fs)) (hz : zeT P T (.agg zs.toArray))
    (hp' : ∀ w, ((fldsOf P T).mapM (m := Sem) fun f => do pure (f.offset, ← sizeOf f.type)).run P w = .ok pl.toArray w)
    (hx : xs.map (fun p => (p.1, a.eval p.2)) = ps) (hl : fillL (fun i => pl[i]?) zs ps = some l) :
    (execOp a.eval ⟨dst, .build T xs.toArray, ty, pos, af, g⟩).run P w = .ok (.value (.agg l.toArray)) w := by
  refine R.build hx fun w => ?_
  have hzv : (zeroValue T).run P w = .ok (.agg zs.toArray) w := by
    unfold zeT at hz
    cases hi : P.info? T with
    | none => rw [hi] at hz; simp at hz
    | some inf => rw [hi] at hz; simp at hz; simp [zeroValue, typeInfo, hi, hz, Sem.run_bind, Result.andThen_ok]
  have hp : ∀ w, (fs.mapM (m := Sem) fun f => do pure (f.offset, ← sizeOf f.type)).run P w = .ok pl.toArray w := by
    have e : fldsOf P T = fs := by simp [fldsOf, hT]
    rw [e] at hp'; exact hp'
  have h2 : Instr.fill (fun i => pl.toArray[i]?) zs.toArray ps = some l.toArray := fill_L _ _ _ _ (by simpa using hl)
  simp only [Instr.build, Sem.run_bind, hzv, Result.andThen_ok, Value.cells, run_underlying hT, hp, h2, Sem.run_pure]
end
end Go.Fw
end
section
namespace Go.Fw
open Go.RowKit
def infT (P : Program) (E : TypeId) (z : Value) (sz by_ : Nat) : Prop := (P.info? E).map (fun i => (i.zero, i.size, i.bytes)) = some (some z, sz, by_)
def OwnS (s : Seg) (A : Option Addr) (n c : Nat) (cells : List Value) (E : TypeId) (sz : Nat) : Prop :=
  cells.length = n * sz ∧ n ≤ c ∧ ((A = none ∧ c = 0 ∧ s = []) ∨ ∃ g rest, A = some ⟨g, 0, none⟩ ∧ s = [(g, Cel (cells ++ rest) E)] ∧ (cells ++ rest).length = c * sz ∧ c ≤ maxLen)
section
variable {P : Program} {ops : Array Oper} {Q : Exit → Act → World → Prop} {a : Act} {w w' w0 : World} {n m c c2 sz by_ : Nat} {N : Nat} {env : Env} {d : Nat} {v z : Value} {K : Act → World → Prop}
variable {ρ : Operand → Value} {dst : Option Tmp} {ty : TypeId} {pos : String} {af : Array Edge} {g : Option (Nat × Bool)} {x y : Operand} {T E : TypeId}
variable {ks : List Nat} {bs bs' : List Seg} {b off : Nat} {l l' cs cells news : List Value} {A B : Option Addr} {s : Seg}
theorem infT.get (h : infT P E z sz by_) : ∃ i, P.info? E = some i ∧ i.zero = some z ∧ i.size = sz ∧ i.bytes = by_ := by
  unfold infT at h
  cases hi : P.info? E with
  | none => rw [hi] at h; simp at h
  | some i => rw [hi] at h; simp at h; exact ⟨i, rfl, h.1, h.2.1, h.2.2⟩
theorem infT.szT (h : infT P E z sz by_) : Fw.szT P E sz := by
  obtain ⟨i, h1, _, h2, _⟩ := h.get
  simp [Fw.szT, h1, h2]
theorem OwnS.nil (E : TypeId) (sz : Nat) : OwnS [] none 0 0 [] E sz := ⟨by simp, Nat.le_refl _, .inl ⟨rfl, rfl, rfl⟩⟩
theorem OwnS.mk {g : Nat} {rest : List Value} (h1 : cells.length = n * sz) (h2 : n ≤ c) (h3 : (cells ++ rest).length = c * sz) (h4 : c ≤ maxLen) : OwnS [(g, Cel (cells ++ rest) E)] (some ⟨g, 0, none⟩) n c cells E sz := ⟨h1, h2, .inr ⟨g, rest, rfl, rfl, h3, h4⟩⟩
theorem OwnS.take {k : Nat} (h : OwnS s A n c cells E sz) (hk : k ≤ n) : OwnS s A k c (cells.take (k * sz)) E sz := by
  obtain ⟨h1, h2, h3⟩ := h
  refine ⟨by rw [List.length_take, h1]; exact Nat.min_eq_left (Nat.mul_le_mul_right _ hk), by omega, ?_⟩
  rcases h3 with h3 | ⟨g, rest, rfl, rfl, h4, h5⟩
  · exact .inl h3
  · refine .inr ⟨g, cells.drop (k * sz) ++ rest, rfl, ?_, ?_, h5⟩
    · rw [← List.append_assoc, List.take_append_drop]
    · rw [← List.append_assoc, List.take_append_drop, h4]
theorem OwnS.rd (h : OwnS s A n c cells E sz) (hS : St w0 ks bs w) (hs : HasS bs s) : Rd w A cells := by
  obtain ⟨h1, h2, h3⟩ := h
  rcases h3 with ⟨rfl, h4, rfl⟩ | ⟨g, rest, rfl, rfl, h4, h5⟩
  · have : cells = [] := List.eq_nil_of_length_eq_zero (by rw [h1]; have : n = 0 := by omega
                                                           simp [this])
    subst this; exact Rd.nil _ _
  · intro j v hj
    refine ⟨_, rfl, ?_⟩
    have hb := hS.own (g, Cel (cells ++ rest) E) (List.mem_flatten.2 ⟨_, hs.mem, by simp⟩)
    rw [addr_add, cell_Cel hb, Nat.zero_add]
    have hlt := (List.getElem?_eq_some_iff.1 hj).1
    rw [List.getElem?_append_left hlt]; exact hj
theorem Rd.ne (h : Rd w A cs) (hp : 0 < cs.length) : A ≠ none := by
  obtain ⟨a, ha, _⟩ := h 0 cs[0] (by simp [hp])
  rw [ha]; simp
theorem R.sliceHi {p : Int} {k : IntKind} (hT : P.underlying T = some (.slice E)) (hx : ρ x = .slice A n c) (hy : ρ y = .int k p) (h0 : 0 ≤ p) (h1 : p ≤ c) :
    ∀ w, szT P E sz → (execOp ρ ⟨dst, .slice T x none (some y) none, ty, pos, af, g⟩).run P w = .ok (.value (.slice A p.toNat c)) w := by
  intro w hs
  have e : (if c = 0 then A else A.map (·.add (0 * sz))) = A := by
    cases A with
    | none => simp
    | some a => simp [Addr.add]
  simp only [execOp, hx, hy, Option.map_none, Option.map_some, Instr.sliceAt, Instr.slice, run_underlying hT, Instr.sliceBounds, Instr.sliceBound, asIntOf, run_sizeOf' hs, h0, h1, and_self, if_true,
    Sem.run_bind, Sem.run_pure, Result.andThen_ok, e, Nat.sub_zero]
def zeros (zs : List Value) (n : Nat) : List Value := (List.replicate n zs).flatten
theorem length_zeros (zs : List Value) (n : Nat) : (zeros zs n).length = n * zs.length := by simp [zeros, List.length_flatten]
theorem zeros_1 (z : Value) (n : Nat) : zeros [z] n = List.replicate n z := by
  induction n with
  | zero => rfl
  | succ n ih => simp only [zeros, List.replicate_succ, List.flatten_cons] at *; rw [ih]; rfl
theorem get_zeros (zs : List Value) : ∀ (n i : Nat), i < n * zs.length → (zeros zs n)[i]? = zs[i % zs.length]?
  | 0, i, h => by simp at h
  | n + 1, i, h => by
    simp only [zeros, List.replicate_succ, List.flatten_cons]
    by_cases hi : i < zs.length
    · rw [List.getElem?_append_left hi, Nat.mod_eq_of_lt hi]
    · rw [List.getElem?_append_right (by omega)]
      have := get_zeros zs n (i - zs.length) (by rw [Nat.succ_mul] at h; omega)
      simp only [zeros] at this
      rw [this, ← Nat.mod_eq_sub_mod (by omega)]
theorem made_zeros (zs : List Value) (n : Nat) : madeCells zs.toArray (n * zs.length) = (zeros zs n).toArray := by
  apply Array.ext_getElem?
  intro i
  simp only [madeCells, Array.getElem?_map, List.getElem?_toArray]
  by_cases h : i < n * zs.length
  · have hpos : 0 < zs.length := by
      rcases Nat.eq_zero_or_pos zs.length with h0 | h0
      · rw [h0] at h; simp at h
      · exact h0
    have hm := Nat.mod_lt i hpos
    rw [get_zeros zs n i h]
    simp [h, hm]
  · have h1 : (zeros zs n)[i]? = none := by rw [List.getElem?_eq_none]; rw [length_zeros]; omega
    rw [h1]
    simp [h]
theorem zero_zeros (zs : List Value) (n : Nat) : Builtin.zeroCells zs.toArray n = (zeros zs n).toArray := by
  have := made_zeros zs n
  simpa [madeCells, Builtin.zeroCells] using this
theorem O.makeSlice {k1 k2 : IntKind} {p q : Int} {zs : List Value} (hd : dst = some d) (hn : Nat.blt d N = true) (hF : Fr N env a) (hT : P.underlying T = some (.slice E)) (hi : infT P E z sz by_) (hz : z.cells = zs.toArray) (hzl : zs.length = sz)
    (hx : a.eval x = .int k1 p) (hy : a.eval y = .int k2 q) (h0 : 0 ≤ p) (h1 : p ≤ q) (h2 : (by_ : Int) * q ≤ 281474976710656) (h3 : q ≤ 9223372036854775807) (hS : St w0 ks bs w)
    (h : ∀ b a' w', Fr N ((d, .slice (some ⟨b, 0, none⟩) p.toNat q.toNat) :: env) a' → St w0 ks ([(b, Cel (zeros zs q.toNat) E)] :: bs) w' → K a' w') : Oper.wp P ⟨dst, .makeSlice T x y, ty, pos, af, g⟩ a w K Q := by
  subst hd
  obtain ⟨i, e1, e2, e3, e4⟩ := hi.get
  subst e3; subst e4
  have hr := run_make (P := P) w T E i z hT e1 e2 k1 k2 p q h0 h1 h2 h3
  rw [hz, ← hzl, made_zeros] at hr
  unfold Oper.wp
  have : (execOp a.eval ⟨some d, .makeSlice T x y, ty, pos, af, g⟩).run P w = .ok (.value (.slice (some ⟨w.heap.size, 0, none⟩) p.toNat q.toNat)) (w.alloc (Cel (zeros zs q.toNat) E)) := by
    simp only [execOp, hx, hy, Sem.run_bind, hr, Result.andThen_ok, Sem.run_pure]
  rw [this, Oper.upon_value]
  exact h _ _ _ (hF.put hn _) (hS.alloc _)
theorem O.buildSlice {len : Nat} {xs : List (Nat × Operand)} {ps : List (Nat × Value)} {zs : List Value} (hd : dst = some d) (hn : Nat.blt d N = true) (hF : Fr N env a) (hT : P.underlying T = some (.slice E)) (hi : infT P E z sz by_) (hz : z.cells = zs.toArray) (hzl : zs.length = sz)
    (hx : xs.map (fun p => (p.1, a.eval p.2)) = ps) (hlen : len * sz ≤ 16777216) (hl : fillL (fun i => some (i * sz, sz)) (zeros zs len) ps = some l) (hS : St w0 ks bs w)
    (h : ∀ b a' w', Fr N ((d, .slice (some ⟨b, 0, none⟩) len len) :: env) a' → St w0 ks ([(b, Cel l E)] :: bs) w' → K a' w') : Oper.wp P ⟨dst, .buildSlice T len xs.toArray, ty, pos, af, g⟩ a w K Q := by
  subst hd
  obtain ⟨i, e1, e2, e3, e4⟩ := hi.get
  have hs := hi.szT
  have hzv : (zeroValue E).run P w = .ok z w := by simp [zeroValue, typeInfo, e1, e2, Sem.run_bind, Result.andThen_ok]
  have hmade : (Array.range (len * sz)).map (fun i => zs.toArray[i % zs.toArray.size]!) = (zeros zs len).toArray := by rw [← hzl]; exact made_zeros zs len
  have h2 := fill_L _ _ _ _ hl
  have hps : xs.toArray.map (fun (p : Nat × Operand) => (p.1, a.eval p.2)) = ps.toArray := by rw [← hx]; simp
  have hb : (Instr.buildSlice T len ps.toArray).run P w = .ok (.slice (some ⟨w.heap.size, 0, none⟩) len len) (w.alloc (Cel l E)) := by
    by_cases h0 : len * sz = 0
    · have hmade' : (Array.range (len * sz)).map (fun i => (#[] : Array Value)[i % (#[] : Array Value).size]!) = (zeros zs len).toArray := by rw [← hmade, h0]; simp
      simp only [Instr.buildSlice, run_underlying hT, run_sizeOf' hs, Sem.run_bind, Result.andThen_ok, if_neg (show ¬ len * sz > 2 ^ 24 by omega), Sem.run_pure, hmade', h2, newRow, run_newObj, if_pos h0]
      rfl
    · simp only [Instr.buildSlice, run_underlying hT, run_sizeOf' hs, Sem.run_bind, Result.andThen_ok, if_neg (show ¬ len * sz > 2 ^ 24 by omega), Sem.run_pure, hzv, hz, hmade, h2, newRow, run_newObj, if_neg h0]
      rfl
  unfold Oper.wp
  have : (execOp a.eval ⟨some d, .buildSlice T len xs.toArray, ty, pos, af, g⟩).run P w = .ok (.value (.slice (some ⟨w.heap.size, 0, none⟩) len len)) (w.alloc (Cel l E)) := by
    simp only [execOp]
    rw [show (xs.toArray.map fun (x : Nat × Operand) => match x with | (i, x) => (i, a.eval x)) = ps.toArray from hps]
    simp only [Sem.run_bind, hb, Result.andThen_ok, Sem.run_pure]
  rw [this, Oper.upon_value]
  exact h _ _ _ (hF.put hn _) (hS.alloc _)
theorem RepB.mem {s' : Seg} (h : RepB bs s s' bs') : s ∈ bs := by
  induction h with
  | h => simp
  | t _ ih => simp [ih]
theorem RepB.mem' {s' : Seg} (h : RepB bs s s' bs') : ∀ p ∈ bs'.flatten, p ∈ s' ∨ p ∈ bs.flatten := by
  induction h with
  | h => intro p hp; simp only [List.flatten_cons, List.mem_append] at hp ⊢; rcases hp with hp | hp; exact .inl hp; exact .inr (.inr hp)
  | t _ ih =>
    intro p hp
    simp only [List.flatten_cons, List.mem_append] at hp ⊢
    rcases hp with hp | hp
    · exact .inr (.inl hp)
    · rcases ih p hp with h | h
      · exact .inl h
      · exact .inr (.inr h)
theorem RepB.apart {s' : Seg} (h : RepB bs s s' bs') (hn : (keys bs).Nodup) : ∀ p ∈ bs'.flatten, p ∈ s' ∨ (p ∈ bs.flatten ∧ ∀ q ∈ s, p.1 ≠ q.1) := by
  induction h with
  | @h s s' bs =>
    intro p hp
    simp only [List.flatten_cons, List.mem_append] at hp ⊢
    simp only [keys, List.flatten_cons, List.map_append] at hn
    rw [List.nodup_append] at hn
    rcases hp with hp | hp
    · exact .inl hp
    · exact .inr ⟨.inr hp, fun q hq e => hn.2.2 _ (List.mem_map_of_mem hq) _ (List.mem_map_of_mem hp) e.symm⟩
  | @t s s' t bs bs' hr ih =>
    intro p hp
    simp only [List.flatten_cons, List.mem_append] at hp ⊢
    simp only [keys, List.flatten_cons, List.map_append] at hn
    rw [List.nodup_append] at hn
    rcases hp with hp | hp
    · exact .inr ⟨.inl hp, fun q hq e => hn.2.2 _ (List.mem_map_of_mem hp) _ (List.mem_map_of_mem (List.mem_flatten.2 ⟨s, hr.mem, hq⟩)) e⟩
    · rcases ih hn.2.1 p hp with h | h
      · exact .inl h
      · exact .inr ⟨.inr h.1, h.2⟩
theorem RepB.nodup {s' : Seg} (h : RepB bs s s' bs') (hn : (keys bs).Nodup) (hs' : (s'.map (·.1)).Nodup) (hap : ∀ p ∈ s', ∀ q ∈ bs.flatten, q ∈ s ∨ p.1 ≠ q.1) (hn2 : ∀ p ∈ s', ∀ q ∈ bs.flatten, (∀ r ∈ s, q.1 ≠ r.1) → p.1 ≠ q.1) : (keys bs').Nodup := by
  induction h with
  | @h s s' bs =>
    simp only [keys, List.flatten_cons, List.map_append] at hn ⊢
    rw [List.nodup_append] at hn ⊢
    refine ⟨hs', hn.2.1, ?_⟩
    intro x hx y hy e
    obtain ⟨p, hp, rfl⟩ := List.mem_map.1 hx
    obtain ⟨q, hq, rfl⟩ := List.mem_map.1 hy
    exact hn2 p hp q (by simp [hq]) (fun r hr e2 => hn.2.2 _ (List.mem_map_of_mem hr) _ (List.mem_map_of_mem hq) e2.symm) e
  | @t s s' t bs bs' hr ih =>
    simp only [keys, List.flatten_cons, List.map_append] at hn ⊢
    rw [List.nodup_append] at hn ⊢
    refine ⟨hn.1, ih hn.2.1 hs' (fun p hp q hq => hap p hp q (by simp [hq])) (fun p hp q hq => hn2 p hp q (by simp [hq])), ?_⟩
    intro x hx y hy e
    obtain ⟨p, hp, rfl⟩ := List.mem_map.1 hx
    obtain ⟨q, hq, rfl⟩ := List.mem_map.1 hy
    rcases hr.apart hn.2.1 q hq with h | h
    · exact hn2 q h p (by simp [hp]) (fun r hr' e2 => hn.2.2 _ (List.mem_map_of_mem hp) _ (List.mem_map_of_mem (List.mem_flatten.2 ⟨s, hr.mem, hr'⟩)) e2) e.symm
    · exact hn.2.2 _ (List.mem_map_of_mem hp) _ (List.mem_map_of_mem h.1) e
theorem St.rep {s' : Seg} (h : St w0 ks bs w) (hr : RepB bs s s' bs') (hos : w'.os = w.os) (htape : w'.tape = w.tape) (hout : w'.output = w.output) (hsize : w.heap.size ≤ w'.heap.size)
    (hkeep : ∀ k, k < w.heap.size → (∀ q ∈ s, k ≠ q.1) → w'.heap[k]? = w.heap[k]?) (hown : ∀ p ∈ s', w'.heap[p.1]? = some p.2) (hs' : (s'.map (·.1)).Nodup)
    (hpl : ∀ p ∈ s', w.heap.size ≤ p.1 ∨ ∃ q ∈ s, p.1 = q.1) : St w0 ks bs' w' := by
  have hq : ∀ q ∈ s, q ∈ bs.flatten := fun q hq => List.mem_flatten.2 ⟨s, hr.mem, hq⟩
  refine ⟨hos.trans h.os, htape.trans h.tape, hout.trans h.output, Nat.le_trans h.size hsize, ?_, ?_, ?_, ?_⟩
  · intro k hk hks
    rw [hkeep k (Nat.lt_of_lt_of_le hk h.size) (fun q hqs e => ?_)]
    · exact h.keep k hk hks
    · rcases h.place q (hq q hqs) with h1 | h1
      · omega
      · exact hks (e ▸ h1)
  · intro p hp
    rcases hr.apart h.nodup p hp with h1 | ⟨h1, h2⟩
    · exact hown p h1
    · rw [hkeep p.1 (h.lt h1) h2]; exact h.own p h1
  · intro p hp
    rcases hr.mem' p hp with h1 | h1
    · rcases hpl p h1 with h2 | ⟨q, hqs, e⟩
      · exact .inl (Nat.le_trans h.size h2)
      · rw [e]; exact h.place q (hq q hqs)
    · exact h.place p h1
  · refine hr.nodup h.nodup hs' ?_ ?_
    · intro p hp q hqb
      by_cases hqs : q ∈ s
      · exact .inl hqs
      · refine .inr fun e => ?_
        rcases hpl p hp with h2 | ⟨r, hrs, e2⟩
        · have := h.lt hqb; omega
        · have h3 := h.own q hqb
          have h4 := h.own r (hq r hrs)
          rw [← e, e2, h4] at h3
          apply hqs
          have : q = r := Prod.ext (by omega) (by simpa using h3.symm)
          rw [this]; exact hrs
    · intro p hp q hqb hap e
      rcases hpl p hp with h2 | ⟨r, hrs, e2⟩
      · have := h.lt hqb; omega
      · exact hap r hrs (by omega)
theorem O.append {t : TypeId} {zs : List Value} {ad : Addr} {f : Seg → List Seg} (hd : dst = some d) (hn : Nat.blt d N = true) (hF : Fr N env a) (hT : P.underlying t = some (.slice E)) (hi : infT P E z sz by_) (hz : z.cells = zs.toArray) (hzl : zs.length = sz) (hpos : 0 < sz)
    (hx : a.eval x = .slice A n c) (hy : a.eval y = .slice (some ad) m c2) (hS : St w0 ks bs w) (hO : OwnS s A n c cells E sz) (hr : ∀ s', RepB bs s s' (f s'))
    (hB : Rd w (some ad) news) (hl : news.length = m * sz) (h1 : ∀ u ∈ news, u.oneCell' = true) (h63 : n + m ≤ maxLen) (hby : (n + m) * by_ ≤ 140737488355328)
    (h : ∀ A' c' s' a' w', OwnS s' A' (n + m) c' (cells ++ news) E sz → Fr N ((d, .slice A' (n + m) c') :: env) a' → St w0 ks (f s') w' → K a' w') :
    Oper.wp P ⟨dst, .call ⟨.builtin .append, [x, y].toArray, #[t, t]⟩, ty, pos, af, g⟩ a w K Q := by
  subst hd
  obtain ⟨i, e1, e2, e3, e4⟩ := hi.get
  subst e3; subst e4
  have hnews : ∀ j u, news[j]? = some u → w.cell? (ad.add j) = some u := fun j u hj => by
    obtain ⟨ad', h5, h6⟩ := hB j u hj
    simp only [Option.some.injEq] at h5
    rw [h5]; exact h6
  have hml : n + m ≤ 9223372036854775807 := by simp only [maxLen] at h63; exact h63
  have fin : ∀ v' w', (Builtin.append_ #[t, t] ty #[.slice A n c, .slice (some ad) m c2]).run P w = .ok v' w' →
      (∃ A' c' s', v' = .slice A' (n + m) c' ∧ OwnS s' A' (n + m) c' (cells ++ news) E i.size ∧ St w0 ks (f s') w') → Oper.wp P ⟨some d, .call ⟨.builtin .append, [x, y].toArray, #[t, t]⟩, ty, pos, af, g⟩ a w K Q := by
    rintro v' w' hrun ⟨A', c', s', rfl, ho, hst⟩
    unfold Oper.wp
    have : (execOp a.eval ⟨some d, .call ⟨.builtin .append, [x, y].toArray, #[t, t]⟩, ty, pos, af, g⟩).run P w = .ok (.value (.slice A' (n + m) c')) w' := by
      simp only [execOp, resolve, invoke, builtin, Sem.run_bind, Sem.run_pure, Result.andThen_ok, List.map_toArray, List.map_cons, List.map_nil, hx, hy, hrun]
    rw [this, Oper.upon_value]
    exact h _ _ _ _ _ ho (hF.put hn _) hst
  obtain ⟨o1, o2, o3⟩ := hO
  have hlen : (cells ++ news).length = (n + m) * i.size := by rw [List.length_append, o1, hl, Nat.add_mul]
  rcases o3 with ⟨rfl, rfl, rfl⟩ | ⟨gb, rest, rfl, rfl, o4, o5⟩
  · have hn0 : n = 0 := by omega
    subst hn0
    have hc0 : cells = [] := List.eq_nil_of_length_eq_zero (by simpa using o1)
    subst hc0
    by_cases hm0 : m = 0
    · subst hm0
      have hnn : news = [] := List.eq_nil_of_length_eq_zero (by simpa using hl)
      subst hnn
      refine fin (.slice none 0 0) w ?_ ⟨none, 0, [], rfl, OwnS.nil _ _, ?_⟩
      · simp [Builtin.append_, run_underlying hT, sizeOf, typeInfo, e1, Builtin.lenOf, Builtin.firstCells, loadCells, loadCellsFrom]
      · exact hS.rep (hr []) rfl rfl rfl (Nat.le_refl _) (fun k hk _ => rfl) (by simp) (by simp) (by simp)
    · have hrun := run_append_nil (P := P) w t ty E i z hT e1 e2 ad m c2 news hl hnews (by omega) (by omega) (by simp only [Nat.zero_add] at hby; omega)
      have hcap := grownCap_ge w m 0 E
      have hcm : grownCap w m 0 E ≤ maxLen := grownCap_le_maxLen w m 0 E (by omega)
      rw [hz, zero_zeros] at hrun
      have e5 : (news.toArray ++ (zeros zs (grownCap w m 0 E - m)).toArray) = (([] ++ news) ++ zeros zs (grownCap w m 0 E - m)).toArray := by simp
      rw [e5] at hrun
      refine fin _ _ hrun ⟨some ⟨w.heap.size, 0, none⟩, grownCap w m 0 E, [(w.heap.size, Cel (([] ++ news) ++ zeros zs (grownCap w m 0 E - m)) E)], by simp, ?_, ?_⟩
      · refine OwnS.mk hlen (by omega) ?_ hcm
        rw [List.length_append, hlen, length_zeros, hzl, ← Nat.add_mul]; congr 1; omega
      · refine hS.rep (hr _) rfl rfl rfl (by simp) (fun k hk _ => Below.heap_alloc w.drew _ k hk) (fun p hp => by
          simp only [List.mem_singleton] at hp
          subst hp
          exact heap_alloc_new w.drew _) (by simp) (by simp)
  · have hgm : (gb, Cel (cells ++ rest) E) ∈ bs.flatten := List.mem_flatten.2 ⟨_, (hr []).mem, by simp⟩
    have hgb := hS.own _ hgm
    simp only at hgb
    by_cases hroom : n + m ≤ c
    · have hfit : n * i.size + news.length ≤ (cells ++ rest).toArray.size := by simp only [List.size_toArray]; rw [hl, o4, ← Nat.add_mul]; exact Nat.mul_le_mul_right _ hroom
      have hrun := run_append_room (P := P) w t ty E i hT e1 gb n c (cells ++ rest).toArray hgb ad m c2 news hl hnews h1 hroom hfit
      have e5 : ((cells ++ rest).take (n * i.size) ++ news ++ (cells ++ rest).drop (n * i.size + news.length)) = (cells ++ news) ++ rest.drop news.length := by
        rw [← o1, List.take_left, List.drop_append]
        simp
      simp only [e5] at hrun
      refine fin _ _ hrun ⟨some ⟨gb, 0, none⟩, c, [(gb, Cel ((cells ++ news) ++ rest.drop news.length) E)], rfl, ?_, ?_⟩
      · refine OwnS.mk hlen hroom ?_ o5
        have := congrArg List.length e5
        simp only [List.length_append, List.length_take, List.length_drop, List.size_toArray] at this o4 hfit ⊢
        omega
      · refine hS.rep (hr _) rfl rfl rfl (by simp) (fun k hk hne => ?_) ?_ (by simp) (by simp)
        · exact setRow_other w gb k _ (hne (gb, Cel (cells ++ rest) E) (by simp))
        · intro p hp
          simp only [List.mem_singleton] at hp
          subst hp
          exact setRow_heap w gb _ _ E _ hgb
    · have holds : ∀ j u, cells[j]? = some u → w.cell? ((⟨gb, 0, none⟩ : Addr).add j) = some u := fun j u hj => by
        rw [addr_add, cell_Cel hgb, Nat.zero_add, List.getElem?_append_left (List.getElem?_eq_some_iff.1 hj).1]; exact hj
      have hrun := run_append_grow (P := P) w t ty E i z hT e1 e2 ⟨gb, 0, none⟩ n c cells o1 holds ad m c2 news hl hnews (by omega) (by omega) (growslice_fits (by omega) hby)
      have hcap := grownCap_ge w (n + m) c E
      have hcm : grownCap w (n + m) c E ≤ maxLen := grownCap_le_maxLen w (n + m) c E h63
      rw [hz, zero_zeros] at hrun
      have e5 : (cells.toArray ++ news.toArray ++ (zeros zs (grownCap w (n + m) c E - (n + m))).toArray) = ((cells ++ news) ++ zeros zs (grownCap w (n + m) c E - (n + m))).toArray := by simp
      rw [e5] at hrun
      refine fin _ _ hrun ⟨some ⟨w.heap.size, 0, none⟩, _, [(w.heap.size, Cel ((cells ++ news) ++ zeros zs (grownCap w (n + m) c E - (n + m))) E)], rfl, ?_, ?_⟩
      · refine OwnS.mk hlen (by omega) ?_ hcm
        rw [List.length_append, hlen, length_zeros, hzl, ← Nat.add_mul]; congr 1; omega
      · refine hS.rep (hr _) rfl rfl rfl (by simp) (fun k hk _ => Below.heap_alloc w.drew _ k hk) (fun p hp => by
          simp only [List.mem_singleton] at hp
          subst hp
          exact heap_alloc_new w.drew _) (by simp) (by simp)
end
end Go.Fw
end
section
namespace Go.Proofs.YtlapmbkfmbkdoaaGreatDoor
open Go Go.Fw
theorem mix : Tryz.prog.follows .mixedOrders = true := by kernel_rfl
theorem one3 : oneT Tryz.prog 3 = true := by kernel_rfl
theorem nz3 : nzT Tryz.prog 3 = true := by kernel_rfl
theorem sz3 : szT Tryz.prog 3 1 := by unfold szT; kernel_rfl
theorem one4 : oneT Tryz.prog 4 = true := by kernel_rfl
theorem nz4 : nzT Tryz.prog 4 = true := by kernel_rfl
theorem sz4 : szT Tryz.prog 4 1 := by unfold szT; kernel_rfl
theorem one5 : oneT Tryz.prog 5 = true := by kernel_rfl
theorem sz5 : szT Tryz.prog 5 1 := by unfold szT; kernel_rfl
theorem one9 : oneT Tryz.prog 9 = true := by kernel_rfl
theorem nz9 : nzT Tryz.prog 9 = true := by kernel_rfl
theorem sz9 : szT Tryz.prog 9 1 := by unfold szT; kernel_rfl
theorem one22 : oneT Tryz.prog 22 = true := by kernel_rfl
theorem nz22 : nzT Tryz.prog 22 = true := by kernel_rfl
theorem sz22 : szT Tryz.prog 22 1 := by unfold szT; kernel_rfl
theorem one23 : oneT Tryz.prog 23 = true := by kernel_rfl
theorem nz23 : nzT Tryz.prog 23 = true := by kernel_rfl
theorem agg29 : aggT Tryz.prog 29 = true := by kernel_rfl
theorem nz29 : nzT Tryz.prog 29 = true := by kernel_rfl
theorem sz29 : szT Tryz.prog 29 20 := by unfold szT; kernel_rfl
theorem one30 : oneT Tryz.prog 30 = true := by kernel_rfl
theorem sz30 : szT Tryz.prog 30 1 := by unfold szT; kernel_rfl
theorem agg32 : aggT Tryz.prog 32 = true := by kernel_rfl
theorem nz32 : nzT Tryz.prog 32 = true := by kernel_rfl
theorem sz32 : szT Tryz.prog 32 4 := by unfold szT; kernel_rfl
theorem one33 : oneT Tryz.prog 33 = true := by kernel_rfl
theorem nz33 : nzT Tryz.prog 33 = true := by kernel_rfl
theorem sz33 : szT Tryz.prog 33 1 := by unfold szT; kernel_rfl
theorem agg35 : aggT Tryz.prog 35 = true := by kernel_rfl
theorem nz35 : nzT Tryz.prog 35 = true := by kernel_rfl
theorem sz35 : szT Tryz.prog 35 48 := by unfold szT; kernel_rfl
theorem one36 : oneT Tryz.prog 36 = true := by kernel_rfl
theorem nz36 : nzT Tryz.prog 36 = true := by kernel_rfl
theorem agg38 : aggT Tryz.prog 38 = true := by kernel_rfl
theorem sz38 : szT Tryz.prog 38 50 := by unfold szT; kernel_rfl
theorem one41 : oneT Tryz.prog 41 = true := by kernel_rfl
theorem nz41 : nzT Tryz.prog 41 = true := by kernel_rfl
theorem sz41 : szT Tryz.prog 41 1 := by unfold szT; kernel_rfl
theorem agg45 : aggT Tryz.prog 45 = true := by kernel_rfl
theorem sz45 : szT Tryz.prog 45 5 := by unfold szT; kernel_rfl
theorem agg72 : aggT Tryz.prog 72 = true := by kernel_rfl
theorem sz72 : szT Tryz.prog 72 5 := by unfold szT; kernel_rfl
theorem agg73 : aggT Tryz.prog 73 = true := by kernel_rfl
theorem sz73 : szT Tryz.prog 73 140 := by unfold szT; kernel_rfl
theorem one75 : oneT Tryz.prog 75 = true := by kernel_rfl
theorem nz75 : nzT Tryz.prog 75 = true := by kernel_rfl
theorem sz75 : szT Tryz.prog 75 1 := by unfold szT; kernel_rfl
theorem nz77 : nzT Tryz.prog 77 = true := by kernel_rfl
theorem agg92 : aggT Tryz.prog 92 = true := by kernel_rfl
theorem sz92 : szT Tryz.prog 92 30 := by unfold szT; kernel_rfl
theorem agg97 : aggT Tryz.prog 97 = true := by kernel_rfl
theorem sz97 : szT Tryz.prog 97 5 := by unfold szT; kernel_rfl
theorem one100 : oneT Tryz.prog 100 = true := by kernel_rfl
theorem nz100 : nzT Tryz.prog 100 = true := by kernel_rfl
theorem one117 : oneT Tryz.prog 117 = true := by kernel_rfl
theorem nz117 : nzT Tryz.prog 117 = true := by kernel_rfl
theorem one118 : oneT Tryz.prog 118 = true := by kernel_rfl
theorem nz118 : nzT Tryz.prog 118 = true := by kernel_rfl
theorem sz118 : szT Tryz.prog 118 1 := by unfold szT; kernel_rfl
theorem agg124 : aggT Tryz.prog 124 = true := by kernel_rfl
theorem sz124 : szT Tryz.prog 124 3 := by unfold szT; kernel_rfl
theorem agg180 : aggT Tryz.prog 180 = true := by kernel_rfl
theorem sz180 : szT Tryz.prog 180 8 := by unfold szT; kernel_rfl
theorem ze29 : zeT Tryz.prog 29 (.agg #[(.int .u8 0), (.int .u8 0), (.int .u8 0), (.int .u8 0), (.int .u8 0), (.int .u8 0), (.int .u8 0), (.int .u8 0), (.int .u8 0), (.int .u8 0), (.int .u8 0), (.int .u8 0), (.int .u8 0), (.int .u8 0), (.int .u8 0), (.int .u8 0), (.int .u8 0), (.int .u8 0), (.int .u8 0), (.int .u8 0)]) := by unfold zeT; kernel_rfl
theorem ze32 : zeT Tryz.prog 32 (.agg #[(.int .u64 0), (.int .u64 0), (.int .u64 0), (.int .u64 0)]) := by unfold zeT; kernel_rfl
theorem ze35 : zeT Tryz.prog 35 (.agg #[(.int .u8 0), (.int .u8 0), (.int .u8 0), (.int .u8 0), (.int .u8 0), (.int .u8 0), (.int .u8 0), (.int .u8 0), (.int .u8 0), (.int .u8 0), (.int .u8 0), (.int .u8 0), (.int .u8 0), (.int .u8 0), (.int .u8 0), (.int .u8 0), (.int .u8 0), (.int .u8 0), (.int .u8 0), (.int .u8 0), (.int .u8 0), (.int .u8 0), (.int .u8 0), (.int .u8 0), (.int .u8 0), (.int .u8 0), (.int .u8 0), (.int .u8 0), (.int .u8 0), (.int .u8 0), (.int .u8 0), (.int .u8 0), (.int .u8 0), (.int .u8 0), (.int .u8 0), (.int .u8 0), (.int .u8 0), (.int .u8 0), (.int .u8 0), (.int .u8 0), (.int .i64 0), (.int .u64 0), (.int .u64 0), (.int .u64 0), (.int .u64 0), (.slice none 0 0), (.int .i64 0), (.int .i64 0)]) := by unfold zeT; kernel_rfl
theorem ze38 : zeT Tryz.prog 38 (.agg #[(.slice none 0 0), (.int .u8 0), (.int .u8 0), (.int .u8 0), (.int .u8 0), (.int .u8 0), (.int .u8 0), (.int .u8 0), (.int .u8 0), (.int .u8 0), (.int .u8 0), (.int .u8 0), (.int .u8 0), (.int .u8 0), (.int .u8 0), (.int .u8 0), (.int .u8 0), (.int .u8 0), (.int .u8 0), (.int .u8 0), (.int .u8 0), (.int .u8 0), (.int .u8 0), (.int .u8 0), (.int .u8 0), (.int .u8 0), (.int .u8 0), (.int .u8 0), (.int .u8 0), (.int .u8 0), (.int .u8 0), (.int .u8 0), (.int .u8 0), (.int .u8 0), (.int .u8 0), (.int .u8 0), (.int .u8 0), (.int .u8 0), (.int .u8 0), (.int .u8 0), (.int .u8 0), (.int .i64 0), (.int .u64 0), (.int .u64 0), (.int .u64 0), (.int .u64 0), (.slice none 0 0), (.int .i64 0), (.int .i64 0), (.slice none 0 0)]) := by unfold zeT; kernel_rfl
theorem ze43 : zeT Tryz.prog 43 (.agg #[(.slice none 0 0), (.slice none 0 0), (.slice none 0 0)]) := by unfold zeT; kernel_rfl
theorem ze45 : zeT Tryz.prog 45 (.agg #[(.int .u64 0), (.int .u64 0), (.int .u64 0), (.int .u64 0), (.int .i64 0)]) := by unfold zeT; kernel_rfl
theorem ze72 : zeT Tryz.prog 72 (.agg #[(.string ⟨#[]⟩), (.int .i64 0), (.int .i64 0), (.int .i64 0), .nilFunc]) := by unfold zeT; kernel_rfl
theorem ze73 : zeT Tryz.prog 73 (.agg #[(.string ⟨#[]⟩), (.int .i64 0), (.int .i64 0), (.int .i64 0), .nilFunc, (.string ⟨#[]⟩), (.int .i64 0), (.int .i64 0), (.int .i64 0), .nilFunc, (.string ⟨#[]⟩), (.int .i64 0), (.int .i64 0), (.int .i64 0), .nilFunc, (.string ⟨#[]⟩), (.int .i64 0), (.int .i64 0), (.int .i64 0), .nilFunc, (.string ⟨#[]⟩), (.int .i64 0), (.int .i64 0), (.int .i64 0), .nilFunc, (.string ⟨#[]⟩), (.int .i64 0), (.int .i64 0), (.int .i64 0), .nilFunc, (.string ⟨#[]⟩), (.int .i64 0), (.int .i64 0), (.int .i64 0), .nilFunc, (.string ⟨#[]⟩), (.int .i64 0), (.int .i64 0), (.int .i64 0), .nilFunc, (.string ⟨#[]⟩), (.int .i64 0), (.int .i64 0), (.int .i64 0), .nilFunc, (.string ⟨#[]⟩), (.int .i64 0), (.int .i64 0), (.int .i64 0), .nilFunc, (.string ⟨#[]⟩), (.int .i64 0), (.int .i64 0), (.int .i64 0), .nilFunc, (.string ⟨#[]⟩), (.int .i64 0), (.int .i64 0), (.int .i64 0), .nilFunc, (.string ⟨#[]⟩), (.int .i64 0), (.int .i64 0), (.int .i64 0), .nilFunc, (.string ⟨#[]⟩), (.int .i64 0), (.int .i64 0), (.int .i64 0), .nilFunc, (.string ⟨#[]⟩), (.int .i64 0), (.int .i64 0), (.int .i64 0), .nilFunc, (.string ⟨#[]⟩), (.int .i64 0), (.int .i64 0), (.int .i64 0), .nilFunc, (.string ⟨#[]⟩), (.int .i64 0), (.int .i64 0), (.int .i64 0), .nilFunc, (.string ⟨#[]⟩), (.int .i64 0), (.int .i64 0), (.int .i64 0), .nilFunc, (.string ⟨#[]⟩), (.int .i64 0), (.int .i64 0), (.int .i64 0), .nilFunc, (.string ⟨#[]⟩), (.int .i64 0), (.int .i64 0), (.int .i64 0), .nilFunc, (.string ⟨#[]⟩), (.int .i64 0), (.int .i64 0), (.int .i64 0), .nilFunc, (.string ⟨#[]⟩), (.int .i64 0), (.int .i64 0), (.int .i64 0), .nilFunc, (.string ⟨#[]⟩), (.int .i64 0), (.int .i64 0), (.int .i64 0), .nilFunc, (.string ⟨#[]⟩), (.int .i64 0), (.int .i64 0), (.int .i64 0), .nilFunc, (.string ⟨#[]⟩), (.int .i64 0), (.int .i64 0), (.int .i64 0), .nilFunc, (.string ⟨#[]⟩), (.int .i64 0), (.int .i64 0), (.int .i64 0), .nilFunc, (.string ⟨#[]⟩), (.int .i64 0), (.int .i64 0), (.int .i64 0), .nilFunc, (.string ⟨#[]⟩), (.int .i64 0), (.int .i64 0), (.int .i64 0), .nilFunc]) := by unfold zeT; kernel_rfl
theorem ze77 : zeT Tryz.prog 77 (.agg #[(.pointer none), (.slice none 0 0)]) := by unfold zeT; kernel_rfl
theorem ze92 : zeT Tryz.prog 92 (.agg #[(.int .i64 0), (.int .u64 0), (.int .u64 0), (.int .u64 0), (.int .u64 0), (.int .u64 0), (.int .u64 0), (.int .u64 0), (.int .u64 0), (.int .i64 0), (.int .u8 0), (.int .u8 0), (.int .u8 0), (.int .u8 0), (.int .u8 0), (.int .u8 0), (.int .u8 0), (.int .u8 0), (.int .u8 0), (.int .u8 0), (.int .u8 0), (.int .u8 0), (.int .u8 0), (.int .u8 0), (.int .u8 0), (.int .u8 0), (.int .u8 0), (.int .u8 0), (.int .u8 0), (.int .u8 0)]) := by unfold zeT; kernel_rfl
theorem ze97 : zeT Tryz.prog 97 (.agg #[(.int .u64 0), (.int .u64 0), (.int .u64 0), (.int .u64 0), (.int .i64 0)]) := by unfold zeT; kernel_rfl
theorem ze103 : zeT Tryz.prog 103 (.agg #[(.slice none 0 0), (.int .u8 0), (.int .u8 0), (.int .u8 0), (.int .u8 0), (.int .u8 0), (.int .u8 0), (.int .u8 0), (.int .u8 0), (.int .u8 0), (.int .u8 0), (.int .u8 0), (.int .u8 0), (.int .u8 0), (.int .u8 0), (.int .u8 0), (.int .u8 0), (.int .u8 0), (.int .u8 0), (.int .u8 0), (.int .u8 0), (.int .u8 0), (.int .u8 0), (.int .u8 0), (.int .u8 0), (.int .u8 0), (.int .u8 0), (.int .u8 0), (.int .u8 0), (.int .u8 0), (.int .u8 0), (.int .u8 0), (.int .u8 0), (.int .u8 0), (.int .u8 0), (.int .u8 0), (.int .u8 0), (.int .u8 0), (.int .u8 0), (.int .u8 0), (.int .u8 0), (.int .i64 0), (.int .u64 0), (.int .u64 0), (.int .u64 0), (.int .u64 0), (.slice none 0 0), (.int .i64 0), (.int .i64 0), .nilIface, (.slice none 0 0), (.int .i64 0), (.int .i64 0), (.int .i64 0), (.bool false), (.int .u64 0), (.int .u64 0), (.int .u64 0), (.int .u64 0)]) := by unfold zeT; kernel_rfl
theorem ze120 : zeT Tryz.prog 120 (.agg #[(.slice none 0 0), (.map none), (.slice none 0 0)]) := by unfold zeT; kernel_rfl
theorem ze124 : zeT Tryz.prog 124 (.agg #[(.string ⟨#[]⟩), (.int .i64 0), (.int .i64 0)]) := by unfold zeT; kernel_rfl
theorem ze180 : zeT Tryz.prog 180 (.agg #[(.int .u64 0), (.int .u64 0), (.int .u64 0), (.int .u64 0), (.int .u64 0), (.int .u64 0), (.int .u64 0), (.int .u64 0)]) := by unfold zeT; kernel_rfl
theorem inf3 : infT Tryz.prog 3 (.int .i64 0) 1 8 := by unfold infT; kernel_rfl
theorem inf5 : infT Tryz.prog 5 (.int .u8 0) 1 1 := by unfold infT; kernel_rfl
theorem inf32 : infT Tryz.prog 32 (.agg #[(.int .u64 0), (.int .u64 0), (.int .u64 0), (.int .u64 0)]) 4 32 := by unfold infT; kernel_rfl
theorem inf92 : infT Tryz.prog 92 (.agg #[(.int .i64 0), (.int .u64 0), (.int .u64 0), (.int .u64 0), (.int .u64 0), (.int .u64 0), (.int .u64 0), (.int .u64 0), (.int .u64 0), (.int .i64 0), (.int .u8 0), (.int .u8 0), (.int .u8 0), (.int .u8 0), (.int .u8 0), (.int .u8 0), (.int .u8 0), (.int .u8 0), (.int .u8 0), (.int .u8 0), (.int .u8 0), (.int .u8 0), (.int .u8 0), (.int .u8 0), (.int .u8 0), (.int .u8 0), (.int .u8 0), (.int .u8 0), (.int .u8 0), (.int .u8 0)]) 30 104 := by unfold infT; kernel_rfl
theorem inf97 : infT Tryz.prog 97 (.agg #[(.int .u64 0), (.int .u64 0), (.int .u64 0), (.int .u64 0), (.int .i64 0)]) 5 40 := by unfold infT; kernel_rfl
theorem inf124 : infT Tryz.prog 124 (.agg #[(.string ⟨#[]⟩), (.int .i64 0), (.int .i64 0)]) 3 32 := by unfold infT; kernel_rfl
theorem pl35 : ∀ w, ((fldsOf Tryz.prog 35).mapM (m := Sem) fun (f : Field) => do pure (f.offset, ← sizeOf f.type)).run Tryz.prog w = .ok [(0, 20), (20, 20), (40, 1), (41, 4), (45, 1), (46, 1), (47, 1)].toArray w := fun w => by kernel_rfl
theorem pl38 : ∀ w, ((fldsOf Tryz.prog 38).mapM (m := Sem) fun (f : Field) => do pure (f.offset, ← sizeOf f.type)).run Tryz.prog w = .ok [(0, 1), (1, 48), (49, 1)].toArray w := fun w => by kernel_rfl
theorem pl43 : ∀ w, ((fldsOf Tryz.prog 43).mapM (m := Sem) fun (f : Field) => do pure (f.offset, ← sizeOf f.type)).run Tryz.prog w = .ok [(0, 1), (1, 1), (2, 1)].toArray w := fun w => by kernel_rfl
theorem pl45 : ∀ w, ((fldsOf Tryz.prog 45).mapM (m := Sem) fun (f : Field) => do pure (f.offset, ← sizeOf f.type)).run Tryz.prog w = .ok [(0, 4), (4, 1)].toArray w := fun w => by kernel_rfl
theorem pl72 : ∀ w, ((fldsOf Tryz.prog 72).mapM (m := Sem) fun (f : Field) => do pure (f.offset, ← sizeOf f.type)).run Tryz.prog w = .ok [(0, 1), (1, 1), (2, 1), (3, 1), (4, 1)].toArray w := fun w => by kernel_rfl
theorem pl92 : ∀ w, ((fldsOf Tryz.prog 92).mapM (m := Sem) fun (f : Field) => do pure (f.offset, ← sizeOf f.type)).run Tryz.prog w = .ok [(0, 1), (1, 4), (5, 4), (9, 1), (10, 20)].toArray w := fun w => by kernel_rfl
theorem pl103 : ∀ w, ((fldsOf Tryz.prog 103).mapM (m := Sem) fun (f : Field) => do pure (f.offset, ← sizeOf f.type)).run Tryz.prog w = .ok [(0, 1), (1, 48), (49, 1), (50, 1), (51, 1), (52, 1), (53, 1), (54, 1), (55, 4)].toArray w := fun w => by kernel_rfl
theorem pl120 : ∀ w, ((fldsOf Tryz.prog 120).mapM (m := Sem) fun (f : Field) => do pure (f.offset, ← sizeOf f.type)).run Tryz.prog w = .ok [(0, 1), (1, 1), (2, 1)].toArray w := fun w => by kernel_rfl
theorem pl124 : ∀ w, ((fldsOf Tryz.prog 124).mapM (m := Sem) fun (f : Field) => do pure (f.offset, ← sizeOf f.type)).run Tryz.prog w = .ok [(0, 1), (1, 1), (2, 1)].toArray w := fun w => by kernel_rfl
theorem ent9 : ∀ args w, (callFunc 9 args).run Tryz.prog w = .ok (.enter 9 args) w := run_callFunc_enter Tryz.func9 (by kernel_rfl) (by kernel_rfl)
theorem ent10 : ∀ args w, (callFunc 10 args).run Tryz.prog w = .ok (.enter 10 args) w := run_callFunc_enter Tryz.func10 (by kernel_rfl) (by kernel_rfl)
theorem ent13 : ∀ args w, (callFunc 13 args).run Tryz.prog w = .ok (.enter 13 args) w := run_callFunc_enter Tryz.func13 (by kernel_rfl) (by kernel_rfl)
theorem ent14 : ∀ args w, (callFunc 14 args).run Tryz.prog w = .ok (.enter 14 args) w := run_callFunc_enter Tryz.func14 (by kernel_rfl) (by kernel_rfl)
theorem ent15 : ∀ args w, (callFunc 15 args).run Tryz.prog w = .ok (.enter 15 args) w := run_callFunc_enter Tryz.func15 (by kernel_rfl) (by kernel_rfl)
theorem ent18 : ∀ args w, (callFunc 18 args).run Tryz.prog w = .ok (.enter 18 args) w := run_callFunc_enter Tryz.func18 (by kernel_rfl) (by kernel_rfl)
theorem ent19 : ∀ args w, (callFunc 19 args).run Tryz.prog w = .ok (.enter 19 args) w := run_callFunc_enter Tryz.func19 (by kernel_rfl) (by kernel_rfl)
theorem ent21 : ∀ args w, (callFunc 21 args).run Tryz.prog w = .ok (.enter 21 args) w := run_callFunc_enter Tryz.func21 (by kernel_rfl) (by kernel_rfl)
theorem ent22 : ∀ args w, (callFunc 22 args).run Tryz.prog w = .ok (.enter 22 args) w := run_callFunc_enter Tryz.func22 (by kernel_rfl) (by kernel_rfl)
theorem ent23 : ∀ args w, (callFunc 23 args).run Tryz.prog w = .ok (.enter 23 args) w := run_callFunc_enter Tryz.func23 (by kernel_rfl) (by kernel_rfl)
theorem ent24 : ∀ args w, (callFunc 24 args).run Tryz.prog w = .ok (.enter 24 args) w := run_callFunc_enter Tryz.func24 (by kernel_rfl) (by kernel_rfl)
theorem ent30 : ∀ args w, (callFunc 30 args).run Tryz.prog w = .ok (.enter 30 args) w := run_callFunc_enter Tryz.func30 (by kernel_rfl) (by kernel_rfl)
theorem ent31 : ∀ args w, (callFunc 31 args).run Tryz.prog w = .ok (.enter 31 args) w := run_callFunc_enter Tryz.func31 (by kernel_rfl) (by kernel_rfl)
theorem ent32 : ∀ args w, (callFunc 32 args).run Tryz.prog w = .ok (.enter 32 args) w := run_callFunc_enter Tryz.func32 (by kernel_rfl) (by kernel_rfl)
theorem ent33 : ∀ args w, (callFunc 33 args).run Tryz.prog w = .ok (.enter 33 args) w := run_callFunc_enter Tryz.func33 (by kernel_rfl) (by kernel_rfl)
theorem ent34 : ∀ args w, (callFunc 34 args).run Tryz.prog w = .ok (.enter 34 args) w := run_callFunc_enter Tryz.func34 (by kernel_rfl) (by kernel_rfl)
theorem ent35 : ∀ args w, (callFunc 35 args).run Tryz.prog w = .ok (.enter 35 args) w := run_callFunc_enter Tryz.func35 (by kernel_rfl) (by kernel_rfl)
theorem ent36 : ∀ args w, (callFunc 36 args).run Tryz.prog w = .ok (.enter 36 args) w := run_callFunc_enter Tryz.func36 (by kernel_rfl) (by kernel_rfl)
theorem ent37 : ∀ args w, (callFunc 37 args).run Tryz.prog w = .ok (.enter 37 args) w := run_callFunc_enter Tryz.func37 (by kernel_rfl) (by kernel_rfl)
theorem ent38 : ∀ args w, (callFunc 38 args).run Tryz.prog w = .ok (.enter 38 args) w := run_callFunc_enter Tryz.func38 (by kernel_rfl) (by kernel_rfl)
theorem ent39 : ∀ args w, (callFunc 39 args).run Tryz.prog w = .ok (.enter 39 args) w := run_callFunc_enter Tryz.func39 (by kernel_rfl) (by kernel_rfl)
theorem ent40 : ∀ args w, (callFunc 40 args).run Tryz.prog w = .ok (.enter 40 args) w := run_callFunc_enter Tryz.func40 (by kernel_rfl) (by kernel_rfl)
theorem ent51 : ∀ args w, (callFunc 51 args).run Tryz.prog w = .ok (.enter 51 args) w := run_callFunc_enter Tryz.func51 (by kernel_rfl) (by kernel_rfl)
theorem ent52 : ∀ args w, (callFunc 52 args).run Tryz.prog w = .ok (.enter 52 args) w := run_callFunc_enter Tryz.func52 (by kernel_rfl) (by kernel_rfl)
theorem ent57 : ∀ args w, (callFunc 57 args).run Tryz.prog w = .ok (.enter 57 args) w := run_callFunc_enter Tryz.func57 (by kernel_rfl) (by kernel_rfl)
theorem ent58 : ∀ args w, (callFunc 58 args).run Tryz.prog w = .ok (.enter 58 args) w := run_callFunc_enter Tryz.func58 (by kernel_rfl) (by kernel_rfl)
theorem ent59 : ∀ args w, (callFunc 59 args).run Tryz.prog w = .ok (.enter 59 args) w := run_callFunc_enter Tryz.func59 (by kernel_rfl) (by kernel_rfl)
theorem ent63 : ∀ args w, (callFunc 63 args).run Tryz.prog w = .ok (.enter 63 args) w := run_callFunc_enter Tryz.func63 (by kernel_rfl) (by kernel_rfl)
theorem ent64 : ∀ args w, (callFunc 64 args).run Tryz.prog w = .ok (.enter 64 args) w := run_callFunc_enter Tryz.func64 (by kernel_rfl) (by kernel_rfl)
theorem ent65 : ∀ args w, (callFunc 65 args).run Tryz.prog w = .ok (.enter 65 args) w := run_callFunc_enter Tryz.func65 (by kernel_rfl) (by kernel_rfl)
theorem ent66 : ∀ args w, (callFunc 66 args).run Tryz.prog w = .ok (.enter 66 args) w := run_callFunc_enter Tryz.func66 (by kernel_rfl) (by kernel_rfl)
theorem ent67 : ∀ args w, (callFunc 67 args).run Tryz.prog w = .ok (.enter 67 args) w := run_callFunc_enter Tryz.func67 (by kernel_rfl) (by kernel_rfl)
theorem ent68 : ∀ args w, (callFunc 68 args).run Tryz.prog w = .ok (.enter 68 args) w := run_callFunc_enter Tryz.func68 (by kernel_rfl) (by kernel_rfl)
theorem ent69 : ∀ args w, (callFunc 69 args).run Tryz.prog w = .ok (.enter 69 args) w := run_callFunc_enter Tryz.func69 (by kernel_rfl) (by kernel_rfl)
theorem ent70 : ∀ args w, (callFunc 70 args).run Tryz.prog w = .ok (.enter 70 args) w := run_callFunc_enter Tryz.func70 (by kernel_rfl) (by kernel_rfl)
theorem ent71 : ∀ args w, (callFunc 71 args).run Tryz.prog w = .ok (.enter 71 args) w := run_callFunc_enter Tryz.func71 (by kernel_rfl) (by kernel_rfl)
theorem ent72 : ∀ args w, (callFunc 72 args).run Tryz.prog w = .ok (.enter 72 args) w := run_callFunc_enter Tryz.func72 (by kernel_rfl) (by kernel_rfl)
theorem ent73 : ∀ args w, (callFunc 73 args).run Tryz.prog w = .ok (.enter 73 args) w := run_callFunc_enter Tryz.func73 (by kernel_rfl) (by kernel_rfl)
theorem ent74 : ∀ args w, (callFunc 74 args).run Tryz.prog w = .ok (.enter 74 args) w := run_callFunc_enter Tryz.func74 (by kernel_rfl) (by kernel_rfl)
theorem ent75 : ∀ args w, (callFunc 75 args).run Tryz.prog w = .ok (.enter 75 args) w := run_callFunc_enter Tryz.func75 (by kernel_rfl) (by kernel_rfl)
theorem ent76 : ∀ args w, (callFunc 76 args).run Tryz.prog w = .ok (.enter 76 args) w := run_callFunc_enter Tryz.func76 (by kernel_rfl) (by kernel_rfl)
theorem ent77 : ∀ args w, (callFunc 77 args).run Tryz.prog w = .ok (.enter 77 args) w := run_callFunc_enter Tryz.func77 (by kernel_rfl) (by kernel_rfl)
theorem ent78 : ∀ args w, (callFunc 78 args).run Tryz.prog w = .ok (.enter 78 args) w := run_callFunc_enter Tryz.func78 (by kernel_rfl) (by kernel_rfl)
theorem ent79 : ∀ args w, (callFunc 79 args).run Tryz.prog w = .ok (.enter 79 args) w := run_callFunc_enter Tryz.func79 (by kernel_rfl) (by kernel_rfl)
theorem ent80 : ∀ args w, (callFunc 80 args).run Tryz.prog w = .ok (.enter 80 args) w := run_callFunc_enter Tryz.func80 (by kernel_rfl) (by kernel_rfl)
theorem ent81 : ∀ args w, (callFunc 81 args).run Tryz.prog w = .ok (.enter 81 args) w := run_callFunc_enter Tryz.func81 (by kernel_rfl) (by kernel_rfl)
theorem ent82 : ∀ args w, (callFunc 82 args).run Tryz.prog w = .ok (.enter 82 args) w := run_callFunc_enter Tryz.func82 (by kernel_rfl) (by kernel_rfl)
theorem ent83 : ∀ args w, (callFunc 83 args).run Tryz.prog w = .ok (.enter 83 args) w := run_callFunc_enter Tryz.func83 (by kernel_rfl) (by kernel_rfl)
theorem ent84 : ∀ args w, (callFunc 84 args).run Tryz.prog w = .ok (.enter 84 args) w := run_callFunc_enter Tryz.func84 (by kernel_rfl) (by kernel_rfl)
theorem ent85 : ∀ args w, (callFunc 85 args).run Tryz.prog w = .ok (.enter 85 args) w := run_callFunc_enter Tryz.func85 (by kernel_rfl) (by kernel_rfl)
theorem ent86 : ∀ args w, (callFunc 86 args).run Tryz.prog w = .ok (.enter 86 args) w := run_callFunc_enter Tryz.func86 (by kernel_rfl) (by kernel_rfl)
theorem ent87 : ∀ args w, (callFunc 87 args).run Tryz.prog w = .ok (.enter 87 args) w := run_callFunc_enter Tryz.func87 (by kernel_rfl) (by kernel_rfl)
theorem ent88 : ∀ args w, (callFunc 88 args).run Tryz.prog w = .ok (.enter 88 args) w := run_callFunc_enter Tryz.func88 (by kernel_rfl) (by kernel_rfl)
theorem ent89 : ∀ args w, (callFunc 89 args).run Tryz.prog w = .ok (.enter 89 args) w := run_callFunc_enter Tryz.func89 (by kernel_rfl) (by kernel_rfl)
theorem ent90 : ∀ args w, (callFunc 90 args).run Tryz.prog w = .ok (.enter 90 args) w := run_callFunc_enter Tryz.func90 (by kernel_rfl) (by kernel_rfl)
theorem ent91 : ∀ args w, (callFunc 91 args).run Tryz.prog w = .ok (.enter 91 args) w := run_callFunc_enter Tryz.func91 (by kernel_rfl) (by kernel_rfl)
theorem ent93 : ∀ args w, (callFunc 93 args).run Tryz.prog w = .ok (.enter 93 args) w := run_callFunc_enter Tryz.func93 (by kernel_rfl) (by kernel_rfl)
theorem ent94 : ∀ args w, (callFunc 94 args).run Tryz.prog w = .ok (.enter 94 args) w := run_callFunc_enter Tryz.func94 (by kernel_rfl) (by kernel_rfl)
theorem ent101 : ∀ args w, (callFunc 101 args).run Tryz.prog w = .ok (.enter 101 args) w := run_callFunc_enter Tryz.func101 (by kernel_rfl) (by kernel_rfl)
theorem ent107 : ∀ args w, (callFunc 107 args).run Tryz.prog w = .ok (.enter 107 args) w := run_callFunc_enter Tryz.func107 (by kernel_rfl) (by kernel_rfl)
theorem ent108 : ∀ args w, (callFunc 108 args).run Tryz.prog w = .ok (.enter 108 args) w := run_callFunc_enter Tryz.func108 (by kernel_rfl) (by kernel_rfl)
theorem ent110 : ∀ args w, (callFunc 110 args).run Tryz.prog w = .ok (.enter 110 args) w := run_callFunc_enter Tryz.func110 (by kernel_rfl) (by kernel_rfl)
theorem ent111 : ∀ args w, (callFunc 111 args).run Tryz.prog w = .ok (.enter 111 args) w := run_callFunc_enter Tryz.func111 (by kernel_rfl) (by kernel_rfl)
theorem ent112 : ∀ args w, (callFunc 112 args).run Tryz.prog w = .ok (.enter 112 args) w := run_callFunc_enter Tryz.func112 (by kernel_rfl) (by kernel_rfl)
theorem ent113 : ∀ args w, (callFunc 113 args).run Tryz.prog w = .ok (.enter 113 args) w := run_callFunc_enter Tryz.func113 (by kernel_rfl) (by kernel_rfl)
theorem ent114 : ∀ args w, (callFunc 114 args).run Tryz.prog w = .ok (.enter 114 args) w := run_callFunc_enter Tryz.func114 (by kernel_rfl) (by kernel_rfl)
theorem ent115 : ∀ args w, (callFunc 115 args).run Tryz.prog w = .ok (.enter 115 args) w := run_callFunc_enter Tryz.func115 (by kernel_rfl) (by kernel_rfl)
theorem ent116 : ∀ args w, (callFunc 116 args).run Tryz.prog w = .ok (.enter 116 args) w := run_callFunc_enter Tryz.func116 (by kernel_rfl) (by kernel_rfl)
theorem ent117 : ∀ args w, (callFunc 117 args).run Tryz.prog w = .ok (.enter 117 args) w := run_callFunc_enter Tryz.func117 (by kernel_rfl) (by kernel_rfl)
theorem ent118 : ∀ args w, (callFunc 118 args).run Tryz.prog w = .ok (.enter 118 args) w := run_callFunc_enter Tryz.func118 (by kernel_rfl) (by kernel_rfl)
theorem ent119 : ∀ args w, (callFunc 119 args).run Tryz.prog w = .ok (.enter 119 args) w := run_callFunc_enter Tryz.func119 (by kernel_rfl) (by kernel_rfl)
theorem ent120 : ∀ args w, (callFunc 120 args).run Tryz.prog w = .ok (.enter 120 args) w := run_callFunc_enter Tryz.func120 (by kernel_rfl) (by kernel_rfl)
theorem ent121 : ∀ args w, (callFunc 121 args).run Tryz.prog w = .ok (.enter 121 args) w := run_callFunc_enter Tryz.func121 (by kernel_rfl) (by kernel_rfl)
theorem ent122 : ∀ args w, (callFunc 122 args).run Tryz.prog w = .ok (.enter 122 args) w := run_callFunc_enter Tryz.func122 (by kernel_rfl) (by kernel_rfl)
theorem ent123 : ∀ args w, (callFunc 123 args).run Tryz.prog w = .ok (.enter 123 args) w := run_callFunc_enter Tryz.func123 (by kernel_rfl) (by kernel_rfl)
theorem ent124 : ∀ args w, (callFunc 124 args).run Tryz.prog w = .ok (.enter 124 args) w := run_callFunc_enter Tryz.func124 (by kernel_rfl) (by kernel_rfl)
theorem ent125 : ∀ args w, (callFunc 125 args).run Tryz.prog w = .ok (.enter 125 args) w := run_callFunc_enter Tryz.func125 (by kernel_rfl) (by kernel_rfl)
theorem ent126 : ∀ args w, (callFunc 126 args).run Tryz.prog w = .ok (.enter 126 args) w := run_callFunc_enter Tryz.func126 (by kernel_rfl) (by kernel_rfl)
theorem ent127 : ∀ args w, (callFunc 127 args).run Tryz.prog w = .ok (.enter 127 args) w := run_callFunc_enter Tryz.func127 (by kernel_rfl) (by kernel_rfl)
theorem ent130 : ∀ args w, (callFunc 130 args).run Tryz.prog w = .ok (.enter 130 args) w := run_callFunc_enter Tryz.func130 (by kernel_rfl) (by kernel_rfl)
theorem ent140 : ∀ args w, (callFunc 140 args).run Tryz.prog w = .ok (.enter 140 args) w := run_callFunc_enter Tryz.func140 (by kernel_rfl) (by kernel_rfl)
theorem ent141 : ∀ args w, (callFunc 141 args).run Tryz.prog w = .ok (.enter 141 args) w := run_callFunc_enter Tryz.func141 (by kernel_rfl) (by kernel_rfl)
theorem ent142 : ∀ args w, (callFunc 142 args).run Tryz.prog w = .ok (.enter 142 args) w := run_callFunc_enter Tryz.func142 (by kernel_rfl) (by kernel_rfl)
theorem ent147 : ∀ args w, (callFunc 147 args).run Tryz.prog w = .ok (.enter 147 args) w := run_callFunc_enter Tryz.func147 (by kernel_rfl) (by kernel_rfl)
theorem ent153 : ∀ args w, (callFunc 153 args).run Tryz.prog w = .ok (.enter 153 args) w := run_callFunc_enter Tryz.func153 (by kernel_rfl) (by kernel_rfl)
theorem ent183 : ∀ args w, (callFunc 183 args).run Tryz.prog w = .ok (.enter 183 args) w := run_callFunc_enter Tryz.func183 (by kernel_rfl) (by kernel_rfl)
theorem ent184 : ∀ args w, (callFunc 184 args).run Tryz.prog w = .ok (.enter 184 args) w := run_callFunc_enter Tryz.func184 (by kernel_rfl) (by kernel_rfl)
theorem ent185 : ∀ args w, (callFunc 185 args).run Tryz.prog w = .ok (.enter 185 args) w := run_callFunc_enter Tryz.func185 (by kernel_rfl) (by kernel_rfl)
theorem ent186 : ∀ args w, (callFunc 186 args).run Tryz.prog w = .ok (.enter 186 args) w := run_callFunc_enter Tryz.func186 (by kernel_rfl) (by kernel_rfl)
theorem ent187 : ∀ args w, (callFunc 187 args).run Tryz.prog w = .ok (.enter 187 args) w := run_callFunc_enter Tryz.func187 (by kernel_rfl) (by kernel_rfl)
end Go.Proofs.YtlapmbkfmbkdoaaGreatDoor
end
section
namespace Go.Fw
def dg (x i : Nat) : Nat := x / 18446744073709551616 ^ i % 18446744073709551616
@[reducible] def wc (x : Nat) : List Value := [.int .u64 (dg x 0 : Nat), .int .u64 (dg x 1 : Nat), .int .u64 (dg x 2 : Nat), .int .u64 (dg x 3 : Nat)]
@[reducible] def wv (x : Nat) : Value := .agg (wc x).toArray
theorem dg_lt (x i : Nat) : dg x i < 18446744073709551616 := Nat.mod_lt _ (by decide)
theorem dg0 (x : Nat) : dg x 0 = x % 18446744073709551616 := by simp [dg]
theorem dg1 (x : Nat) : dg x 1 = x / 18446744073709551616 % 18446744073709551616 := by simp [dg]
theorem dg2 (x : Nat) : dg x 2 = x / 340282366920938463463374607431768211456 % 18446744073709551616 := by simp [dg]
theorem dg3 (x : Nat) : dg x 3 = x / 6277101735386680763835789423207666416102355444464034512896 % 18446744073709551616 := by simp [dg]
theorem wc_at (x k : Nat) (h : k < 4) : (wc x)[0 + ((k : Nat) : Int).toNat * 1]? = some (.int .u64 ((dg x k : Nat) : Int)) := by
  have : k = 0 ∨ k = 1 ∨ k = 2 ∨ k = 3 := by omega
  rcases this with rfl | rfl | rfl | rfl <;> rfl
def mkc (N : Nat) (f : Nat → Nat) (k : Nat) : List Value := (List.range N).map fun j => .int .u64 (if j < k then ((f j : Nat) : Int) else 0)
theorem length_mkc (N : Nat) (f : Nat → Nat) (k : Nat) : (mkc N f k).length = N := by simp [mkc]
theorem mkc_at (N : Nat) (f : Nat → Nat) (k : Nat) (v : Value) (h : v = .int .u64 ((f k : Nat) : Int)) : (mkc N f k).set (0 + ((k : Nat) : Int).toNat * 1) v = mkc N f (k + 1) := by
  subst h
  apply List.ext_getElem?
  intro j
  rw [List.getElem?_set]
  simp only [mkc, List.length_map, List.length_range, Nat.zero_add, Int.toNat_natCast, Nat.mul_one, List.getElem?_map]
  by_cases hj : j < N
  · by_cases hk : k = j
    · subst hk; simp [hj]
    · simp [hk, hj]
      by_cases h1 : j < k
      · simp [h1, Nat.lt_succ_of_lt h1]
      · have : ¬ j < k + 1 := by omega
        simp [h1, this]
  · by_cases hk : k = j
    · subst hk; simp [hj]
    · simp [hk, hj]
def cy (x y k : Nat) : Nat := (x % 18446744073709551616 ^ k + y % 18446744073709551616 ^ k) / 18446744073709551616 ^ k
theorem pow_pos' (k : Nat) : 0 < 18446744073709551616 ^ k := Nat.pow_pos (by decide)
theorem cy_le (x y k : Nat) : cy x y k ≤ 1 := by
  unfold cy
  have h1 := Nat.mod_lt x (pow_pos' k)
  have h2 := Nat.mod_lt y (pow_pos' k)
  have : (x % 18446744073709551616 ^ k + y % 18446744073709551616 ^ k) / 18446744073709551616 ^ k < 2 := by
    rw [Nat.div_lt_iff_lt_mul (pow_pos' k)]; omega
  omega
theorem cy_0 (x y : Nat) : cy x y 0 = 0 := by simp [cy, Nat.mod_one]
theorem div_add_cy (x y k : Nat) : (x + y) / 18446744073709551616 ^ k = x / 18446744073709551616 ^ k + y / 18446744073709551616 ^ k + cy x y k := by
  unfold cy
  have hp := pow_pos' k
  generalize 18446744073709551616 ^ k = p at *
  have h : x + y = (x % p + y % p) + p * (x / p + y / p) := by
    have h1 := Nat.div_add_mod x p
    have h2 := Nat.div_add_mod y p
    rw [Nat.mul_add]; omega
  rw [h, Nat.add_mul_div_left _ _ hp]
  omega
theorem dg_add (x y k : Nat) : dg (x + y) k = (dg x k + dg y k + cy x y k) % 18446744073709551616 := by
  unfold dg
  rw [div_add_cy]
  omega
theorem mod_succ (x k : Nat) : x % 18446744073709551616 ^ (k + 1) = dg x k * 18446744073709551616 ^ k + x % 18446744073709551616 ^ k := by
  unfold dg
  rw [Nat.pow_succ, Nat.mod_mul, Nat.mul_comm (_ % _), Nat.add_comm]
theorem cy_succ (x y k : Nat) : cy x y (k + 1) = (dg x k + dg y k + cy x y k) / 18446744073709551616 := by
  have h1 := mod_succ x k
  have h2 := mod_succ y k
  unfold cy
  rw [h1, h2, Nat.pow_succ]
  have hp := pow_pos' k
  generalize 18446744073709551616 ^ k = p at *
  rw [← Nat.div_div_eq_div_mul]
  congr 1
  have : dg x k * p + x % p + (dg y k * p + y % p) = (x % p + y % p) + p * (dg x k + dg y k) := by rw [Nat.mul_add, Nat.mul_comm p, Nat.mul_comm p]; omega
  rw [this, Nat.add_mul_div_left _ _ hp]
  omega
theorem cy_4 (x y : Nat) (hx : x < 115792089237316195423570985008687907853269984665640564039457584007913129639936) (hy : y < 115792089237316195423570985008687907853269984665640564039457584007913129639936) :
    cy x y 4 = (x + y) / 115792089237316195423570985008687907853269984665640564039457584007913129639936 := by
  unfold cy
  rw [show (18446744073709551616 : Nat) ^ 4 = 115792089237316195423570985008687907853269984665640564039457584007913129639936 from rfl, Nat.mod_eq_of_lt hx, Nat.mod_eq_of_lt hy]
end Go.Fw
namespace Go.Proofs.YtlapmbkfmbkdoaaGreatDoor
open Go Go.Fw
def sub64Entry : Array Value → Sem Value := fun args => do
  let (x, y, b) ← Extern.MathBitsCarry.three "Sub64" args
  pure (Extern.MathBitsCarry.pair ((x + Extern.MathBitsCarry.m64 - y - b) % Extern.MathBitsCarry.m64) (if x < y + b then 1 else 0))
theorem x95 (x y c : Nat) (hc : c ≤ 1) (w : World) : (callFunc 138 [.int .u64 (x : Int), .int .u64 (y : Int), .int .u64 (c : Int)].toArray).run Tryz.prog w =
    .ok (.value (.tuple #[.int .u64 (((x + y + c) % 18446744073709551616 : Nat) : Int), .int .u64 (((x + y + c) / 18446744073709551616 : Nat) : Int)])) w := by
  rw [run_callFunc_extern Tryz.func138 (by kernel_rfl) (by kernel_rfl) (by kernel_rfl) (e := add64Entry) (by kernel_rfl), run_add64 x y c (by omega) (by omega) (by omega) (by omega)]
  simp only [Result.andThen]
  congr 5
theorem x96 (x y c : Nat) (hc : c ≤ 1) (w : World) : (callFunc 139 [.int .u64 (x : Int), .int .u64 (y : Int), .int .u64 (c : Int)].toArray).run Tryz.prog w =
    .ok (.value (.tuple #[.int .u64 (((x + 18446744073709551616 - y - c) % 18446744073709551616 : Nat) : Int), .int .u64 ((if x < y + c then 1 else 0 : Nat) : Int)])) w := by
  have key : (sub64Entry #[.int .u64 (x : Int), .int .u64 (y : Int), .int .u64 (c : Int)]).run Tryz.prog w = .ok (.tuple #[.int .u64 (((x + 18446744073709551616 - y - c) % 18446744073709551616 : Nat) : Int), .int .u64 ((if x < y + c then 1 else 0 : Nat) : Int)]) w := by
    have : c = 0 ∨ c = 1 := by omega
    rcases this with rfl | rfl <;> rfl
  rw [run_callFunc_extern Tryz.func139 (by kernel_rfl) (by kernel_rfl) (by kernel_rfl) (e := sub64Entry) (by kernel_rfl), key]
  rfl
end Go.Proofs.YtlapmbkfmbkdoaaGreatDoor
end
section
namespace Go.Fw
def cAt (code : List Nat) (i : Nat) : Nat := code.getD i 0
def sizeN (code : List Nat) (p : Nat) : Nat :=
  if code.length ≤ p ∨ 28 ≤ cAt code p then 0 else
  if cAt code p = 2 then (if code.length ≤ p + 1 ∨ cAt code (p + 1) < 1 ∨ 32 < cAt code (p + 1) then 0 else if code.length < p + (2 + cAt code (p + 1)) then 0 else 2 + cAt code (p + 1))
  else if cAt code p = 4 ∨ cAt code p = 5 ∨ cAt code p = 16 then
    (if p + 1 < code.length ∧ ((cAt code p = 4 ∧ 15 < cAt code (p + 1)) ∨ (cAt code p = 5 ∧ (cAt code (p + 1) < 1 ∨ 15 < cAt code (p + 1)))) then 0 else if code.length < p + 2 then 0 else 2)
  else if cAt code p = 14 ∨ cAt code p = 15 then (if code.length < p + 3 then 0 else 3)
  else 1
theorem sizeN_le (code : List Nat) (p : Nat) : sizeN code p = 0 ∨ p + sizeN code p ≤ code.length := by
  unfold sizeN
  split
  · exact .inl rfl
  split
  · split
    · exact .inl rfl
    split
    · exact .inl rfl
    · right; omega
  split
  · split
    · exact .inl rfl
    split
    · exact .inl rfl
    · right; omega
  split
  · split
    · exact .inl rfl
    · right; omega
  · right; omega
def plc (code : List Nat) : Nat → Nat → Option (List Nat)
  | 0, _ => none
  | f + 1, p => if code.length ≤ p then some [] else if sizeN code p = 0 then none else (plc code f (p + sizeN code p)).map (p :: ·)
def placesN (code : List Nat) : Option (List Nat) := plc code (code.length + 1) 0
def targetN (code : List Nat) (p : Nat) : Nat := cAt code (p + 1) * 256 + cAt code (p + 2)
def isJump (code : List Nat) (p : Nat) : Bool := cAt code p == 14 || cAt code p == 15
def chkN (code : List Nat) : Bool :=
  decide (1 ≤ code.length) && decide (code.length ≤ 1024) && match placesN code with
  | none => false
  | some l => l.all fun p => !isJump code p || l.contains (targetN code p)
theorem plc_more (code : List Nat) : ∀ (f g p : Nat), code.length - p < f → code.length - p < g → plc code f p = plc code g p := by
  intro f
  induction f with
  | zero => intro g p h; omega
  | succ f ih =>
    intro g p hf hg
    cases g with
    | zero => omega
    | succ g =>
      simp only [plc]
      by_cases h1 : code.length ≤ p
      · simp [h1]
      · by_cases h2 : sizeN code p = 0
        · simp [h2]
        · rw [if_neg h1, if_neg h1, if_neg h2, if_neg h2, ih g (p + sizeN code p) (by omega) (by omega)]
def plcs (code : List Nat) (p : Nat) : Option (List Nat) := plc code (code.length + 1) p
theorem plcs_end {code : List Nat} {p : Nat} (h : code.length ≤ p) : plcs code p = some [] := by simp [plcs, plc, h]
theorem plcs_bad {code : List Nat} {p : Nat} (h : p < code.length) (hs : sizeN code p = 0) : plcs code p = none := by
  have : ¬ code.length ≤ p := by omega
  simp [plcs, plc, this, hs]
theorem plcs_next {code : List Nat} {p : Nat} (h : p < code.length) (hs : sizeN code p ≠ 0) : plcs code p = (plcs code (p + sizeN code p)).map (p :: ·) := by
  have : ¬ code.length ≤ p := by omega
  simp only [plcs]
  rw [plc, if_neg this, if_neg hs, plc_more code code.length (code.length + 1) _ (by omega) (by omega)]
def priceN (c : Nat) : Nat := [1, 1, 1, 1, 1, 1, 2, 2, 5, 10, 10, 2, 2, 2, 5, 5, 2, 2, 2, 2, 2, 2, 2, 2, 200, 200, 200, 500].getD c 0
def takesN (c : Nat) : Nat := [0, 1, 0, 1, 0, 0, 2, 2, 2, 2, 2, 2, 2, 1, 0, 1, 0, 0, 0, 0, 0, 0, 0, 0, 1, 2, 2, 3].getD c 0
def laysN (c : Nat) : Nat := [0, 0, 1, 0, 1, 0, 1, 1, 1, 1, 1, 1, 1, 1, 0, 0, 1, 1, 1, 1, 1, 1, 1, 1, 1, 0, 1, 0].getD c 0
structure Cl where
  self : Nat → Nat
  caller : Nat → Nat
  token : Int
  amount : Nat
  args : List Nat
  time : Int
  gas : Int
structure Ask where
  kind : Nat
  a : Nat
  b : Nat
  token : Nat
  who : Nat
def numB (l : List Nat) : Nat := l.foldl (fun a d => a * 256 + d) 0
def adN (f : Nat → Nat) : Nat := numB ((List.range 20).map f)
def bit1 (b : Bool) : Nat := if b then 1 else 0
def arithN (c x y : Nat) : Option Nat :=
  if c = 6 then (if x + y < 115792089237316195423570985008687907853269984665640564039457584007913129639936 then some (x + y) else none)
  else if c = 7 then (if x < y then none else some (x - y))
  else if c = 8 then (if x * y < 115792089237316195423570985008687907853269984665640564039457584007913129639936 then some (x * y) else none)
  else if c = 11 then some (bit1 (decide (x < y)))
  else if c = 12 then some (bit1 (decide (x = y)))
  else if y = 0 then none
  else if c = 9 then some (x / y) else some (x % y)
def toldN (cl : Cl) (c b left : Nat) : Nat :=
  if c = 16 then cl.args.getD b 0 else if c = 17 then cl.args.length else if c = 18 then adN cl.caller else if c = 19 then adN cl.self
  else if c = 20 then cl.token.toNat else if c = 21 then cl.amount else if c = 22 then cl.time.toNat else left
def askN (c : Nat) (v : Nat → Nat) : Option Ask :=
  if c = 24 then some ⟨1, v 0, 0, 0, 0⟩ else if c = 25 then some ⟨2, v 0, v 1, 0, 0⟩
  else if 64 ≤ v 0 then none
  else if c = 26 then some ⟨3, 0, 0, v 0, v 1⟩ else some ⟨4, v 2, 0, v 0, v 1⟩
def swapN (st : List Nat) (b : Nat) : List Nat := (st.set (st.length - 1) (st.getD (st.length - 1 - b) 0)).set (st.length - 1 - b) (st.getD (st.length - 1) 0)
inductive Out where
  | more (stk : List Nat) (left p : Nat) (asks : List Ask)
  | fin (v left : Nat) (asks : List Ask)
  | err (e : Int) (asks : List Ask)
def doN (cl : Cl) (code : List Nat) (rep : Nat → Nat × Int) (c b p left : Nat) (st : List Nat) (v : Nat → Nat) (asks : List Ask) : Out :=
  if c = 0 then .err 105 asks
  else if c = 1 then .fin (v 0) left asks
  else if c = 2 then .more (st ++ [numB ((code.drop (p + 2)).take (sizeN code p - 2))]) left (p + sizeN code p) asks
  else if c = 3 then .more st left (p + sizeN code p) asks
  else if c = 4 then .more (st ++ [st.getD (st.length - 1 - b) 0]) left (p + sizeN code p) asks
  else if c = 5 then .more (swapN st b) left (p + sizeN code p) asks
  else if c ≤ 12 then (match arithN c (v 0) (v 1) with
    | none => .err 104 asks
    | some r => .more (st ++ [r]) left (p + sizeN code p) asks)
  else if c = 13 then .more (st ++ [bit1 (decide (v 0 = 0))]) left (p + sizeN code p) asks
  else if c = 14 then .more st left (targetN code p) asks
  else if c = 15 then .more st left (if v 0 ≠ 0 then targetN code p else p + sizeN code p) asks
  else if c ≤ 23 then .more (st ++ [toldN cl c b left]) left (p + sizeN code p) asks
  else match askN c v with
    | none => .err 104 asks
    | some q => if (rep asks.length).2 ≠ 0 then .err (rep asks.length).2 (asks ++ [q]) else .more (if c = 24 ∨ c = 26 then st ++ [(rep asks.length).1] else st) left (p + sizeN code p) (asks ++ [q])
def stp (cl : Cl) (code : List Nat) (rep : Nat → Nat × Int) (stk : List Nat) (left p : Nat) (asks : List Ask) : Out :=
  if code.length ≤ p then .err 106 asks
  else if left < priceN (cAt code p) then .err 102 asks
  else if stk.length < (if cAt code p = 4 ∨ cAt code p = 5 then cAt code (p + 1) + 1 else takesN (cAt code p)) ∨ 64 < stk.length - takesN (cAt code p) + laysN (cAt code p) then .err 103 asks
  else doN cl code rep (cAt code p) (cAt code (p + 1)) p (left - priceN (cAt code p)) (stk.take (stk.length - takesN (cAt code p))) (fun i => stk.getD (stk.length - takesN (cAt code p) + i) 0) asks
structure Ended where
  v : Nat
  left : Nat
  e : Int
  asks : List Ask
def runN (cl : Cl) (code : List Nat) (rep : Nat → Nat × Int) : Nat → List Nat → Nat → Nat → List Ask → Ended
  | 0, _, _, _, asks => ⟨0, 0, 1, asks⟩
  | f + 1, stk, left, p, asks => match stp cl code rep stk left p asks with
    | .more stk' left' p' asks' => runN cl code rep f stk' left' p' asks'
    | .fin v left' asks' => ⟨v, left', 0, asks'⟩
    | .err e asks' => ⟨0, 0, e, asks'⟩
def callOk (cl : Cl) : Bool := decide (0 ≤ cl.token) && decide (cl.token < 64) && decide (cl.args.length ≤ 8) && decide (0 ≤ cl.time) && decide (cl.time ≤ 4611686018427387904) && decide (1 ≤ cl.gas) && decide (cl.gas ≤ 10000)
structure Played where
  v : Nat
  gas : Int
  e : Int
  asks : List Ask
def playN (cl : Cl) (code : List Nat) (rep : Nat → Nat × Int) : Played :=
  if chkN code = false then ⟨0, 0, 100, []⟩
  else if callOk cl = false then ⟨0, 0, 101, []⟩
  else let r := runN cl code rep (cl.gas.toNat + 1) [] cl.gas.toNat 0 []
    if r.e = 0 then ⟨r.v, cl.gas - r.left, 0, r.asks⟩ else ⟨0, 0, r.e, r.asks⟩
end Go.Fw
end
section
namespace Go.Fw
def toB (k n : Nat) : List Nat := (List.range k).map fun i => n / 256 ^ (k - 1 - i) % 256
theorem length_toB (k n : Nat) : (toB k n).length = k := by simp [toB]
theorem toB_lt {k n : Nat} : ∀ d ∈ toB k n, d < 256 := by
  intro d hd
  simp only [toB, List.mem_map] at hd
  obtain ⟨i, _, rfl⟩ := hd
  exact Nat.mod_lt _ (by decide)
theorem toB_succ (k n : Nat) : toB (k + 1) n = n / 256 ^ k % 256 :: toB k n := by
  simp only [toB, List.range_succ_eq_map, List.map_cons, List.map_map]
  congr 1
  apply List.map_congr_left
  intro i hi
  have hi := List.mem_range.1 hi
  simp only [Function.comp]
  congr 3; omega
theorem toB_last (k n : Nat) : toB (k + 1) n = toB k (n / 256) ++ [n % 256] := by
  simp only [toB, List.range_succ, List.map_append, List.map_cons, List.map_nil]
  congr 1
  · apply List.map_congr_left
    intro i hi
    have hi := List.mem_range.1 hi
    have : k + 1 - 1 - i = (k - 1 - i) + 1 := by omega
    rw [this, Nat.pow_succ, Nat.mul_comm, ← Nat.div_div_eq_div_mul]
  · simp
theorem snocRec {P : List Nat → Prop} (nil : P []) (append_singleton : ∀ l d, P l → P (l ++ [d])) : ∀ l, P l := by
  intro l
  rw [← l.reverse_reverse]
  induction l.reverse with
  | nil => exact nil
  | cons d r ih => rw [List.reverse_cons]; exact append_singleton _ _ ih
theorem numB_snoc (l : List Nat) (d : Nat) : numB (l ++ [d]) = numB l * 256 + d := by simp [numB]
theorem numB_lt : ∀ (l : List Nat), (∀ d ∈ l, d < 256) → numB l < 256 ^ l.length := by
  intro l
  induction l using snocRec with
  | nil => intro _; simp [numB]
  | append_singleton l d ih =>
    intro h
    have h1 := ih fun x hx => h x (by simp [hx])
    have h2 := h d (by simp)
    rw [numB_snoc, List.length_append, List.length_singleton, Nat.pow_succ]
    omega
theorem toB_numB : ∀ (l : List Nat), (∀ d ∈ l, d < 256) → toB l.length (numB l) = l := by
  intro l
  induction l using snocRec with
  | nil => intro _; rfl
  | append_singleton l d ih =>
    intro h
    have h1 := ih fun x hx => h x (by simp [hx])
    have h2 := h d (by simp)
    rw [numB_snoc, List.length_append, List.length_singleton, toB_last]
    have e1 : (numB l * 256 + d) / 256 = numB l := by omega
    have e2 : (numB l * 256 + d) % 256 = d := by omega
    rw [e1, e2, h1]
end Go.Fw
end
section
namespace Go.Fw
theorem Fr.same {n : Nat} {l : Env} {a : Act} {t : Nat} {v : Value} (h : Fr n l a) (hx : look l t = some v) : Fr n ((t, v) :: l) a := ⟨h.size, h.defs, fun k u hu => by
  simp only [look] at hu
  by_cases e : t = k
  · subst e
    simp only [Nat.beq_refl, cond_true, Option.some.injEq] at hu
    subst hu
    exact h.get _ _ hx
  · have : Nat.beq t k = false := by
      cases hq : Nat.beq t k
      · rfl
      · exact absurd (Nat.eq_of_beq_eq_true hq) e
    rw [this, cond_false] at hu
    exact h.get _ _ hu⟩
theorem Fr.nowT {n : Nat} {env : Env} {a : Act} {t : Nat} {p : Prop} [Decidable p] (hF : Fr n env a) (hx : look env t = some (.bool (decide p))) (h : p) : Fr n ((t, .bool true) :: env) a := hF.same (by rw [hx, decide_eq_true h])
theorem Fr.nowF {n : Nat} {env : Env} {a : Act} {t : Nat} {p : Prop} [Decidable p] (hF : Fr n env a) (hx : look env t = some (.bool (decide p))) (h : ¬ p) : Fr n ((t, .bool false) :: env) a := hF.same (by rw [hx, decide_eq_false h])
end Go.Fw
end
section
namespace Go.Fw
def val : List Nat → Nat
  | [] => 0
  | b :: r => b + 2 * val r
def bl (n : Nat) : List Nat := if h : n = 0 then [] else (n % 2) :: bl (n / 2)
termination_by n
decreasing_by omega
def Bits (xs : List Nat) : Prop := ∀ b ∈ xs, b ≤ 1
theorem bl_0 : bl 0 = [] := by unfold bl; simp
theorem bl_pos {n : Nat} (h : n ≠ 0) : bl n = (n % 2) :: bl (n / 2) := by rw [bl, dif_neg h]
theorem val_bl (n : Nat) : val (bl n) = n := by
  induction n using Nat.strongRecOn with
  | _ n ih =>
    by_cases h : n = 0
    · subst h; simp [bl_0, val]
    · rw [bl_pos h, val, ih (n / 2) (by omega)]; omega
theorem bits_bl (n : Nat) : Bits (bl n) := by
  induction n using Nat.strongRecOn with
  | _ n ih =>
    by_cases h : n = 0
    · subst h; simp [bl_0, Bits]
    · rw [bl_pos h]
      intro b hb
      rcases List.mem_cons.1 hb with rfl | hb
      · omega
      · exact ih (n / 2) (by omega) b hb
theorem val_lt {xs : List Nat} (h : Bits xs) : val xs < 2 ^ xs.length := by
  induction xs with
  | nil => simp [val]
  | cons b r ih =>
    have h1 := h b (by simp)
    have h2 := ih fun c hc => h c (by simp [hc])
    simp only [val, List.length_cons, Nat.pow_succ]; omega
theorem val_ge_last {xs : List Nat} (hne : xs ≠ []) (hl : xs.getLast hne ≠ 0) : 2 ^ (xs.length - 1) ≤ val xs := by
  induction xs with
  | nil => exact absurd rfl hne
  | cons b r ih =>
    by_cases hr : r = []
    · subst hr; simp [val] at *; omega
    · have := ih hr (by rwa [List.getLast_cons hr] at hl)
      simp only [val, List.length_cons]
      have hlen : 0 < r.length := List.length_pos_iff.2 hr
      have : 2 ^ (r.length + 1 - 1) = 2 * 2 ^ (r.length - 1) := by
        rw [show r.length + 1 - 1 = (r.length - 1) + 1 from by omega, Nat.pow_succ]; omega
      omega
theorem last_bl (n : Nat) (hne : bl n ≠ []) : (bl n).getLast hne ≠ 0 := by
  induction n using Nat.strongRecOn with
  | _ n ih =>
    by_cases h : n = 0
    · subst h; exact absurd bl_0 hne
    · have e := bl_pos h
      by_cases h2 : n / 2 = 0
      · have : bl n = [n % 2] := by rw [e, h2, bl_0]
        simp only [this, List.getLast_singleton]; omega
      · have hr : bl (n / 2) ≠ [] := by rw [bl_pos h2]; simp
        have : (bl n).getLast hne = (bl (n / 2)).getLast hr := by
          have : ∀ (xs : List Nat) (hx : xs ≠ []), xs = n % 2 :: bl (n / 2) → xs.getLast hx = (bl (n / 2)).getLast hr := by
            intro xs hx hxs; subst hxs; rw [List.getLast_cons hr]
          exact this _ hne e
        rw [this]; exact ih _ (by omega) hr
theorem length_bl_lt (n k : Nat) : (bl n).length ≤ k ↔ n < 2 ^ k := by
  constructor
  · intro h
    have h1 := val_lt (bits_bl n)
    rw [val_bl] at h1
    exact Nat.lt_of_lt_of_le h1 (Nat.pow_le_pow_right (by decide) h)
  · intro h
    by_cases hne : bl n = []
    · simp [hne]
    · have h1 := val_ge_last hne (last_bl n hne)
      rw [val_bl] at h1
      have h2 : 2 ^ ((bl n).length - 1) < 2 ^ k := Nat.lt_of_le_of_lt h1 h
      have := (Nat.pow_lt_pow_iff_right (a := 2) (by decide)).1 h2
      have := List.length_pos_iff.2 hne
      omega
def bit (x i : Nat) : Nat := x / 2 ^ i % 2
theorem bit_le (x i : Nat) : bit x i ≤ 1 := by unfold bit; omega
def ints (xs : List Nat) : List Value := xs.map fun (n : Nat) => .int .i64 (n : Int)
theorem length_ints (xs : List Nat) : (ints xs).length = xs.length := by simp [ints]
theorem bit_dg (x i : Nat) : dg x (i / 64) / 2 ^ (i % 64) % 2 = bit x i := by
  unfold dg bit
  have e : (18446744073709551616 : Nat) = 2 ^ 64 := rfl
  rw [e, ← Nat.pow_mul]
  have h1 : ∀ a m : Nat, m < 64 → a % 2 ^ 64 / 2 ^ m % 2 = a / 2 ^ m % 2 := by
    intro a m hm
    have : (2 : Nat) ^ 64 = 2 ^ m * 2 ^ (64 - m) := by rw [← Nat.pow_add]; congr 1; omega
    rw [this, Nat.mod_mul_right_div_self]
    have h2 : (2 : Nat) ^ (64 - m) = 2 * 2 ^ (63 - m) := by rw [show 64 - m = (63 - m) + 1 from by omega, Nat.pow_succ]; omega
    rw [h2, Nat.mod_mul_right_mod]
  rw [h1 _ _ (Nat.mod_lt _ (by decide)), Nat.div_div_eq_div_mul, ← Nat.pow_add]
  have := Nat.div_add_mod i 64
  rw [this]
theorem dg_eq (x j : Nat) : dg x j = x / 2 ^ (64 * j) % 2 ^ 64 := by
  unfold dg
  rw [show (18446744073709551616 : Nat) = 2 ^ 64 from rfl, ← Nat.pow_mul]
def cmpN (x y : Nat) : Int := if x < y then -1 else if y < x then 1 else 0
theorem div_bit (x k : Nat) (h : 0 < k) : x / 2 ^ (k - 1) = 2 * (x / 2 ^ k) + bit x (k - 1) := by
  unfold bit
  have : x / 2 ^ k = x / 2 ^ (k - 1) / 2 := by rw [Nat.div_div_eq_div_mul, ← Nat.pow_succ]; congr 2; omega
  rw [this]; omega
theorem OwnS.cap {s : Seg} {A : Option Addr} {n c : Nat} {cells : List Value} {E : TypeId} {sz : Nat} (h : OwnS s A n c cells E sz) : c ≤ 9223372036854775807 := by
  rcases h.2.2 with ⟨_, h, _⟩ | ⟨_, _, _, _, _, h⟩
  · omega
  · exact h
end Go.Fw
end
section
namespace Go.Fw
section
variable {P : Program} {w : World} {T E : TypeId} {len d n : Nat}
theorem forIn_all {α : Type} (c : α → Bool) (body : α → Option Bool × Unit → Sem (ForInStep (Option Bool × Unit))) : ∀ (l : List α),
    (∀ i ∈ l, (body i (none, ())).run P w = .ok (if c i then .yield (none, ()) else .done (some false, ())) w) →
    (forIn l (none, ()) body).run P w = .ok (if l.all c then (none, ()) else (some false, ())) w
  | [], _ => by simp
  | i :: l, h => by
    have h1 := h i (by simp)
    have ih := forIn_all c body l fun j hj => h j (by simp [hj])
    simp only [List.forIn_cons, Sem.run_bind, h1, Result.andThen_ok]
    cases hc : c i
    · simp [hc]
    · simp [hc, ih]
def EqOk (P : Program) (d : Nat) (T : TypeId) (x y : Value) (b : Bool) : Prop := ∀ w, (Op.equalIn d T x y).run P w = .ok b w
theorem eq_int {k : IntKind} (hT : P.underlying T = some (.int k)) (a b : Int) : EqOk P (d + 1) T (.int k a) (.int k b) (decide (a = b)) := by
  intro w
  rw [Op.equalIn]
  simp only [Sem.run_bind, run_underlying hT, Result.andThen_ok, if_true, Sem.run_pure]
  rfl
theorem eq_bool (hT : P.underlying T = some .bool) (a b : Bool) : EqOk P (d + 1) T (.bool a) (.bool b) (decide (a = b)) := by
  intro w
  rw [Op.equalIn]
  simp only [Sem.run_bind, run_underlying hT, Result.andThen_ok, Sem.run_pure]
  rfl
theorem run_part1 (h : oneT P E = true) {cs : Array Value} {off : Nat} {v : Value} (hv : cs[off]? = some v) : (part E cs off).run P w = .ok v w := by
  simp only [part, Sem.run_bind, run_isAgg_one h, Result.andThen_ok, Bool.false_eq_true, if_false, hv, Sem.run_pure]
theorem run_partA (h : aggT P E = true) (hs : szT P E n) {cs : Array Value} {off : Nat} : (part E cs off).run P w = .ok (.agg (cs.extract off (off + n))) w := by
  simp only [part, Sem.run_bind, run_isAgg_agg h, Result.andThen_ok, if_true, run_sizeOf' hs, Sem.run_pure]
theorem eq_arr (hT : P.underlying T = some (.array len E)) (hs : szT P E n) (xs ys : Array Value) (c : Nat → Bool) (u v : Nat → Value)
    (hx : ∀ i, i < len → ∀ w, (part E xs (i * n)).run P w = .ok (u i) w) (hy : ∀ i, i < len → ∀ w, (part E ys (i * n)).run P w = .ok (v i) w) (hc : ∀ i, i < len → EqOk P d E (u i) (v i) (c i)) :
    EqOk P (d + 1) T (.agg xs) (.agg ys) ((List.range len).all c) := by
  intro w
  rw [Op.equalIn]
  simp only [Sem.run_bind, run_underlying hT, Result.andThen_ok, run_sizeOf' hs]
  rw [Std.Legacy.Range.forIn_eq_forIn_range']
  have hr : List.range' ([:len] : Std.Legacy.Range).start ([:len] : Std.Legacy.Range).size ([:len] : Std.Legacy.Range).step = List.range len := by
    simp [Std.Legacy.Range.size, List.range_eq_range']
  rw [hr, forIn_all c]
  · cases (List.range len).all c <;> rfl
  · intro i hi
    have hi := List.mem_range.1 hi
    simp only [Sem.run_bind, hx i hi, hy i hi, Result.andThen_ok, hc i hi w]
    cases c i <;> rfl
variable {ρ : Operand → Value} {dst : Option Tmp} {ty : TypeId} {pos : String} {af : Array Edge} {g : Option (Nat × Bool)} {x y : Operand} {T' : TypeId}
theorem R.neqB {T' : TypeId} {b c : Bool} (hx : ρ x = .bool b) (hy : ρ y = .bool c) (hT : P.underlying T = some .bool) :
    (execOp ρ ⟨dst, .binOp .neq T x y T', ty, pos, af, g⟩).run P w = .ok (.value (.bool (decide (b ≠ c)))) w := by
  have he : (Op.equal T (.bool b) (.bool c)).run P w = .ok (decide (b = c)) w := eq_bool hT b c w
  simp only [execOp, hx, hy, eqGuard, binOp, he, Sem.run_bind, Sem.run_pure, Result.andThen_ok, Bool.not_true, Bool.false_eq_true, if_false]
  simp
theorem R.eqlAgg {xs ys : Array Value} {b : Bool} (hx : ρ x = .agg xs) (hy : ρ y = .agg ys) (hE : EqOk P Op.maxDepth T (.agg xs) (.agg ys) b) (hG : P.eqGuardType P.depth T = false) :
    (execOp ρ ⟨dst, .binOp .eql T x y T', ty, pos, af, g⟩).run P w = .ok (.value (.bool b)) w := by
  have hg : (eqGuard .eql T x y (.agg xs) (.agg ys)).run P w = .ok () w := by
    simp [eqGuard, hG, Sem.run_bind, Result.andThen_ok]
  simp only [execOp, hx, hy, hg, binOp, Op.equal, hE w, Sem.run_bind, Sem.run_pure, Result.andThen_ok]
theorem R.neqAgg {xs ys : Array Value} {b : Bool} (hx : ρ x = .agg xs) (hy : ρ y = .agg ys) (hE : EqOk P Op.maxDepth T (.agg xs) (.agg ys) b) (hG : P.eqGuardType P.depth T = false) :
    (execOp ρ ⟨dst, .binOp .neq T x y T', ty, pos, af, g⟩).run P w = .ok (.value (.bool (!b))) w := by
  have hg : (eqGuard .neq T x y (.agg xs) (.agg ys)).run P w = .ok () w := by
    simp [eqGuard, hG, Sem.run_bind, Result.andThen_ok]
  simp only [execOp, hx, hy, hg, binOp, Op.equal, hE w, Sem.run_bind, Sem.run_pure, Result.andThen_ok]
end
theorem wide_parts (x : Nat) (hx : x < 115792089237316195423570985008687907853269984665640564039457584007913129639936) :
    x = dg x 0 + 18446744073709551616 * (dg x 1 + 18446744073709551616 * (dg x 2 + 18446744073709551616 * dg x 3)) := by
  have e1 : x / 340282366920938463463374607431768211456 = x / 18446744073709551616 / 18446744073709551616 := by rw [Nat.div_div_eq_div_mul]
  have e2 : x / 6277101735386680763835789423207666416102355444464034512896 = x / 18446744073709551616 / 18446744073709551616 / 18446744073709551616 := by rw [Nat.div_div_eq_div_mul, Nat.div_div_eq_div_mul]
  rw [dg0, dg1, dg2, dg3, e1, e2]
  omega
theorem wide_ext {x y : Nat} (hx : x < 115792089237316195423570985008687907853269984665640564039457584007913129639936) (hy : y < 115792089237316195423570985008687907853269984665640564039457584007913129639936)
    (h : ∀ i, i < 4 → dg x i = dg y i) : x = y := by
  rw [wide_parts x hx, wide_parts y hy, h 0 (by decide), h 1 (by decide), h 2 (by decide), h 3 (by decide)]
end Go.Fw
namespace Go.Proofs.YtlapmbkfmbkdoaaGreatDoor
open Go Go.Fw
theorem eg32 : Tryz.prog.eqGuardType Tryz.prog.depth 32 = false := by kernel_rfl
theorem eqW29 {d : Nat} (x y : Nat) (hx : x < 115792089237316195423570985008687907853269984665640564039457584007913129639936) (hy : y < 115792089237316195423570985008687907853269984665640564039457584007913129639936) :
    EqOk Tryz.prog (d + 2) 32 (wv x) (wv y) (decide (x = y)) := by
  have h : EqOk Tryz.prog (d + 2) 32 (wv x) (wv y) ((List.range 4).all fun i => decide (((dg x i : Nat) : Int) = ((dg y i : Nat) : Int))) := by
    refine eq_arr (u := fun i => .int .u64 ((dg x i : Nat) : Int)) (v := fun i => .int .u64 ((dg y i : Nat) : Int)) Tryz.underlying32 sz30 _ _ _ ?_ ?_ ?_
    · intro i hi w
      refine run_part1 one30 ?_
      have := wc_at x i hi
      simpa using this
    · intro i hi w
      refine run_part1 one30 ?_
      have := wc_at y i hi
      simpa using this
    · intro i hi
      exact eq_int Tryz.underlying30 _ _
  have e : ((List.range 4).all fun i => decide (((dg x i : Nat) : Int) = ((dg y i : Nat) : Int))) = decide (x = y) := by
    by_cases hxy : x = y
    · subst hxy; simp
    · rw [decide_eq_false hxy]
      cases hb : ((List.range 4).all fun i => decide (((dg x i : Nat) : Int) = ((dg y i : Nat) : Int))) with
      | false => rfl
      | true =>
        rw [List.all_eq_true] at hb
        exact absurd (wide_ext hx hy fun i hi => by
          have := of_decide_eq_true (hb i (List.mem_range.2 hi))
          omega) hxy
  rw [← e]; exact h
theorem R.eqlW {ρ : Operand → Value} {dst : Option Tmp} {ty : TypeId} {pos : String} {af : Array Edge} {g : Option (Nat × Bool)} {a b : Operand} {T' : TypeId} {w : World} {x y : Nat}
    (ha : ρ a = wv x) (hb : ρ b = wv y) (hx : x < 115792089237316195423570985008687907853269984665640564039457584007913129639936) (hy : y < 115792089237316195423570985008687907853269984665640564039457584007913129639936) :
    (execOp ρ ⟨dst, .binOp .eql 32 a b T', ty, pos, af, g⟩).run Tryz.prog w = .ok (.value (.bool (decide (x = y)))) w :=
  R.eqlAgg ha hb (eqW29 (d := 9998) x y hx hy) eg32
end Go.Proofs.YtlapmbkfmbkdoaaGreatDoor
namespace Go.Fw
def bw (x y k : Nat) : Nat := if x % 18446744073709551616 ^ k < y % 18446744073709551616 ^ k then 1 else 0
theorem bw_le (x y k : Nat) : bw x y k ≤ 1 := by unfold bw; split <;> omega
theorem bw_0 (x y : Nat) : bw x y 0 = 0 := by simp [bw, Nat.mod_one]
theorem bw_succ (x y k : Nat) : bw x y (k + 1) = if dg x k < dg y k + bw x y k then 1 else 0 := by
  have h1 := mod_succ x k
  have h2 := mod_succ y k
  have hp := pow_pos' k
  unfold bw
  rw [h1, h2]
  have hx := Nat.mod_lt x hp
  have hy := Nat.mod_lt y hp
  generalize x % 18446744073709551616 ^ k = xr at *
  generalize y % 18446744073709551616 ^ k = yr at *
  generalize 18446744073709551616 ^ k = p at *
  generalize dg x k = a at *
  generalize dg y k = b at *
  have key : a * p + xr < b * p + yr ↔ a < b + (if xr < yr then 1 else 0) := by
    constructor
    · intro h
      rcases Nat.lt_or_ge a b with hab | hab
      · omega
      · have hm : b * p ≤ a * p := Nat.mul_le_mul_right _ hab
        have : xr < yr := by omega
        rw [if_pos this]
        rcases Nat.lt_or_ge b a with h3 | h3
        · have h4 : (b + 1) * p ≤ a * p := Nat.mul_le_mul_right _ h3
          rw [Nat.add_mul] at h4; omega
        · omega
    · intro h
      split at h
      · rename_i h3
        have hm : a * p ≤ b * p := Nat.mul_le_mul_right _ (by omega)
        omega
      · have h4 : (a + 1) * p ≤ b * p := Nat.mul_le_mul_right _ (by omega)
        rw [Nat.add_mul] at h4; omega
  by_cases h : a * p + xr < b * p + yr
  · rw [if_pos h, if_pos (key.1 h)]
  · rw [if_neg h, if_neg (fun h' => h (key.2 h'))]
theorem dg_sub (x y k : Nat) (hk : k < 4) (hy : y < 115792089237316195423570985008687907853269984665640564039457584007913129639936) :
    dg (x + 115792089237316195423570985008687907853269984665640564039457584007913129639936 - y) k = (dg x k + 18446744073709551616 - dg y k - bw x y k) % 18446744073709551616 := by
  have hM : (115792089237316195423570985008687907853269984665640564039457584007913129639936 : Nat) = 18446744073709551616 ^ k * (18446744073709551616 * 18446744073709551616 ^ (3 - k)) := by
    have : k = 0 ∨ k = 1 ∨ k = 2 ∨ k = 3 := by omega
    rcases this with rfl | rfl | rfl | rfl <;> rfl
  have hp := pow_pos' k
  have hdy := dg_lt y k
  have hbw := bw_le x y k
  generalize 18446744073709551616 ^ (3 - k) = m at *
  generalize hMM : (115792089237316195423570985008687907853269984665640564039457584007913129639936 : Nat) = M at *
  have hx1 := Nat.div_add_mod x (18446744073709551616 ^ k)
  have hy1 := Nat.div_add_mod y (18446744073709551616 ^ k)
  have hxr := Nat.mod_lt x hp
  have hyr := Nat.mod_lt y hp
  have hyq : y / 18446744073709551616 ^ k < 18446744073709551616 * m := by
    rw [Nat.div_lt_iff_lt_mul hp, Nat.mul_comm, ← hM]; exact hy
  have hq : (x + M - y) / 18446744073709551616 ^ k = x / 18446744073709551616 ^ k + 18446744073709551616 * m - y / 18446744073709551616 ^ k - bw x y k := by
    unfold bw
    generalize 18446744073709551616 ^ k = p at *
    generalize x / p = xq at *
    generalize y / p = yq at *
    generalize x % p = xr at *
    generalize y % p = yr at *
    generalize 18446744073709551616 * m = t at *
    subst hM
    have hle : yq * p ≤ t * p := Nat.mul_le_mul_right _ (by omega)
    rw [Nat.mul_comm p xq] at hx1
    rw [Nat.mul_comm p yq] at hy1
    split
    · rename_i h
      have e : x + p * t - y = (xr + p - yr) + p * (xq + t - yq - 1) := by
        have h5 : p * (xq + t - yq - 1) + p + yq * p = xq * p + t * p := by
          have : xq + t = (xq + t - yq - 1) + 1 + yq := by omega
          have h6 := congrArg (· * p) this
          simp only [Nat.add_mul] at h6
          rw [Nat.mul_comm p]; omega
        rw [Nat.mul_comm p t]
        omega
      rw [e, Nat.add_mul_div_left _ _ hp, Nat.div_eq_of_lt (by omega)]; omega
    · rename_i h
      have e : x + p * t - y = (xr - yr) + p * (xq + t - yq) := by
        have h5 : p * (xq + t - yq) + yq * p = xq * p + t * p := by
          have : xq + t = (xq + t - yq) + yq := by omega
          have h6 := congrArg (· * p) this
          simp only [Nat.add_mul] at h6
          rw [Nat.mul_comm p]; omega
        rw [Nat.mul_comm p t]
        omega
      rw [e, Nat.add_mul_div_left _ _ hp, Nat.div_eq_of_lt (by omega)]; omega
  unfold dg at *
  rw [hq]
  generalize x / 18446744073709551616 ^ k = xq at *
  generalize y / 18446744073709551616 ^ k = yq at *
  omega
theorem dg_addM (z k : Nat) (hk : k < 4) : dg (z + 115792089237316195423570985008687907853269984665640564039457584007913129639936) k = dg z k := by
  have : k = 0 ∨ k = 1 ∨ k = 2 ∨ k = 3 := by omega
  rcases this with rfl | rfl | rfl | rfl <;> simp only [dg0, dg1, dg2, dg3] <;> omega
theorem wc_addM (z : Nat) : wc (z + 115792089237316195423570985008687907853269984665640564039457584007913129639936) = wc z := by
  simp only [wc, dg_addM z 0 (by decide), dg_addM z 1 (by decide), dg_addM z 2 (by decide), dg_addM z 3 (by decide)]
theorem bw_4 (x y : Nat) (hx : x < 115792089237316195423570985008687907853269984665640564039457584007913129639936) (hy : y < 115792089237316195423570985008687907853269984665640564039457584007913129639936) :
    bw x y 4 = if x < y then 1 else 0 := by
  unfold bw
  rw [show (18446744073709551616 : Nat) ^ 4 = 115792089237316195423570985008687907853269984665640564039457584007913129639936 from rfl, Nat.mod_eq_of_lt hx, Nat.mod_eq_of_lt hy]
end Go.Fw
end
section
namespace Go.Proofs.YtlapmbkfmbkdoaaGreatDoor
open Go Go.Fw Go.RowKit
attribute [local irreducible] Go.Oper.wp Go.Code.wp Go.wpList Go.Fw.WL Go.Calls
end Go.Proofs.YtlapmbkfmbkdoaaGreatDoor
end
section
namespace Go.Proofs.YtlapmbkfmbkdoaaGreatDoor
open Go Go.Fw Go.RowKit
attribute [local irreducible] Go.Oper.wp Go.Code.wp Go.wpList Go.Fw.WL Go.Calls
end Go.Proofs.YtlapmbkfmbkdoaaGreatDoor
end
section
namespace Go.Proofs.YtlapmbkfmbkdoaaGreatDoor
open Go Go.Fw Go.RowKit
attribute [local irreducible] Go.Oper.wp Go.Code.wp Go.wpList Go.Fw.WL Go.Calls
end Go.Proofs.YtlapmbkfmbkdoaaGreatDoor
end
section
namespace Go.Proofs.YtlapmbkfmbkdoaaGreatDoor
open Go Go.Fw Go.RowKit
attribute [local irreducible] Go.Oper.wp Go.Code.wp Go.wpList Go.Fw.WL Go.Calls
def addW (x y : Nat) : Value := .tuple #[wv (if x + y < 115792089237316195423570985008687907853269984665640564039457584007913129639936 then x + y else 0), .int .i64 (if x + y < 115792089237316195423570985008687907853269984665640564039457584007913129639936 then 0 else 22)]
def subW (x y : Nat) : Value := .tuple #[wv (if y ≤ x then x - y else 0), .int .i64 (if y ≤ x then 0 else 23)]
end Go.Proofs.YtlapmbkfmbkdoaaGreatDoor
end
section
namespace Go.Proofs.YtlapmbkfmbkdoaaGreatDoor
open Go Go.Fw Go.RowKit
attribute [local irreducible] Go.Oper.wp Go.Code.wp Go.wpList Go.Fw.WL Go.Calls
theorem add_calls (x y : Nat) (w0 : World) (hx : x < 115792089237316195423570985008687907853269984665640564039457584007913129639936) (hy : y < 115792089237316195423570985008687907853269984665640564039457584007913129639936) : Ret Tryz.prog 119 [wv x, wv y] w0 [] (fun v s => v = addW x y ∧ s = []) := by
 refine fn_start Tryz.func119 Y Tryz.ntmps119 Y [(0, wv x), (1, wv y)] ⟨Y, Y, trivial⟩ ?_
 intro Q a hP J hR hN
 have G := St.start w0
 refine wp_seq_k fun K1 hK1=> wp_region_lit <| so (wn Y) (O.box Y Y J (J.ev Y) Y G fun b2 a w J G=> ?_)
 refine so (wn Y) (O.box Y Y J (J.ev Y) Y G fun b3 a w J G=> ?_)
 refine so (wn Y) (O.alloc Y Y J ze32 Y G fun b4 a w J G=> ?_)
 refine av J Y Y fun a J=> s0 <| then_n (hK1 _ _ <| wp_seq_k fun K2 hK2=> wp_region_lit <| so (wn Y) (O.alloc Y Y J ze32 Y G fun b6 a w J G=> ?_))
 refine s0 <| then_n (hK2 _ _ <| wp_seq_k fun K3 hK3=> wp_region_lit <| av J Y Y fun a J=> s0 <| then_n (hK3 _ _ <| wp_seq_k fun K4 hK4=> wp_seq_k fun K5 hK5=> wp_region_lit <| mv J Y Y fun a J=> s0 <| then_n (hK5 _ _ <| wp_block <| wp_loop_N (fun g a w=> ∃ (k : Nat), 4 - k = g ∧ Fr 30 [(2, .pointer (some ⟨b2, 0, none⟩)), (3, .pointer (some ⟨b3, 0, none⟩)), (4, .pointer (some ⟨b4, 0, none⟩)), (6, .pointer (some ⟨b6, 0, none⟩)), (7, .int .u64 (cy x y k : Nat)), (9, .int .i64 (k : Nat))] a ∧ St w0 [] [[(b6, Cel (mkc 4 (dg (x + y)) k) 32)], [(b4, Cel ([.int .u64 0, .int .u64 0, .int .u64 0, .int .u64 0]) 32)], [(b3, Cel (wc y) 32)], [(b2, Cel (wc x) 32)]] w ∧ (k ≤ 4)) (4 - 0) ?_ ?_)))
 ·exact ⟨0, Y, J.sub ⟨Y, Y, Y, Y, (by rw [cy_0]; rfl), Y, trivial⟩, G.sel [0, 1, 2, 3] Y Y, by omega⟩
 rintro KL1 g a w ⟨k, hg1, J, G, hk⟩ hKL1
 refine wp_seq_k fun K6 hK6=> wp_region_lit <| lS J Y Y Y fun a J=> s0 <| then_n (hK6 _ _ <| wp_seq_k fun K7 hK7=> cD J Y (fun c1=> ?_) (fun c1=> ?_))
 ·refine wp_skip <| then_n (hK7 _ _ <| wp_seq_k fun K8 hK8=> wp_block <| wp_seq_k fun K9 hK9=> wp_region_lit <| mv J Y Y fun a J=> av J Y Y fun a J=> s0 <| then_n (hK9 _ _ <| wp_drawS G [(0, 0), (1, 0), (2, 0), (3, 1), (4, 0), (5, 0), (6, 1), (7, 0), (8, 0), (9, 0), (10, 0), (11, 0), (12, 0), (13, 3), (14, 0)] mix (by kernel_rfl) (hP.then.block.then.then.block) fun w G=> ?_))
  have hD := G
  refine dm J Y Y Y fun a J=> dm J Y Y Y fun a J=> dv J Y Y Y Y (fun w=> R.indexA Tryz.underlying32 sz30 (J.ev Y) (J.ev Y) (by omega) (by omega)) fun a J=> ds J Y Y Y Y hD (fun w hD=> R.load one30 (J.ev Y) hD (.t (.t (.t .h))) (wc_at x k (by omega))) fun a J=> ?_
  refine dm J Y Y Y fun a J=> dv J Y Y Y Y (fun w=> R.indexA Tryz.underlying32 sz30 (J.ev Y) (J.ev Y) (by omega) (by omega)) fun a J=> ds J Y Y Y Y hD (fun w hD=> R.load one30 (J.ev Y) hD (.t (.t .h)) (wc_at y k (by omega))) fun a J=> ?_
  refine dm J Y Y Y fun a J=> dv J Y Y Y Y (fun w=> R.extern (J.evs Y) (x95 (dg x k) (dg y k) (cy x y k) (cy_le x y k) w)) fun a J=> dm J Y Y Y fun a J=> dx J Y Y Y Y fun a J=> dx J Y Y Y Y fun a J=> dv J Y Y Y Y (fun w=> R.indexA Tryz.underlying32 sz30 (J.ev Y) (J.ev Y) (by omega) (by omega)) fun a J=> dw Y (wn Y) (O.store sz30 (J.ev Y) (J.ev Y) Y Y G .h (mkc_at 4 (dg (x + y)) k _ (by rw [dg_add])) (by simp only [length_mkc]; omega) fun w G=> ?_)
  refine da J Y Y Y fun a J=> d0 <| blk_n <| then_n (hK8 _ _ <| wp_region_lit <| aI J Y Y Y (by omega) fun a J=> mv J Y Y fun a J=> s0 <| then_n (hKL1 (4 - (k + 1)) _ _ ?_ ?_))
  ·omega
  exact ⟨k + 1, Y, J.sub ⟨Y, Y, Y, Y, (by rw [cy_succ]; rfl), Y, trivial⟩, G.sel [0, 1, 2, 3] Y Y, by omega⟩
 obtain rfl : k = 4 := by omega
 rw [show mkc 4 (dg (x + y)) 4 = wc (x + y) from rfl] at G
 refine wp_exit (then_x (then_x (blk_hit <| then_n (hK4 _ _ <| wp_seq_k fun K10 hK10=> wp_seq_k fun K11 hK11=> wp_region_lit <| mv J Y Y fun a J=> sw J Y Y Y (R.gtr (J.ev Y) (J.ev Y)) fun a J=> s0 <| then_n (hK11 _ _ <| cD J Y (fun c2=> ?_) (fun c2=> ?_))))))
 ·have e : ¬ (x + y < 115792089237316195423570985008687907853269984665640564039457584007913129639936) := by have := cy_4 x y hx hy; omega
  refine wp_seq_k fun K12 hK12=> wp_region_lit <| sw J Y Y Y (R.buildArr (l := [_, _, _, _]) Tryz.underlying32 ze32 sz30 (J.evp Y) Y) fun a J=> so (wn Y) (O.storeW sz32 (J.ev Y) (J.ev Y) Y Y (by simp [Value.oneCell']) G (.t .h) Y fun w G=> ?_)
  refine av J Y Y fun a J=> s0 <| then_n (hK12 _ _ <| wp_ret (then_r (hR _ _ _ _ _ J (run_results Tryz.results119 (.cw J Y agg32 G (.t .h) sz32 Y (.t J Y (.nil)))) ?_)))
  exact ⟨_, [], Y, ⟨by simp only [addW, if_neg e]; rfl, Y⟩, G.none⟩
 have e : x + y < 115792089237316195423570985008687907853269984665640564039457584007913129639936 := by have := cy_4 x y hx hy; omega
 refine wp_skip <| then_n (hK10 _ _ <| wp_seq_k fun K13 hK13=> wp_region_lit <| sw J Y Y Y (R.loadW agg32 (J.ev Y) G .h sz32 Y) fun a J=> so (wn Y) (O.storeW sz32 (J.ev Y) (J.ev Y) Y Y (by simp [Value.oneCell']) G (.t .h) Y fun w G=> ?_))
 refine av J Y Y fun a J=> s0 <| then_n (hK13 _ _ <| wp_ret (hR _ _ _ _ _ J (run_results Tryz.results119 (.cw J Y agg32 G (.t .h) sz32 Y (.t J Y (.nil)))) ?_))
 exact ⟨_, [], Y, ⟨by simp only [addW, if_pos e]; rfl, Y⟩, G.none⟩
theorem sub_calls (x y : Nat) (w0 : World) (hx : x < 115792089237316195423570985008687907853269984665640564039457584007913129639936) (hy : y < 115792089237316195423570985008687907853269984665640564039457584007913129639936) : Ret Tryz.prog 120 [wv x, wv y] w0 [] (fun v s => v = subW x y ∧ s = []) := by
 refine fn_start Tryz.func120 Y Tryz.ntmps120 Y [(0, wv x), (1, wv y)] ⟨Y, Y, trivial⟩ ?_
 intro Q a hP J hR hN
 have G := St.start w0
 refine wp_seq_k fun K1 hK1=> wp_region_lit <| so (wn Y) (O.box Y Y J (J.ev Y) Y G fun b2 a w J G=> ?_)
 refine so (wn Y) (O.box Y Y J (J.ev Y) Y G fun b3 a w J G=> ?_)
 refine so (wn Y) (O.alloc Y Y J ze32 Y G fun b4 a w J G=> ?_)
 refine av J Y Y fun a J=> s0 <| then_n (hK1 _ _ <| wp_seq_k fun K2 hK2=> wp_region_lit <| so (wn Y) (O.alloc Y Y J ze32 Y G fun b6 a w J G=> ?_))
 refine s0 <| then_n (hK2 _ _ <| wp_seq_k fun K3 hK3=> wp_region_lit <| av J Y Y fun a J=> s0 <| then_n (hK3 _ _ <| wp_seq_k fun K4 hK4=> wp_seq_k fun K5 hK5=> wp_region_lit <| mv J Y Y fun a J=> s0 <| then_n (hK5 _ _ <| wp_block <| wp_loop_N (fun g a w=> ∃ (k : Nat), 4 - k = g ∧ Fr 30 [(2, .pointer (some ⟨b2, 0, none⟩)), (3, .pointer (some ⟨b3, 0, none⟩)), (4, .pointer (some ⟨b4, 0, none⟩)), (6, .pointer (some ⟨b6, 0, none⟩)), (7, .int .u64 (bw x y k : Nat)), (9, .int .i64 (k : Nat))] a ∧ St w0 [] [[(b6, Cel (mkc 4 (dg (x + 115792089237316195423570985008687907853269984665640564039457584007913129639936 - y)) k) 32)], [(b4, Cel ([.int .u64 0, .int .u64 0, .int .u64 0, .int .u64 0]) 32)], [(b3, Cel (wc y) 32)], [(b2, Cel (wc x) 32)]] w ∧ (k ≤ 4)) (4 - 0) ?_ ?_)))
 ·exact ⟨0, Y, J.sub ⟨Y, Y, Y, Y, (by rw [bw_0]; rfl), Y, trivial⟩, G.sel [0, 1, 2, 3] Y Y, by omega⟩
 rintro KL1 g a w ⟨k, hg1, J, G, hk⟩ hKL1
 refine wp_seq_k fun K6 hK6=> wp_region_lit <| lS J Y Y Y fun a J=> s0 <| then_n (hK6 _ _ <| wp_seq_k fun K7 hK7=> cD J Y (fun c1=> ?_) (fun c1=> ?_))
 ·refine wp_skip <| then_n (hK7 _ _ <| wp_seq_k fun K8 hK8=> wp_block <| wp_seq_k fun K9 hK9=> wp_region_lit <| mv J Y Y fun a J=> av J Y Y fun a J=> s0 <| then_n (hK9 _ _ <| wp_drawS G [(0, 0), (1, 0), (2, 0), (3, 1), (4, 0), (5, 0), (6, 1), (7, 0), (8, 0), (9, 0), (10, 0), (11, 0), (12, 0), (13, 3), (14, 0)] mix (by kernel_rfl) (hP.then.block.then.then.block) fun w G=> ?_))
  have hD := G
  refine dm J Y Y Y fun a J=> dm J Y Y Y fun a J=> dv J Y Y Y Y (fun w=> R.indexA Tryz.underlying32 sz30 (J.ev Y) (J.ev Y) (by omega) (by omega)) fun a J=> ds J Y Y Y Y hD (fun w hD=> R.load one30 (J.ev Y) hD (.t (.t (.t .h))) (wc_at x k (by omega))) fun a J=> ?_
  refine dm J Y Y Y fun a J=> dv J Y Y Y Y (fun w=> R.indexA Tryz.underlying32 sz30 (J.ev Y) (J.ev Y) (by omega) (by omega)) fun a J=> ds J Y Y Y Y hD (fun w hD=> R.load one30 (J.ev Y) hD (.t (.t .h)) (wc_at y k (by omega))) fun a J=> ?_
  refine dm J Y Y Y fun a J=> dv J Y Y Y Y (fun w=> R.extern (J.evs Y) (x96 (dg x k) (dg y k) (bw x y k) (bw_le x y k) w)) fun a J=> dm J Y Y Y fun a J=> dx J Y Y Y Y fun a J=> dx J Y Y Y Y fun a J=> dv J Y Y Y Y (fun w=> R.indexA Tryz.underlying32 sz30 (J.ev Y) (J.ev Y) (by omega) (by omega)) fun a J=> dw Y (wn Y) (O.store sz30 (J.ev Y) (J.ev Y) Y Y G .h (mkc_at 4 (dg (x + 115792089237316195423570985008687907853269984665640564039457584007913129639936 - y)) k _ (by rw [dg_sub x y k (by omega) hy])) (by simp only [length_mkc]; omega) fun w G=> ?_)
  refine da J Y Y Y fun a J=> d0 <| blk_n <| then_n (hK8 _ _ <| wp_region_lit <| aI J Y Y Y (by omega) fun a J=> mv J Y Y fun a J=> s0 <| then_n (hKL1 (4 - (k + 1)) _ _ ?_ ?_))
  ·omega
  exact ⟨k + 1, Y, J.sub ⟨Y, Y, Y, Y, (by rw [bw_succ]; rfl), Y, trivial⟩, G.sel [0, 1, 2, 3] Y Y, by omega⟩
 obtain rfl : k = 4 := by omega
 rw [show mkc 4 (dg (x + 115792089237316195423570985008687907853269984665640564039457584007913129639936 - y)) 4 = wc (x + 115792089237316195423570985008687907853269984665640564039457584007913129639936 - y) from rfl] at G
 refine wp_exit (then_x (then_x (blk_hit <| then_n (hK4 _ _ <| wp_seq_k fun K10 hK10=> wp_seq_k fun K11 hK11=> wp_region_lit <| mv J Y Y fun a J=> sw J Y Y Y (R.gtr (J.ev Y) (J.ev Y)) fun a J=> s0 <| then_n (hK11 _ _ <| cD J Y (fun c2=> ?_) (fun c2=> ?_))))))
 ·have e : ¬ (y ≤ x) := by have := bw_4 x y hx hy; split at this <;> omega
  refine wp_seq_k fun K12 hK12=> wp_region_lit <| sw J Y Y Y (R.buildArr (l := [_, _, _, _]) Tryz.underlying32 ze32 sz30 (J.evp Y) Y) fun a J=> so (wn Y) (O.storeW sz32 (J.ev Y) (J.ev Y) Y Y (by simp [Value.oneCell']) G (.t .h) Y fun w G=> ?_)
  refine av J Y Y fun a J=> s0 <| then_n (hK12 _ _ <| wp_ret (then_r (hR _ _ _ _ _ J (run_results Tryz.results120 (.cw J Y agg32 G (.t .h) sz32 Y (.t J Y (.nil)))) ?_)))
  exact ⟨_, [], Y, ⟨by simp only [subW, if_neg e]; rfl, Y⟩, G.none⟩
 have e : y ≤ x := by have := bw_4 x y hx hy; split at this <;> omega
 have e2 : x + 115792089237316195423570985008687907853269984665640564039457584007913129639936 - y = (x - y) + 115792089237316195423570985008687907853269984665640564039457584007913129639936 := by omega
 rw [e2, wc_addM] at G
 refine wp_skip <| then_n (hK10 _ _ <| wp_seq_k fun K13 hK13=> wp_region_lit <| sw J Y Y Y (R.loadW agg32 (J.ev Y) G .h sz32 Y) fun a J=> so (wn Y) (O.storeW sz32 (J.ev Y) (J.ev Y) Y Y (by simp [Value.oneCell']) G (.t .h) Y fun w G=> ?_))
 refine av J Y Y fun a J=> s0 <| then_n (hK13 _ _ <| wp_ret (hR _ _ _ _ _ J (run_results Tryz.results120 (.cw J Y agg32 G (.t .h) sz32 Y (.t J Y (.nil)))) ?_))
 exact ⟨_, [], Y, ⟨by simp only [subW, if_pos e]; rfl, Y⟩, G.none⟩
theorem isZero_calls (x : Nat) (w0 : World) (hx : x < 115792089237316195423570985008687907853269984665640564039457584007913129639936) : Ret Tryz.prog 93 [wv x] w0 [] (fun v s => v = .bool (decide (x = 0)) ∧ s = []) := by
 refine fn_start Tryz.func93 Y Tryz.ntmps93 Y [(0, wv x)] ⟨Y, trivial⟩ ?_
 intro Q a hP J hR hN
 have G := St.start w0
 refine wp_seq_k fun K1 hK1=> wp_region_lit <| so (wn Y) (O.box Y Y J (J.ev Y) Y G fun b1 a w J G=> ?_)
 refine av J Y Y fun a J=> s0 <| then_n (hK1 _ _ <| wp_seq_k fun K2 hK2=> wp_region_lit <| sw J Y Y Y (R.loadW agg32 (J.ev Y) G .h sz32 Y) fun a J=> sw J Y Y Y (R.buildArr (l := [_, _, _, _]) Tryz.underlying32 ze32 sz30 (J.evp Y) Y) fun a J=> sw J Y Y Y (R.eqlW (x := x) (y := 0) (J.ev Y) (J.ev Y) hx (by decide)) fun a J=> av J Y Y fun a J=> s0 <| then_n (hK2 _ _ <| wp_ret (hR _ _ _ _ _ J (run_results Tryz.results93 (.t J Y (.nil))) ?_)))
 exact ⟨_, [], Y, ⟨Y, Y⟩, G.none⟩
end Go.Proofs.YtlapmbkfmbkdoaaGreatDoor
end
section
namespace Go.Fw
open Go.RowKit
def val8 (f : Nat → Nat) : Nat → Nat
  | 0 => 0
  | n + 1 => val8 f n + f n * 18446744073709551616 ^ n
def cells8 (f : Nat → Nat) : List Value := (List.range 8).map fun k => .int .u64 ((f k : Nat) : Int)
def upd8 (f : Nat → Nat) (k v : Nat) : Nat → Nat := fun m => if m = k then v else f m
theorem val8_upd (f : Nat → Nat) (k v : Nat) : ∀ n, val8 (upd8 f k v) n + (if k < n then f k * 18446744073709551616 ^ k else 0) = val8 f n + (if k < n then v * 18446744073709551616 ^ k else 0)
  | 0 => by simp [val8]
  | n + 1 => by
    have ih := val8_upd f k v n
    simp only [val8]
    by_cases h : n = k
    · subst h
      rw [if_pos (by omega), if_pos (by omega)]
      rw [if_neg (by omega), if_neg (by omega)] at ih
      have : upd8 f n v n = v := by simp [upd8]
      rw [this]; omega
    · have : upd8 f k v n = f n := by simp [upd8, h]
      rw [this]
      by_cases h2 : k < n
      · rw [if_pos (by omega), if_pos (by omega)]
        rw [if_pos h2, if_pos h2] at ih
        omega
      · rw [if_neg (by omega), if_neg (by omega)]
        rw [if_neg h2, if_neg h2] at ih
        omega
theorem muladd (m f c : Nat) (hm : m ≤ 18446744073709551615 * 18446744073709551615) (hf : f < 18446744073709551616) (hc : c < 18446744073709551616) :
    f + m + c = ((m % 18446744073709551616 + f + 0) % 18446744073709551616 + c + 0) % 18446744073709551616 + 18446744073709551616 * (((m / 18446744073709551616 + (m % 18446744073709551616 + f + 0) / 18446744073709551616) % 18446744073709551616 + ((m % 18446744073709551616 + f + 0) % 18446744073709551616 + c + 0) / 18446744073709551616) % 18446744073709551616) ∧
    ((m / 18446744073709551616 + (m % 18446744073709551616 + f + 0) / 18446744073709551616) % 18446744073709551616 + ((m % 18446744073709551616 + f + 0) % 18446744073709551616 + c + 0) / 18446744073709551616) % 18446744073709551616 < 18446744073709551616 := by
  omega
theorem prod_step {f : Nat → Nat} {i j a b c lo c' : Nat} (hij : i + j < 8) (inv : val8 f 8 + c * 18446744073709551616 ^ (i + j) = a % 18446744073709551616 ^ i * b + dg a i * (b % 18446744073709551616 ^ j) * 18446744073709551616 ^ i) (hs : f (i + j) + dg a i * dg b j + c = lo + 18446744073709551616 * c') :
    val8 (upd8 f (i + j) lo) 8 + c' * 18446744073709551616 ^ (i + (j + 1)) = a % 18446744073709551616 ^ i * b + dg a i * (b % 18446744073709551616 ^ (j + 1)) * 18446744073709551616 ^ i := by
  have h1 := val8_upd f (i + j) lo 8
  rw [if_pos hij, if_pos hij] at h1
  have h2 : b % 18446744073709551616 ^ (j + 1) = b % 18446744073709551616 ^ j + 18446744073709551616 ^ j * dg b j := Nat.mod_pow_succ
  rw [h2, ← Nat.add_assoc i j 1, Nat.pow_succ, Nat.pow_add] at *
  generalize val8 (upd8 f (i + j) lo) 8 = N at *
  generalize val8 f 8 = O at *
  generalize f (i + j) = u at *
  generalize dg a i = x at *
  generalize dg b j = y at *
  generalize a % 18446744073709551616 ^ i * b = A at *
  generalize b % 18446744073709551616 ^ j = R at *
  generalize 18446744073709551616 ^ i = p at *
  generalize 18446744073709551616 ^ j = q at *
  have h3 : (u + x * y + c) * (p * q) = (lo + 18446744073709551616 * c') * (p * q) := by rw [hs]
  have e1 : (u + x * y + c) * (p * q) = u * (p * q) + x * y * (p * q) + c * (p * q) := by grind
  have e2 : (lo + 18446744073709551616 * c') * (p * q) = lo * (p * q) + c' * (p * q * 18446744073709551616) := by grind
  have e3 : x * (R + q * y) * p = x * R * p + x * y * (p * q) := by grind
  rw [e1, e2] at h3
  rw [e3]
  omega
theorem prod_row {f : Nat → Nat} {i a b c : Nat} (hi : i < 4) (hb : b < 18446744073709551616 ^ 4) (hz : f (i + 4) = 0) (inv : val8 f 8 + c * 18446744073709551616 ^ (i + 4) = a % 18446744073709551616 ^ i * b + dg a i * (b % 18446744073709551616 ^ 4) * 18446744073709551616 ^ i) :
    val8 (upd8 f (i + 4) c) 8 = a % 18446744073709551616 ^ (i + 1) * b := by
  have h1 := val8_upd f (i + 4) c 8
  rw [if_pos (by omega), if_pos (by omega), hz, Nat.zero_mul, Nat.add_zero] at h1
  have h2 : a % 18446744073709551616 ^ (i + 1) = a % 18446744073709551616 ^ i + 18446744073709551616 ^ i * dg a i := Nat.mod_pow_succ
  rw [h1, inv, h2, Nat.mod_eq_of_lt hb]
  grind
theorem val8_lt (f : Nat → Nat) (hf : ∀ k, f k < 18446744073709551616) : ∀ n, val8 f n < 18446744073709551616 ^ n
  | 0 => by simp [val8]
  | n + 1 => by
    have ih := val8_lt f hf n
    have h1 : f n * 18446744073709551616 ^ n ≤ 18446744073709551615 * 18446744073709551616 ^ n := Nat.mul_le_mul_right _ (by have := hf n; omega)
    simp only [val8, Nat.pow_succ]
    omega
theorem dg_val8 (f : Nat → Nat) (hf : ∀ k, f k < 18446744073709551616) : ∀ n k, k < n → dg (val8 f n) k = f k
  | 0, k, h => by omega
  | n + 1, k, h => by
    have hl := val8_lt f hf n
    have hp : 0 < 18446744073709551616 ^ n := Nat.pow_pos (by decide)
    unfold dg
    by_cases hk : k = n
    · subst hk
      simp only [val8]
      rw [Nat.add_mul_div_right _ _ hp, Nat.div_eq_of_lt hl, Nat.zero_add, Nat.mod_eq_of_lt (hf k)]
    · have ih := dg_val8 f hf n k (by omega)
      unfold dg at ih
      simp only [val8]
      obtain ⟨t, rfl⟩ : ∃ t, n = k + 1 + t := ⟨n - (k + 1), by omega⟩
      rw [show f (k + 1 + t) * 18446744073709551616 ^ (k + 1 + t) = 18446744073709551616 ^ k * (18446744073709551616 * (18446744073709551616 ^ t * f (k + 1 + t))) from by rw [Nat.pow_add, Nat.pow_succ]; grind, Nat.add_mul_div_left _ _ (Nat.pow_pos (by decide)), Nat.add_mul_mod_self_left]
      exact ih
theorem cells8_eq (f : Nat → Nat) (hf : ∀ k, f k < 18446744073709551616) : cells8 f = cells8 (dg (val8 f 8)) := by
  unfold cells8
  refine List.map_congr_left fun k hk => ?_
  rw [dg_val8 f hf 8 k (by simpa using hk)]
theorem cells8_at {f : Nat → Nat} {k off : Nat} (ho : off = k) (h : k < 8) : (cells8 f)[off]? = some (.int .u64 ((f k : Nat) : Int)) := by
  subst ho; unfold cells8; rw [List.getElem?_map, List.getElem?_range h]; rfl
theorem cells8_set {f : Nat → Nat} {k off v : Nat} (ho : off = k) : (cells8 f).set off (.int .u64 ((v : Nat) : Int)) = cells8 (upd8 f k v) := by
  subst ho
  apply List.ext_getElem?
  intro m
  rw [List.getElem?_set]
  simp only [cells8, List.length_map, List.length_range, List.getElem?_map]
  by_cases hm : m < 8
  · rw [List.getElem?_range hm]
    by_cases e : off = m
    · subst e; simp [hm, upd8]
    · simp [e, upd8, Ne.symm e]
  · by_cases e : off = m
    · subst e; simp [hm]
    · simp [e, List.getElem?_eq_none (l := List.range 8) (i := m) (by simpa using hm)]
theorem one_cells8 (f : Nat → Nat) : ∀ v ∈ cells8 f, v.oneCell' = true := by
  intro v hv
  obtain ⟨k, _, rfl⟩ := List.mem_map.1 hv
  rfl
theorem length_cells8 (f : Nat → Nat) : (cells8 f).length = 8 := by simp [cells8]
theorem upd8_lt {f : Nat → Nat} {k v : Nat} (hf : ∀ k, f k < 18446744073709551616) (hv : v < 18446744073709551616) : ∀ m, upd8 f k v m < 18446744073709551616 := by
  intro m; unfold upd8; split
  · exact hv
  · exact hf m
theorem wc_at' (x k : Nat) (h : k < 4) : (wc x)[((k : Nat) : Int).toNat]? = some (.int .u64 ((dg x k : Nat) : Int)) := by
  have : k = 0 ∨ k = 1 ∨ k = 2 ∨ k = 3 := by omega
  rcases this with rfl | rfl | rfl | rfl <;> rfl
theorem dg_mul_le (a b i j : Nat) : dg a i * dg b j ≤ 18446744073709551615 * 18446744073709551615 := Nat.mul_le_mul (by have := dg_lt a i; omega) (by have := dg_lt b j; omega)
end Go.Fw
end
section
namespace Go.Proofs.YtlapmbkfmbkdoaaGreatDoor
open Go Go.Fw Go.RowKit
attribute [local irreducible] Go.Oper.wp Go.Code.wp Go.wpList Go.Fw.WL Go.Calls
theorem mul64_law (x y : Nat) (hx : x < 18446744073709551616) (hy : y < 18446744073709551616) :
    (((x / 2 ^ 32 * (y / 2 ^ 32)) % 18446744073709551616 + ((x / 2 ^ 32 * (y % 4294967296)) % 18446744073709551616 + (x % 4294967296 * (y % 4294967296)) % 18446744073709551616 / 2 ^ 32) % 18446744073709551616 / 2 ^ 32) % 18446744073709551616 +
      ((((x / 2 ^ 32 * (y % 4294967296)) % 18446744073709551616 + (x % 4294967296 * (y % 4294967296)) % 18446744073709551616 / 2 ^ 32) % 18446744073709551616) % 4294967296 + (x % 4294967296 * (y / 2 ^ 32)) % 18446744073709551616) % 18446744073709551616 / 2 ^ 32) % 18446744073709551616 = x * y / 18446744073709551616 := by
  have e : x * y = (x % 4294967296 + 4294967296 * (x / 4294967296)) * (y % 4294967296 + 4294967296 * (y / 4294967296)) := by
    rw [Nat.mod_add_div, Nat.mod_add_div]
  have r : ∀ a b c d : Nat, (a + 4294967296 * b) * (c + 4294967296 * d) = a * c + 4294967296 * (a * d + b * c) + 18446744073709551616 * (b * d) := by grind
  rw [e, r]
  have ha : x % 4294967296 ≤ 4294967295 := by omega
  have hb : x / 4294967296 ≤ 4294967295 := by omega
  have hc : y % 4294967296 ≤ 4294967295 := by omega
  have hd : y / 4294967296 ≤ 4294967295 := by omega
  have e32 : (2 : Nat) ^ 32 = 4294967296 := by decide
  rw [e32]
  generalize x % 4294967296 = a at *
  generalize x / 4294967296 = b at *
  generalize y % 4294967296 = c at *
  generalize y / 4294967296 = d at *
  have h1 : a * c ≤ 4294967295 * 4294967295 := Nat.mul_le_mul ha hc
  have h2 : b * c ≤ 4294967295 * 4294967295 := Nat.mul_le_mul hb hc
  have h3 : a * d ≤ 4294967295 * 4294967295 := Nat.mul_le_mul ha hd
  have h4 : b * d ≤ 4294967295 * 4294967295 := Nat.mul_le_mul hb hd
  generalize a * c = p at *
  generalize b * c = q at *
  generalize a * d = r' at *
  generalize b * d = s at *
  omega
theorem and32 (x : Nat) : x &&& 4294967295 = x % 4294967296 := by
  have := Nat.and_two_pow_sub_one_eq_mod x 32
  simpa using this
theorem mul64_calls (x y : Nat) (w0 : World) (hx : x < 18446744073709551616) (hy : y < 18446744073709551616) : Ret Tryz.prog 153 [.int .u64 (x : Nat), .int .u64 (y : Nat)] w0 [] (fun v s => v = .tuple #[.int .u64 ((x * y / 18446744073709551616 : Nat) : Int), .int .u64 ((x * y % 18446744073709551616 : Nat) : Int)] ∧ s = []) := by
 refine fn_start Tryz.func153 Y Tryz.ntmps153 Y [(0, .int .u64 (x : Nat)), (1, .int .u64 (y : Nat))] ⟨Y, Y, trivial⟩ ?_
 intro Q a hP J hR hN
 have G := St.start w0
 refine wp_seq_k fun K1 hK1=> wp_region_lit <| av J Y Y fun a J=> av J Y Y fun a J=> s0 <| then_n (hK1 _ _ <| wp_seq_k fun K2 hK2=> wp_region_lit <| mv J Y Y fun a J=> sw J Y Y Y (R.as (R.andU (q := 4294967295) (J.ev Y) (J.ev Y) (by omega) (by decide)) (by rw [and32])) fun a J=> av J Y Y fun a J=> s0 <| then_n (hK2 _ _ <| wp_seq_k fun K3 hK3=> wp_region_lit <| mv J Y Y fun a J=> sw J Y Y Y (R.shrU (m := 32) (J.ev Y) (J.ev Y) (by decide)) fun a J=> av J Y Y fun a J=> s0 <| then_n (hK3 _ _ <| wp_seq_k fun K4 hK4=> wp_region_lit <| mv J Y Y fun a J=> sw J Y Y Y (R.as (R.andU (q := 4294967295) (J.ev Y) (J.ev Y) (by omega) (by decide)) (by rw [and32])) fun a J=> ?_)))
 refine av J Y Y fun a J=> s0 <| then_n (hK4 _ _ <| wp_seq_k fun K5 hK5=> wp_region_lit <| mv J Y Y fun a J=> sw J Y Y Y (R.shrU (m := 32) (J.ev Y) (J.ev Y) (by decide)) fun a J=> av J Y Y fun a J=> s0 <| then_n (hK5 _ _ <| wp_seq_k fun K6 hK6=> wp_region_lit <| mv J Y Y fun a J=> mv J Y Y fun a J=> sw J Y Y Y (R.mulU (J.ev Y) (J.ev Y)) fun a J=> av J Y Y fun a J=> s0 <| then_n (hK6 _ _ <| wp_seq_k fun K7 hK7=> wp_region_lit <| mv J Y Y fun a J=> mv J Y Y fun a J=> sw J Y Y Y (R.mulU (J.ev Y) (J.ev Y)) fun a J=> mv J Y Y fun a J=> ?_)))
 refine sw J Y Y Y (R.shrU (m := 32) (J.ev Y) (J.ev Y) (by decide)) fun a J=> sw J Y Y Y (R.addU (J.ev Y) (J.ev Y)) fun a J=> av J Y Y fun a J=> s0 <| then_n (hK7 _ _ <| wp_seq_k fun K8 hK8=> wp_region_lit <| mv J Y Y fun a J=> sw J Y Y Y (R.as (R.andU (q := 4294967295) (J.ev Y) (J.ev Y) (Nat.mod_lt _ (by decide)) (by decide)) (by rw [and32])) fun a J=> av J Y Y fun a J=> s0 <| then_n (hK8 _ _ <| wp_seq_k fun K9 hK9=> wp_region_lit <| mv J Y Y fun a J=> sw J Y Y Y (R.shrU (m := 32) (J.ev Y) (J.ev Y) (by decide)) fun a J=> av J Y Y fun a J=> s0 <| then_n (hK9 _ _ <| wp_seq_k fun K10 hK10=> wp_region_lit <| mv J Y Y fun a J=> mv J Y Y fun a J=> mv J Y Y fun a J=> ?_)))
 refine sw J Y Y Y (R.mulU (J.ev Y) (J.ev Y)) fun a J=> sw J Y Y Y (R.addU (J.ev Y) (J.ev Y)) fun a J=> av J Y Y fun a J=> s0 <| then_n (hK10 _ _ <| wp_seq_k fun K11 hK11=> wp_region_lit <| mv J Y Y fun a J=> mv J Y Y fun a J=> sw J Y Y Y (R.mulU (J.ev Y) (J.ev Y)) fun a J=> mv J Y Y fun a J=> sw J Y Y Y (R.addU (J.ev Y) (J.ev Y)) fun a J=> mv J Y Y fun a J=> sw J Y Y Y (R.shrU (m := 32) (J.ev Y) (J.ev Y) (by decide)) fun a J=> sw J Y Y Y (R.addU (J.ev Y) (J.ev Y)) fun a J=> av J Y Y fun a J=> s0 <| then_n (hK11 _ _ <| wp_seq_k fun K12 hK12=> wp_region_lit <| mv J Y Y fun a J=> mv J Y Y fun a J=> sw J Y Y Y (R.mulU (J.ev Y) (J.ev Y)) fun a J=> av J Y Y fun a J=> ?_))
 refine s0 <| then_n (hK12 _ _ <| wp_ret (hR _ _ _ _ _ J (run_results Tryz.results153 (.t J Y (.t J Y (.nil)))) ?_))
 refine ⟨_, [], Y, ⟨?_, Y⟩, G.none⟩
 rw [← mul64_law x y hx hy]
 rfl
theorem product_calls (x y : Nat) (w0 : World) (hx : x < 115792089237316195423570985008687907853269984665640564039457584007913129639936) (hy : y < 115792089237316195423570985008687907853269984665640564039457584007913129639936) : Ret Tryz.prog 141 [wv x, wv y] w0 [] (fun v s => v = .agg (cells8 (dg (x * y))).toArray ∧ s = []) := by
 refine fn_start Tryz.func141 Y Tryz.ntmps141 Y [(0, wv x), (1, wv y)] ⟨Y, Y, trivial⟩ ?_
 intro Q a hP J hR hN
 have G := St.start w0
 refine wp_seq_k fun K1 hK1=> wp_region_lit <| so (wn Y) (O.box Y Y J (J.ev Y) Y G fun b2 a w J G=> ?_)
 refine so (wn Y) (O.box Y Y J (J.ev Y) Y G fun b3 a w J G=> ?_)
 refine so (wn Y) (O.alloc Y Y J ze180 Y G fun b4 a w J G=> ?_)
 rw [show Cel [.int .u64 0, .int .u64 0, .int .u64 0, .int .u64 0, .int .u64 0, .int .u64 0, .int .u64 0, .int .u64 0] 180 = Cel (cells8 (fun _ => 0)) 180 from rfl] at G
 refine s0 <| then_n (hK1 _ _ <| wp_seq_k fun K2 hK2=> wp_region_lit <| so (wn Y) (O.alloc Y Y J ze180 Y G fun b5 a w J G=> ?_))
 rw [show Cel [.int .u64 0, .int .u64 0, .int .u64 0, .int .u64 0, .int .u64 0, .int .u64 0, .int .u64 0, .int .u64 0] 180 = Cel (cells8 (fun _ => 0)) 180 from rfl] at G
 refine s0 <| then_n (hK2 _ _ <| wp_seq_k fun K3 hK3=> wp_seq_k fun K4 hK4=> wp_region_lit <| sw J Y Y Y (R.loadW agg32 (J.ev Y) G (.t (.t (.t .h))) sz32 (Y)) fun a J=> mv J Y Y fun a J=> s0 <| then_n (hK4 _ _ <| wp_block <| wp_loop_N (fun g a w=> ∃ (i : Nat) (f : Nat → Nat), 4 - i = g ∧ Fr 65 [(3, .pointer (some ⟨b3, 0, none⟩)), (4, .pointer (some ⟨b4, 0, none⟩)), (5, .pointer (some ⟨b5, 0, none⟩)), (14, wv x), (15, .int .i64 (i : Nat))] a ∧ St w0 [] [[(b5, Cel (cells8 f) 180)], [(b4, Cel (cells8 (fun _=> 0)) 180)], [(b3, Cel (wc y) 32)]] w ∧ (i ≤ 4) ∧ (val8 f 8 = x % 18446744073709551616 ^ i * y) ∧ (∀ k, f k < 18446744073709551616) ∧ (∀ k, i + 4 ≤ k → f k = 0)) (4 - 0) ?_ ?_))
 ·exact ⟨0, fun _ => 0, Y, J.sub ⟨Y, Y, Y, Y, Y, trivial⟩, G.sel [0, 1, 2] Y Y, by omega, by simp [val8, Nat.mod_one], fun _ => (by decide : (0 : Nat) < 18446744073709551616), fun _ _ => rfl⟩
 rintro KL1 g a w ⟨i, f, hg1, J, G, hi, hv, hf, hz⟩ hKL1
 refine wp_seq_k fun K5 hK5=> wp_region_lit <| lS J Y Y Y fun a J=> s0 <| then_n (hK5 _ _ <| wp_seq_k fun K6 hK6=> cD J Y (fun c1=> ?_) (fun c1=> ?_))
 ·refine wp_skip <| then_n (hK6 _ _ <| wp_seq_k fun K7 hK7=> wp_block <| wp_seq_k fun K8 hK8=> wp_region_lit <| mv J Y Y fun a J=> sw J Y Y Y (R.index1 Tryz.underlying32 one30 sz30 (J.ev Y) (J.ev Y) (by omega) (by omega) (wc_at' x i (by omega))) fun a J=> av J Y Y fun a J=> av J Y Y fun a J=> s0 <| then_n (hK8 _ _ <| wp_seq_k fun K9 hK9=> wp_region_lit <| av J Y Y fun a J=> s0 <| then_n (hK9 _ _ <| wp_seq_k fun K10 hK10=> wp_seq_k fun K11 hK11=> wp_region_lit <| sw J Y Y Y (R.loadW agg32 (J.ev Y) G (.t (.t .h)) sz32 (Y)) fun a J=> mv J Y Y fun a J=> s0 <| then_n (hK11 _ _ ?_))))
  refine wp_block <| wp_loop_N (fun g a w=> ∃ (j : Nat) (c : Nat) (f : Nat → Nat), 4 - j = g ∧ Fr 65 [(3, .pointer (some ⟨b3, 0, none⟩)), (4, .pointer (some ⟨b4, 0, none⟩)), (5, .pointer (some ⟨b5, 0, none⟩)), (14, wv x), (15, .int .i64 (i : Nat)), (6, .int .i64 (i : Nat)), (7, .int .u64 ((dg x i : Nat) : Int)), (8, .int .u64 ((c : Nat) : Int)), (19, wv y), (20, .int .i64 (j : Nat))] a ∧ St w0 [] [[(b5, Cel (cells8 f) 180)], [(b4, Cel (cells8 (fun _=> 0)) 180)], [(b3, Cel (wc y) 32)]] w ∧ (j ≤ 4) ∧ (val8 f 8 + c * 18446744073709551616 ^ (i + j) = x % 18446744073709551616 ^ i * y + dg x i * (y % 18446744073709551616 ^ j) * 18446744073709551616 ^ i) ∧ (c < 18446744073709551616) ∧ (∀ k, f k < 18446744073709551616) ∧ (∀ k, i + 4 ≤ k → f k = 0)) (4 - 0) ?_ ?_
  ·exact ⟨0, 0, f, Y, J.sub ⟨Y, Y, Y, Y, Y, Y, Y, Y, Y, Y, trivial⟩, G.sel [0, 1, 2] Y Y, by omega, by rw [hv]; simp [Nat.mod_one], by decide, hf, hz⟩
  rintro KL2 g a w ⟨j, c, f, hg2, J, G, hj, inv, hcl, hf, hz⟩ hKL2
  refine wp_seq_k fun K12 hK12=> wp_region_lit <| lS J Y Y Y fun a J=> s0 <| then_n (hK12 _ _ <| wp_seq_k fun K13 hK13=> cD J Y (fun c2=> ?_) (fun c2=> ?_))
  ·have hma := muladd (dg x i * dg y j) (f (i + j)) c (dg_mul_le x y i j) (hf _) hcl
   refine wp_skip <| then_n (hK13 _ _ <| wp_seq_k fun K14 hK14=> wp_block <| wp_seq_k fun K15 hK15=> wp_region_lit <| mv J Y Y fun a J=> sw J Y Y Y (R.index1 Tryz.underlying32 one30 sz30 (J.ev Y) (J.ev Y) (by omega) (by omega) (wc_at' y j (by omega))) fun a J=> av J Y Y fun a J=> av J Y Y fun a J=> s0 <| then_n (hK15 _ _ <| wp_seq_k fun K16 hK16=> wp_region_lit <| mv J Y Y fun a J=> mv J Y Y fun a J=> so (wn Y) (O.call Y Y J ent153 (J.evs Y) G (mul64_calls (dg x i) (dg y j) _ (dg_lt _ _) (dg_lt _ _)) fun v s27 a w hR J G=> ?_)))
   obtain ⟨rfl, rfl⟩ := hR
   refine mv J Y Y fun a J=> xv J Y Y Y fun a J=> xv J Y Y Y fun a J=> av J Y Y fun a J=> av J Y Y fun a J=> s0 <| then_n (hK16 _ _ <| wp_seq_k fun K17 hK17=> wp_region_lit <| av J Y Y fun a J=> s0 <| then_n (hK17 _ _ <| wp_seq_k fun K18 hK18=> wp_region_lit <| mv J Y Y fun a J=> mv J Y Y fun a J=> mv J Y Y fun a J=> aI J Y Y Y (by omega) fun a J=> sw J Y Y Y (R.indexA Tryz.underlying180 sz30 (J.ev Y) (J.ev Y) (by omega) (by omega)) fun a J=> sw J Y Y Y (R.load one30 (J.ev Y) G (.t .h) (cells8_at (k := i + j) (by simp; omega) (by omega))) fun a J=> sw J Y Y Y (R.extern (J.evs Y) (x95 (dg x i * dg y j % 18446744073709551616) (f (i + j)) 0 (by decide) w)) fun a J=> mv J Y Y fun a J=> xv J Y Y Y fun a J=> xv J Y Y Y fun a J=> ?_))
   refine av J Y Y fun a J=> av J Y Y fun a J=> s0 <| then_n (hK18 _ _ <| wp_seq_k fun K19 hK19=> wp_region_lit <| mv J Y Y fun a J=> mv J Y Y fun a J=> sw J Y Y Y (R.addU (J.ev Y) (J.ev Y)) fun a J=> av J Y Y fun a J=> s0 <| then_n (hK19 _ _ <| wp_seq_k fun K20 hK20=> wp_region_lit <| mv J Y Y fun a J=> mv J Y Y fun a J=> sw J Y Y Y (R.extern (J.evs Y) (x95 ((dg x i * dg y j % 18446744073709551616 + f (i + j) + 0) % 18446744073709551616) c 0 (by decide) w)) fun a J=> mv J Y Y fun a J=> xv J Y Y Y fun a J=> xv J Y Y Y fun a J=> av J Y Y fun a J=> av J Y Y fun a J=> s0 <| then_n (hK20 _ _ ?_)))
   refine wp_seq_k fun K21 hK21=> wp_region_lit <| mv J Y Y fun a J=> mv J Y Y fun a J=> sw J Y Y Y (R.addU (J.ev Y) (J.ev Y)) fun a J=> av J Y Y fun a J=> s0 <| then_n (hK21 _ _ <| wp_seq_k fun K22 hK22=> wp_region_lit <| mv J Y Y fun a J=> mv J Y Y fun a J=> aI J Y Y Y (by omega) fun a J=> mv J Y Y fun a J=> sw J Y Y Y (R.indexA Tryz.underlying180 sz30 (J.ev Y) (J.ev Y) (by omega) (by omega)) fun a J=> so (wn Y) (O.store sz30 (J.ev Y) (J.ev Y) Y Y G (.t .h) (cells8_set (k := i + j) (by simp; omega)) (by rw [length_cells8]; simp; omega) fun w G=> ?_))
   refine s0 <| then_n (hK22 _ _ <| wp_region_lit <| mv J Y Y fun a J=> av J Y Y fun a J=> s0 <| blk_n <| then_n (hK14 _ _ <| wp_region_lit <| aI J Y Y Y (by omega) fun a J=> mv J Y Y fun a J=> s0 <| then_n (hKL2 (4 - (j + 1)) _ _ ?_ ?_)))
   ·omega
   exact ⟨j + 1, _, _, Y, J.sub ⟨Y, Y, Y, Y, Y, Y, Y, Y, Y, Y, trivial⟩, G.sel [1, 2, 3] Y Y, by omega, prod_step (by omega) inv hma.1, hma.2, upd8_lt hf (Nat.mod_lt _ (by decide)), fun k hk => by rw [upd8, if_neg (by omega)]; exact hz k hk⟩
  obtain rfl : j = 4 := by omega
  refine wp_exit (then_x (then_x (blk_hit <| then_n (hK10 _ _ <| wp_region_lit <| mv J Y Y fun a J=> aI J Y Y Y (by omega) fun a J=> mv J Y Y fun a J=> sw J Y Y Y (R.indexA Tryz.underlying180 sz30 (J.ev Y) (J.ev Y) (by omega) (by omega)) fun a J=> so (wn Y) (O.store sz30 (J.ev Y) (J.ev Y) Y Y G .h (cells8_set (k := i + 4) (by simp; omega)) (by rw [length_cells8]; simp; omega) fun w G=> ?_)))))
  refine s0 <| blk_n <| then_n (hK7 _ _ <| wp_region_lit <| aI J Y Y Y (by omega) fun a J=> mv J Y Y fun a J=> s0 <| then_n (hKL1 (4 - (i + 1)) _ _ ?_ ?_))
  ·omega
  exact ⟨i + 1, _, Y, J.sub ⟨Y, Y, Y, Y, Y, trivial⟩, G.sel [0, 1, 2] Y Y, by omega, prod_row (by omega) (by simpa using hy) (hz (i + 4) (by omega)) inv, upd8_lt hf hcl, fun k hk => by rw [upd8, if_neg (by omega)]; exact hz k (by omega)⟩
 obtain rfl : i = 4 := by omega
 refine wp_exit (then_x (then_x (blk_hit <| then_n (hK3 _ _ <| wp_seq_k fun K23 hK23=> wp_region_lit <| sw J Y Y Y (R.loadW agg180 (J.ev Y) G .h sz180 (length_cells8 _)) fun a J=> so (wn Y) (O.storeW sz180 (J.ev Y) (J.ev Y) (length_cells8 _) Y (one_cells8 _) G (.t .h) ((length_cells8 _).trans (length_cells8 _).symm) fun w G=> ?_)))))
 refine s0 <| then_n (hK23 _ _ <| wp_ret (hR _ _ _ _ _ J (run_results Tryz.results141 (.cw J Y agg180 G (.t .h) sz180 (length_cells8 _) (.nil))) ?_))
 have e : cells8 f = cells8 (dg (x * y)) := by rw [cells8_eq f hf, hv, Nat.mod_eq_of_lt (show x < 18446744073709551616 ^ 4 by simpa using hx)]
 exact ⟨_, [], Y, ⟨by rw [e]; rfl, Y⟩, G.none⟩
section
variable {P : Program} {w : World} {ρ : Operand → Value} {dst : Option Tmp} {ty : TypeId} {pos : String} {af : Array Edge} {g : Option (Nat × Bool)} {x y : Operand} {T E : TypeId} {b n sz c : Nat} {k : IntKind} {p : Int}
theorem R.sliceArr (hT : P.underlying T = some (.array n E)) (hs : szT P E sz) (hx : ρ x = .pointer (some ⟨b, 0, none⟩)) (hy : ρ y = .int k p) (h0 : 0 ≤ p) (h1 : p ≤ n) :
    (execOp ρ ⟨dst, .slice T x none (some y) none, ty, pos, af, g⟩).run P w = .ok (.value (.slice (some ⟨b, 0, none⟩) p.toNat n)) w := by
  have e : (if n = 0 then (⟨b, 0, none⟩ : Addr) else (⟨b, 0, none⟩ : Addr).add (0 * sz)) = ⟨b, 0, none⟩ := by simp [Addr.add]
  simp only [execOp, hx, hy, Option.map_none, Option.map_some, Instr.sliceAt, Instr.sureAddr, run_underlying hT, Instr.sliceBounds, Instr.sliceBound, asIntOf, run_sizeOf' hs, h0, h1, and_self, if_true,
    Sem.run_bind, Sem.run_pure, Result.andThen_ok, e, Nat.sub_zero]
theorem R.arrAt (hT : P.underlying T = some (.array n E)) (hx : ρ x = .slice (some ⟨b, 0, none⟩) c sz) (h : n ≤ c) :
    (execOp ρ ⟨dst, .sliceToArrayPointer T x, ty, pos, af, g⟩).run P w = .ok (.value (.pointer (some ⟨b, 0, none⟩))) w := by
  have h' : ¬ c < n := by omega
  simp only [execOp, hx, Instr.arrayAt, run_underlying hT, h', if_false, Sem.run_bind, Sem.run_pure, Result.andThen_ok]
end
theorem or_0 (a b : Nat) : a ||| b = 0 ↔ a = 0 ∧ b = 0 := Nat.or_eq_zero_iff
theorem or_u64 {a b : Nat} (ha : a < 18446744073709551616) (hb : b < 18446744073709551616) : a ||| b < 18446744073709551616 := Nat.or_lt_two_pow (n := 64) ha hb
theorem narrow_law (z : Nat) (hz : z < 13407807929942597099574024998205846127479365820592393377723561443721764030073546976801874298166903427690031858186486050853753882811946569946433649006084096) : ¬ (((dg z 4 ||| dg z 5 ||| dg z 6 ||| dg z 7 : Nat) : Int) = 0) ↔ ¬ z < 115792089237316195423570985008687907853269984665640564039457584007913129639936 := by
  have h : dg z 4 ||| dg z 5 ||| dg z 6 ||| dg z 7 = 0 ↔ z < 115792089237316195423570985008687907853269984665640564039457584007913129639936 := by
    rw [or_0, or_0, or_0]
    unfold dg
    constructor
    · rintro ⟨⟨⟨h4, h5⟩, h6⟩, h7⟩
      have e4 : (18446744073709551616 : Nat) ^ 4 = 115792089237316195423570985008687907853269984665640564039457584007913129639936 := by decide
      have e5 : (18446744073709551616 : Nat) ^ 5 = 115792089237316195423570985008687907853269984665640564039457584007913129639936 * 18446744073709551616 := by decide
      have e6 : (18446744073709551616 : Nat) ^ 6 = 115792089237316195423570985008687907853269984665640564039457584007913129639936 * 18446744073709551616 * 18446744073709551616 := by decide
      have e7 : (18446744073709551616 : Nat) ^ 7 = 115792089237316195423570985008687907853269984665640564039457584007913129639936 * 18446744073709551616 * 18446744073709551616 * 18446744073709551616 := by decide
      rw [e4] at h4; rw [e5, ← Nat.div_div_eq_div_mul] at h5; rw [e6, ← Nat.div_div_eq_div_mul, ← Nat.div_div_eq_div_mul] at h6; rw [e7, ← Nat.div_div_eq_div_mul, ← Nat.div_div_eq_div_mul, ← Nat.div_div_eq_div_mul] at h7
      have : z / 115792089237316195423570985008687907853269984665640564039457584007913129639936 = 0 := by omega
      omega
    · intro h
      have hp : ∀ k, 4 ≤ k → z / 18446744073709551616 ^ k = 0 := fun k hk => Nat.div_eq_of_lt (Nat.lt_of_lt_of_le h (by
        have : (115792089237316195423570985008687907853269984665640564039457584007913129639936 : Nat) = 18446744073709551616 ^ 4 := by decide
        rw [this]; exact Nat.pow_le_pow_right (by decide) hk))
      rw [hp 4 (by omega), hp 5 (by omega), hp 6 (by omega), hp 7 (by omega)]
      simp
  rw [← h]
  omega
theorem wc_cells8 (z : Nat) (j : Nat) (v : Value) (h : (wc z)[j]? = some v) : (cells8 (dg z))[0 + j]? = some v := by
  have hj : j < 4 := (List.getElem?_eq_some_iff.1 h).1
  rw [Nat.zero_add, cells8_at rfl (by omega), ← h]
  have : j = 0 ∨ j = 1 ∨ j = 2 ∨ j = 3 := by omega
  rcases this with rfl | rfl | rfl | rfl <;> rfl
theorem narrow_calls (z : Nat) (w0 : World) (hz : z < 13407807929942597099574024998205846127479365820592393377723561443721764030073546976801874298166903427690031858186486050853753882811946569946433649006084096) : Ret Tryz.prog 140 [.agg (cells8 (dg z)).toArray] w0 [] (fun v s => v = .tuple #[wv (if z < 115792089237316195423570985008687907853269984665640564039457584007913129639936 then z else 0), .int .i64 (if z < 115792089237316195423570985008687907853269984665640564039457584007913129639936 then 0 else 22)] ∧ s = []) := by
 refine fn_start Tryz.func140 Y Tryz.ntmps140 Y [(0, .agg (cells8 (dg z)).toArray)] ⟨Y, trivial⟩ ?_
 intro Q a hP J hR hN
 have G := St.start w0
 refine wp_seq_k fun K1 hK1=> wp_region_lit <| so (wn Y) (O.box Y Y J (J.ev Y) Y G fun b1 a w J G=> ?_)
 refine so (wn Y) (O.alloc Y Y J ze32 Y G fun b2 a w J G=> ?_)
 refine av J Y Y fun a J=> s0 <| then_n (hK1 _ _ <| wp_seq_k fun K2 hK2=> wp_seq_k fun K3 hK3=> wp_region_lit <| sw J Y Y Y (R.indexA Tryz.underlying180 sz30 (J.ev Y) (J.ev Y) (by omega) (by omega)) fun a J=> sw J Y Y Y (R.load one30 (J.ev Y) G (.t .h) (cells8_at (k := 4) (by simp) (by decide))) fun a J=> sw J Y Y Y (R.indexA Tryz.underlying180 sz30 (J.ev Y) (J.ev Y) (by omega) (by omega)) fun a J=> sw J Y Y Y (R.load one30 (J.ev Y) G (.t .h) (cells8_at (k := 5) (by simp) (by decide))) fun a J=> sw J Y Y Y (R.orU (J.ev Y) (J.ev Y) (dg_lt _ _) (dg_lt _ _)) fun a J=> sw J Y Y Y (R.indexA Tryz.underlying180 sz30 (J.ev Y) (J.ev Y) (by omega) (by omega)) fun a J=> sw J Y Y Y (R.load one30 (J.ev Y) G (.t .h) (cells8_at (k := 6) (by simp) (by decide))) fun a J=> sw J Y Y Y (R.orU (J.ev Y) (J.ev Y) (or_u64 (dg_lt _ _) (dg_lt _ _)) (dg_lt _ _)) fun a J=> sw J Y Y Y (R.indexA Tryz.underlying180 sz30 (J.ev Y) (J.ev Y) (by omega) (by omega)) fun a J=> sw J Y Y Y (R.load one30 (J.ev Y) G (.t .h) (cells8_at (k := 7) (by simp) (by decide))) fun a J=> sw J Y Y Y (R.orU (J.ev Y) (J.ev Y) (or_u64 (or_u64 (dg_lt _ _) (dg_lt _ _)) (dg_lt _ _)) (dg_lt _ _)) fun a J=> sw J Y Y Y (R.neq (J.ev Y) (J.ev Y)) fun a J=> s0 <| then_n (hK3 _ _ <| cD J Y (fun c1=> ?_) (fun c1=> ?_)))
 ·have c1 := (narrow_law z hz).1 c1
  refine wp_seq_k fun K4 hK4=> wp_region_lit <| sw J Y Y Y (R.buildArr (l := [_, _, _, _]) Tryz.underlying32 ze32 sz30 (J.evp Y) Y) fun a J=> so (wn Y) (O.storeW sz32 (J.ev Y) (J.ev Y) (Y) Y (by simp [Value.oneCell']) G .h (Y) fun w G=> ?_)
  refine av J Y Y fun a J=> s0 <| then_n (hK4 _ _ <| wp_ret (then_r (hR _ _ _ _ _ J (run_results Tryz.results140 (.cw J Y agg32 G .h sz32 (Y) (.t J Y (.nil)))) ?_)))
  exact ⟨_, [], Y, ⟨by simp only [if_neg c1]; rfl, Y⟩, G.none⟩
 have c1 := Classical.not_not.1 (fun h => c1 ((narrow_law z hz).2 h))
 refine wp_skip <| then_n (hK2 _ _ <| wp_seq_k fun K5 hK5=> wp_region_lit <| sw J Y Y Y (R.sliceArr Tryz.underlying180 sz30 (J.ev Y) (J.ev Y) (by decide) (by decide)) fun a J=> sw J Y Y Y (R.arrAt Tryz.underlying32 (J.ev Y) (by decide)) fun a J=> sw J Y Y Y (R.loadA (cs := wc z) agg32 (J.ev Y) G (.t .h) sz32 Y (wc_cells8 z)) fun a J=> so (wn Y) (O.storeW sz32 (J.ev Y) (J.ev Y) (Y) Y (by simp [Value.oneCell']) G .h (Y) fun w G=> ?_))
 refine av J Y Y fun a J=> s0 <| then_n (hK5 _ _ <| wp_ret (hR _ _ _ _ _ J (run_results Tryz.results140 (.cw J Y agg32 G .h sz32 (Y) (.t J Y (.nil)))) ?_))
 exact ⟨_, [], Y, ⟨by simp only [if_pos c1]; rfl, Y⟩, G.none⟩
def mulW (x y : Nat) : Value := .tuple #[wv (if x * y < 115792089237316195423570985008687907853269984665640564039457584007913129639936 then x * y else 0), .int .i64 (if x * y < 115792089237316195423570985008687907853269984665640564039457584007913129639936 then 0 else 22)]
theorem mul_512 {x y : Nat} (hx : x < 115792089237316195423570985008687907853269984665640564039457584007913129639936) (hy : y < 115792089237316195423570985008687907853269984665640564039457584007913129639936) : x * y < 13407807929942597099574024998205846127479365820592393377723561443721764030073546976801874298166903427690031858186486050853753882811946569946433649006084096 := by
  have h1 : x * y ≤ x * 115792089237316195423570985008687907853269984665640564039457584007913129639936 := Nat.mul_le_mul_left _ (by omega)
  omega
theorem mul_calls (x y : Nat) (w0 : World) (hx : x < 115792089237316195423570985008687907853269984665640564039457584007913129639936) (hy : y < 115792089237316195423570985008687907853269984665640564039457584007913129639936) : Ret Tryz.prog 121 [wv x, wv y] w0 [] (fun v s => v = mulW x y ∧ s = []) := by
 refine fn_start Tryz.func121 Y Tryz.ntmps121 Y [(0, wv x), (1, wv y)] ⟨Y, Y, trivial⟩ ?_
 intro Q a hP J hR hN
 have G := St.start w0
 refine wp_seq_k fun K1 hK1=> wp_region_lit <| so (wn Y) (O.box Y Y J (J.ev Y) Y G fun b2 a w J G=> ?_)
 refine so (wn Y) (O.box Y Y J (J.ev Y) Y G fun b3 a w J G=> ?_)
 refine so (wn Y) (O.alloc Y Y J ze32 Y G fun b4 a w J G=> ?_)
 refine av J Y Y fun a J=> s0 <| then_n (hK1 _ _ <| wp_seq_k fun K2 hK2=> wp_region_lit <| sw J Y Y Y (R.loadW agg32 (J.ev Y) G (.t (.t .h)) sz32 (Y)) fun a J=> sw J Y Y Y (R.loadW agg32 (J.ev Y) G (.t .h) sz32 (Y)) fun a J=> so (wn Y) (O.call Y Y J ent141 (J.evs Y) G (product_calls x y _ hx hy) fun v s8 a w hR J G=> ?_))
 obtain ⟨rfl, rfl⟩ := hR
 refine so (wn Y) (O.call Y Y J ent140 (J.evs Y) G (narrow_calls (x * y) _ (mul_512 hx hy)) fun v s9 a w hR J G=> ?_)
 obtain ⟨rfl, rfl⟩ := hR
 refine xv J Y Y Y fun a J=> xv J Y Y Y fun a J=> so (wn Y) (O.storeW sz32 (J.ev Y) (J.ev Y) (Y) Y (by simp [Value.oneCell']) G (.t (.t .h)) (Y) fun w G=> ?_)
 refine av J Y Y fun a J=> s0 <| then_n (hK2 _ _ <| wp_ret (hR _ _ _ _ _ J (run_results Tryz.results121 (.cw J Y agg32 G (.t (.t .h)) sz32 (Y) (.t J Y (.nil)))) ?_))
 exact ⟨_, [], Y, ⟨Y, Y⟩, G.none⟩
end Go.Proofs.YtlapmbkfmbkdoaaGreatDoor
end
section
namespace Go.Fw
open Go.RowKit
end Go.Fw
namespace Go.Fw
end Go.Fw
end
section
namespace Go.Proofs.YtlapmbkfmbkdoaaGreatDoor
open Go Go.Fw Go.RowKit
attribute [local irreducible] Go.Oper.wp Go.Code.wp Go.wpList Go.Fw.WL Go.Calls
end Go.Proofs.YtlapmbkfmbkdoaaGreatDoor
end
section
namespace Go.Fw
open Go.RowKit
theorem div_dg (x k : Nat) (h : 0 < k) : x / 18446744073709551616 ^ (k - 1) = 18446744073709551616 * (x / 18446744073709551616 ^ k) + dg x (k - 1) := by
  obtain ⟨m, rfl⟩ : ∃ m, k = m + 1 := ⟨k - 1, by omega⟩
  simp only [Nat.add_sub_cancel, dg, Nat.pow_succ, ← Nat.div_div_eq_div_mul]
  omega
theorem lt_of_dg {x y k : Nat} (h : 0 < k) (he : x / 18446744073709551616 ^ k = y / 18446744073709551616 ^ k) (hl : dg x (k - 1) < dg y (k - 1)) : x < y := by
  have h1 := div_dg x k h
  have h2 := div_dg y k h
  rw [he] at h1
  exact Nat.lt_of_not_le fun hle => by
    have := Nat.div_le_div_right (c := 18446744073709551616 ^ (k - 1)) hle
    omega
theorem same_dg {x y k : Nat} (h : 0 < k) (he : x / 18446744073709551616 ^ k = y / 18446744073709551616 ^ k) (hl : dg x (k - 1) = dg y (k - 1)) : x / 18446744073709551616 ^ (k - 1) = y / 18446744073709551616 ^ (k - 1) := by
  rw [div_dg x k h, div_dg y k h, he, hl]
theorem wc_dn (x k : Nat) (h0 : 0 < k) (h : k ≤ 4) : (wc x)[0 + ((k : Nat) - 1 : Int).toNat * 1]? = some (.int .u64 ((dg x (k - 1) : Nat) : Int)) := by
  have : k = 1 ∨ k = 2 ∨ k = 3 ∨ k = 4 := by omega
  rcases this with rfl | rfl | rfl | rfl <;> rfl
section
variable {Q : Exit → Act → World → Prop} {a : Act} {w : World}
theorem sc_r (h : Q .ret a w) : Exit.noGoto Q .ret a w := h
theorem PanicOk.noGoto (h : PanicOk Q) : PanicOk (Exit.noGoto Q) := fun c a d v w hh => h c a d v w hh
end
end Go.Fw
end
section
namespace Go.Proofs.YtlapmbkfmbkdoaaGreatDoor
open Go Go.Fw Go.RowKit
attribute [local irreducible] Go.Oper.wp Go.Code.wp Go.wpList Go.Fw.WL Go.Calls
theorem cmp_calls (x y : Nat) (w0 : World) (hx : x < 115792089237316195423570985008687907853269984665640564039457584007913129639936) (hy : y < 115792089237316195423570985008687907853269984665640564039457584007913129639936) : Ret Tryz.prog 115 [wv x, wv y] w0 [] (fun v s => v = .int .i64 (cmpN x y) ∧ s = []) := by
 refine fn_start Tryz.func115 Y Tryz.ntmps115 Y [(0, wv x), (1, wv y)] ⟨Y, Y, trivial⟩ ?_
 intro Q a hP J hR hN
 have G := St.start w0
 refine wp_seq_k fun K1 hK1=> wp_region_lit <| so (wn Y) (O.box Y Y J (J.ev Y) Y G fun b2 a w J G=> ?_)
 refine so (wn Y) (O.box Y Y J (J.ev Y) Y G fun b3 a w J G=> ?_)
 refine av J Y Y fun a J=> s0 <| then_n (hK1 _ _ <| wp_seq_k fun K2 hK2=> wp_seq_k fun K3 hK3=> wp_region_lit <| av J Y Y fun a J=> s0 <| then_n (hK3 _ _ <| wp_block <| wp_loop_N (fun g a w=> ∃ (k : Nat), k = g ∧ Fr 26 [(2, .pointer (some ⟨b2, 0, none⟩)), (3, .pointer (some ⟨b3, 0, none⟩)), (5, .int .i64 ((k : Nat) - 1 : Int))] a ∧ St w0 [] [[(b3, Cel (wc y) 32)], [(b2, Cel (wc x) 32)]] w ∧ (k ≤ 4) ∧ (x / 18446744073709551616 ^ k = y / 18446744073709551616 ^ k)) (4) ?_ ?_))
 ·exact ⟨4, Y, J.sub ⟨Y, Y, Y, trivial⟩, G.sel [0, 1] Y Y, by omega, by rw [Nat.div_eq_of_lt (by simpa using hx), Nat.div_eq_of_lt (by simpa using hy)]⟩
 rintro KL1 g a w ⟨k, hg1, J, G, hk, he⟩ hKL1
 refine wp_seq_k fun K4 hK4=> wp_seq_k fun K5 hK5=> wp_region_lit <| mv J Y Y fun a J=> sw J Y Y Y (R.geq (J.ev Y) (J.ev Y)) fun a J=> s0 <| then_n (hK5 _ _ <| cD J Y (fun c1=> ?_) (fun c1=> ?_))
 ·refine wp_skip <| then_n (hK4 _ _ <| wp_seq_k fun K6 hK6=> wp_block <| wp_block <| wp_seq_k fun K7 hK7=> wp_drawS G [(0, 0), (1, 0), (2, 1), (3, 0), (4, 0), (5, 1), (6, 0), (7, 0)] mix (by kernel_rfl) (hP.then.block.then.then.block.block.then) fun w G=> ?_)
  have hD := G
  refine dm J Y Y Y fun a J=> dv J Y Y Y Y (fun w=> R.indexA Tryz.underlying32 sz30 (J.ev Y) (J.ev Y) (by omega) (by omega)) fun a J=> ds J Y Y Y Y hD (fun w hD=> R.load one30 (J.ev Y) hD (.t .h) (wc_dn x k (by omega) hk)) fun a J=> ?_
  refine dm J Y Y Y fun a J=> dv J Y Y Y Y (fun w=> R.indexA Tryz.underlying32 sz30 (J.ev Y) (J.ev Y) (by omega) (by omega)) fun a J=> ds J Y Y Y Y hD (fun w hD=> R.load one30 (J.ev Y) hD .h (wc_dn y k (by omega) hk)) fun a J=> ?_
  refine dv J Y Y Y Y (fun w=> R.lss (J.ev Y) (J.ev Y)) fun a J=> da J Y Y Y fun a J=> d0 <| then_n (hK7 _ _ <| cD J Y (fun c2=> ?_) (fun c2=> ?_))
  ·have e : x < y := lt_of_dg (by omega) he (by omega)
   refine wp_seq_k fun K8 hK8=> wp_region_lit <| av J Y Y fun a J=> s0 <| then_n (hK8 _ _ <| wp_ret (blk_r (blk_r (then_r (then_r (blk_r (then_r (hR _ _ _ _ _ J (run_results Tryz.results115 (.t J Y (.nil))) ?_))))))))
   exact ⟨_, [], Y, ⟨by simp only [cmpN, if_pos e]; rfl, Y⟩, G.none⟩
  refine wp_seq_k fun K9 hK9=> wp_drawS G [(0, 0), (1, 0), (2, 1), (3, 0), (4, 0), (5, 1), (6, 0), (7, 0)] mix (by kernel_rfl) (hP.then.block.then.then.block.block.then) fun w G=> ?_
  have hD := G
  refine dm J Y Y Y fun a J=> dv J Y Y Y Y (fun w=> R.indexA Tryz.underlying32 sz30 (J.ev Y) (J.ev Y) (by omega) (by omega)) fun a J=> ds J Y Y Y Y hD (fun w hD=> R.load one30 (J.ev Y) hD (.t .h) (wc_dn x k (by omega) hk)) fun a J=> ?_
  refine dm J Y Y Y fun a J=> dv J Y Y Y Y (fun w=> R.indexA Tryz.underlying32 sz30 (J.ev Y) (J.ev Y) (by omega) (by omega)) fun a J=> ds J Y Y Y Y hD (fun w hD=> R.load one30 (J.ev Y) hD .h (wc_dn y k (by omega) hk)) fun a J=> ?_
  refine dv J Y Y Y Y (fun w=> R.gtr (J.ev Y) (J.ev Y)) fun a J=> da J Y Y Y fun a J=> d0 <| then_n (hK9 _ _ <| cD J Y (fun c3=> ?_) (fun c3=> ?_))
  ·have e : y < x := lt_of_dg (by omega) he.symm (by omega)
   refine wp_seq_k fun K10 hK10=> wp_region_lit <| av J Y Y fun a J=> s0 <| then_n (hK10 _ _ <| wp_ret (blk_r (blk_r (then_r (then_r (blk_r (then_r (hR _ _ _ _ _ J (run_results Tryz.results115 (.t J Y (.nil))) ?_))))))))
   exact ⟨_, [], Y, ⟨by simp only [cmpN, if_pos e, if_neg (show ¬ x < y by omega)]; rfl, Y⟩, G.none⟩
  refine wp_skip <| blk_n <| blk_n <| then_n (hK6 _ _ <| wp_region_lit <| mv J Y Y fun a J=> sw J Y Y Y (R.subI (J.ev Y) (J.ev Y) (by omega)) fun a J=> av J Y Y fun a J=> s0 <| then_n (hKL1 (k - 1) _ _ ?_ ?_))
  ·omega
  exact ⟨k - 1, Y, J.sub ⟨Y, Y, (congrArg (fun z => some (Value.int .i64 z)) (by omega)), trivial⟩, G.sel [0, 1] Y Y, by omega, same_dg (by omega) he (by omega)⟩
 obtain rfl : k = 0 := by omega
 have e : x = y := by simpa using he
 refine wp_exit (then_x (then_x (blk_hit <| then_n (hK2 _ _ <| wp_seq_k fun K11 hK11=> wp_region_lit <| av J Y Y fun a J=> s0 <| then_n (hK11 _ _ <| wp_ret (hR _ _ _ _ _ J (run_results Tryz.results115 (.t J Y (.nil))) ?_))))))
 exact ⟨_, [], Y, ⟨by subst e; simp only [cmpN, Nat.lt_irrefl, if_false]; rfl, Y⟩, G.none⟩
end Go.Proofs.YtlapmbkfmbkdoaaGreatDoor
end
section
namespace Go.Fw
open Go.RowKit
def cells4 (f : Nat → Nat) : List Value := (List.range 4).map fun k => .int .u64 ((f k : Nat) : Int)
theorem cells4_dg (x : Nat) : cells4 (dg x) = wc x := rfl
theorem length_cells4 (f : Nat → Nat) : (cells4 f).length = 4 := by simp [cells4]
theorem cells4_at {f : Nat → Nat} {k off : Nat} (ho : off = k) (h : k < 4) : (cells4 f)[off]? = some (.int .u64 ((f k : Nat) : Int)) := by
  subst ho; unfold cells4; rw [List.getElem?_map, List.getElem?_range h]; rfl
theorem cells4_set {f : Nat → Nat} {k off v : Nat} (ho : off = k) : (cells4 f).set off (.int .u64 ((v : Nat) : Int)) = cells4 (upd8 f k v) := by
  subst ho
  apply List.ext_getElem?
  intro m
  rw [List.getElem?_set]
  simp only [cells4, List.length_map, List.length_range, List.getElem?_map]
  by_cases hm : m < 4
  · rw [List.getElem?_range hm]
    by_cases e : off = m
    · subst e; simp [hm, upd8]
    · simp [e, upd8, Ne.symm e]
  · by_cases e : off = m
    · subst e; simp [hm]
    · simp [e, List.getElem?_eq_none (l := List.range 4) (i := m) (by simpa using hm)]
theorem cells4_congr {f g : Nat → Nat} (h : ∀ k, k < 4 → f k = g k) : cells4 f = cells4 g := by
  unfold cells4
  refine List.map_congr_left fun k hk => ?_
  rw [h k (by simpa using hk)]
theorem cells8_congr {f g : Nat → Nat} (h : ∀ k, k < 8 → f k = g k) : cells8 f = cells8 g := by
  unfold cells8
  refine List.map_congr_left fun k hk => ?_
  rw [h k (by simpa using hk)]
theorem or_even {x c : Nat} (hx : x % 2 = 0) (hc : c ≤ 1) : x ||| c = x + c := by
  obtain ⟨h, rfl⟩ : ∃ h, x = 2 ^ 1 * h := ⟨x / 2, by omega⟩
  exact (Nat.two_pow_add_eq_or_of_lt (by omega) h).symm
theorem dg_dbl (L k : Nat) (h : 0 < k) : dg (2 * L) k = (dg L k * 2 ^ 1 % 18446744073709551616) ||| (dg L (k - 1) / 2 ^ 63) := by
  have e63 : (2 : Nat) ^ 63 = 9223372036854775808 := by decide
  have hr := dg_lt L (k - 1)
  rw [or_even (by omega) (by rw [e63]; omega), e63]
  have h1 := div_dg L k h
  obtain ⟨m, rfl⟩ : ∃ m, k = m + 1 := ⟨k - 1, by omega⟩
  simp only [Nat.add_sub_cancel] at h1 hr ⊢
  have h2 : dg L (m + 1) = L / 18446744073709551616 ^ (m + 1) % 18446744073709551616 := rfl
  have h3 : dg (2 * L) (m + 1) = 2 * L / 18446744073709551616 ^ m / 18446744073709551616 % 18446744073709551616 := by
    unfold dg; rw [Nat.pow_succ, Nat.div_div_eq_div_mul]
  rw [h2, h3]
  have hp : 0 < 18446744073709551616 ^ m := Nat.pow_pos (by decide)
  have h4 : 2 * L / 18446744073709551616 ^ m = 2 * (L / 18446744073709551616 ^ m) + 2 * (L % 18446744073709551616 ^ m) / 18446744073709551616 ^ m := by
    have := Nat.div_add_mod L (18446744073709551616 ^ m)
    generalize L / 18446744073709551616 ^ m = q at *
    have h5 : L % 18446744073709551616 ^ m = L % 18446744073709551616 ^ m := rfl
    generalize hr : L % 18446744073709551616 ^ m = r at *
    generalize 18446744073709551616 ^ m = p at *
    rw [← this, show 2 * (p * q + r) = 2 * r + p * (2 * q) from by grind, Nat.add_mul_div_left _ _ hp]
    omega
  have h6 : 2 * (L % 18446744073709551616 ^ m) / 18446744073709551616 ^ m ≤ 1 := by
    have := Nat.mod_lt L hp
    have : 2 * (L % 18446744073709551616 ^ m) / 18446744073709551616 ^ m < 2 := by rw [Nat.div_lt_iff_lt_mul hp]; omega
    omega
  rw [h4, h1]
  generalize 2 * (L % 18446744073709551616 ^ m) / 18446744073709551616 ^ m = c at *
  generalize L / 18446744073709551616 ^ (m + 1) = U at *
  generalize dg L m = r at *
  omega
theorem dg_dbl0 (L b : Nat) (hb : b ≤ 1) : dg (2 * L + b) 0 = (dg L 0 * 2 ^ 1 % 18446744073709551616) ||| b := by
  rw [or_even (by omega) hb, dg0, dg0]; omega
theorem dg_dblS (L b k : Nat) (hb : b ≤ 1) (h : 0 < k) : dg (2 * L + b) k = dg (2 * L) k := by
  obtain ⟨m, rfl⟩ : ∃ m, k = m + 1 := ⟨k - 1, by omega⟩
  unfold dg
  rw [Nat.pow_succ, Nat.mul_comm (18446744073709551616 ^ m) 18446744073709551616, ← Nat.div_div_eq_div_mul, ← Nat.div_div_eq_div_mul]
  congr 2
  omega
theorem top_dbl (L : Nat) (hL : L < 115792089237316195423570985008687907853269984665640564039457584007913129639936) : dg L 3 / 2 ^ 63 = if 2 * L < 115792089237316195423570985008687907853269984665640564039457584007913129639936 then 0 else 1 := by
  rw [dg3]
  have e63 : (2 : Nat) ^ 63 = 9223372036854775808 := by decide
  rw [e63]
  split <;> omega
def shl4 (L k : Nat) : Nat → Nat := fun m => if k < m then dg (2 * L) m else dg L m
theorem shl4_3 (L : Nat) : cells4 (shl4 L 3) = wc L := cells4_congr fun k hk => by unfold shl4; rw [if_neg (by omega)]
theorem shl4_step (L k : Nat) (h : 0 < k) : upd8 (shl4 L k) k ((shl4 L k k * 2 ^ 1 % 18446744073709551616) ||| (shl4 L k (k - 1) / 2 ^ 63)) = shl4 L (k - 1) := by
  have e1 : shl4 L k k = dg L k := by unfold shl4; rw [if_neg (by omega)]
  have e2 : shl4 L k (k - 1) = dg L (k - 1) := by unfold shl4; rw [if_neg (by omega)]
  rw [e1, e2, ← dg_dbl L k h]
  funext m
  unfold upd8 shl4
  by_cases hm : m = k
  · subst hm; rw [if_pos rfl, if_pos (by omega)]
  · rw [if_neg hm]
    by_cases h2 : k < m
    · rw [if_pos h2, if_pos (by omega)]
    · rw [if_neg h2, if_neg (by omega)]
theorem shl4_0 (L b : Nat) (hb : b ≤ 1) : cells4 (upd8 (shl4 L 0) 0 ((shl4 L 0 0 * 2 ^ 1 % 18446744073709551616) ||| b)) = wc (2 * L + b) := by
  have e1 : shl4 L 0 0 = dg L 0 := by unfold shl4; rw [if_neg (by omega)]
  rw [e1, ← dg_dbl0 L b hb, ← cells4_dg]
  refine cells4_congr fun k _ => ?_
  unfold upd8 shl4
  by_cases hk : k = 0
  · subst hk; rw [if_pos rfl]
  · rw [if_neg hk, if_pos (by omega), dg_dblS L b k hb (by omega)]
def sub4 (x y k : Nat) : Nat → Nat := fun m => if m < k then dg (x + 115792089237316195423570985008687907853269984665640564039457584007913129639936 - y) m else dg x m
theorem sub4_0 (x y : Nat) : cells4 (sub4 x y 0) = wc x := cells4_congr fun k _ => by unfold sub4; rw [if_neg (by omega)]
theorem sub4_step (x y k : Nat) : upd8 (sub4 x y k) k (dg (x + 115792089237316195423570985008687907853269984665640564039457584007913129639936 - y) k) = sub4 x y (k + 1) := by
  funext m
  unfold upd8 sub4
  by_cases hm : m = k
  · subst hm; rw [if_pos rfl, if_pos (by omega)]
  · rw [if_neg hm]
    by_cases h2 : m < k
    · rw [if_pos h2, if_pos (by omega)]
    · rw [if_neg h2, if_neg (by omega)]
theorem sub4_4 (x y : Nat) : cells4 (sub4 x y 4) = wc (x + 115792089237316195423570985008687907853269984665640564039457584007913129639936 - y) := cells4_congr fun k hk => by unfold sub4; rw [if_pos hk]
theorem or_bit {x k : Nat} (hx : x % 2 ^ (k + 1) = 0) : x ||| 2 ^ k = x + 2 ^ k := by
  have : x = 2 ^ (k + 1) * (x / 2 ^ (k + 1)) := by have := Nat.div_add_mod x (2 ^ (k + 1)); omega
  rw [this]
  exact (Nat.two_pow_add_eq_or_of_lt (Nat.pow_lt_pow_right (by decide) (by omega)) _).symm
theorem B_pow (i : Nat) : (18446744073709551616 : Nat) ^ i = 2 ^ (64 * i) := by
  rw [Nat.pow_mul]
theorem dg_qbit (a i k m : Nat) (hk : k < 64) : dg (a * 2 ^ (64 * i + k + 1) + 2 ^ (64 * i + k)) m = if m = i then dg (a * 2 ^ (64 * i + k + 1)) i ||| 2 ^ k else dg (a * 2 ^ (64 * i + k + 1)) m := by
  have hp : ∀ n : Nat, 0 < 2 ^ n := fun n => Nat.pow_pos (by decide)
  have e64 : (18446744073709551616 : Nat) = 2 ^ 64 := by decide
  have hdiv : a * 2 ^ (64 * i + k + 1) / 2 ^ (64 * i) = a * 2 ^ (k + 1) := by
    rw [show 64 * i + k + 1 = (k + 1) + 64 * i from by omega, Nat.pow_add, ← Nat.mul_assoc, Nat.mul_div_cancel _ (hp _)]
  have hdiv2 : (a * 2 ^ (64 * i + k + 1) + 2 ^ (64 * i + k)) / 2 ^ (64 * i) = a * 2 ^ (k + 1) + 2 ^ k := by
    have e1 : (2 : Nat) ^ (64 * i + k + 1) = 2 ^ (k + 1) * 2 ^ (64 * i) := by rw [← Nat.pow_add]; congr 1; omega
    have e2 : (2 : Nat) ^ (64 * i + k) = 2 ^ k * 2 ^ (64 * i) := by rw [← Nat.pow_add]; congr 1; omega
    rw [e1, e2, ← Nat.mul_assoc, ← Nat.add_mul, Nat.mul_div_cancel _ (hp _)]
  have hmod : (a * 2 ^ (k + 1)) % 2 ^ 64 % 2 ^ (k + 1) = 0 := by
    rw [Nat.mod_mod_of_dvd _ (Nat.pow_dvd_pow 2 (by omega)), Nat.mul_mod_left]
  have hlt : (a * 2 ^ (k + 1)) % 2 ^ 64 + 2 ^ k < 2 ^ 64 := by
    have h1 := Nat.mod_lt (a * 2 ^ (k + 1)) (hp 64)
    obtain ⟨t, ht⟩ : ∃ t, (2 : Nat) ^ 64 = 2 ^ (k + 1) * t := ⟨2 ^ (64 - (k + 1)), by rw [← Nat.pow_add]; congr 1; omega⟩
    obtain ⟨u, hu⟩ : ∃ u, (a * 2 ^ (k + 1)) % 2 ^ 64 = 2 ^ (k + 1) * u := ⟨_, by have := Nat.div_add_mod ((a * 2 ^ (k + 1)) % 2 ^ 64) (2 ^ (k + 1)); rw [hmod] at this; exact this.symm⟩
    rw [hu, ht] at h1 ⊢
    have hut : u < t := Nat.lt_of_mul_lt_mul_left h1
    have h2 : 2 ^ (k + 1) * (u + 1) ≤ 2 ^ (k + 1) * t := Nat.mul_le_mul_left _ hut
    have h3 : (2 : Nat) ^ k < 2 ^ (k + 1) := Nat.pow_lt_pow_right (by decide) (by omega)
    rw [Nat.mul_add, Nat.mul_one] at h2
    omega
  unfold dg
  rw [B_pow m, B_pow i, e64]
  by_cases hm : m = i
  · subst hm
    rw [if_pos rfl, hdiv, hdiv2, or_bit hmod, Nat.add_mod, Nat.mod_eq_of_lt (b := 2 ^ 64) (a := 2 ^ k) (Nat.pow_lt_pow_right (by decide) hk), Nat.mod_eq_of_lt hlt]
  · rw [if_neg hm]
    by_cases h2 : m < i
    · obtain ⟨s, rfl⟩ : ∃ s, i = m + 1 + s := ⟨i - (m + 1), by omega⟩
      have e1 : a * 2 ^ (64 * (m + 1 + s) + k + 1) = a * 2 ^ (64 * s + k + 1) * 2 ^ 64 * 2 ^ (64 * m) := by
        rw [Nat.mul_assoc, Nat.mul_assoc, ← Nat.pow_add, ← Nat.pow_add]; congr 2; omega
      have e2 : (2 : Nat) ^ (64 * (m + 1 + s) + k) = 2 ^ (64 * s + k) * 2 ^ 64 * 2 ^ (64 * m) := by
        rw [Nat.mul_assoc, ← Nat.pow_add, ← Nat.pow_add]; congr 1; omega
      rw [e1, e2, ← Nat.add_mul, Nat.mul_div_cancel _ (hp _), Nat.mul_div_cancel _ (hp _), ← Nat.add_mul, Nat.mul_mod_left, Nat.mul_mod_left]
    · obtain ⟨s, rfl⟩ : ∃ s, m = i + 1 + s := ⟨m - (i + 1), by omega⟩
      have e3 : (2 : Nat) ^ (64 * (i + 1 + s)) = 2 ^ (64 * i) * (2 ^ 64 * 2 ^ (64 * s)) := by
        rw [← Nat.pow_add, ← Nat.pow_add]; congr 1; omega
      have chain : ∀ Z : Nat, Z / (2 ^ (64 * i) * (2 ^ 64 * 2 ^ (64 * s))) = Z / 2 ^ (64 * i) / 2 ^ 64 / 2 ^ (64 * s) := fun Z => by rw [Nat.div_div_eq_div_mul, Nat.div_div_eq_div_mul]
      rw [e3, chain, chain, hdiv, hdiv2]
      congr 2
      have h4 := Nat.div_add_mod (a * 2 ^ (k + 1)) (2 ^ 64)
      generalize hX : a * 2 ^ (k + 1) = X at *
      rw [← h4, Nat.add_assoc, Nat.mul_add_div (hp 64), Nat.mul_add_div (hp 64), Nat.div_eq_of_lt hlt, Nat.div_eq_of_lt (Nat.mod_lt _ (hp 64))]
theorem div_bit_step {H y b L : Nat} (hy : 0 < y) (hL : L = H % y) (hb : b ≤ 1) :
    (2 * L + b < y → (2 * H + b) / y = 2 * (H / y) ∧ (2 * H + b) % y = 2 * L + b) ∧
    (y ≤ 2 * L + b → (2 * H + b) / y = 2 * (H / y) + 1 ∧ (2 * H + b) % y = 2 * L + b - y) := by
  have h1 := Nat.div_add_mod H y
  have hlt := Nat.mod_lt H hy
  rw [← hL] at h1 hlt
  have e : 2 * H + b = (2 * L + b) + y * (2 * (H / y)) := by
    rw [show y * (2 * (H / y)) = 2 * (y * (H / y)) from by rw [Nat.mul_left_comm]]
    omega
  constructor
  · intro h
    rw [e, Nat.add_mul_div_left _ _ hy, Nat.div_eq_of_lt h, Nat.add_mul_mod_self_left, Nat.mod_eq_of_lt h]
    exact ⟨by omega, rfl⟩
  · intro h
    have e2 : (2 * L + b) + y * (2 * (H / y)) = (2 * L + b - y) + y * (2 * (H / y) + 1) := by rw [Nat.mul_add y _ 1]; omega
    have h2 : 2 * L + b - y < y := by omega
    rw [e, e2, Nat.add_mul_div_left _ _ hy, Nat.div_eq_of_lt h2, Nat.add_mul_mod_self_left, Nat.mod_eq_of_lt h2]
    exact ⟨by omega, rfl⟩
def LL (D y P : Nat) : Nat := D / 2 ^ P % y
def QQ (D y P : Nat) : Nat := D / 2 ^ P / y * 2 ^ P
theorem LL_lt (D P : Nat) {y : Nat} (hy : 0 < y) : LL D y P < y := Nat.mod_lt _ hy
theorem LL_top {D y P : Nat} (h : D < 2 ^ P) : LL D y P = 0 := by simp [LL, Nat.div_eq_of_lt h]
theorem QQ_top {D y P : Nat} (h : D < 2 ^ P) : QQ D y P = 0 := by simp [QQ, Nat.div_eq_of_lt h]
theorem LL_0 (D y : Nat) : LL D y 0 = D % y := by simp [LL]
theorem QQ_0 (D y : Nat) : QQ D y 0 = D / y := by simp [QQ]
theorem div_next (D P : Nat) : D / 2 ^ P = 2 * (D / 2 ^ (P + 1)) + bit D P := by
  have := div_bit D (P + 1) (by omega)
  simpa using this
theorem LL_lo {D y P : Nat} (hy : 0 < y) (h : 2 * LL D y (P + 1) + bit D P < y) : LL D y P = 2 * LL D y (P + 1) + bit D P := by
  have := ((div_bit_step (H := D / 2 ^ (P + 1)) hy rfl (bit_le D P)).1 h).2
  unfold LL at *; rw [div_next D P]; exact this
theorem QQ_lo {D y P : Nat} (hy : 0 < y) (h : 2 * LL D y (P + 1) + bit D P < y) : QQ D y P = QQ D y (P + 1) := by
  have := ((div_bit_step (H := D / 2 ^ (P + 1)) hy rfl (bit_le D P)).1 h).1
  unfold QQ; rw [div_next D P, this, Nat.pow_succ]; grind
theorem LL_hi {D y P : Nat} (hy : 0 < y) (h : y ≤ 2 * LL D y (P + 1) + bit D P) : LL D y P = 2 * LL D y (P + 1) + bit D P - y := by
  have := ((div_bit_step (H := D / 2 ^ (P + 1)) hy rfl (bit_le D P)).2 h).2
  unfold LL at *; rw [div_next D P]; exact this
theorem QQ_hi {D y P : Nat} (hy : 0 < y) (h : y ≤ 2 * LL D y (P + 1) + bit D P) : QQ D y P = QQ D y (P + 1) + 2 ^ P := by
  have := ((div_bit_step (H := D / 2 ^ (P + 1)) hy rfl (bit_le D P)).2 h).1
  unfold QQ; rw [div_next D P, this, Nat.pow_succ]; grind
theorem skip_part {D y i : Nat} (hd : dg D i = 0) (hl : LL D y (64 * (i + 1)) = 0) : LL D y (64 * i) = 0 ∧ QQ D y (64 * i) = QQ D y (64 * (i + 1)) := by
  have h1 := div_dg D (i + 1) (by omega)
  simp only [Nat.add_sub_cancel, hd, Nat.add_zero, B_pow] at h1
  unfold LL QQ at *
  rw [h1]
  have h2 := Nat.div_add_mod (D / 2 ^ (64 * (i + 1))) y
  rw [hl, Nat.add_zero] at h2
  have e64 : (18446744073709551616 : Nat) = 2 ^ 64 := by decide
  by_cases hy : y = 0
  · subst hy
    simp only [Nat.mod_zero] at hl
    rw [hl]; simp
  · generalize D / 2 ^ (64 * (i + 1)) / y = q at *
    rw [← h2, ← Nat.mul_assoc, Nat.mul_comm 18446744073709551616 y, Nat.mul_assoc, Nat.mul_mod_right, Nat.mul_div_cancel_left _ (Nat.pos_of_ne_zero hy)]
    refine ⟨rfl, ?_⟩
    rw [e64, show 64 * (i + 1) = 64 + 64 * i from by omega, Nat.pow_add]
    generalize (2 : Nat) ^ 64 = u
    generalize (2 : Nat) ^ (64 * i) = v
    grind
end Go.Fw
end
