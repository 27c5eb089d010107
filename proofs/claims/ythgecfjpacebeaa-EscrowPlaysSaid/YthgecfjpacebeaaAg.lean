/- A pool of vaults, a pool of lists of indices: known blocks cut and joined. No condition beyond each lemma's own. -/
import Derived.Test.YthgecfjpacebeaaAf
import Derived.Test.YthgecfjpacebeaaEa
namespace Go.Fw
open Go.RowKit Go.Proofs.Ythgecfjpacebeaa
/-- what stands in many segments -/
def flS {α : Type} (f : α → Seg) (l : List α) : Seg := (l.map f).flatten
section
variable {α : Type} {f : α → Seg} {l : List α} {w0 w : World} {ks : List Nat} {bs : List Seg} {x y : α} {s : Seg} {k : Nat}
theorem flS_cut (h : l[k]? = some x) : flS f l = flS f (l.take k) ++ (f x ++ flS f (l.drop (k + 1))) := by
  obtain ⟨hk, rfl⟩ := List.getElem?_eq_some_iff.1 h
  unfold flS
  have e : l = l.take k ++ l[k] :: l.drop (k + 1) := by rw [← List.drop_eq_getElem_cons hk, List.take_append_drop]
  have e2 := congrArg (List.map f) e
  rw [List.map_append, List.map_cons] at e2
  rw [e2, List.flatten_append, List.flatten_cons]
theorem flS_set (h : k < l.length) : flS f (l.set k y) = flS f (l.take k) ++ (f y ++ flS f (l.drop (k + 1))) := by
  unfold flS
  rw [List.set_eq_take_append_cons_drop, if_pos h]
  simp
theorem St.cut3 (hS : St w0 ks (flS f l :: bs) w) (h : l[k]? = some x) : St w0 ks (flS f (l.take k) :: f x :: flS f (l.drop (k + 1)) :: bs) w := hS.flat (by simp [flS_cut h])
theorem St.join3 (hS : St w0 ks (flS f (l.take k) :: s :: flS f (l.drop (k + 1)) :: bs) w) (h : k < l.length) (y : α) (hy : f y = s) : St w0 ks (flS f (l.set k y) :: bs) w := hS.flat (by simp [flS_set h, hy])
theorem St.join2 (hS : St w0 ks (flS f l :: s :: bs) w) (y : α) (hy : f y = s) : St w0 ks (flS f (l ++ [y]) :: bs) w := hS.flat (by simp [flS, hy])
theorem flS_one : flS f [x] = f x := by simp [flS]
theorem St.first (hS : St w0 ks (s :: bs) w) (y : α) (hy : f y = s) : St w0 ks (flS f [y] :: bs) w := hS.flat (by simp [flS, hy])
theorem St.ownIn (hS : St w0 ks bs w) (hs : HasS bs (flS f l)) (h : l[k]? = some x) : Own w (f x) := by
  have h1 := hS.own1 hs
  rw [flS_cut h] at h1
  refine ⟨fun p hp => h1.1 p (by simp [hp]), ?_⟩
  have h2 := h1.2
  rw [List.map_append, List.map_append] at h2
  exact (List.nodup_append.1 (List.nodup_append.1 h2).2.1).1
end
theorem OwnS.rdW {s : Seg} {A : Option Addr} {n c sz : Nat} {cells : List Value} {E : TypeId} {w : World} (h : OwnS s A n c cells E sz) (hw : Own w s) : Rd w A cells := by
  obtain ⟨h1, h2, h3⟩ := h
  rcases h3 with ⟨rfl, h4, rfl⟩ | ⟨g, rest, rfl, rfl, h4, h5⟩
  · have : cells = [] := List.eq_nil_of_length_eq_zero (by rw [h1]; have : n = 0 := by omega
                                                           simp [this])
    subst this; exact Rd.nil _ _
  · intro j v hj
    refine ⟨_, rfl, ?_⟩
    have hb := hw.1 (g, Cel (cells ++ rest) E) (by simp)
    have hlt := (List.getElem?_eq_some_iff.1 hj).1
    rw [addr_add, cell_Cel hb, Nat.zero_add, List.getElem?_append_left hlt]
    exact hj
theorem own_open3 {s : Seg} {A : Option Addr} {n c : Nat} {cells : List Value} {E : TypeId} {sz : Nat} (h : OwnS s A n c cells E sz) (hn : 0 < n) : ∃ g rest, A = some ⟨g, 0, none⟩ ∧ s = [(g, Cel (cells ++ rest) E)] ∧ n ≤ c ∧ (cells ++ rest).length = c * sz ∧ c ≤ maxLen := by
  obtain ⟨_, h2, h3⟩ := h
  rcases h3 with ⟨_, h4, _⟩ | ⟨g, rest, h5, h6, h7, h8⟩
  · omega
  · exact ⟨g, rest, h5, h6, h2, h7, h8⟩
/-! ### vaults -/
structure Pv where
  bv : Nat
  V : Vau
  sg : Seg
def pptr (ps : List Pv) : List Value := ps.map fun p => .pointer (some ⟨p.bv, 0, none⟩)
def PoolOk (ps : List Pv) : Prop := ∀ p ∈ ps, VaultS p.bv p.V p.sg
theorem length_pptr (ps : List Pv) : (pptr ps).length = ps.length := by simp [pptr]
theorem pptr_at {ps : List Pv} {k off : Nat} {p : Pv} (h : ps[k]? = some p) (ho : off = k) : (pptr ps)[off]? = some (.pointer (some ⟨p.bv, 0, none⟩)) := by subst ho; simp [pptr, h]
theorem pptr_set {ps : List Pv} {k : Nat} {p q : Pv} (h : ps[k]? = some p) (hb : q.bv = p.bv) : pptr (ps.set k q) = pptr ps := by
  apply List.ext_getElem?
  intro j
  simp only [pptr, List.getElem?_map, List.getElem?_set]
  by_cases e : k = j
  · subst e
    obtain ⟨h1, h2⟩ := List.getElem?_eq_some_iff.1 h
    simp [h1, h2, hb]
  · simp [e]
theorem PoolOk.set {ps : List Pv} {k : Nat} {q : Pv} (h : PoolOk ps) (hq : VaultS q.bv q.V q.sg) : PoolOk (ps.set k q) := by
  intro p hp
  rcases List.mem_or_eq_of_mem_set hp with h1 | rfl
  · exact h p h1
  · exact hq
theorem PoolOk.snoc {ps : List Pv} {q : Pv} (h : PoolOk ps) (hq : VaultS q.bv q.V q.sg) : PoolOk (ps ++ [q]) := by
  intro p hp
  rcases List.mem_append.1 hp with h1 | h1
  · exact h p h1
  · rw [List.mem_singleton.1 h1]; exact hq
/-! ### lists of indices -/
def ixs (l : List Int) : List Value := l.map (.int .i64)
theorem length_ixs (l : List Int) : (ixs l).length = l.length := by simp [ixs]
theorem ixs_at {l : List Int} {k off : Nat} (h : k < l.length) (ho : off = k) : (ixs l)[off]? = some (.int .i64 (l.getD k 0)) := by subst ho; simp [ixs, h]
theorem ixs_one (l : List Int) : ∀ u ∈ ixs l, u.oneCell' = true := by
  intro u hu
  obtain ⟨n, _, rfl⟩ := List.mem_map.1 hu
  rfl
structure Pd where
  A : Option Addr
  c : Nat
  l : List Int
  sg : Seg
def Pd.val (d : Pd) : Value := .slice d.A d.l.length d.c
def pdv (ds : List Pd) : List Value := ds.map Pd.val
def PdOk (ds : List Pd) : Prop := ∀ d ∈ ds, OwnS d.sg d.A d.l.length d.c (ixs d.l) 3 1
theorem length_pdv (ds : List Pd) : (pdv ds).length = ds.length := by simp [pdv]
theorem pdv_at {ds : List Pd} {k off : Nat} {d : Pd} (h : ds[k]? = some d) (ho : off = k) : (pdv ds)[off]? = some (.slice d.A d.l.length d.c) := by subst ho; simp [pdv, h, Pd.val]
theorem pdv_set {ds : List Pd} {k off : Nat} {d : Pd} {rest : List Value} (h : k < ds.length) (ho : off = k) : (pdv ds ++ rest).set off (.slice d.A d.l.length d.c) = pdv (ds.set k d) ++ rest := by
  subst ho
  rw [List.set_append_left _ _ (by rw [length_pdv]; exact h)]
  congr 1
  simp [pdv, List.map_set, Pd.val]
theorem PdOk.set {ds : List Pd} {k : Nat} {q : Pd} (h : PdOk ds) (hq : OwnS q.sg q.A q.l.length q.c (ixs q.l) 3 1) : PdOk (ds.set k q) := by
  intro p hp
  rcases List.mem_or_eq_of_mem_set hp with h1 | rfl
  · exact h p h1
  · exact hq
theorem PdOk.snoc {ds : List Pd} {q : Pd} (h : PdOk ds) (hq : OwnS q.sg q.A q.l.length q.c (ixs q.l) 3 1) : PdOk (ds ++ [q]) := by
  intro p hp
  rcases List.mem_append.1 hp with h1 | h1
  · exact h p h1
  · rw [List.mem_singleton.1 h1]; exact hq
/-- what a list names is paid -/
def Once (ps : List Pv) (ds : List Pd) : Prop := ∀ (k : Nat) (p : Pv) (d : Pd), ps[k]? = some p → ds[k]? = some d → ∀ x ∈ d.l, p.V.paid x = true
theorem Once.setV {ps : List Pv} {ds : List Pd} {k : Nat} {p q : Pv} (h : Once ps ds) (hp : ps[k]? = some p) (hm : ∀ x, p.V.paid x = true → q.V.paid x = true) : Once (ps.set k q) ds := by
  intro j p' d hj hd x hx
  rw [List.getElem?_set] at hj
  by_cases e : k = j
  · subst e
    rw [if_pos rfl] at hj
    split at hj
    · simp only [Option.some.injEq] at hj
      subst hj
      exact hm x (h k p d hp hd x hx)
    · simp at hj
  · rw [if_neg e] at hj; exact h j p' d hj hd x hx
theorem Once.setD {ps : List Pv} {ds : List Pd} {k : Nat} {p : Pv} {q : Pd} (h : Once ps ds) (hp : ps[k]? = some p) (hm : ∀ x ∈ q.l, p.V.paid x = true) : Once ps (ds.set k q) := by
  intro j p' d hj hd x hx
  rw [List.getElem?_set] at hd
  by_cases e : k = j
  · subst e
    rw [if_pos rfl] at hd
    split at hd
    · simp only [Option.some.injEq] at hd
      subst hd
      rw [hp] at hj
      obtain rfl : p = p' := by simpa using hj
      exact hm x hx
    · simp at hd
  · rw [if_neg e] at hd; exact h j p' d hj hd x hx
theorem Once.snoc {ps : List Pv} {ds : List Pd} {p : Pv} {d : Pd} (h : Once ps ds) (hl : ps.length = ds.length) (hm : ∀ x ∈ d.l, p.V.paid x = true) : Once (ps ++ [p]) (ds ++ [d]) := by
  intro j p' d' hj hd x hx
  by_cases e : j < ps.length
  · rw [List.getElem?_append_left e] at hj
    rw [List.getElem?_append_left (by omega)] at hd
    exact h j p' d' hj hd x hx
  · have e2 : j = ps.length := by
      have := (List.getElem?_eq_some_iff.1 hj).1
      simp at this; omega
    subst e2
    rw [List.getElem?_append_right (by omega), Nat.sub_self] at hj
    rw [hl, List.getElem?_append_right (by omega), Nat.sub_self] at hd
    simp only [List.getElem?_cons_zero, Option.some.injEq] at hj hd
    subst hj; subst hd
    exact hm x hx
theorem paid_mono (V : Vau) (p : Stp) (x : Int) (h : V.paid x = true) : (V.chg p).1.paid x = true := by
  by_cases h0 : (V.chg p).2 = 0
  · by_cases h3 : pickN p.what 11 = 3
    · obtain ⟨_, _, e⟩ := chg3 h3 h0; rw [e]; exact h
    · by_cases h4 : pickN p.what 11 = 4
      · obtain ⟨_, _, e, _⟩ := chg4 h4 h0
        rw [e]
        simp only [updF]
        split
        · rfl
        · exact h
      · by_cases h5 : pickN p.what 11 = 5
        · obtain ⟨_, e⟩ := chg5 h5 h0; rw [e]; exact h
        · by_cases h6 : pickN p.what 11 = 6
          · obtain ⟨_, e⟩ := chg6 h6 h0; rw [e]; exact h
          · rw [(chgO h3 h4 h5 h6).2.2]; exact h
  · rw [chgE h0]; exact h
/-- A call that leaves its blocks as they were. -/
theorem Ret.quiet {P : Program} {f : FuncId} {vs : List Value} {w : World} {s : Seg} {X : Value} (h : Ret P f vs w (s.map (·.1)) (fun v s' => v = X ∧ s' = s)) (ho : Own w s) : Ret P f vs w [] (fun v s' => v = X ∧ s' = []) := by
  refine Calls.mono h ?_
  rintro e w' ⟨v, s', rfl, ⟨rfl, rfl⟩, hS⟩
  refine ⟨_, [], rfl, ⟨rfl, rfl⟩, ?_⟩
  have h2 : St w (s'.map (·.1)) [s', []] w' := hS.flat (by simp)
  exact St.same h2 ho
end Go.Fw
