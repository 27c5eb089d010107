/- append where there is room, where there is none, of nothing. No condition beyond each lemma's own. -/
import Derived.Test.YtlapmbkfmbkdoaaR
namespace Go.Fw
open Go.RowKit
theorem RepB.self {bs bs' : List Seg} {s s' : Seg} (h : RepB bs s s' bs') (e : s = s') : bs' = bs := by
  induction h with
  | h => subst e; rfl
  | t _ ih => rw [ih e]
section
variable {P : Program} {ops : Array Oper} {Q : Exit → Act → World → Prop} {a : Act} {w w' w0 : World} {n m c c2 sz by_ : Nat} {N : Nat} {env : Env} {d : Nat} {v z : Value} {K : Act → World → Prop}
variable {ρ : Operand → Value} {dst : Option Tmp} {ty : TypeId} {pos : String} {af : Array Edge} {g : Option (Nat × Bool)} {x y : Operand} {T E : TypeId}
variable {ks : List Nat} {bs bs' : List Seg} {b off : Nat} {l l' cs cells news : List Value} {A B : Option Addr} {s : Seg}
/-- append within the room of an own block -/
theorem O.appendR {t : TypeId} {zs : List Value} {ad : Addr} (hd : dst = some d) (hn : Nat.blt d N = true) (hF : Fr N env a) (hT : P.underlying t = some (.slice E)) (hi : infT P E z sz by_) (_hz : z.cells = zs.toArray)
    (hx : a.eval x = .slice (some ⟨b, 0, none⟩) n c) (hy : a.eval y = .slice (some ad) m c2) (hS : St w0 ks bs w) (hB : Rd w (some ad) news) (hl : news.length = m * sz) (h1 : ∀ u ∈ news, u.oneCell' = true)
    (hu : UpB bs b (Cel l E) (Cel l' E) bs') (hl' : spl l (n * sz) news = l') (hroom : n + m ≤ c) (hfit : n * sz + news.length ≤ l.length)
    (h : ∀ a' w', Fr N ((d, .slice (some ⟨b, 0, none⟩) (n + m) c) :: env) a' → St w0 ks bs' w' → K a' w') :
    Oper.wp P ⟨dst, .call ⟨.builtin .append, [x, y].toArray, #[t, t]⟩, ty, pos, af, g⟩ a w K Q := by
  subst hd
  obtain ⟨i, e1, e2, e3, e4⟩ := hi.get
  subst e3; subst e4
  have hnews : ∀ j u, news[j]? = some u → w.cell? (ad.add j) = some u := fun j u hj => by
    obtain ⟨ad', h5, h6⟩ := hB j u hj
    simp only [Option.some.injEq] at h5
    rw [h5]; exact h6
  have hb := hS.get hu.has
  have hrun := run_append_room (P := P) w t ty E i hT e1 b n c l.toArray hb ad m c2 news hl hnews h1 hroom (by simpa using hfit)
  have e6 : (l.take (n * i.size) ++ news ++ l.drop (n * i.size + news.length)) = l' := hl'
  simp only [e6] at hrun
  have e5 : w.setRow b l'.toArray = World.setB w b (Cel l' E) := by
    simp only [World.setRow, World.setB]
    congr 1
    apply Array.ext_getElem?
    intro k
    rw [Array.getElem?_modify, Array.getElem?_setIfInBounds]
    by_cases e : b = k
    · subst e
      obtain ⟨hlt, hq⟩ := Array.getElem?_eq_some_iff.1 hb
      simp [hlt, hq]
    · simp [e]
  rw [e5] at hrun
  unfold Oper.wp
  have : (execOp a.eval ⟨some d, .call ⟨.builtin .append, [x, y].toArray, #[t, t]⟩, ty, pos, af, g⟩).run P w = .ok (.value (.slice (some ⟨b, 0, none⟩) (n + m) c)) (World.setB w b (Cel l' E)) := by
    simp only [execOp, resolve, invoke, builtin, Sem.run_bind, Sem.run_pure, Result.andThen_ok, List.map_toArray, List.map_cons, List.map_nil, hx, hy, hrun]
  rw [this, Oper.upon_value]
  exact h _ _ (hF.put hn _) (hS.setB hu)
/-- append to what is full: a new block -/
theorem O.appendN {t : TypeId} {zs : List Value} {ad : Addr} {f : Seg → List Seg} (hd : dst = some d) (hn : Nat.blt d N = true) (hF : Fr N env a) (hT : P.underlying t = some (.slice E)) (hi : infT P E z sz by_) (hz : z.cells = zs.toArray) (hzl : zs.length = sz)
    (hx : a.eval x = .slice A n c) (hy : a.eval y = .slice (some ad) m c2) (hS : St w0 ks bs w) (hA : Rd w A cells) (hcl : cells.length = n * sz) (hpos : 0 < cells.length) (hr : ∀ s', RepB bs [] s' (f s'))
    (hB : Rd w (some ad) news) (hl : news.length = m * sz) (hfull : c < n + m) (h63 : n + m ≤ maxLen) (hby : (n + m) * by_ ≤ 140737488355328)
    (h : ∀ A' c' s' a' w', OwnS s' A' (n + m) c' (cells ++ news) E sz → Fr N ((d, .slice A' (n + m) c') :: env) a' → St w0 ks (f s') w' → K a' w') :
    Oper.wp P ⟨dst, .call ⟨.builtin .append, [x, y].toArray, #[t, t]⟩, ty, pos, af, g⟩ a w K Q := by
  subst hd
  obtain ⟨i, e1, e2, e3, e4⟩ := hi.get
  subst e3; subst e4
  have hnews : ∀ j u, news[j]? = some u → w.cell? (ad.add j) = some u := fun j u hj => by
    obtain ⟨ad', h5, h6⟩ := hB j u hj
    simp only [Option.some.injEq] at h5
    rw [h5]; exact h6
  have hml : n + m ≤ 9223372036854775807 := by simp only [maxLen] at h63; exact h63
  obtain ⟨A0, rfl, _⟩ := hA 0 cells[0] (by simp [hpos])
  have holds : ∀ j u, cells[j]? = some u → w.cell? (A0.add j) = some u := fun j u hj => by
    obtain ⟨a', h5, h6⟩ := hA j u hj
    simp only [Option.some.injEq] at h5
    rw [h5]; exact h6
  have hlen : (cells ++ news).length = (n + m) * i.size := by rw [List.length_append, hcl, hl, Nat.add_mul]
  have hrun := run_append_grow (P := P) w t ty E i z hT e1 e2 A0 n c cells hcl holds ad m c2 news hl hnews (by omega) (by omega) (growslice_fits (by omega) hby)
  have hcap := grownCap_ge w (n + m) c E
  have hcm : grownCap w (n + m) c E ≤ maxLen := grownCap_le_maxLen w (n + m) c E h63
  rw [hz, zero_zeros] at hrun
  have e5 : (cells.toArray ++ news.toArray ++ (zeros zs (grownCap w (n + m) c E - (n + m))).toArray) = ((cells ++ news) ++ zeros zs (grownCap w (n + m) c E - (n + m))).toArray := by simp
  rw [e5] at hrun
  unfold Oper.wp
  have : (execOp a.eval ⟨some d, .call ⟨.builtin .append, [x, y].toArray, #[t, t]⟩, ty, pos, af, g⟩).run P w = .ok (.value (.slice (some ⟨w.heap.size, 0, none⟩) (n + m) (grownCap w (n + m) c E))) (w.drew.alloc (Cel ((cells ++ news) ++ zeros zs (grownCap w (n + m) c E - (n + m))) E)) := by
    simp only [execOp, resolve, invoke, builtin, Sem.run_bind, Sem.run_pure, Result.andThen_ok, List.map_toArray, List.map_cons, List.map_nil, hx, hy, hrun]
  rw [this, Oper.upon_value]
  refine h _ _ [(w.heap.size, Cel ((cells ++ news) ++ zeros zs (grownCap w (n + m) c E - (n + m))) E)] _ _ ?_ (hF.put hn _) ?_
  · refine OwnS.mk hlen (by omega) ?_ hcm
    rw [List.length_append, hlen, length_zeros, hzl, ← Nat.add_mul]; congr 1; omega
  · refine hS.rep (hr _) rfl rfl rfl (by simp) (fun k hk _ => Below.heap_alloc w.drew _ k hk) (fun p hp => by
      simp only [List.mem_singleton] at hp
      subst hp
      exact heap_alloc_new w.drew _) (by simp) (by simp)
/-- an own one, or a full one of another -/
def OwnE (w0 : World) (s : Seg) (A : Option Addr) (n c : Nat) (cells : List Value) (E : TypeId) (sz : Nat) : Prop :=
  OwnS s A n c cells E sz ∨ (s = [] ∧ c = n ∧ cells.length = n * sz ∧ 0 < cells.length ∧ Rd w0 A cells)
theorem O.appendE {t : TypeId} {zs : List Value} {ad : Addr} {f : Seg → List Seg} (hd : dst = some d) (hn : Nat.blt d N = true) (hF : Fr N env a) (hT : P.underlying t = some (.slice E)) (hi : infT P E z sz by_) (hz : z.cells = zs.toArray) (hzl : zs.length = sz) (hpos : 0 < sz)
    (hx : a.eval x = .slice A n c) (hy : a.eval y = .slice (some ad) m c2) (hS : St w0 [] bs w) (hO : OwnE w0 s A n c cells E sz) (hr : ∀ s', RepB bs s s' (f s'))
    (hB : Rd w (some ad) news) (hl : news.length = m * sz) (hm : 0 < m) (h1 : ∀ u ∈ news, u.oneCell' = true) (h63 : n + m ≤ maxLen) (hby : (n + m) * by_ ≤ 140737488355328)
    (h : ∀ A' c' s' a' w', OwnS s' A' (n + m) c' (cells ++ news) E sz → Fr N ((d, .slice A' (n + m) c') :: env) a' → St w0 [] (f s') w' → K a' w') :
    Oper.wp P ⟨dst, .call ⟨.builtin .append, [x, y].toArray, #[t, t]⟩, ty, pos, af, g⟩ a w K Q := by
  rcases hO with hO | ⟨rfl, rfl, h2, h3, h4⟩
  · exact O.append hd hn hF hT hi hz hzl hpos hx hy hS hO hr hB hl h1 h63 hby h
  · exact O.appendN hd hn hF hT hi hz hzl hx hy hS (h4.old hS) h2 h3 hr hB hl (by omega) h63 hby h
/-- append of what may be nothing -/
theorem O.appendO {t : TypeId} {zs : List Value} {f : Seg → List Seg} (hd : dst = some d) (hn : Nat.blt d N = true) (hF : Fr N env a) (hT : P.underlying t = some (.slice E)) (hi : infT P E z sz by_) (hz : z.cells = zs.toArray) (hzl : zs.length = sz) (hpos : 0 < sz)
    (hx : a.eval x = .slice A n c) (hy : a.eval y = .slice B m c2) (hS : St w0 ks bs w) (hO : OwnS s A n c cells E sz) (hr : ∀ s', RepB bs s s' (f s'))
    (hB : Rd w B news) (hl : news.length = m * sz) (h1 : ∀ u ∈ news, u.oneCell' = true) (h63 : n + m ≤ maxLen) (hby : (n + m) * by_ ≤ 140737488355328)
    (h : ∀ A' c' s' a' w', OwnS s' A' (n + m) c' (cells ++ news) E sz → Fr N ((d, .slice A' (n + m) c') :: env) a' → St w0 ks (f s') w' → K a' w') :
    Oper.wp P ⟨dst, .call ⟨.builtin .append, [x, y].toArray, #[t, t]⟩, ty, pos, af, g⟩ a w K Q := by
  cases B with
  | some ad => exact O.append hd hn hF hT hi hz hzl hpos hx hy hS hO hr hB hl h1 h63 hby h
  | none =>
    have hnn : news = [] := by
      cases news with
      | nil => rfl
      | cons v r => obtain ⟨_, h2, _⟩ := hB 0 v rfl; simp at h2
    subst hnn
    have hm0 : m = 0 := by
      rcases Nat.eq_zero_or_pos m with h2 | h2
      · exact h2
      · have : 0 < m * sz := Nat.mul_pos h2 hpos
        simp at hl; omega
    subst hm0
    subst hd
    obtain ⟨i, e1, e2, e3, e4⟩ := hi.get
    subst e3; subst e4
    have hnc : n ≤ c := hO.2.1
    have hrun : (Builtin.append_ #[t, t] ty #[.slice A n c, .slice none 0 c2]).run P w = .ok (.slice A n c) w := by
      cases A <;> simp [Builtin.append_, run_underlying hT, sizeOf, typeInfo, e1, Builtin.lenOf, Builtin.firstCells, hnc, storeCells]
    unfold Oper.wp
    have : (execOp a.eval ⟨some d, .call ⟨.builtin .append, [x, y].toArray, #[t, t]⟩, ty, pos, af, g⟩).run P w = .ok (.value (.slice A n c)) w := by
      simp only [execOp, resolve, invoke, builtin, Sem.run_bind, Sem.run_pure, Result.andThen_ok, List.map_toArray, List.map_cons, List.map_nil, hx, hy, hrun]
    rw [this, Oper.upon_value]
    have hself : St w0 ks (f s) w := by
      have hq : f s = bs := RepB.self (hr s) rfl
      rw [hq]; exact hS
    exact h _ _ _ _ _ (by rw [List.append_nil]; exact hO) (hF.put hn _) hself
end
end Go.Fw
