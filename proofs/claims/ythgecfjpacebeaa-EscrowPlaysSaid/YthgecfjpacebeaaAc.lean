/- All that a vault tells, as cells; what a step may change. No condition beyond each lemma's own. -/
import Derived.Test.YthgecfjpacebeaaAa
namespace Go.Fw
open Go.RowKit

def seenC (L S : Nat → Bool) (H : Nat → Nat) (k : Nat) : List Value :=
  (List.range 64).map (fun t => Value.bool (L t)) ++ ((List.range 64).map (fun t => Value.bool (S t)) ++ ((List.range 64).flatMap (fun t => wc (H t)) ++ wc k))
def updN {α : Type} (f : Nat → α) (n : Nat) (v : α) : Nat → α := fun m => if m = n then v else f m
section
variable {L S : Nat → Bool} {H : Nat → Nat} {k t : Nat}
theorem length_fl (H : Nat → Nat) : ((List.range 64).flatMap fun t => wc (H t)).length = 256 := by
  rw [List.length_flatMap]; simp only [List.length_cons, List.length_nil]; decide
theorem length_seen (L S : Nat → Bool) (H : Nat → Nat) (k : Nat) : (seenC L S H k).length = 388 := by
  simp only [seenC, List.length_append, List.length_map, List.length_range, length_fl, List.length_cons, List.length_nil]
theorem fl_get (H : Nat → Nat) {q r : Nat} (hq : q < 64) (hr : r < 4) : ((List.range 64).flatMap fun t => wc (H t))[q * 4 + r]? = (wc (H q))[r]? := by
  have h1 : (wc (H q))[r]? = some ((wc (H q))[r]'(by simpa using hr)) := List.getElem?_eq_getElem _
  rw [h1]
  exact flatMap_at (fun t => wc (H t)) 4 (fun _ => rfl) _ q r q _ (by simp [hq]) h1
theorem lenB (L : Nat → Bool) : ((List.range 64).map fun t => Value.bool (L t)).length = 64 := by rw [List.length_map, List.length_range]
theorem getB (L : Nat → Bool) (ht : t < 64) : ((List.range 64).map fun t => Value.bool (L t))[t]? = some (.bool (L t)) := by
  rw [List.getElem?_map, List.getElem?_range ht]; rfl
theorem seen_L (L S : Nat → Bool) (H : Nat → Nat) (k : Nat) (ht : t < 64) : (seenC L S H k)[t]? = some (.bool (L t)) := by
  unfold seenC
  rw [List.getElem?_append_left (by rw [lenB]; exact ht), getB _ ht]
theorem seen_S (L S : Nat → Bool) (H : Nat → Nat) (k : Nat) (ht : t < 64) : (seenC L S H k)[64 + t]? = some (.bool (S t)) := by
  unfold seenC
  rw [List.getElem?_append_right (by rw [lenB]; omega), lenB, Nat.add_sub_cancel_left, List.getElem?_append_left (by rw [lenB]; exact ht), getB _ ht]
theorem seen_H (L S : Nat → Bool) (H : Nat → Nat) (k : Nat) (ht : t < 64) {j : Nat} (hj : j < 4) : (seenC L S H k)[128 + t * 4 + j]? = (wc (H t))[j]? := by
  unfold seenC
  rw [List.getElem?_append_right (by rw [lenB]; omega), lenB, List.getElem?_append_right (by rw [lenB]; omega), lenB, List.getElem?_append_left (by rw [length_fl]; omega),
    show 128 + t * 4 + j - 64 - 64 = t * 4 + j from by omega, fl_get H ht hj]
theorem seen_K (L S : Nat → Bool) (H : Nat → Nat) (k : Nat) (j : Nat) : (seenC L S H k)[384 + j]? = (wc k)[j]? := by
  unfold seenC
  rw [List.getElem?_append_right (by rw [lenB]; omega), lenB, List.getElem?_append_right (by rw [lenB]; omega), lenB, List.getElem?_append_right (by rw [length_fl]; omega), length_fl,
    show 384 + j - 64 - 64 - 256 = j from by omega]
/-- two such rows are alike if their parts are -/
theorem seen_ext {l : List Value} (hl : l.length = 388) (h1 : ∀ t, t < 64 → l[t]? = some (.bool (L t))) (h2 : ∀ t, t < 64 → l[64 + t]? = some (.bool (S t)))
    (h3 : ∀ t, t < 64 → ∀ j, j < 4 → l[128 + t * 4 + j]? = (wc (H t))[j]?) (h4 : ∀ j, j < 4 → l[384 + j]? = (wc k)[j]?) : l = seenC L S H k := by
  apply List.ext_getElem?
  intro i
  by_cases i1 : i < 64
  · rw [h1 i i1, seen_L _ _ _ _ i1]
  by_cases i2 : i < 128
  · obtain ⟨t, rfl⟩ : ∃ t, i = 64 + t := ⟨i - 64, by omega⟩
    rw [h2 t (by omega), seen_S _ _ _ _ (by omega)]
  by_cases i3 : i < 384
  · obtain ⟨t, j, rfl, hj, ht⟩ : ∃ t j, i = 128 + t * 4 + j ∧ j < 4 ∧ t < 64 := ⟨(i - 128) / 4, (i - 128) % 4, by omega, by omega, by omega⟩
    rw [h3 t ht j hj, seen_H _ _ _ _ ht hj]
  by_cases i4 : i < 388
  · obtain ⟨j, rfl⟩ : ∃ j, i = 384 + j := ⟨i - 384, by omega⟩
    rw [h4 j (by omega), seen_K]
  · rw [List.getElem?_eq_none (by omega), List.getElem?_eq_none (by rw [length_seen]; omega)]
theorem seen_setL (ht : t < 64) (b : Bool) : (seenC L S H k).set t (.bool b) = seenC (updN L t b) S H k := by
  refine seen_ext (by rw [List.length_set, length_seen]) ?_ ?_ ?_ ?_
  · intro u hu
    rw [List.getElem?_set]
    by_cases e : t = u
    · subst e; simp [updN, length_seen]; omega
    · rw [if_neg e, seen_L _ _ _ _ hu]; simp [updN, Ne.symm e]
  · intro u hu; rw [List.getElem?_set_ne (by omega), seen_S _ _ _ _ hu]
  · intro u hu j hj; rw [List.getElem?_set_ne (by omega), seen_H _ _ _ _ hu hj]
  · intro j hj; rw [List.getElem?_set_ne (by omega), seen_K]
theorem seen_setS (ht : t < 64) (b : Bool) : (seenC L S H k).set (64 + t) (.bool b) = seenC L (updN S t b) H k := by
  refine seen_ext (by rw [List.length_set, length_seen]) ?_ ?_ ?_ ?_
  · intro u hu; rw [List.getElem?_set_ne (by omega), seen_L _ _ _ _ hu]
  · intro u hu
    rw [List.getElem?_set]
    by_cases e : t = u
    · subst e; simp [updN, length_seen]; omega
    · rw [if_neg (by omega), seen_S _ _ _ _ hu]; simp [updN, Ne.symm e]
  · intro u hu j hj; rw [List.getElem?_set_ne (by omega), seen_H _ _ _ _ hu hj]
  · intro j hj; rw [List.getElem?_set_ne (by omega), seen_K]
theorem spl_get (l cs : List Value) (off i : Nat) (h : off + cs.length ≤ l.length) : (spl l off cs)[i]? = if i < off then l[i]? else if i < off + cs.length then cs[i - off]? else l[i]? := by
  unfold spl
  by_cases h1 : i < off
  · rw [if_pos h1, List.append_assoc, List.getElem?_append_left (by rw [List.length_take]; omega), List.getElem?_take_of_lt h1]
  · rw [if_neg h1]
    by_cases h2 : i < off + cs.length
    · rw [if_pos h2, List.append_assoc, List.getElem?_append_right (by rw [List.length_take]; omega), List.length_take, Nat.min_eq_left (by omega), List.getElem?_append_left (by omega)]
    · rw [if_neg h2, List.getElem?_append_right (by rw [List.length_append, List.length_take]; omega), List.length_append, List.length_take, Nat.min_eq_left (by omega), List.getElem?_drop]
      congr 1; omega
theorem seen_splH (ht : t < 64) (x : Nat) : spl (seenC L S H k) (128 + t * 4) (wc x) = seenC L S (updN H t x) k := by
  have hl : (wc x).length = 4 := rfl
  have hs := length_seen L S H k
  refine seen_ext (by rw [length_spl _ _ _ (by rw [hl, hs]; omega), hs]) ?_ ?_ ?_ ?_
  · intro u hu; rw [spl_get _ _ _ _ (by rw [hl, hs]; omega), if_pos (by omega), seen_L _ _ _ _ hu]
  · intro u hu; rw [spl_get _ _ _ _ (by rw [hl, hs]; omega), if_pos (by omega), seen_S _ _ _ _ hu]
  · intro u hu j hj
    rw [spl_get _ _ _ _ (by rw [hl, hs]; omega), hl]
    by_cases e : u = t
    · subst e
      rw [if_neg (by omega), if_pos (by omega), show 128 + u * 4 + j - (128 + u * 4) = j from by omega]
      simp [updN]
    · have e1 : updN H t x u = H u := by simp [updN, e]
      rw [e1]
      by_cases h1 : 128 + u * 4 + j < 128 + t * 4
      · rw [if_pos h1, seen_H _ _ _ _ hu hj]
      · rw [if_neg h1, if_neg (by omega), seen_H _ _ _ _ hu hj]
  · intro j hj; rw [spl_get _ _ _ _ (by rw [hl, hs]; omega), hl, if_neg (by omega), if_neg (by omega), seen_K]
theorem seen_splK (x : Nat) : spl (seenC L S H k) 384 (wc x) = seenC L S H x := by
  have hl : (wc x).length = 4 := rfl
  have hs := length_seen L S H k
  refine seen_ext (by rw [length_spl _ _ _ (by rw [hl, hs]; omega), hs]) ?_ ?_ ?_ ?_
  · intro u hu; rw [spl_get _ _ _ _ (by rw [hl, hs]; omega), if_pos (by omega), seen_L _ _ _ _ hu]
  · intro u hu; rw [spl_get _ _ _ _ (by rw [hl, hs]; omega), if_pos (by omega), seen_S _ _ _ _ hu]
  · intro u hu j hj; rw [spl_get _ _ _ _ (by rw [hl, hs]; omega), if_pos (by omega), seen_H _ _ _ _ hu hj]
  · intro j hj
    rw [spl_get _ _ _ _ (by rw [hl, hs]; omega), hl, if_neg (by omega), if_pos (by omega), Nat.add_sub_cancel_left]
end

/-- what a vault tells, up to token n -/
def lookC (V : Vau) (n k : Nat) : List Value := seenC (fun t => if t < n then (V.tok t).isSome else false) (fun t => if t < n then tS (V.tok t) else false) (fun t => if t < n then tH (V.tok t) else 0) k
theorem upd_lt {α : Type} (f : Nat → α) (z : α) (n : Nat) : updN (fun t => if t < n then f t else z) n (f n) = fun t => if t < n + 1 then f t else z := by
  funext t
  unfold updN
  by_cases h : t = n
  · subst h; simp
  · rw [if_neg h]
    show (if t < n then f t else z) = _
    by_cases h2 : t < n
    · rw [if_pos h2, if_pos (by omega)]
    · rw [if_neg h2, if_neg (by omega)]
theorem look_succ (V : Vau) (n k : Nat) : seenC (updN (fun t => if t < n then (V.tok t).isSome else false) n (V.tok n).isSome) (updN (fun t => if t < n then tS (V.tok t) else false) n (tS (V.tok n))) (updN (fun t => if t < n then tH (V.tok t) else 0) n (tH (V.tok n))) k = lookC V (n + 1) k := by
  unfold lookC
  congr 1
  · exact upd_lt (fun t => (V.tok t).isSome) false n
  · exact upd_lt (fun t => tS (V.tok t)) false n
  · exact upd_lt (fun t => tH (V.tok t)) 0 n
theorem seen_setL' {L S : Nat → Bool} {H : Nat → Nat} {k t off : Nat} (ho : off = t) (ht : t < 64) (b : Bool) : (seenC L S H k).set off (.bool b) = seenC (updN L t b) S H k := by subst ho; exact seen_setL ht b
theorem seen_setS' {L S : Nat → Bool} {H : Nat → Nat} {k t off : Nat} (ho : off = 64 + t) (ht : t < 64) (b : Bool) : (seenC L S H k).set off (.bool b) = seenC L (updN S t b) H k := ho ▸ seen_setS ht b
theorem seen_splH' {L S : Nat → Bool} {H : Nat → Nat} {k t off : Nat} (ho : off = 128 + t * 4) (ht : t < 64) (x : Nat) : spl (seenC L S H k) off (wc x) = seenC L S (updN H t x) k := ho ▸ seen_splH ht x
theorem one_look (V : Vau) (n k : Nat) : ∀ v ∈ lookC V n k, v.oneCell' = true := by
  intro v hv
  simp only [lookC, seenC, List.mem_append, List.mem_map, List.mem_flatMap] at hv
  rcases hv with ⟨t, _, rfl⟩ | ⟨t, _, rfl⟩ | ⟨t, _, ht⟩ | ht
  · rfl
  · rfl
  · simp only [wc, List.mem_cons, List.not_mem_nil, or_false] at ht
    rcases ht with rfl | rfl | rfl | rfl <;> rfl
  · simp only [wc, List.mem_cons, List.not_mem_nil, or_false] at ht
    rcases ht with rfl | rfl | rfl | rfl <;> rfl
theorem length_look (V : Vau) (n k : Nat) : (lookC V n k).length = 388 := length_seen _ _ _ _

section
variable {P : Program} {T : TypeId} {d : Nat}
theorem eq_structT {fs : Array Field} (hT : P.underlying T = some (.struct fs)) (hst : P.stoodInHeld T = false) (xs : Array Value)
    (h : ∀ f ∈ fs.toList, ∀ w, ∃ u, (part f.type xs f.offset).run P w = .ok u w ∧ EqOk P d f.type u u true) : EqOk P (d + 1) T (.agg xs) (.agg xs) true := by
  intro w
  rw [Op.equalIn]
  simp only [Sem.run_bind, run_underlying hT, Result.andThen_ok, run_program, hst, Bool.false_eq_true, if_false]
  rw [← Array.forIn_toList, forIn_all (fun _ => true)]
  · simp
  · intro f hf
    obtain ⟨u, h1, h2⟩ := h f hf w
    by_cases hn : f.name ≠ "_"
    · rw [if_pos hn]
      simp only [Sem.run_bind, h1, Result.andThen_ok, h2 w]
      rfl
    · rw [if_neg hn]
      rfl
end

section
variable {V : Vau} {p : Stp}
theorem chgP {m : Int} (h : (V.chg p).1.paid m ≠ V.paid m) : (V.chg p).2 = 0 ∧ pickN p.what 11 = 4 ∧ m = p.index := by
  by_cases h0 : (V.chg p).2 = 0
  · refine ⟨h0, ?_⟩
    by_cases h4 : pickN p.what 11 = 4
    · refine ⟨h4, ?_⟩
      obtain ⟨_, _, e, _⟩ := chg4 h4 h0
      rw [e] at h
      by_cases hm : m = p.index
      · exact hm
      · exact absurd (updF_ne _ _ hm) h
    · exfalso
      by_cases h3 : pickN p.what 11 = 3
      · rw [(chg3 h3 h0).2.2] at h; exact h rfl
      by_cases h5 : pickN p.what 11 = 5
      · rw [(chg5 h5 h0).2] at h; exact h rfl
      by_cases h6 : pickN p.what 11 = 6
      · rw [(chg6 h6 h0).2] at h; exact h rfl
      · rw [(chgO h3 h4 h5 h6).2.2] at h; exact h rfl
  · rw [chgE h0] at h; exact absurd rfl h
theorem chgT {m : Int} (h : (V.chg p).1.tok m ≠ V.tok m) : m = p.token ∧ pickN p.what 11 ≤ 4 := by
  have key : ∀ u, ({ V with tok := updF V.tok p.token u } : Vau).tok m ≠ V.tok m → m = p.token := fun u hu => by
    by_cases hm : m = p.token
    · exact hm
    · exact absurd (updF_ne _ _ hm) hu
  by_cases h0 : (V.chg p).2 = 0
  · by_cases h5 : pickN p.what 11 = 5
    · rw [(chg5 h5 h0).2] at h; exact absurd rfl h
    by_cases h6 : pickN p.what 11 = 6
    · rw [(chg6 h6 h0).2] at h; exact absurd rfl h
    by_cases h3 : pickN p.what 11 = 3
    · rw [(chg3 h3 h0).2.2] at h; exact ⟨key _ h, by omega⟩
    by_cases h4 : pickN p.what 11 = 4
    · rw [(chg4 h4 h0).2.2.1] at h; exact ⟨key _ h, by omega⟩
    revert h
    by_cases g0 : pickN p.what 11 = 0
    · simp only [Vau.chg, g0, if_true, Vau.list]
      repeat' split
      all_goals intro h
      all_goals first | exact absurd rfl h | exact ⟨key _ h, by omega⟩
    by_cases g1 : pickN p.what 11 = 1
    · simp only [Vau.chg, g1, if_true, if_neg (show ¬ (1 : Int) = 0 by decide), Vau.stop]
      repeat' split
      all_goals intro h
      all_goals first | exact absurd rfl h | exact ⟨key _ h, by omega⟩
    by_cases g2 : pickN p.what 11 = 2
    · simp only [Vau.chg, g2, if_true, if_neg (show ¬ (2 : Int) = 0 by decide), if_neg (show ¬ (2 : Int) = 1 by decide), Vau.stop]
      repeat' split
      all_goals intro h
      all_goals first | exact absurd rfl h | exact ⟨key _ h, by omega⟩
    · simp only [Vau.chg, g0, g1, g2, h3, h4, h5, h6, if_false]
      intro h; exact absurd rfl h
  · rw [chgE h0] at h; exact absurd rfl h
theorem chgL (h : (V.chg p).1.lock ≠ V.lock) : pickN p.what 11 = 5 ∨ pickN p.what 11 = 6 := by
  by_cases h5 : pickN p.what 11 = 5
  · exact .inl h5
  by_cases h6 : pickN p.what 11 = 6
  · exact .inr h6
  exfalso
  by_cases h0 : (V.chg p).2 = 0
  · by_cases h3 : pickN p.what 11 = 3
    · rw [(chg3 h3 h0).2.2] at h; exact h rfl
    by_cases h4 : pickN p.what 11 = 4
    · rw [(chg4 h4 h0).2.2.1] at h; exact h rfl
    · exact h (chgO h3 h4 h5 h6).2.1
  · rw [chgE h0] at h; exact h rfl
end
/-- the first j answers -/
def paidC (V : Vau) (ps : List Stp) (j : Nat) : List Value := (ps.take j).map fun r => .bool (V.paid r.index)
theorem paidC_succ {V : Vau} {ps : List Stp} {r : Stp} {j : Nat} (h : ps[j]? = some r) : paidC V ps j ++ [.bool (V.paid r.index)] = paidC V ps (j + 1) := by
  obtain ⟨h1, rfl⟩ := List.getElem?_eq_some_iff.1 h
  unfold paidC
  rw [List.take_succ_eq_append_getElem h1, List.map_append]; rfl
theorem paidC_at {V : Vau} {ps : List Stp} {r : Stp} {j m : Nat} (h : ps[j]? = some r) (hj : j < m) : (paidC V ps m)[j]? = some (.bool (V.paid r.index)) := by
  unfold paidC
  rw [List.getElem?_map, List.getElem?_take_of_lt hj, h]; rfl
theorem look_L {V : Vau} {k t off : Nat} (ho : off = t) (ht : t < 64) : (lookC V 64 k)[off]? = some (.bool (V.tok t).isSome) := by
  subst ho; rw [lookC, seen_L _ _ _ _ ht, if_pos ht]
theorem look_S {V : Vau} {k t off : Nat} (ho : off = 64 + t) (ht : t < 64) : (lookC V 64 k)[off]? = some (.bool (tS (V.tok t))) := by
  subst ho; rw [lookC, seen_S _ _ _ _ ht, if_pos ht]
theorem look_H {V : Vau} {k t off : Nat} (ho : off = 128 + t * 4) (ht : t < 64) (j : Nat) (v : Value) (h : (wc (tH (V.tok t)))[j]? = some v) : (lookC V 64 k)[off + j]? = some v := by
  subst ho
  have hj : j < 4 := (List.getElem?_eq_some_iff.1 h).1
  rw [lookC, seen_H _ _ _ _ ht hj, if_pos ht]; exact h
theorem look_K {V : Vau} {k off : Nat} (ho : off = 384) (j : Nat) (v : Value) (h : (wc k)[j]? = some v) : (lookC V 64 k)[off + j]? = some v := by
  subst ho; rw [lookC, seen_K]; exact h
theorem paidC_at' {V : Vau} {ps : List Stp} {r : Stp} {j m off : Nat} (ho : off = j) (h : ps[j]? = some r) (hj : j < m) : (paidC V ps m)[off]? = some (.bool (V.paid r.index)) := ho ▸ paidC_at h hj
end Go.Fw
