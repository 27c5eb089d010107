/- The reference's vault: a list of what was done; what each question makes of it; that it goes with the vault. No condition beyond each lemma's own. -/
import Derived.Test.YthgecfjpacebeaaAg
namespace Go.Fw
open Go.RowKit Go.Proofs.Ythgecfjpacebeaa
structure Ac where
  what : Int
  index : Int
  token : Int
  amt : Nat
@[reducible] def acL (p : Ac) : List Value := .int .i64 p.what :: .int .i64 p.index :: .int .i64 p.token :: wc p.amt
def lisStep (t : Int) (s : Bool × Bool) (p : Ac) : Bool × Bool := if p.token ≠ t then s else if p.what = 0 then (true, s.2) else if p.what = 1 then (s.1, true) else if p.what = 2 then (s.1, false) else s
def lisR (l : List Ac) (t : Int) : Bool × Bool := l.foldl (lisStep t) (false, false)
def addM (x y : Nat) : Nat := if x + y < 115792089237316195423570985008687907853269984665640564039457584007913129639936 then x + y else 0
def subM (x y : Nat) : Nat := if y ≤ x then x - y else 0
def heldStep (t : Int) (x : Nat) (p : Ac) : Nat := if p.token ≠ t then x else if p.what = 3 then addM x p.amt else if p.what = 4 then subM x p.amt else x
def heldR (l : List Ac) (t : Int) : Nat := l.foldl (heldStep t) 0
def lockStep (x : Nat) (p : Ac) : Nat := if p.what = 5 then addM x p.amt else if p.what = 6 then subM x p.amt else x
def lockR (l : List Ac) : Nat := l.foldl lockStep 0
def isPay (i : Int) (p : Ac) : Bool := decide (p.what = 4 ∧ p.index = i)
def paidR (l : List Ac) (i : Int) : Bool := l.any (isPay i)
def AcsOk (l : List Ac) : Prop := ∀ p ∈ l, p.amt < 115792089237316195423570985008687907853269984665640564039457584007913129639936
theorem foldl_succ {α β : Type} (f : β → α → β) (b : β) (l : List α) (i : Nat) (p : α) (h : l[i]? = some p) : (l.take (i + 1)).foldl f b = f ((l.take i).foldl f b) p := by
  obtain ⟨hi, rfl⟩ := List.getElem?_eq_some_iff.1 h
  rw [List.take_succ_eq_append_getElem hi, List.foldl_append]; rfl
theorem any_succ (l : List Ac) (i : Nat) (p : Ac) (q : Ac → Bool) (h : l[i]? = some p) : (l.take (i + 1)).any q = ((l.take i).any q || q p) := by
  obtain ⟨hi, rfl⟩ := List.getElem?_eq_some_iff.1 h
  rw [List.take_succ_eq_append_getElem hi, List.any_append]; simp
theorem addM_lt (x y : Nat) : addM x y < 115792089237316195423570985008687907853269984665640564039457584007913129639936 := by unfold addM; split; assumption; decide
theorem subM_lt {x y : Nat} (h : x < 115792089237316195423570985008687907853269984665640564039457584007913129639936) : subM x y < 115792089237316195423570985008687907853269984665640564039457584007913129639936 := by unfold subM; split; omega; decide
theorem heldStep_lt (t : Int) {x : Nat} (p : Ac) (h : x < 115792089237316195423570985008687907853269984665640564039457584007913129639936) : heldStep t x p < 115792089237316195423570985008687907853269984665640564039457584007913129639936 := by
  unfold heldStep; split
  · exact h
  · split
    · exact addM_lt _ _
    · split
      · exact subM_lt h
      · exact h
theorem lockStep_lt {x : Nat} (p : Ac) (h : x < 115792089237316195423570985008687907853269984665640564039457584007913129639936) : lockStep x p < 115792089237316195423570985008687907853269984665640564039457584007913129639936 := by
  unfold lockStep; split
  · exact addM_lt _ _
  · split
    · exact subM_lt h
    · exact h
theorem fold_lt (f : Nat → Ac → Nat) (hf : ∀ x p, x < 115792089237316195423570985008687907853269984665640564039457584007913129639936 → f x p < 115792089237316195423570985008687907853269984665640564039457584007913129639936) : ∀ (l : List Ac) (x : Nat), x < 115792089237316195423570985008687907853269984665640564039457584007913129639936 → l.foldl f x < 115792089237316195423570985008687907853269984665640564039457584007913129639936
  | [], _, h => h
  | p :: l, x, h => fold_lt f hf l (f x p) (hf x p h)
theorem heldR_lt (l : List Ac) (t : Int) : heldR l t < 115792089237316195423570985008687907853269984665640564039457584007913129639936 := fold_lt _ (fun _ p h => heldStep_lt t p h) l 0 (by decide)
theorem lockR_lt (l : List Ac) : lockR l < 115792089237316195423570985008687907853269984665640564039457584007913129639936 := fold_lt _ (fun _ p h => lockStep_lt p h) l 0 (by decide)
theorem acs_length (l : List Ac) : (l.flatMap acL).length = l.length * 7 := by
  induction l with
  | nil => rfl
  | cons x l ih => simp only [List.flatMap_cons, List.length_append, ih, List.length_cons, List.length_nil]; omega
theorem ac_at {l : List Ac} {p : Ac} {i : Nat} (h : l[i]? = some p) {j : Nat} {v : Value} (hv : (acL p)[j]? = some v) : (l.flatMap acL)[i * 7 + j]? = some v :=
  flatMap_at acL 7 (fun _ => rfl) l i j p v h hv
theorem acs_one (l : List Ac) : ∀ u ∈ l.flatMap acL, u.oneCell' = true := by
  intro u hu
  obtain ⟨x, _, hx⟩ := List.mem_flatMap.1 hu
  simp only [acL, wc, List.mem_cons, List.not_mem_nil, or_false] at hx
  rcases hx with rfl | rfl | rfl | rfl | rfl | rfl | rfl <;> rfl
theorem acs_snoc (l : List Ac) (p : Ac) : l.flatMap acL ++ acL p = (l ++ [p]).flatMap acL := by rw [List.flatMap_append, List.flatMap_singleton]
def RefS (rb : Nat) (l : List Ac) (s : Seg) : Prop := ∃ A c sg, s = (rb, Cel [.slice A l.length c] 115) :: sg ∧ OwnS sg A l.length c (l.flatMap acL) 139 7
/-! ### what the reference answers -/
def thereR (l : List Ac) (t : Int) : Int := if t < 0 ∨ 64 ≤ t then 140 else if (lisR l t).1 = true then 0 else 141
def listR (l : List Ac) (t : Int) : List Ac × Int := if thereR l t = 140 then (l, 140) else if thereR l t = 0 then (l, 142) else (l ++ [⟨0, 0, t, 0⟩], 0)
def stopR (l : List Ac) (t : Int) (b : Bool) : List Ac × Int := if thereR l t ≠ 0 then (l, thereR l t) else if (lisR l t).2 = b then (l, 143) else (l ++ [⟨if b then 1 else 2, 0, t, 0⟩], 0)
def depR (l : List Ac) (t : Int) (x : Nat) : List Ac × Int := if thereR l t ≠ 0 then (l, thereR l t) else if (lisR l t).2 = true then (l, 143) else if x = 0 then (l, 144) else
  if heldR l t + x < 115792089237316195423570985008687907853269984665640564039457584007913129639936 then (l ++ [⟨3, 0, t, x⟩], 0) else (l, 145)
def payR (l : List Ac) (i t : Int) (x : Nat) : List Ac × Int := if i < 0 ∨ 1099511627776 ≤ i then (l, 148) else if thereR l t ≠ 0 then (l, thereR l t) else if paidR l i = true then (l, 147) else
  if heldR l t < x then (l, 146) else (l ++ [⟨4, i, t, x⟩], 0)
def lokR (l : List Ac) (x : Nat) : List Ac × Int := if lockR l + x < 115792089237316195423570985008687907853269984665640564039457584007913129639936 then (l ++ [⟨5, 0, -1, x⟩], 0) else (l, 145)
def freR (l : List Ac) (x : Nat) : List Ac × Int := if lockR l < x then (l, 149) else (l ++ [⟨6, 0, -1, x⟩], 0)
def chgR (l : List Ac) (p : Stp) : List Ac × Int :=
  let k := pickN p.what 11
  if k = 0 then listR l p.token else if k = 1 then stopR l p.token true else if k = 2 then stopR l p.token false else
  if k = 3 then depR l p.token p.amt else if k = 4 then payR l p.index p.token p.amt else if k = 5 then lokR l p.amt else if k = 6 then freR l p.amt else (l, 0)
/-! ### the two go together -/
structure Sim (V : Vau) (l : List Ac) : Prop where
  lis : ∀ t, lisR l t = ((V.tok t).isSome, tS (V.tok t))
  held : ∀ t, heldR l t = tH (V.tok t)
  paid : ∀ i, paidR l i = V.paid i
  lock : lockR l = V.lock
theorem lisR_snoc (l : List Ac) (p : Ac) (t : Int) : lisR (l ++ [p]) t = lisStep t (lisR l t) p := by simp [lisR]
theorem heldR_snoc (l : List Ac) (p : Ac) (t : Int) : heldR (l ++ [p]) t = heldStep t (heldR l t) p := by simp [heldR]
theorem lockR_snoc (l : List Ac) (p : Ac) : lockR (l ++ [p]) = lockStep (lockR l) p := by simp [lockR]
theorem paidR_snoc (l : List Ac) (p : Ac) (i : Int) : paidR (l ++ [p]) i = (paidR l i || isPay i p) := by simp [paidR]
theorem Sim.new : Sim Vau.new [] := ⟨fun _ => rfl, fun _ => rfl, fun _ => rfl, rfl⟩
section
variable {V : Vau} {l : List Ac}
theorem Sim.there (h : Sim V l) (t : Int) : thereR l t = V.err t := by
  unfold thereR Vau.err
  rw [h.lis t]
  by_cases h1 : 0 ≤ t ∧ t < 64
  · rw [if_neg (by omega), if_pos h1]
  · rw [if_pos (by omega), if_neg h1]
theorem Sim.list (h : Sim V l) (t : Int) : (listR l t).2 = (V.list t).2 ∧ Sim (V.list t).1 (listR l t).1 := by
  unfold listR Vau.list
  rw [h.there t]
  unfold Vau.err
  by_cases h1 : 0 ≤ t ∧ t < 64
  · simp only [if_pos h1]
    cases h2 : (V.tok t).isSome
    · simp only [Bool.false_eq_true, if_false]
      refine ⟨rfl, fun u => ?_, fun u => ?_, fun i => ?_, ?_⟩
      · rw [show ((if (141 : Int) = 140 then (l, (140 : Int)) else if (141 : Int) = 0 then (l, 142) else (l ++ [⟨0, 0, t, 0⟩], 0)).1) = l ++ [⟨0, 0, t, 0⟩] from rfl, lisR_snoc, h.lis u, lisStep]
        by_cases e : u = t
        · subst e
          have hn : V.tok u = none := by simpa using h2
          simp [updF, hn]; rfl
        · simp [updF, e, Ne.symm e]
      · rw [show ((if (141 : Int) = 140 then (l, (140 : Int)) else if (141 : Int) = 0 then (l, 142) else (l ++ [⟨0, 0, t, 0⟩], 0)).1) = l ++ [⟨0, 0, t, 0⟩] from rfl, heldR_snoc, h.held u, heldStep]
        by_cases e : u = t
        · subst e
          have hn : V.tok u = none := by simpa using h2
          simp [updF, hn]; rfl
        · simp [updF, e, Ne.symm e]
      · rw [show ((if (141 : Int) = 140 then (l, (140 : Int)) else if (141 : Int) = 0 then (l, 142) else (l ++ [⟨0, 0, t, 0⟩], 0)).1) = l ++ [⟨0, 0, t, 0⟩] from rfl, paidR_snoc, h.paid i]
        simp [isPay]
      · rw [show ((if (141 : Int) = 140 then (l, (140 : Int)) else if (141 : Int) = 0 then (l, 142) else (l ++ [⟨0, 0, t, 0⟩], 0)).1) = l ++ [⟨0, 0, t, 0⟩] from rfl, lockR_snoc, h.lock]
        simp [lockStep]
    · simp only [if_true]; exact ⟨rfl, h⟩
  · simp only [if_neg h1]; exact ⟨rfl, h⟩
theorem errZ {n : Int} (h : V.err n = 0) : 0 ≤ n ∧ n < 64 ∧ (V.tok n).isSome = true := by
  unfold Vau.err at h
  split at h
  · split at h
    · rename_i h1 h2; exact ⟨h1.1, h1.2, h2⟩
    · omega
  · omega
theorem Sim.stop (h : Sim V l) (t : Int) (b : Bool) : (stopR l t b).2 = (V.stop t b).2 ∧ Sim (V.stop t b).1 (stopR l t b).1 := by
  unfold stopR Vau.stop
  rw [h.there t, h.lis t]
  by_cases h1 : V.err t ≠ 0
  · rw [if_pos h1, if_pos h1]; exact ⟨rfl, h⟩
  · rw [if_neg h1, if_neg h1]
    have hs := (errZ (by omega : V.err t = 0)).2.2
    by_cases h2 : tS (V.tok t) = b
    · rw [if_pos h2, if_pos h2]; exact ⟨rfl, h⟩
    · rw [if_neg h2, if_neg h2]
      refine ⟨rfl, fun u => ?_, fun u => ?_, fun i => ?_, ?_⟩
      · rw [lisR_snoc, h.lis u, lisStep]
        by_cases e : u = t
        · subst e; cases b <;> simp [updF, hs] <;> rfl
        · simp [updF, e, Ne.symm e]
      · rw [heldR_snoc, h.held u, heldStep]
        by_cases e : u = t
        · subst e; cases b <;> simp [updF] <;> rfl
        · simp [updF, e, Ne.symm e]
      · rw [paidR_snoc, h.paid i]; cases b <;> simp [isPay]
      · rw [lockR_snoc, h.lock]; cases b <;> simp [lockStep]
theorem Sim.dep (h : Sim V l) (t : Int) (x : Nat) : (depR l t x).2 = (V.deposit t x).2 ∧ Sim (V.deposit t x).1 (depR l t x).1 := by
  unfold depR Vau.deposit
  rw [h.there t, h.lis t, h.held t]
  by_cases h1 : V.err t ≠ 0
  · rw [if_pos h1, if_pos h1]; exact ⟨rfl, h⟩
  · rw [if_neg h1, if_neg h1]
    have hs := (errZ (by omega : V.err t = 0)).2.2
    by_cases h2 : tS (V.tok t) = true
    · rw [if_pos h2, if_pos h2]; exact ⟨rfl, h⟩
    · rw [if_neg h2, if_neg h2]
      by_cases h3 : x = 0
      · rw [if_pos h3, if_pos h3]; exact ⟨rfl, h⟩
      · rw [if_neg h3, if_neg h3]
        by_cases h4 : tH (V.tok t) + x < 115792089237316195423570985008687907853269984665640564039457584007913129639936
        · rw [if_pos h4, if_pos h4]
          refine ⟨rfl, fun u => ?_, fun u => ?_, fun i => ?_, ?_⟩
          · rw [lisR_snoc, h.lis u, lisStep]
            by_cases e : u = t
            · subst e; simp [updF, hs]; rfl
            · simp [updF, e, Ne.symm e]
          · rw [heldR_snoc, h.held u, heldStep]
            by_cases e : u = t
            · subst e; simp only [updF, if_true, ne_eq, not_true, if_false, addM, if_pos h4]; rfl
            · simp [updF, e, Ne.symm e]
          · rw [paidR_snoc, h.paid i]; simp [isPay]
          · rw [lockR_snoc, h.lock]; simp [lockStep]
        · rw [if_neg h4, if_neg h4]; exact ⟨rfl, h⟩
theorem Sim.pay (h : Sim V l) (i t : Int) (x : Nat) : (payR l i t x).2 = (V.pay i t x).2 ∧ Sim (V.pay i t x).1 (payR l i t x).1 := by
  unfold payR Vau.pay
  rw [h.there t, h.held t, h.paid i]
  by_cases h0 : i < 0 ∨ 1099511627776 ≤ i
  · rw [if_pos h0, if_pos h0]; exact ⟨rfl, h⟩
  · rw [if_neg h0, if_neg h0]
    by_cases h1 : V.err t ≠ 0
    · rw [if_pos h1, if_pos h1]; exact ⟨rfl, h⟩
    · rw [if_neg h1, if_neg h1]
      have hs := (errZ (by omega : V.err t = 0)).2.2
      by_cases h2 : V.paid i = true
      · rw [if_pos h2, if_pos h2]; exact ⟨rfl, h⟩
      · rw [if_neg h2, if_neg h2]
        by_cases h4 : x ≤ tH (V.tok t)
        · rw [if_pos h4, if_neg (by omega)]
          refine ⟨rfl, fun u => ?_, fun u => ?_, fun j => ?_, ?_⟩
          · rw [lisR_snoc, h.lis u, lisStep]
            by_cases e : u = t
            · subst e; simp [updF, hs]; rfl
            · simp [updF, e, Ne.symm e]
          · rw [heldR_snoc, h.held u, heldStep]
            by_cases e : u = t
            · subst e; simp only [updF, if_true, ne_eq, not_true, if_false, subM, if_pos h4]; rfl
            · simp [updF, e, Ne.symm e]
          · rw [paidR_snoc, h.paid j]
            by_cases e : j = i
            · subst e; simp [isPay, updF]
            · simp [isPay, updF, e, Ne.symm e]
          · rw [lockR_snoc, h.lock]; simp [lockStep]
        · rw [if_neg h4, if_pos (by omega)]; exact ⟨rfl, h⟩
theorem Sim.lk (h : Sim V l) (x : Nat) : (lokR l x).2 = (V.lockIt x).2 ∧ Sim (V.lockIt x).1 (lokR l x).1 := by
  unfold lokR Vau.lockIt
  rw [h.lock]
  by_cases h4 : V.lock + x < 115792089237316195423570985008687907853269984665640564039457584007913129639936
  · rw [if_pos h4, if_pos h4]
    refine ⟨rfl, fun u => ?_, fun u => ?_, fun j => ?_, ?_⟩
    · rw [lisR_snoc, h.lis u, lisStep]; simp
    · rw [heldR_snoc, h.held u, heldStep]; simp
    · rw [paidR_snoc, h.paid j]; simp [isPay]
    · rw [lockR_snoc, h.lock]; simp only [lockStep, if_true, addM, if_pos h4]
  · rw [if_neg h4, if_neg h4]; exact ⟨rfl, h⟩
theorem Sim.fr (h : Sim V l) (x : Nat) : (freR l x).2 = (V.free x).2 ∧ Sim (V.free x).1 (freR l x).1 := by
  unfold freR Vau.free
  rw [h.lock]
  by_cases h4 : x ≤ V.lock
  · rw [if_pos h4, if_neg (by omega)]
    refine ⟨rfl, fun u => ?_, fun u => ?_, fun j => ?_, ?_⟩
    · rw [lisR_snoc, h.lis u, lisStep]; simp
    · rw [heldR_snoc, h.held u, heldStep]; simp
    · rw [paidR_snoc, h.paid j]; simp [isPay]
    · rw [lockR_snoc, h.lock]; simp [lockStep, subM, h4]
  · rw [if_neg h4, if_pos (by omega)]; exact ⟨rfl, h⟩
theorem Sim.chg (h : Sim V l) (p : Stp) : (chgR l p).2 = (V.chg p).2 ∧ Sim (V.chg p).1 (chgR l p).1 := by
  unfold chgR Vau.chg
  simp only
  split
  · exact h.list _
  · split
    · exact h.stop _ _
    · split
      · exact h.stop _ _
      · split
        · exact h.dep _ _
        · split
          · exact h.pay _ _ _
          · split
            · exact h.lk _
            · split
              · exact h.fr _
              · exact ⟨rfl, h⟩
end
theorem chgR_length (l : List Ac) (p : Stp) : (chgR l p).1.length ≤ l.length + 1 := by
  unfold chgR listR stopR depR payR lokR freR
  simp only
  repeat' split
  all_goals simp
theorem chgR_ok {l : List Ac} {p : Stp} (h : AcsOk l) (hp : p.amt < 115792089237316195423570985008687907853269984665640564039457584007913129639936) : AcsOk (chgR l p).1 := by
  have key : ∀ a b c, AcsOk (l ++ [⟨a, b, c, p.amt⟩]) := by
    intro a b c q hq
    rcases List.mem_append.1 hq with h1 | h1
    · exact h q h1
    · rw [List.mem_singleton.1 h1]; exact hp
  have key0 : ∀ a b c, AcsOk (l ++ [⟨a, b, c, 0⟩]) := by
    intro a b c q hq
    rcases List.mem_append.1 hq with h1 | h1
    · exact h q h1
    · rw [List.mem_singleton.1 h1]; show (0 : Nat) < _; decide
  unfold chgR listR stopR depR payR lokR freR
  simp only
  repeat' split
  all_goals first | exact h | exact key _ _ _ | exact key0 _ _ _
end Go.Fw
