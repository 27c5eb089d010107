/- What a script's step does to what is held and locked; a script's cells. No condition beyond each lemma's own. -/
import Derived.Test.YthgecfjpacebeaaY
namespace Go.Fw
open Go.RowKit

section
variable {P : Program} {w : World} {ρ : Operand → Value} {dst : Option Tmp} {ty : TypeId} {pos : String} {af : Array Edge} {g : Option (Nat × Bool)} {x : Operand} {T : TypeId} {A : Option Addr}
theorem add_add (a : Addr) (k j : Nat) : (a.add k).add j = a.add (k + j) := by
  unfold Addr.add
  by_cases hj0 : j = 0
  · subst hj0; simp
  · by_cases hk0 : k = 0
    · subst hk0; simp
    · simp [hj0, hk0, Nat.add_assoc]
theorem R.fieldAddrO {fs : Array Field} {i k m : Nat} {f : Field} (hT : P.underlying T = some (.struct fs)) (hf : fs[i]? = some f) (hs : nzT P f.type = true) (hx : ρ x = .pointer (A.map (·.add k))) (hA : A ≠ none) (hk : f.offset = m) :
    (execOp ρ ⟨dst, .fieldAddr T x i, ty, pos, af, g⟩).run P w = .ok (.value (.pointer (A.map (·.add (k + m))))) w := by
  subst hk
  cases A with
  | none => exact absurd rfl hA
  | some a =>
    unfold nzT at hs
    cases hi : P.info? f.type with
    | none => rw [hi] at hs; simp at hs
    | some inf =>
      rw [hi] at hs
      have hne : ¬ inf.size = 0 := fun e => by simp [e] at hs
      have hsz : (sizeOf f.type).run P w = .ok inf.size w := by simp [sizeOf, typeInfo, hi, Sem.run_bind, Result.andThen_ok]
      simp only [execOp, hx, Option.map_some, Instr.fieldAt, run_underlying hT, hf, Instr.sureAddr, fieldPlace, hsz, hne, add_add, if_false, Sem.run_bind, Sem.run_pure, Result.andThen_ok]
end
/-- what 64 tokens hold, one behind the other -/
def heldC (f : Int → Option (Bool × Nat)) : List Value := (List.range 64).flatMap fun (t : Nat) => wc (tH (f t))
theorem flatMap_at {α : Type} (g : α → List Value) (n : Nat) (hg : ∀ a, (g a).length = n) : ∀ (l : List α) (i j : Nat) (a : α) (v : Value), l[i]? = some a → (g a)[j]? = some v → (l.flatMap g)[i * n + j]? = some v
  | [], i, j, a, v, h, _ => by simp at h
  | b :: l, 0, j, a, v, h, hv => by
    simp only [List.getElem?_cons_zero, Option.some.injEq] at h
    subst h
    have : j < (g b).length := (List.getElem?_eq_some_iff.1 hv).1
    rw [List.flatMap_cons, Nat.zero_mul, Nat.zero_add, List.getElem?_append_left this]; exact hv
  | b :: l, i + 1, j, a, v, h, hv => by
    rw [List.flatMap_cons, List.getElem?_append_right (by rw [hg, Nat.succ_mul]; omega), hg, show (i + 1) * n + j - n = i * n + j from by rw [Nat.succ_mul]; omega]
    exact flatMap_at g n hg l i j a v (by simpa using h) hv
theorem stp_at {ps : List Stp} {p : Stp} {i : Nat} (h : ps[i]? = some p) {j : Nat} {v : Value} (hv : (stpL p)[j]? = some v) : (ps.flatMap stpL)[i * 8 + j]? = some v :=
  flatMap_at stpL 8 (fun _ => rfl) ps i j p v h hv
theorem stp_ne {w : World} {A : Option Addr} {ps : List Stp} {p : Stp} {i : Nat} (hA : Rd w A (ps.flatMap stpL)) (h : ps[i]? = some p) : A ≠ none := by
  obtain ⟨a, rfl, _⟩ := hA _ _ (stp_at h (j := 0) rfl)
  simp
theorem length_heldC (f : Int → Option (Bool × Nat)) : (heldC f).length = 256 := by
  unfold heldC; rw [List.length_flatMap]; simp only [List.length_cons, List.length_nil]; decide
theorem held_at (f : Int → Option (Bool × Nat)) {t : Nat} (ht : t < 64) (j : Nat) (v : Value) (hv : (wc (tH (f t)))[j]? = some v) : (heldC f)[0 + t * 4 + j]? = some v := by
  rw [Nat.zero_add]
  exact flatMap_at (fun (t : Nat) => wc (tH (f t))) 4 (fun _ => rfl) _ t j t v (by simp [ht]) hv
theorem heldC_congr {f g : Int → Option (Bool × Nat)} (h : ∀ t : Nat, t < 64 → tH (f t) = tH (g t)) : heldC f = heldC g := by
  unfold heldC
  rw [List.flatMap_def, List.flatMap_def]
  congr 1
  refine List.map_congr_left fun t ht => ?_
  rw [h t (by simpa using ht)]
theorem held_spl (f : Int → Option (Bool × Nat)) {t : Nat} (ht : t < 64) (b : Bool) (x : Nat) : spl (heldC f) (0 + t * 4) (wc x) = heldC (updF f t (some (b, x))) := by
  apply List.ext_getElem?
  intro k
  have hl : (wc x).length = 4 := rfl
  have key : ∀ q r : Nat, q < 64 → r < 4 → ∀ (g : Int → Option (Bool × Nat)), (heldC g)[q * 4 + r]? = (wc (tH (g q)))[r]? := by
    intro q r hq hr g
    have h1 : (wc (tH (g q)))[r]? = some ((wc (tH (g q)))[r]'(by simpa using hr)) := List.getElem?_eq_getElem _
    have := held_at g hq r _ h1
    rw [Nat.zero_add] at this
    rw [this, h1]
  by_cases hk : k < 256
  · obtain ⟨q, r, rfl, hr, hq⟩ : ∃ q r, k = q * 4 + r ∧ r < 4 ∧ q < 64 := ⟨k / 4, k % 4, by omega, by omega, by omega⟩
    rw [key q r hq hr]
    unfold spl updF
    rw [Nat.zero_add]
    by_cases hqt : q = t
    · subst hqt
      rw [if_pos rfl, List.append_assoc, List.getElem?_append_right (by rw [List.length_take, length_heldC]; omega), List.length_take, length_heldC, Nat.min_eq_left (by omega)]
      rw [List.getElem?_append_left (by rw [hl]; omega)]
      congr 1; omega
    · rw [if_neg (by omega)]
      rw [← key q r hq hr]
      by_cases hlt : q * 4 + r < t * 4
      · rw [List.append_assoc, List.getElem?_append_left (by rw [List.length_take, length_heldC]; omega), List.getElem?_take_of_lt hlt]
      · rw [List.getElem?_append_right (by rw [List.length_append, List.length_take, length_heldC, hl]; omega), List.length_append, List.length_take, length_heldC, hl, Nat.min_eq_left (by omega), List.getElem?_drop]
        congr 1; omega
  · rw [List.getElem?_eq_none (by rw [length_spl _ _ _ (by rw [length_heldC, hl]; omega), length_heldC]; omega), List.getElem?_eq_none (by rw [length_heldC]; omega)]

section
variable {V : Vau} {p : Stp}
theorem err_in {n : Int} (h : V.err n = 0) : 0 ≤ n ∧ n < 64 := by
  unfold Vau.err at h
  split at h
  · assumption
  · omega
theorem chgE (h : (V.chg p).2 ≠ 0) : (V.chg p).1 = V := by
  revert h
  simp only [Vau.chg, Vau.list, Vau.stop, Vau.deposit, Vau.pay, Vau.lockIt, Vau.free]
  repeat' split
  all_goals simp
theorem chg3 (hk : pickN p.what 11 = 3) (h : (V.chg p).2 = 0) : (0 ≤ p.token ∧ p.token < 64) ∧ tH (V.tok p.token) + p.amt < 115792089237316195423570985008687907853269984665640564039457584007913129639936 ∧
    (V.chg p).1 = { V with tok := updF V.tok p.token (some (tS (V.tok p.token), tH (V.tok p.token) + p.amt)) } := by
  have e : V.chg p = V.deposit p.token p.amt := by simp [Vau.chg, hk]
  rw [e] at h ⊢
  unfold Vau.deposit at h ⊢
  split at h
  · rename_i h1; exact absurd h h1
  · rename_i h1
    have h1' : V.err p.token = 0 := by omega
    split at h
    · simp at h
    · rename_i h2
      split at h
      · simp at h
      · rename_i h3
        split at h
        · rename_i h4
          exact ⟨err_in h1', h4, by rw [if_neg h1, if_neg h2, if_neg h3, if_pos h4]⟩
        · simp at h
theorem chg4 (hk : pickN p.what 11 = 4) (h : (V.chg p).2 = 0) : (0 ≤ p.token ∧ p.token < 64) ∧ p.amt ≤ tH (V.tok p.token) ∧
    (V.chg p).1 = { V with tok := updF V.tok p.token (some (tS (V.tok p.token), tH (V.tok p.token) - p.amt)), paid := updF V.paid p.index true } ∧ V.paid p.index = false ∧ 0 ≤ p.index ∧ p.index < 1099511627776 := by
  have e : V.chg p = V.pay p.index p.token p.amt := by simp [Vau.chg, hk]
  rw [e] at h ⊢
  unfold Vau.pay at h ⊢
  split at h
  · simp at h
  · rename_i h0
    split at h
    · rename_i h1; exact absurd h h1
    · rename_i h1
      have h1' : V.err p.token = 0 := by omega
      split at h
      · simp at h
      · rename_i h2
        split at h
        · rename_i h4
          exact ⟨err_in h1', h4, by rw [if_neg h0, if_neg h1, if_neg h2, if_pos h4], by simpa using h2, by omega, by omega⟩
        · simp at h
theorem chg5 (hk : pickN p.what 11 = 5) (h : (V.chg p).2 = 0) : V.lock + p.amt < 115792089237316195423570985008687907853269984665640564039457584007913129639936 ∧ (V.chg p).1 = { V with lock := V.lock + p.amt } := by
  have e : V.chg p = V.lockIt p.amt := by simp [Vau.chg, hk]
  rw [e] at h ⊢
  unfold Vau.lockIt at h ⊢
  split at h
  · rename_i h1; exact ⟨h1, by rw [if_pos h1]⟩
  · simp at h
theorem chg6 (hk : pickN p.what 11 = 6) (h : (V.chg p).2 = 0) : p.amt ≤ V.lock ∧ (V.chg p).1 = { V with lock := V.lock - p.amt } := by
  have e : V.chg p = V.free p.amt := by simp [Vau.chg, hk]
  rw [e] at h ⊢
  unfold Vau.free at h ⊢
  split at h
  · rename_i h1; exact ⟨h1, by rw [if_pos h1]⟩
  · simp at h
theorem tH_same {f : Int → Option (Bool × Nat)} {n : Int} {u : Option (Bool × Nat)} (h : tH u = tH (f n)) (t : Int) : tH (updF f n u t) = tH (f t) := by
  unfold updF
  split
  · rename_i e; rw [e, h]
  · rfl
theorem chgO (h3 : pickN p.what 11 ≠ 3) (h4 : pickN p.what 11 ≠ 4) (h5 : pickN p.what 11 ≠ 5) (h6 : pickN p.what 11 ≠ 6) : (∀ t, tH ((V.chg p).1.tok t) = tH (V.tok t)) ∧ (V.chg p).1.lock = V.lock ∧ (V.chg p).1.paid = V.paid := by
  simp only [Vau.chg, h3, h4, h5, h6, if_false, Vau.list, Vau.stop]
  repeat' split
  all_goals first
    | exact ⟨fun _ => rfl, rfl, rfl⟩
    | exact ⟨tH_same rfl, rfl, rfl⟩
    | (rename_i h _
       refine ⟨tH_same ?_, rfl, rfl⟩
       cases e : V.tok p.token with
       | none => rfl
       | some u => simp_all)
    | skip
end
end Go.Fw
namespace Go.Proofs.Ythgecfjpacebeaa
open Go Go.Fw
theorem addW_ok {x y : Nat} (h : x + y < 115792089237316195423570985008687907853269984665640564039457584007913129639936) : addW x y = .tuple #[wv (x + y), .int .i64 0] := by simp only [addW, if_pos h]
theorem subW_ok {x y : Nat} (h : y ≤ x) : subW x y = .tuple #[wv (x - y), .int .i64 0] := by simp only [subW, if_pos h]
end Go.Proofs.Ythgecfjpacebeaa
