/- Slices cut at their head, lists of numbers cut, the laws of WideCuts and WideLists in plain terms. No condition beyond each lemma's own. -/
import Derived.Test.YthgecfjpacebeaaCf
namespace Go.Fw
open Go.RowKit Go.Proofs.Ythgecfjpacebeaa
section
variable {P : Program} {w : World} {n c sz p : Nat} {A : Option Addr}
variable {ρ : Operand → Value} {dst : Option Tmp} {ty : TypeId} {pos : String} {af : Array Edge} {g : Option (Nat × Bool)} {x y : Operand} {T E : TypeId} {k : IntKind}
theorem R.sliceLo (hT : P.underlying T = some (.slice E)) (hx : ρ x = .slice A n c) (hy : ρ y = .int k (p : Int)) (h1 : p ≤ n) (hs : szT P E sz) :
    (execOp ρ ⟨dst, .slice T x (some y) none none, ty, pos, af, g⟩).run P w = .ok (.value (.slice (if c = p then A else A.map (·.add (p * sz))) (n - p) (c - p))) w := by
  have h0 : (0 : Int) ≤ (p : Int) := Int.natCast_nonneg p
  have h2 : (p : Int) ≤ (n : Int) := by omega
  simp only [execOp, hx, hy, Option.map_none, Option.map_some, Instr.sliceAt, Instr.slice, run_underlying hT, Instr.sliceBounds, Instr.sliceBound, asIntOf, run_sizeOf' hs, h0, h2, and_self, if_true,
    Sem.run_bind, Sem.run_pure, Result.andThen_ok, Int.toNat_natCast]
end
theorem add_add (a : Addr) (k j : Nat) : (a.add k).add j = a.add (k + j) := by
  unfold Addr.add
  by_cases hj0 : j = 0
  · subst hj0; simp
  · by_cases hk0 : k = 0
    · subst hk0; simp
    · simp [hj0, hk0, Nat.add_assoc]
theorem wcs_take (l : List Nat) (k : Nat) : (l.flatMap wc).take (k * 4) = (l.take k).flatMap wc := by
  induction l generalizing k with
  | nil => simp
  | cons x l ih =>
    cases k with
    | zero => simp
    | succ k =>
      rw [List.flatMap_cons, List.take_succ_cons, List.flatMap_cons, List.take_append]
      have h4 : (wc x).take ((k + 1) * 4) = wc x := List.take_of_length_le (by simp only [List.length_cons, List.length_nil]; omega)
      rw [h4, show (k + 1) * 4 - (wc x).length = k * 4 from by simp only [List.length_cons, List.length_nil]; omega, ih]
theorem wcs_drop (l : List Nat) (k : Nat) : (l.flatMap wc).drop (k * 4) = (l.drop k).flatMap wc := by
  induction l generalizing k with
  | nil => simp
  | cons x l ih =>
    cases k with
    | zero => simp
    | succ k =>
      rw [List.flatMap_cons, List.drop_succ_cons, List.drop_append]
      have h4 : (wc x).drop ((k + 1) * 4) = [] := List.drop_eq_nil_of_le (by simp only [List.length_cons, List.length_nil]; omega)
      rw [h4, show (k + 1) * 4 - (wc x).length = k * 4 from by simp only [List.length_cons, List.length_nil]; omega, ih, List.nil_append]
theorem rd_take {w : World} {A : Option Addr} {l : List Nat} (h : Rd w A (l.flatMap wc)) (k : Nat) : Rd w A ((l.take k).flatMap wc) := by rw [← wcs_take]; exact h.sub _
theorem rd_drop {w : World} {A : Option Addr} {l : List Nat} {c : Nat} (h : Rd w A (l.flatMap wc)) (hc : l.length ≤ c) (k : Nat) : Rd w (if c = k then A else A.map (·.add (k * 4))) ((l.drop k).flatMap wc) := by
  by_cases e : c = k
  · rw [if_pos e, List.drop_eq_nil_of_le (by omega)]; exact Rd.nil _ _
  · rw [if_neg e]
    intro j v hj
    rw [← wcs_drop, List.getElem?_drop] at hj
    obtain ⟨a, rfl, hv⟩ := h _ _ hj
    exact ⟨a.add (k * 4), rfl, by rw [add_add]; exact hv⟩
def pickW (p q : Int) : Int := (if p < 0 then -(p + 1) else p) % q
theorem pickW_b (p : Int) {q : Int} (h : 0 < q) : 0 ≤ pickW p q ∧ pickW p q < q := ⟨Int.emod_nonneg _ (by omega), Int.emod_lt_of_pos _ h⟩
theorem allW_sub {l r : List Nat} (h : AllW l) (hr : ∀ x ∈ r, x ∈ l) : AllW r := fun x hx => h x (hr x hx)
theorem back_step {l : List Nat} {k : Nat} (h0 : 0 < k) (h : k ≤ l.length) : (l.drop k).reverse ++ [l.getD (k - 1) 0] = (l.drop (k - 1)).reverse := by
  rw [show l.drop (k - 1) = l[k - 1] :: l.drop k from by
    have := List.drop_eq_getElem_cons (l := l) (i := k - 1) (by omega)
    rw [this, show k - 1 + 1 = k by omega], List.reverse_cons, List.getD_eq_getElem?_getD, List.getElem?_eq_getElem (by omega)]
  rfl
theorem own_wsnoc {s : Seg} {A : Option Addr} {c x : Nat} {b : List Nat} (h : OwnS s A (b.length + 1) c (b.flatMap wc ++ wc x) 29 4) : OwnS s A (b ++ [x]).length c ((b ++ [x]).flatMap wc) 29 4 := by
  rw [List.length_append, List.length_singleton, List.flatMap_append, List.flatMap_singleton]; exact h
theorem sum_rev (l : List Nat) : l.reverse.sum = l.sum := by
  induction l with
  | nil => rfl
  | cons x l ih => rw [List.reverse_cons, List.sum_append, ih]; simp; omega
theorem sum_cut (l : List Nat) (k : Nat) : (l.take k).sum + (l.drop k).sum = l.sum := by rw [← List.sum_append, List.take_append_drop]
end Go.Fw
namespace Go.Proofs.Ythgecfjpacebeaa
open Go Go.Fw
theorem sum_as {l b : List Nat} (A : Option Addr) (n c : Nat) (w : World) (hA : Rd w A (b.flatMap wc)) (hn : b.length = n) (hW : AllW b) (hc : n ≤ 9223372036854775807) (hs : b.sum = l.sum) :
    Ret Try.prog 62 [.slice A n c] w [] (fun v s => v = sumW l ∧ s = []) := by
  have h := sum_calls A n c b w hA hn hW hc
  unfold sumW at h ⊢
  rw [hs] at h
  exact h
theorem sum_one (b x : Nat) (w : World) (hA : Rd w (some ⟨b, 0, none⟩) (wc x)) (hx : x < 115792089237316195423570985008687907853269984665640564039457584007913129639936) :
    Ret Try.prog 62 [.slice (some ⟨b, 0, none⟩) 1 1] w [] (fun v s => v = .tuple #[wv x, .int .i64 0] ∧ s = []) := by
  have h := sum_calls (some ⟨b, 0, none⟩) 1 1 [x] w (by simpa only [List.flatMap_cons, List.flatMap_nil, List.append_nil] using hA) rfl (by intro y hy; simp only [List.mem_singleton] at hy; rw [hy]; exact hx) (by decide)
  rw [sumW, show [x].sum = x from by simp, if_pos hx, if_pos hx] at h
  exact h
end Go.Proofs.Ythgecfjpacebeaa
