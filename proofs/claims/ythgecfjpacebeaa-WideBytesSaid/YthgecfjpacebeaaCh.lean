/- copy of elements of any size; lists written over; the lists of WideLists. No condition beyond each lemma's own. -/
import Derived.Test.YthgecfjpacebeaaCg
namespace Go.Fw
open Go.RowKit Go.Proofs.Ythgecfjpacebeaa
section
variable {P : Program} {ops : Array Oper} {Q : Exit → Act → World → Prop} {a : Act} {w w' w0 : World} {env : Env} {d N : Nat} {K : Act → World → Prop}
variable {dst : Option Tmp} {ty : TypeId} {pos : String} {af : Array Edge} {g : Option (Nat × Bool)} {x y : Operand} {T E T1 T2 : TypeId}
variable {ks : List Nat} {bs bs' : List Seg} {b n sz c m c2 : Nat} {l l' cs : List Value} {B : Option Addr}
theorem O.copyS (hd : dst = some d) (hn : Nat.blt d N = true) (hF : Fr N env a) (hT : P.underlying T1 = some (.slice E)) (hs : szT P E sz) (hx : a.eval x = .slice (some ⟨b, 0, none⟩) n c) (hy : a.eval y = .slice B m c2)
    (hS : St w0 ks bs w) (hB : Rd w B cs) (hm : cs.length = m * sz) (hp : 0 < sz) (hv : ∀ v ∈ cs, v.oneCell' = true) {E2 : TypeId} (hu : UpB bs b (Cel l E2) (Cel l' E2) bs') (hl : spl l 0 (cs.take (min m n * sz)) = l') (hlt : min m n * sz ≤ l.length)
    (h : ∀ a' w', Fr N ((d, .int .i64 ((min m n : Nat) : Int)) :: env) a' → St w0 ks bs' w' → K a' w') :
    Oper.wp P ⟨dst, .call ⟨.builtin .copy, [x, y].toArray, [T1, T2].toArray⟩, ty, pos, af, g⟩ a w K Q := by
  subst hd
  have hb := hS.get hu.has
  have hlen : (cs.take (min m n * sz)).length = min m n * sz := by
    rw [List.length_take, hm]
    have : min m n * sz ≤ m * sz := Nat.mul_le_mul_right _ (Nat.min_le_left _ _)
    omega
  have hst := run_storeCells_Cel (P := P) (cs.take (min m n * sz)) 0 0 w l hb (by omega) (fun v hv' => hv v (List.take_subset _ _ hv'))
  rw [Nat.add_zero, hl] at hst
  have hmin : Nat.min m n = min m n := rfl
  have key : (Builtin.firstCells sz (min m n) (.slice B m c2)).run P w = .ok (cs.take (min m n * sz)).toArray w := by
    cases B with
    | none =>
      have h0 : cs = [] := by
        cases cs with
        | nil => rfl
        | cons v r => obtain ⟨_, h1, _⟩ := hB 0 v rfl; simp at h1
      subst h0
      have hm0 : m = 0 := by
        rcases Nat.eq_zero_or_pos m with h | h
        · exact h
        · have : 0 < m * sz := Nat.mul_pos h hp
          simp at hm; omega
      simp [Builtin.firstCells, hm0]
    | some s =>
      have hld := run_loadCells_list (P := P) (w := w) s (cs.take (min m n * sz)) (fun j v hj => by
        obtain ⟨a', h1, h2⟩ := hB j v (by rw [List.getElem?_take] at hj; split at hj; exact hj; simp at hj)
        simp only [Option.some.injEq] at h1
        rw [h1]; exact h2)
      rw [hlen] at hld
      simp [Builtin.firstCells, hld]
  unfold Oper.wp
  have : (execOp a.eval ⟨some d, .call ⟨.builtin .copy, [x, y].toArray, [T1, T2].toArray⟩, ty, pos, af, g⟩).run P w = .ok (.value (.int .i64 ((min m n : Nat) : Int))) (World.setB w b (Cel l' E2)) := by
    simp [execOp, resolve, invoke, builtin, Builtin.copy_, hx, hy, run_underlying hT, Builtin.lenOf, run_sizeOf' hs, goInt, Sem.run_bind, Result.andThen_ok, hmin, key, hst]
  rw [this, Oper.upon_value]
  exact h _ _ (hF.put hn _) (hS.setB hu)
end
/-! ### lists of numbers written over -/
theorem wcs_set (l : List Nat) (k v off : Nat) (h : k < l.length) (ho : off = k * 4) : spl (l.flatMap wc) off (wc v) = (l.set k v).flatMap wc := by
  subst ho
  have e : l.set k v = l.take k ++ v :: l.drop (k + 1) := List.set_eq_take_append_cons_drop .. |>.trans (if_pos h)
  rw [e, List.flatMap_append, List.flatMap_cons, ← wcs_take, ← wcs_drop, spl, List.append_assoc, show k * 4 + (wc v).length = (k + 1) * 4 from by simp only [List.length_cons, List.length_nil]; omega]
theorem wcs_spl (l r : List Nat) (k : Nat) (h : k ≤ r.length) : spl (l.flatMap wc) 0 ((r.flatMap wc).take (k * 4)) = (r.take k ++ l.drop k).flatMap wc := by
  have e : ((r.flatMap wc).take (k * 4)).length = k * 4 := by rw [List.length_take, wcs_length]; omega
  rw [spl, List.take_zero, List.nil_append, Nat.zero_add, e, wcs_take, wcs_drop, List.flatMap_append]
theorem zeros_wc (n : Nat) : zeros [.int .u64 0, .int .u64 0, .int .u64 0, .int .u64 0] n = (List.replicate n 0).flatMap wc := by
  unfold zeros
  induction n with
  | zero => rfl
  | succ n ih => rw [List.replicate_succ, List.flatten_cons, List.replicate_succ, List.flatMap_cons, ih]; rfl
def mk7 (i : Nat) : Nat := 7 + 7 * 18446744073709551616 + 7 * 340282366920938463463374607431768211456 + i * 6277101735386680763835789423207666416102355444464034512896
theorem mk7_wc (i : Nat) (h : i < 18446744073709551616) : [Value.int .u64 7, .int .u64 7, .int .u64 7, .int .u64 (i : Int)] = wc (mk7 i) := by
  have h0 : dg (mk7 i) 0 = 7 := by rw [dg0, mk7]; omega
  have h1 : dg (mk7 i) 1 = 7 := by rw [dg1, mk7]; omega
  have h2 : dg (mk7 i) 2 = 7 := by rw [dg2, mk7]; omega
  have h3 : dg (mk7 i) 3 = i := by rw [dg3, mk7]; omega
  simp only [wc, h0, h1, h2, h3]; rfl
/-- a list with three marks behind it, of which j stand -/
def rm (l : List Nat) (j : Nat) : List Nat := l ++ (List.range 3).map fun q => if q < j then mk7 (l.length + q) else 0
theorem length_rm (l : List Nat) (j : Nat) : (rm l j).length = l.length + 3 := by simp [rm]
theorem rm_0 (l : List Nat) : rm l 0 = l ++ List.replicate 3 0 := rfl
theorem rm_set (l : List Nat) (j : Nat) (h : j < 3) : (rm l j).set (l.length + j) (mk7 (l.length + j)) = rm l (j + 1) := by
  unfold rm
  rw [List.set_append_right _ _ (by omega), show l.length + j - l.length = j by omega]
  congr 1
  have : j = 0 ∨ j = 1 ∨ j = 2 := by omega
  rcases this with rfl | rfl | rfl <;> rfl
theorem rm_rd {w : World} {b j : Nat} {l : List Nat} (h : Rd w (some ⟨b, 0, none⟩) ((rm l j).flatMap wc)) : Rd w (some ⟨b, 0, none⟩) (l.flatMap wc) := by
  have := rd_take h l.length
  rwa [rm, List.take_left] at this
/-- what a list of n is once m is copied over noughts -/
def lay (m : List Nat) (n : Nat) : List Nat := m.take n ++ List.replicate (n - m.length) 0
theorem length_lay (m : List Nat) (n : Nat) : (lay m n).length = n := by simp [lay]; omega
theorem allW_lay {m : List Nat} (h : AllW m) (n : Nat) : AllW (lay m n) := by
  intro x hx
  rcases List.mem_append.1 hx with hx | hx
  · exact h x (List.take_subset _ _ hx)
  · rw [(List.mem_replicate.1 hx).2]; decide
theorem lay_spl (m : List Nat) (n : Nat) : spl (zeros [.int .u64 0, .int .u64 0, .int .u64 0, .int .u64 0] n) 0 ((m.flatMap wc).take (min m.length n * 4)) = (lay m n).flatMap wc := by
  rw [zeros_wc, wcs_spl _ _ _ (Nat.min_le_left _ _)]
  congr 1
  unfold lay
  rw [List.drop_replicate]
  by_cases h : m.length ≤ n
  · rw [Nat.min_eq_left h, List.take_of_length_le (Nat.le_refl _), List.take_of_length_le h]
  · rw [Nat.min_eq_right (by omega), Nat.sub_self, show n - m.length = 0 by omega]
theorem over_spl (l r : List Nat) (j : Nat) (h : r.length = l.length) : spl ((rm l j).flatMap wc) 0 ((r.flatMap wc).take (min l.length l.length * 4)) = (r ++ (rm l j).drop l.length).flatMap wc := by
  rw [Nat.min_self, wcs_spl _ _ _ (by omega), List.take_of_length_le (l := r) (by omega)]
theorem room_spl (l : List Nat) : spl (zeros [.int .u64 0, .int .u64 0, .int .u64 0, .int .u64 0] (l.length + 3)) 0 ((l.flatMap wc).take (min l.length (l.length + 3) * 4)) = (rm l 0).flatMap wc := by
  rw [zeros_wc, Nat.min_eq_left (by omega), wcs_spl _ _ _ (Nat.le_refl _), List.take_of_length_le (Nat.le_refl _), List.drop_replicate, rm_0, show l.length + 3 - l.length = 3 by omega]
theorem room_store (l : List Nat) (j off : Nat) (hj : j < 3) (hi : l.length + j < 18446744073709551616) (ho : off = (l.length + j) * 4) : spl ((rm l j).flatMap wc) off [.int .u64 7, .int .u64 7, .int .u64 7, .int .u64 ((l.length + j : Nat) : Int)] = (rm l (j + 1)).flatMap wc := by
  rw [mk7_wc _ hi, wcs_set _ (l.length + j) _ _ (by rw [length_rm]; omega) ho, rm_set l j hj]
theorem over_rd {w : World} {b j : Nat} {l r : List Nat} (h : Rd w (some ⟨b, 0, none⟩) ((r ++ (rm l j).drop l.length).flatMap wc)) : Rd w (some ⟨b, 0, none⟩) (r.flatMap wc) := by
  have := rd_take h r.length
  rwa [List.take_left] at this
end Go.Fw
