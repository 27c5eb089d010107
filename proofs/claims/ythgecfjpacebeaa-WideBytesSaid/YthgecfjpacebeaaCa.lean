/- The plain laws of the reference's Text and Parse: doubling decimals, bytes laid from the end. No condition beyond each lemma's own. -/
import Derived.Test.YthgecfjpacebeaaBw
namespace Go.Fw
open Go.RowKit Go.Proofs.Ythgecfjpacebeaa
theorem own_open2 {s : Seg} {A : Option Addr} {n c : Nat} {cells : List Value} {E : TypeId} {sz : Nat} (h : OwnS s A n c cells E sz) (hn : 0 < n) : ∃ g rest, A = some ⟨g, 0, none⟩ ∧ s = [(g, Cel (cells ++ rest) E)] ∧ n ≤ c ∧ cells.length + rest.length = c * sz ∧ c ≤ maxLen := by
  obtain ⟨_, h2, h3⟩ := h
  rcases h3 with ⟨_, h4, _⟩ | ⟨g, rest, h5, h6, h7, h8⟩
  · omega
  · exact ⟨g, rest, h5, h6, h2, by rw [← List.length_append]; exact h7, h8⟩
theorem dec_0 : dec 0 = [0] := by simp [dec]
theorem dec_pos (n : Nat) : 0 < (dec n).length := List.length_pos_iff.2 (dec_ne n)
theorem dec_ge {n : Nat} (h : 1 < (dec n).length) : 10 ^ ((dec n).length - 1) ≤ n := by
  refine Nat.le_of_not_lt fun h1 => ?_
  have := length_dec_le h1 (by omega)
  omega
theorem val10_drop (z : List Nat) (j : Nat) (h : j < z.length) : val10 (z.drop j) = z.getD j 0 + 10 * val10 (z.drop (j + 1)) := by
  rw [List.drop_eq_getElem_cons h, List.getD_eq_getElem?_getD, List.getElem?_eq_getElem h]; rfl
theorem dig_getD {z : List Nat} (h : Dig z) (j : Nat) : z.getD j 0 < 10 := by
  by_cases hj : j < z.length
  · rw [List.getD_eq_getElem?_getD, List.getElem?_eq_getElem hj]; exact h _ (List.getElem_mem hj)
  · rw [List.getD_eq_getElem?_getD, List.getElem?_eq_none (by omega)]; decide
/-- doubling, digit by digit -/
theorem dbl_step {z p : List Nat} {j c T : Nat} (hp : p.length = j) (hj : j < z.length) (h : val10 p + 10 ^ j * (c + 2 * val10 (z.drop j)) = T) :
    val10 (p ++ [(2 * z.getD j 0 + c) % 10]) + 10 ^ (j + 1) * ((2 * z.getD j 0 + c) / 10 + 2 * val10 (z.drop (j + 1))) = T := by
  rw [val10_drop z j hj] at h
  rw [val10_snoc, hp, Nat.pow_succ, ← h]
  generalize val10 (z.drop (j + 1)) = r
  generalize z.getD j 0 = d
  have h1 : 10 ^ j * 10 * ((2 * d + c) / 10 + 2 * r) = 10 ^ j * (10 * ((2 * d + c) / 10 + 2 * r)) := by rw [Nat.mul_assoc]
  have h2 : 10 ^ j * ((2 * d + c) % 10) + 10 ^ j * (10 * ((2 * d + c) / 10 + 2 * r)) = 10 ^ j * ((2 * d + c) % 10 + 10 * ((2 * d + c) / 10 + 2 * r)) := (Nat.mul_add _ _ _).symm
  have h3 : (2 * d + c) % 10 + 10 * ((2 * d + c) / 10 + 2 * r) = c + 2 * (d + 10 * r) := by omega
  rw [h3] at h2
  omega
theorem fill_set {z p : List Nat} {rest : List Value} {j d off : Nat} (hp : p.length = j) (hj : j < z.length) (ho : off = j) : (ints (p ++ z.drop j) ++ rest).set off (.int .i64 ((d : Nat) : Int)) = ints ((p ++ [d]) ++ z.drop (j + 1)) ++ rest := by
  subst ho
  rw [List.drop_eq_getElem_cons hj, List.set_append_left _ _ (by simp [ints]; omega)]
  congr 1
  simp only [ints, List.map_append, List.map_cons]
  rw [List.set_append_right _ _ (by simp; omega)]
  simp [hp]
theorem fill_get {z p : List Nat} {rest : List Value} {j off : Nat} (hp : p.length = j) (hj : j < z.length) (ho : off = j) : (ints (p ++ z.drop j) ++ rest)[off]? = some (.int .i64 ((z.getD j 0 : Nat) : Int)) := by
  subst ho
  rw [List.getElem?_append_left (by simp [ints]; omega)]
  simp only [ints, List.getElem?_map]
  rw [List.getElem?_append_right (by omega), hp, Nat.sub_self, List.getElem?_drop, Nat.add_zero, List.getElem?_eq_getElem hj, List.getD_eq_getElem?_getD, List.getElem?_eq_getElem hj]
  rfl
/-- doubled decimals are the decimals of the double -/
theorem dbl_is {p : List Nat} {v b c : Nat} (hp : Dig p) (hl : p.length = (dec v).length) (hc : c ≤ 1) (h : val10 p + 10 ^ p.length * c = 2 * v + b) : dec (2 * v + b) = if c = 0 then p else p ++ [1] := by
  have hpos := dec_pos v
  by_cases h0 : c = 0
  · subst h0
    rw [if_pos rfl, ← h, Nat.mul_zero, Nat.add_zero]
    have hne : p ≠ [] := by intro e; rw [e] at hl; simp at hl; omega
    refine dec_val hp hne ?_
    by_cases h1 : p.length = 1
    · exact .inl h1
    · refine .inr fun h2 => ?_
      have h3 := dec_ge (n := v) (by omega)
      have h4 := List.dropLast_concat_getLast hne
      rw [h2] at h4
      have h5 : val10 p = val10 p.dropLast := by rw [← h4, val10_snoc]; simp
      have h6 := val10_lt (xs := p.dropLast) (fun b hb => hp b (List.dropLast_subset _ hb))
      rw [List.length_dropLast, hl] at h6
      omega
  · obtain rfl : c = 1 := by omega
    rw [if_neg h0, ← h]
    have h2 : val10 (p ++ [1]) = val10 p + 10 ^ p.length * 1 := val10_snoc p 1
    rw [← h2]
    exact dec_val (dig_snoc hp (by decide)) (by simp) (.inr (by simp))
theorem own_bits3 {s : Seg} {A : Option Addr} {c d : Nat} {p : List Nat} (h : OwnS s A (p.length + 1) c (ints p ++ [.int .i64 ((d : Nat) : Int)]) 3 1) : OwnS s A (p ++ [d]).length c (ints (p ++ [d])) 3 1 := by
  rw [ints_snoc] at h; rw [List.length_append, List.length_singleton]; exact h
/-- bytes laid from the end -/
def tail0 (z : List Nat) (j : Nat) : List Nat := List.replicate (z.length - j) 0 ++ (z.take j).reverse.map (48 + ·)
theorem length_tail0 (z : List Nat) (j : Nat) (h : j ≤ z.length) : (tail0 z j).length = z.length := by simp [tail0]; omega
theorem tail0_set (z : List Nat) (j off : Nat) (h : j < z.length) (ho : off = z.length - 1 - j) : (byts (tail0 z j)).set off (.int .u8 ((48 + z.getD j 0 : Nat) : Int)) = byts (tail0 z (j + 1)) := by
  subst ho
  have e : z.length - j = z.length - (j + 1) + 1 := by omega
  unfold tail0 byts
  rw [List.take_succ_eq_append_getElem h, e, List.replicate_succ', List.reverse_append]
  simp only [List.map_append, List.map_cons, List.map_nil, List.reverse_cons, List.reverse_nil, List.nil_append, List.append_assoc]
  rw [List.set_append_right _ _ (by simp; omega)]
  congr 1
  rw [show z.length - 1 - j - (List.map (fun n : Nat => Value.int .u8 (n : Int)) (List.replicate (z.length - (j + 1)) 0)).length = 0 from by simp; omega]
  simp [List.getD_eq_getElem?_getD, h]
theorem tail0_0 (z : List Nat) : zeros [.int .u8 0] z.length = byts (tail0 z 0) := by rw [zeros_1]; simp [tail0, byts]
theorem tail0_end (z : List Nat) : tail0 z z.length = z.reverse.map (48 + ·) := by simp [tail0]
theorem isD_get {xs : List Nat} (hd : allD xs = true) (k : Nat) (h : k < xs.length) : 48 ≤ xs.getD k 0 ∧ xs.getD k 0 ≤ 57 := by
  have hk : isD (xs.getD k 0) = true := List.all_eq_true.1 hd _ (by rw [List.getD_eq_getElem?_getD, List.getElem?_eq_getElem h]; exact List.getElem_mem _)
  simpa only [isD, Bool.and_eq_true, Nat.ble_eq] using hk
theorem num_lt {xs : List Nat} (hd : allD xs = true) : ∀ k, k ≤ xs.length → num (xs.take k) < 10 ^ k
  | 0, _ => by simp [num]
  | k + 1, h => by
    have h1 := num_lt hd k (by omega)
    have h2 := isD_get hd k (by omega)
    rw [num_take xs k (by omega), Nat.pow_succ]
    omega
theorem num_ge {xs : List Nat} (hd : allD xs = true) (h0 : ¬ xs.getD 0 0 = 48) : ∀ k, 0 < k → k ≤ xs.length → 10 ^ k ≤ 10 * num (xs.take k)
  | 0, h, _ => absurd h (by decide)
  | k + 1, _, h => by
    rw [num_take xs k (by omega)]
    have hk := isD_get hd k (by omega)
    by_cases h1 : k = 0
    · subst h1
      simp only [Nat.zero_add, Nat.pow_one]
      omega
    · have := num_ge hd h0 k (by omega) (by omega)
      rw [Nat.pow_succ]; omega
theorem prs_long {xs : List Nat} (h : 78 < xs.length) (h0 : ¬ xs.getD 0 0 = 48) : prs xs = none := by
  by_cases hd : allD xs = true
  · refine prs_big ?_
    have h1 := num_ge hd h0 xs.length (by omega) (Nat.le_refl _)
    rw [List.take_length] at h1
    have h2 : 10 ^ 79 ≤ 10 ^ xs.length := Nat.pow_le_pow_right (by decide) h
    have h3 : 10 * 115792089237316195423570985008687907853269984665640564039457584007913129639936 < 10 ^ 79 := by decide
    omega
  · exact prs_badD (by simpa using hd)
theorem ten_bl : bl 10 = [0, 1, 0, 1] := by
  have := bl_val (xs := [0, 1, 0, 1]) (by unfold Bits; decide) (by decide)
  exact this
theorem few_bits {n i : Nat} (h : n < 10 ^ i) (hi : i ≤ 79) : (bl n).length ≤ 1000 := by
  have h1 : 10 ^ i ≤ 16 ^ i := Nat.pow_le_pow_left (by decide) i
  have h2 : (16 : Nat) ^ i = 2 ^ (4 * i) := by rw [Nat.pow_mul]
  have h3 := (length_bl_lt n (4 * i)).2 (by rw [← h2]; exact Nat.lt_of_lt_of_le h h1)
  omega
end Go.Fw
