/- The plain laws of wide.Text: division part by part, a chunk of decimals, turning a list round. No condition beyond each lemma's own. -/
import Derived.Test.YthgecfjpacebeaaBs
namespace Go.Fw
open Go.RowKit
theorem step_div (u d C : Nat) (hC : 0 < C) : (u * 18446744073709551616 + d) / C = u / C * 18446744073709551616 + (u % C * 18446744073709551616 + d) / C ∧ (u * 18446744073709551616 + d) % C = (u % C * 18446744073709551616 + d) % C := by
  have h1 := Nat.div_add_mod u C
  have h2 : u * 18446744073709551616 + d = (u % C * 18446744073709551616 + d) + C * (u / C * 18446744073709551616) := by
    have h3 : C * (u / C * 18446744073709551616) = C * (u / C) * 18446744073709551616 := by rw [Nat.mul_assoc]
    omega
  rw [h2, Nat.add_mul_div_left _ _ hC, Nat.add_mul_mod_self_left]
  exact ⟨Nat.add_comm _ _, rfl⟩
theorem quo_lt (r d C : Nat) (hr : r < C) (hd : d < 18446744073709551616) : (r * 18446744073709551616 + d) / C < 18446744073709551616 := by
  rw [Nat.div_lt_iff_lt_mul (by omega)]
  have : (r + 1) * 18446744073709551616 ≤ C * 18446744073709551616 := Nat.mul_le_mul_right _ hr
  rw [Nat.mul_comm 18446744073709551616 C]
  omega
theorem dg_div (y C k : Nat) (hC : 0 < C) (hk : 0 < k) : dg (y / C) (k - 1) = (y / 18446744073709551616 ^ k % C * 18446744073709551616 + dg y (k - 1)) / C := by
  have h1 := div_dg y k hk
  have h2 := step_div (y / 18446744073709551616 ^ k) (dg y (k - 1)) C hC
  have h3 := quo_lt (y / 18446744073709551616 ^ k % C) (dg y (k - 1)) C (Nat.mod_lt _ hC) (dg_lt _ _)
  have h4 : y / C / 18446744073709551616 ^ (k - 1) = y / 18446744073709551616 ^ (k - 1) / C := by rw [Nat.div_div_eq_div_mul, Nat.div_div_eq_div_mul, Nat.mul_comm]
  rw [show dg (y / C) (k - 1) = y / C / 18446744073709551616 ^ (k - 1) % 18446744073709551616 from rfl, h4, h1, Nat.mul_comm 18446744073709551616, h2.1, Nat.add_comm, Nat.add_mul_mod_self_right, Nat.mod_eq_of_lt h3]
theorem rem_div (y C k : Nat) (hC : 0 < C) (hk : 0 < k) : (y / 18446744073709551616 ^ k % C * 18446744073709551616 + dg y (k - 1)) % C = y / 18446744073709551616 ^ (k - 1) % C := by
  rw [div_dg y k hk, Nat.mul_comm 18446744073709551616, (step_div (y / 18446744073709551616 ^ k) (dg y (k - 1)) C hC).2]
def quo4 (y C k : Nat) : Nat → Nat := fun m => if m < k then dg y m else dg (y / C) m
theorem quo4_4 (y C : Nat) : cells4 (quo4 y C 4) = wc y := cells4_congr fun k hk => by unfold quo4; rw [if_pos hk]
theorem quo4_0 (y C : Nat) : cells4 (quo4 y C 0) = wc (y / C) := cells4_congr fun k _ => by unfold quo4; rw [if_neg (by omega)]
theorem quo4_at (y C k : Nat) (hk : 0 < k) : quo4 y C k (k - 1) = dg y (k - 1) := by unfold quo4; rw [if_pos (by omega)]
theorem quo4_step (y C k : Nat) (hC : 0 < C) (hk : 0 < k) : upd8 (quo4 y C k) (k - 1) ((y / 18446744073709551616 ^ k % C * 18446744073709551616 + dg y (k - 1)) / C) = quo4 y C (k - 1) := by
  funext m
  rw [← dg_div y C k hC hk]
  unfold upd8 quo4
  by_cases h : m = k - 1
  · subst h; rw [if_pos rfl, if_neg (by omega)]
  · rw [if_neg h]
    by_cases h2 : m < k
    · rw [if_pos h2, if_pos (by omega)]
    · rw [if_neg h2, if_neg (by omega)]
/-- the decimals as bytes -/
def dch (l : List Nat) : List Value := byts (l.map (48 + ·))
theorem length_dch (l : List Nat) : (dch l).length = l.length := by simp [dch, length_byts]
theorem dch_snoc (l : List Nat) (b : Nat) : dch l ++ [.int .u8 ((48 + b : Nat) : Int)] = dch (l ++ [b]) := by unfold dch; rw [byts_snoc]; simp
theorem dch_take (l : List Nat) (k : Nat) : (dch l).take k = dch (l.take k) := by unfold dch; rw [byts_take, List.map_take]
theorem dch_get (l : List Nat) (i : Nat) (h : i < l.length) : (dch l)[i]? = some (.int .u8 ((48 + l.getD i 0 : Nat) : Int)) := by
  unfold dch
  rw [byts_get _ _ (by simpa using h)]
  simp [List.getD_eq_getElem?_getD, h]
theorem chunk_step {m : List Nat} {r T : Nat} (h : val10 m + 10 ^ m.length * r = T) : val10 (m ++ [r % 10]) + 10 ^ (m ++ [r % 10]).length * (r / 10) = T := by
  rw [val10_snoc, List.length_append, List.length_singleton, Nat.pow_succ, ← h]
  have h1 : 10 ^ m.length * 10 * (r / 10) = 10 ^ m.length * (10 * (r / 10)) := by rw [Nat.mul_assoc]
  have h2 : 10 ^ m.length * (r % 10 + 10 * (r / 10)) = 10 ^ m.length * (r % 10) + 10 ^ m.length * (10 * (r / 10)) := by rw [Nat.mul_add]
  have h3 : r % 10 + 10 * (r / 10) = r := by omega
  rw [h3] at h2
  omega
theorem chunk_end {l m : List Nat} {r x y : Nat} (h : val10 m + 10 ^ m.length * r = val10 l + 10 ^ l.length * (y % 10000000000000000000)) (hr : r = 0) (hm : m.length = l.length + 19) (hv : val10 l + 10 ^ l.length * y = x) :
    val10 m + 10 ^ m.length * (y / 10000000000000000000) = x := by
  subst hr
  rw [Nat.mul_zero, Nat.add_zero] at h
  rw [hm, Nat.pow_add, h, ← hv]
  have h1 : 10 ^ l.length * 10 ^ 19 * (y / 10000000000000000000) = 10 ^ l.length * (10000000000000000000 * (y / 10000000000000000000)) := by rw [Nat.mul_assoc]
  have h2 : 10 ^ l.length * (y % 10000000000000000000 + 10000000000000000000 * (y / 10000000000000000000)) = 10 ^ l.length * (y % 10000000000000000000) + 10 ^ l.length * (10000000000000000000 * (y / 10000000000000000000)) := by rw [Nat.mul_add]
  have h3 : y % 10000000000000000000 + 10000000000000000000 * (y / 10000000000000000000) = y := by omega
  rw [h3] at h2
  omega
theorem chunk_lt {r j : Nat} (hj : j < 19) (h : r < 10 ^ (19 - j)) : r / 10 < 10 ^ (19 - (j + 1)) := by
  rw [show 19 - j = 19 - (j + 1) + 1 from by omega, Nat.pow_succ] at h
  omega
theorem few_dec {l : List Nat} {x y : Nat} (hx : x < 115792089237316195423570985008687907853269984665640564039457584007913129639936) (hv : val10 l + 10 ^ l.length * y = x) (h : y ≠ 0 ∨ l.length = 0) : l.length ≤ 77 := by
  rcases h with h | h
  · refine Nat.le_of_not_lt fun hl => ?_
    have h1 : 10 ^ 78 ≤ 10 ^ l.length := Nat.pow_le_pow_right (by decide) hl
    have h2 : 10 ^ l.length ≤ 10 ^ l.length * y := Nat.le_mul_of_pos_right _ (by omega)
    have h3 : (115792089237316195423570985008687907853269984665640564039457584007913129639936 : Nat) < 10 ^ 78 := by decide
    omega
  · omega
theorem own_open {s : Seg} {A : Option Addr} {n c : Nat} {cells : List Value} {E : TypeId} {sz : Nat} (h : OwnS s A n c cells E sz) (hn : 0 < n) : ∃ g rest, A = some ⟨g, 0, none⟩ ∧ s = [(g, Cel (cells ++ rest) E)] ∧ n ≤ c ∧ c ≤ maxLen := by
  obtain ⟨_, h2, h3⟩ := h
  rcases h3 with ⟨_, h4, _⟩ | ⟨g, rest, h5, h6, _, h8⟩
  · omega
  · exact ⟨g, rest, h5, h6, h2, h8⟩
theorem own_drop {s : Seg} {A : Option Addr} {c : Nat} {z : List Nat} (h : OwnS s A z.length c (dch z) 5 1) : OwnS s A z.dropLast.length c (dch z.dropLast) 5 1 := by
  have := h.take (k := z.length - 1) (by omega)
  rw [Nat.mul_one, dch_take] at this
  rw [List.length_dropLast, List.dropLast_eq_take]
  exact this
theorem strip {z : List Nat} (hl : 1 < z.length) (h0 : z.getD (z.length - 1) 0 = 0) : val10 z.dropLast = val10 z := by
  have hne : z ≠ [] := by intro e; simp [e] at hl
  have h1 := List.dropLast_concat_getLast hne
  have h2 : z.getLast hne = 0 := by rw [List.getLast_eq_getElem]; rw [List.getD_eq_getElem?_getD, List.getElem?_eq_getElem (by omega)] at h0; exact h0
  conv => rhs; rw [← h1, val10_snoc, h2]
  simp
theorem stripped {z : List Nat} {x : Nat} (hd : Dig z) (hv : val10 z = x) (hl : 0 < z.length) (h : ¬ (1 < z.length ∧ z.getD (z.length - 1) 0 = 0)) : dec x = z := by
  have hne : z ≠ [] := by intro e; simp [e] at hl
  rw [← hv]
  refine dec_val hd hne ?_
  by_cases h1 : 1 < z.length
  · refine .inr fun h2 => h ⟨h1, ?_⟩
    rw [List.getD_eq_getElem?_getD, List.getElem?_eq_getElem (by omega), ← List.getLast_eq_getElem hne, h2]; rfl
  · exact .inl (by omega)
theorem dig_dropLast {z : List Nat} (h : Dig z) : Dig z.dropLast := fun b hb => h b (List.dropLast_subset _ hb)
/-- the first i and the last i turned round -/
def swp (z : List Nat) (i : Nat) : List Nat := (List.range z.length).map fun p => if p < i ∨ z.length - 1 - p < i then z.getD (z.length - 1 - p) 0 else z.getD p 0
theorem length_swp (z : List Nat) (i : Nat) : (swp z i).length = z.length := by simp [swp]
theorem swp_get (z : List Nat) (i p : Nat) (h : p < z.length) : (swp z i)[p]? = some (if p < i ∨ z.length - 1 - p < i then z.getD (z.length - 1 - p) 0 else z.getD p 0) := by
  simp [swp, h]
theorem swp_0 (z : List Nat) : swp z 0 = z := by
  apply List.ext_getElem?
  intro p
  by_cases h : p < z.length
  · rw [swp_get z 0 p h]; simp [h]
  · rw [List.getElem?_eq_none (by rw [length_swp]; omega), List.getElem?_eq_none (by omega)]
theorem swp_end (z : List Nat) (i : Nat) (h : z.length ≤ 2 * i + 1) : swp z i = z.reverse := by
  apply List.ext_getElem?
  intro p
  by_cases hp : p < z.length
  · rw [swp_get z i p hp, List.getElem?_reverse hp, List.getElem?_eq_getElem (by omega)]
    congr 1
    split
    · rw [List.getD_eq_getElem?_getD, List.getElem?_eq_getElem (by omega)]; rfl
    · have : z.length - 1 - p = p := by omega
      simp [this]
      rw [List.getElem?_eq_getElem hp]; rfl
  · rw [List.getElem?_eq_none (by rw [length_swp]; omega), List.getElem?_eq_none (by simp; omega)]
theorem swp_at (z : List Nat) (rest : List Value) (i p : Nat) (hp : p < z.length) (h1 : i ≤ p) (h2 : i ≤ z.length - 1 - p) (off : Nat) (ho : off = p) : (dch (swp z i) ++ rest)[off]? = some (.int .u8 ((48 + z.getD p 0 : Nat) : Int)) := by
  subst ho
  rw [List.getElem?_append_left (by rw [length_dch, length_swp]; exact hp), dch_get _ _ (by rw [length_swp]; exact hp), List.getD_eq_getElem?_getD, swp_get z i off hp, if_neg (by omega)]
  rfl
theorem swp_step (z : List Nat) (rest : List Value) (i o1 o2 : Nat) (h : i + i + 1 < z.length) (h1 : o1 = i) (h2 : o2 = z.length - 1 - i) :
    ((dch (swp z i) ++ rest).set o1 (.int .u8 ((48 + z.getD (z.length - 1 - i) 0 : Nat) : Int))).set o2 (.int .u8 ((48 + z.getD i 0 : Nat) : Int)) = dch (swp z (i + 1)) ++ rest := by
  have h1 := h1.symm
  have h2 := h2.symm
  subst h1; subst h2
  apply List.ext_getElem?
  intro p
  rw [List.getElem?_set, List.getElem?_set]
  by_cases hp : p < z.length
  · rw [List.getElem?_append_left (l₁ := dch (swp z (i + 1))) (by rw [length_dch, length_swp]; exact hp), List.getElem?_append_left (by rw [length_dch, length_swp]; exact hp), dch_get _ _ (by rw [length_swp]; exact hp), dch_get _ _ (by rw [length_swp]; exact hp)]
    simp only [List.getD_eq_getElem?_getD (l := swp z _), swp_get z _ p hp]
    simp only [List.length_set, List.length_append, length_dch, length_swp]
    by_cases e1 : z.length - 1 - i = p
    · rw [if_pos e1, if_pos (by omega), if_pos (show p < i + 1 ∨ z.length - 1 - p < i + 1 by omega), show z.length - 1 - p = i by omega]; rfl
    · rw [if_neg e1]
      by_cases e2 : i = p
      · rw [if_pos e2, if_pos (by omega), if_pos (show p < i + 1 ∨ z.length - 1 - p < i + 1 by omega), e2]; rfl
      · rw [if_neg e2]
        by_cases e3 : p < i ∨ z.length - 1 - p < i
        · rw [if_pos e3, if_pos (by omega)]
        · rw [if_neg e3, if_neg (by omega)]
  · rw [if_neg (by omega), if_neg (by omega), List.getElem?_append_right (by rw [length_dch, length_swp]; omega), List.getElem?_append_right (by rw [length_dch, length_swp]; omega), length_dch, length_dch, length_swp, length_swp]
end Go.Fw
