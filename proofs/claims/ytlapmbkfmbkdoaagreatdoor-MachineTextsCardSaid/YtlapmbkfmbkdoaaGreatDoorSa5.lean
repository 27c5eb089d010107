/- Part 5 of what the row MachineTexts needs, with no condition beyond each lemma's own. -/
import Derived.Test.YtlapmbkfmbkdoaaGreatDoorSa4
section
namespace Go.Proofs.YtlapmbkfmbkdoaaGreatDoor
open Go Go.Fw Go.RowKit
theorem dg_ord {V d i : Nat} (hV : V % 2 ^ (8 * i + 8) = 0) (hd : d < 256) : ∀ k, (if k = i / 8 then dg V (i / 8) ||| (d * 2 ^ (8 * (i % 8)) % 18446744073709551616) else dg V k) = dg (V + d * 2 ^ (8 * i)) k := by
  intro k
  have hi : 8 * i = 64 * (i / 8) + 8 * (i % 8) := by omega
  have hm : i % 8 < 8 := Nat.mod_lt _ (by decide)
  generalize i / 8 = j at *
  generalize i % 8 = r at *
  rw [hi] at hV ⊢
  have h64 : (18446744073709551616 : Nat) = 2 ^ 64 := by decide
  have hB : ∀ k, (18446744073709551616 : Nat) ^ k = 2 ^ (64 * k) := fun k => by rw [h64, ← Nat.pow_mul]
  have hRp : 0 < 2 ^ (8 * r) := Nat.pow_pos (by decide)
  have hR : 2 ^ (8 * r) ≤ 72057594037927936 := by
    have : 2 ^ (8 * r) ≤ 2 ^ 56 := Nat.pow_le_pow_right (by decide) (by omega)
    exact this
  obtain ⟨H, rfl⟩ : ∃ H, V = 2 ^ (64 * j) * (2 ^ (8 * r + 8) * H) := ⟨V / 2 ^ (64 * j + 8 * r + 8), by
    rw [← Nat.mul_assoc, ← Nat.pow_add, show 64 * j + (8 * r + 8) = 64 * j + 8 * r + 8 by omega]
    have := Nat.div_add_mod V (2 ^ (64 * j + 8 * r + 8))
    omega⟩
  have e : ∀ Z, 2 ^ (64 * j) * Z + d * 2 ^ (64 * j + 8 * r) = 2 ^ (64 * j) * (Z + d * 2 ^ (8 * r)) := fun Z => by
    rw [Nat.mul_add, Nat.pow_add, Nat.mul_left_comm d]
  rw [e]
  have h8 : 2 ^ (8 * r + 8) = 2 ^ (8 * r) * 256 := by rw [Nat.pow_add]
  have hdr : d * 2 ^ (8 * r) < 2 ^ (8 * r + 8) := by
    rw [h8, Nat.mul_comm]; exact Nat.mul_lt_mul_of_pos_left hd hRp
  have h88 : 2 ^ (8 * r + 8) ≤ 18446744073709551616 := by rw [h8]; omega
  by_cases hk : k = j
  · subst hk
    rw [if_pos rfl]
    unfold dg
    rw [hB, Nat.mul_div_cancel_left _ (Nat.pow_pos (by decide)), Nat.mul_div_cancel_left _ (Nat.pow_pos (by decide)), Nat.mod_eq_of_lt (by omega : d * 2 ^ (8 * r) < 18446744073709551616)]
    have e64 : (18446744073709551616 : Nat) = 2 ^ (8 * r + 8) * 2 ^ (56 - 8 * r) := by rw [← Nat.pow_add, show 8 * r + 8 + (56 - 8 * r) = 64 by omega]
    have e1 : 2 ^ (8 * r + 8) * H % 18446744073709551616 = 2 ^ (8 * r + 8) * (H % 2 ^ (56 - 8 * r)) := by rw [e64, Nat.mul_mod_mul_left]
    have hY := Nat.mod_lt H (Nat.pow_pos (n := 56 - 8 * r) (by decide : 0 < 2))
    have hs : 2 ^ (8 * r + 8) * (H % 2 ^ (56 - 8 * r)) + d * 2 ^ (8 * r) < 18446744073709551616 := by
      have : 2 ^ (8 * r + 8) * (H % 2 ^ (56 - 8 * r) + 1) ≤ 2 ^ (8 * r + 8) * 2 ^ (56 - 8 * r) := Nat.mul_le_mul_left _ hY
      rw [Nat.mul_add, Nat.mul_one, ← e64] at this
      omega
    rw [e1, ← Nat.two_pow_add_eq_or_of_lt hdr, Nat.add_mod, e1, Nat.mod_eq_of_lt (by omega : d * 2 ^ (8 * r) < 18446744073709551616), Nat.mod_eq_of_lt hs]
  · rw [if_neg hk]
    unfold dg
    rw [hB]
    rcases Nat.lt_or_gt_of_ne hk with h | h
    · obtain ⟨m, rfl⟩ : ∃ m, j = k + 1 + m := ⟨j - k - 1, by omega⟩
      have hz : ∀ Z, 2 ^ (64 * (k + 1 + m)) * Z / 2 ^ (64 * k) % 18446744073709551616 = 0 := fun Z => by
        rw [show 64 * (k + 1 + m) = 64 * k + (64 + 64 * m) by omega, Nat.pow_add, Nat.mul_assoc, Nat.mul_div_cancel_left _ (Nat.pow_pos (by decide)), Nat.pow_add, ← h64, Nat.mul_assoc, Nat.mul_mod_right]
      rw [hz, hz]
    · obtain ⟨m, rfl⟩ : ∃ m, k = j + 1 + m := ⟨k - j - 1, by omega⟩
      have hq : ∀ Z, 2 ^ (64 * j) * Z / 2 ^ (64 * (j + 1 + m)) = Z / 2 ^ (64 * (m + 1)) := fun Z => by
        rw [show 64 * (j + 1 + m) = 64 * j + 64 * (m + 1) by omega, Nat.pow_add, ← Nat.div_div_eq_div_mul, Nat.mul_div_cancel_left _ (Nat.pow_pos (by decide))]
      have hq2 : ∀ t, t < 2 ^ (8 * r + 8) → (2 ^ (8 * r + 8) * H + t) / 2 ^ (64 * (m + 1)) = H / 2 ^ (64 * (m + 1) - (8 * r + 8)) := fun t ht => by
        have e4 : (2 : Nat) ^ (64 * (m + 1)) = 2 ^ (8 * r + 8) * 2 ^ (64 * (m + 1) - (8 * r + 8)) := by rw [← Nat.pow_add]; congr 1; omega
        rw [e4, ← Nat.div_div_eq_div_mul, Nat.mul_add_div (Nat.pow_pos (by decide)), Nat.div_eq_of_lt ht, Nat.add_zero]
      have h0 := hq2 0 (Nat.pow_pos (by decide))
      rw [Nat.add_zero] at h0
      rw [hq, hq, hq2 _ hdr, h0]
theorem wc_ord {V d i off : Nat} (hV : V % 2 ^ (8 * i + 8) = 0) (hd : d < 256) (ho : off = i / 8) : (wc V).set off (.int .u64 ((dg V (i / 8) ||| (d * 2 ^ (8 * (i % 8)) % 18446744073709551616) : Nat) : Int)) = wc (V + d * 2 ^ (8 * i)) := by
  rw [← cells4_dg, ← cells4_dg, cells4_set (f := dg V) (k := i / 8) (v := dg V (i / 8) ||| (d * 2 ^ (8 * (i % 8)) % 18446744073709551616)) ho]
  exact cells4_congr fun k _ => dg_ord hV hd k
theorem p2_256 (k : Nat) : (2 : Nat) ^ (8 * k) = 256 ^ k := by rw [Nat.pow_mul]
def upN (l : List Nat) (i : Nat) : Nat := numB (l.take i) * 256 ^ (l.length - i)
theorem upN_0 (l : List Nat) : upN l 0 = 0 := by simp [upN, numB]
theorem upN_all (l : List Nat) : upN l l.length = numB l := by simp [upN]
theorem upN_mod {l : List Nat} {i : Nat} (h : i < l.length) : upN l i % 2 ^ (8 * (l.length - 1 - i) + 8) = 0 := by
  have e : 8 * (l.length - 1 - i) + 8 = 8 * (l.length - i) := by omega
  rw [e, p2_256, upN, Nat.mul_mod_left]
theorem upN_succ {l : List Nat} {i : Nat} (h : i < l.length) : upN l i + l.getD i 0 * 2 ^ (8 * (l.length - 1 - i)) = upN l (i + 1) := by
  have hg : l.getD i 0 = l[i] := by rw [List.getD_eq_getElem?_getD, List.getElem?_eq_getElem h]; rfl
  rw [p2_256, upN, upN, take_snoc l i h, numB_snoc, hg, Nat.add_mul, show l.length - i = (l.length - (i + 1)) + 1 by omega, Nat.pow_succ, show l.length - 1 - i = l.length - (i + 1) by omega]
  congr 1
  rw [Nat.mul_comm (256 ^ (l.length - (i + 1))) 256, Nat.mul_assoc]
theorem upN_at {l : List Nat} {i k off : Nat} (ho : off = k) (h : k < 4) : (wc (upN l i))[off]? = some (.int .u64 ((dg (upN l i) k : Nat) : Int)) := by
  have := wc_at (upN l i) k h
  subst ho
  simpa using this
theorem dig_40 {x i : Nat} (h : i < 32) : dg x (3 - i / 8) / 2 ^ (56 - 8 * (i % 8)) &&& 255 = x / 256 ^ (31 - i) % 256 := by
  have e : (255 : Nat) = 2 ^ 8 - 1 := by decide
  have h2 : 56 - 8 * (i % 8) = 8 * (7 - i % 8) := by omega
  rw [e, Nat.and_two_pow_sub_one_eq_mod, h2, show (2 : Nat) ^ 8 = 256 from rfl, dg_by8 _ _ _ (by omega)]
  unfold by8
  rw [show 8 * (3 - i / 8) + (7 - i % 8) = 31 - i by omega]
theorem toB_0 (k : Nat) : List.replicate k 0 = toB k 0 := by
  unfold toB
  apply List.ext_getElem?
  intro i
  by_cases h : i < k
  · simp [h]
  · simp [h]
theorem setB_take (S t : Nat) : setB (S % 256 ^ t) t (S / 256 ^ t % 256) = S % 256 ^ (t + 1) := by
  rw [setB_three, Nat.mod_mod, Nat.div_eq_of_lt (Nat.lt_of_lt_of_le (Nat.mod_lt _ (p256_pos t)) (Nat.pow_le_pow_right (by decide) (by omega))), Nat.zero_mul, Nat.add_zero, Nat.pow_succ, Nat.mod_mul, Nat.mul_comm (S / 256 ^ t % 256)]
theorem ints_getB {k n i off : Nat} (h : i < k) (ho : off = i) : (ints (toB k n))[off]? = some (.int .i64 ((n / 256 ^ (k - 1 - i) % 256 : Nat) : Int)) := by
  subst ho; simp [ints, toB_at h]
theorem ints_setB {k V t e off : Nat} {v : Value} (ht : t < k) (he : e < 256) (ho : off = k - 1 - t) (hv : v = .int .i64 ((e : Nat) : Int)) : (ints (toB k V)).set off v = ints (toB k (setB V t e)) := by
  subst hv; subst ho
  rw [← toB_set ht he]; simp [ints, List.map_set]
theorem cmpB_same {x y k : Nat} (h : x / 256 ^ (k + 1) = y / 256 ^ (k + 1)) (hd : x / 256 ^ k % 256 = y / 256 ^ k % 256) : x / 256 ^ k = y / 256 ^ k := by
  rw [Nat.pow_succ, ← Nat.div_div_eq_div_mul, ← Nat.div_div_eq_div_mul] at h
  omega
theorem cmpB_lt {x y k : Nat} (h : x / 256 ^ (k + 1) = y / 256 ^ (k + 1)) (hd : x / 256 ^ k % 256 < y / 256 ^ k % 256) : x < y := by
  rw [Nat.pow_succ, ← Nat.div_div_eq_div_mul, ← Nat.div_div_eq_div_mul] at h
  rcases Nat.lt_or_ge x y with h1 | h1
  · exact h1
  · have := Nat.div_le_div_right (c := 256 ^ k) h1
    omega
def cmpV (x y : Nat) : Int := if x < y then -1 else if x = y then 0 else 1
theorem cmpV_lt {x y : Nat} (h : x < y) : cmpV x y = -1 := if_pos h
theorem cmpV_gt {x y : Nat} (h : y < x) : cmpV x y = 1 := by unfold cmpV; rw [if_neg (by omega), if_neg (by omega)]
theorem cmpV_eq {x y : Nat} (h : x = y) : cmpV x y = 0 := by unfold cmpV; rw [if_neg (by omega), if_pos h]
theorem cmpV_neg {x y : Nat} : cmpV x y < 0 ↔ x < y := by
  unfold cmpV
  split
  · simp [*]
  · split <;> simp [*]
theorem cmpV_ge {x y : Nat} : 0 ≤ cmpV x y ↔ y ≤ x := by
  have := cmpV_neg (x := x) (y := y)
  omega
def mixL (A B : List Nat) (k : Nat) : List Nat := A.take k ++ B.drop k
theorem mixL_0 (A B : List Nat) : mixL A B 0 = B := by simp [mixL]
theorem mixL_all {A B : List Nat} {k : Nat} (hA : A.length = k) (hB : B.length = k) : mixL A B k = A := by
  rw [mixL, List.take_of_length_le (by omega), List.drop_of_length_le (by omega), List.append_nil]
theorem length_mixL {A B : List Nat} {k n : Nat} (hA : A.length = n) (hB : B.length = n) (h : k ≤ n) : (mixL A B k).length = n := by
  simp [mixL, hA, hB]; omega
theorem ints_setp (p q : List Nat) (b d : Nat) : (ints (p ++ b :: q)).set p.length (.int .i64 ((d : Nat) : Int)) = ints (p ++ d :: q) := by
  unfold ints
  rw [List.map_append, List.set_append_right _ _ (by simp), List.length_map, Nat.sub_self, List.map_append]
  simp
theorem mixL_set {A B : List Nat} {k n d off : Nat} {v : Value} (hA : A.length = n) (hB : B.length = n) (h : k < n) (hd : d = A.getD k 0) (ho : off = k) (hv : v = .int .i64 ((d : Nat) : Int)) : (ints (mixL A B k)).set off v = ints (mixL A B (k + 1)) := by
  subst hv; subst ho; subst hd
  have e : B.drop off = B[off]'(by omega) :: B.drop (off + 1) := List.drop_eq_getElem_cons (by omega)
  have e2 : A.take (off + 1) = A.take off ++ [A[off]'(by omega)] := take_snoc A off (by omega)
  have e3 : A.getD off 0 = A[off]'(by omega) := by rw [List.getD_eq_getElem?_getD, List.getElem?_eq_getElem (by omega)]; rfl
  have hl : (A.take off).length = off := by rw [List.length_take]; omega
  unfold mixL
  rw [e, e2, e3, List.append_assoc, List.singleton_append]
  have := ints_setp (A.take off) (B.drop (off + 1)) (B[off]'(by omega)) (A[off]'(by omega))
  rwa [hl] at this
theorem mixL_get {A B : List Nat} {k n i off : Nat} (hA : A.length = n) (hB : B.length = n) (h : i < n) (hk : k ≤ i) (ho : off = i) : (ints (mixL A B k))[off]? = some (.int .i64 ((B.getD i 0 : Nat) : Int)) := by
  subst ho
  have hl : (A.take k).length = k := by rw [List.length_take]; omega
  unfold mixL ints
  rw [List.getElem?_map, List.getElem?_append_right (by omega), hl, List.getElem?_drop, show k + (off - k) = off by omega, List.getElem?_eq_getElem (by omega), List.getD_eq_getElem?_getD, List.getElem?_eq_getElem (by omega)]
  rfl
theorem twice_dig {r b T : Nat} (hb : b ≤ 1) : (2 * r + b) / 256 ^ T % 256 = r / 256 ^ T % 256 % 128 * 2 + (if 0 < T then r / 256 ^ (T - 1) % 256 / 128 else b) := by
  cases T with
  | zero => simp; omega
  | succ T =>
    rw [if_pos (by omega), show T + 1 - 1 = T by omega]
    have h1 : (2 * r + b) / 256 ^ T / 2 = r / 256 ^ T := by
      rw [Nat.div_div_eq_div_mul, Nat.mul_comm (256 ^ T) 2, ← Nat.div_div_eq_div_mul, show (2 * r + b) / 2 = r by omega]
    rw [Nat.pow_succ, ← Nat.div_div_eq_div_mul, ← Nat.div_div_eq_div_mul]
    omega
theorem bit_of {x i : Nat} (h : i < 256) : x / 256 ^ (31 - i / 8) % 256 / 2 ^ (7 - i % 8) % 2 = x / 2 ^ (255 - i) % 2 := by
  have e : 255 - i = 8 * (31 - i / 8) + (7 - i % 8) := by omega
  rw [e, Nat.pow_add, p2_256, ← Nat.div_div_eq_div_mul]
  have hs : 7 - i % 8 < 8 := by omega
  generalize x / 256 ^ (31 - i / 8) = z
  generalize 7 - i % 8 = s at *
  have : s = 0 ∨ s = 1 ∨ s = 2 ∨ s = 3 ∨ s = 4 ∨ s = 5 ∨ s = 6 ∨ s = 7 := by omega
  rcases this with rfl | rfl | rfl | rfl | rfl | rfl | rfl | rfl <;> simp <;> omega
theorem top_next {x i : Nat} (h : i < 256) : x / 2 ^ (256 - (i + 1)) = 2 * (x / 2 ^ (256 - i)) + x / 2 ^ (255 - i) % 2 := by
  rw [show 256 - (i + 1) = 255 - i by omega, show 256 - i = (255 - i) + 1 by omega, Nat.pow_succ, ← Nat.div_div_eq_div_mul]
  omega
theorem quo_step {X b y : Nat} (hy : 0 < y) (hb : b ≤ 1) : (2 * X + b) / y = 2 * (X / y) + (if y ≤ 2 * (X % y) + b then 1 else 0) ∧ (2 * X + b) % y = (if y ≤ 2 * (X % y) + b then 2 * (X % y) + b - y else 2 * (X % y) + b) := by
  have h1 := Nat.div_add_mod X y
  have h2 := Nat.mod_lt X hy
  have e : 2 * X + b = (2 * (X % y) + b) + y * (2 * (X / y)) := by
    have : y * (2 * (X / y)) = 2 * (y * (X / y)) := Nat.mul_left_comm _ _ _
    omega
  rw [e, Nat.add_mul_div_left _ _ hy, Nat.add_mul_mod_self_left]
  generalize X % y = r at *
  by_cases h : y ≤ 2 * r + b
  · rw [if_pos h, if_pos h]
    have h3 : (2 * r + b) / y = 1 := by
      rw [Nat.div_eq_sub_div hy h, Nat.div_eq_of_lt (by omega)]
    have h4 : (2 * r + b) % y = 2 * r + b - y := by
      rw [Nat.mod_eq_sub_mod h, Nat.mod_eq_of_lt (by omega)]
    omega
  · rw [if_neg h, if_neg h, Nat.div_eq_of_lt (by omega), Nat.mod_eq_of_lt (by omega)]
    omega
def quoT (x y i : Nat) : Nat := x / 2 ^ (256 - i) / y * 2 ^ (256 - i)
def remT (x y i : Nat) : Nat := x / 2 ^ (256 - i) % y
theorem quoT_0 {x y : Nat} (hx : x < 2 ^ 256) : quoT x y 0 = 0 := by unfold quoT; rw [Nat.div_eq_of_lt hx]; simp
theorem remT_0 {x y : Nat} (hx : x < 2 ^ 256) : remT x y 0 = 0 := by unfold remT; rw [Nat.div_eq_of_lt hx]; simp
theorem quoT_end (x y : Nat) : quoT x y 256 = x / y := by simp [quoT]
theorem remT_end (x y : Nat) : remT x y 256 = x % y := by simp [remT]
theorem bit2_le (x k : Nat) : x / 2 ^ k % 2 ≤ 1 := by omega
theorem remT_next {x y i : Nat} (hy : 0 < y) (h : i < 256) : remT x y (i + 1) = if y ≤ 2 * remT x y i + x / 2 ^ (255 - i) % 2 then 2 * remT x y i + x / 2 ^ (255 - i) % 2 - y else 2 * remT x y i + x / 2 ^ (255 - i) % 2 := by
  unfold remT
  rw [top_next h]
  exact (quo_step hy (bit2_le _ _)).2
theorem quoT_next {x y i : Nat} (hy : 0 < y) (h : i < 256) : quoT x y (i + 1) = quoT x y i + if y ≤ 2 * remT x y i + x / 2 ^ (255 - i) % 2 then 2 ^ (255 - i) else 0 := by
  unfold quoT remT
  rw [top_next h, (quo_step hy (bit2_le _ _)).1, show 256 - (i + 1) = 255 - i by omega, Nat.add_mul]
  congr 1
  · rw [show 256 - i = (255 - i) + 1 by omega, Nat.pow_succ, Nat.mul_comm (2 ^ (255 - i)) 2, ← Nat.mul_assoc, Nat.mul_comm 2]
  · split <;> simp
theorem quoT_dig {x y i : Nat} (h : i < 256) : quoT x y i / 256 ^ (31 - i / 8) % 256 % 2 ^ (7 - i % 8 + 1) = 0 := by
  have e : 256 - i = 8 * (31 - i / 8) + (7 - i % 8 + 1) := by omega
  unfold quoT
  rw [e, Nat.pow_add, p2_256, Nat.mul_comm (256 ^ (31 - i / 8)), ← Nat.mul_assoc, Nat.mul_div_cancel _ (p256_pos _)]
  have hs : 7 - i % 8 < 8 := by omega
  generalize x / _ / y = q
  generalize 7 - i % 8 = s at *
  have e2 : (256 : Nat) = 2 ^ (s + 1) * 2 ^ (7 - s) := by rw [← Nat.pow_add, show s + 1 + (7 - s) = 8 by omega]
  rw [e2, Nat.mod_mul_right_mod, Nat.mul_mod_left]
theorem quoT_or {x y i : Nat} (h : i < 256) : quoT x y i / 256 ^ (31 - i / 8) % 256 ||| 2 ^ (7 - i % 8) = quoT x y i / 256 ^ (31 - i / 8) % 256 + 2 ^ (7 - i % 8) := or_bit (quoT_dig h)
theorem quoT_lt {x y i : Nat} (h : i < 256) : quoT x y i / 256 ^ (31 - i / 8) % 256 + 2 ^ (7 - i % 8) < 256 := by
  have h1 := quoT_dig (x := x) (y := y) h
  have h2 := Nat.mod_lt (quoT x y i / 256 ^ (31 - i / 8)) (by decide : 256 > 0)
  generalize quoT x y i / 256 ^ (31 - i / 8) % 256 = d at *
  have hs : 7 - i % 8 < 8 := by omega
  generalize 7 - i % 8 = s at *
  have : s = 0 ∨ s = 1 ∨ s = 2 ∨ s = 3 ∨ s = 4 ∨ s = 5 ∨ s = 6 ∨ s = 7 := by omega
  rcases this with rfl | rfl | rfl | rfl | rfl | rfl | rfl | rfl <;> simp at * <;> omega
theorem quoT_set {x y i : Nat} (h : i < 256) : setB (quoT x y i) (31 - i / 8) (quoT x y i / 256 ^ (31 - i / 8) % 256 + 2 ^ (7 - i % 8)) = quoT x y i + 2 ^ (255 - i) := by
  have h1 := setB_eq (quoT x y i) (31 - i / 8) (quoT x y i / 256 ^ (31 - i / 8) % 256 + 2 ^ (7 - i % 8))
  have e : 2 ^ (255 - i) = 2 ^ (7 - i % 8) * 256 ^ (31 - i / 8) := by
    rw [← p2_256, ← Nat.pow_add]; congr 1; omega
  rw [Nat.add_mul] at h1
  omega
theorem intsD {xs : List Nat} {i : Nat} (h : i < xs.length) : (ints xs)[i]? = some (.int .i64 ((xs.getD i 0 : Nat) : Int)) := by simp [ints, List.getD_eq_getElem?_getD, h]
end Go.Proofs.YtlapmbkfmbkdoaaGreatDoor
end
section
namespace Go.Proofs.YtlapmbkfmbkdoaaGreatDoor
open Go Go.Fw Go.ChangeShapes Go.RowKit
section
variable {H : Type} {enc : TypeId × Value → H} {w : World} {base fuel : Nat} {spare : Nat → Bool} {held : Bool} {cs : List Value} {x : DataW H × List MemPlace}
end
end Go.Proofs.YtlapmbkfmbkdoaaGreatDoor
end
section
namespace Go.Proofs.YtlapmbkfmbkdoaaGreatDoor
open Go Go.Fw Go.RowKit
attribute [local irreducible] Go.Oper.wp Go.Code.wp Go.wpList Go.Fw.WL Go.Calls
end Go.Proofs.YtlapmbkfmbkdoaaGreatDoor
end
section
namespace Go.Proofs.YtlapmbkfmbkdoaaGreatDoor
open Go Go.Fw Go.RowKit
attribute [local irreducible] Go.Oper.wp Go.Code.wp Go.wpList Go.Fw.WL Go.Calls
end Go.Proofs.YtlapmbkfmbkdoaaGreatDoor
end
section
namespace Go.Proofs.YtlapmbkfmbkdoaaGreatDoor
open Go Go.Fw Go.RowKit
attribute [local irreducible] Go.Oper.wp Go.Code.wp Go.wpList Go.Fw.WL Go.Calls
def RetB (n x : Nat) (v : Value) (s : Seg) : Prop := ∃ b, v = .slice (some ⟨b, 0, none⟩) n n ∧ s = [(b, Cel (ints (toB n x)) 3)]
theorem ints_getT {k n t off : Nat} (h : t < k) (ho : off = k - 1 - t) : (ints (toB k n))[off]? = some (.int .i64 ((n / 256 ^ t % 256 : Nat) : Int)) := by
  have := ints_getB (k := k) (n := n) (i := off) (off := off) (by omega) rfl
  rwa [ho, show k - 1 - (k - 1 - t) = t by omega, ← ho] at this
theorem intsO {xs : List Nat} {i off : Nat} (h : i < xs.length) (ho : off = i) : (ints xs)[off]? = some (.int .i64 ((xs.getD i 0 : Nat) : Int)) := by subst ho; exact intsD h
theorem count_wc {n : Nat} (h : n < 18446744073709551616) : [Value.int .u64 ((n % 18446744073709551616 : Nat) : Int), .int .u64 0, .int .u64 0, .int .u64 0] = wc n := by
  have h0 : dg n 0 = n := by rw [dg0]; omega
  have h1 : dg n 1 = 0 := by rw [dg1]; omega
  have h2 : dg n 2 = 0 := by rw [dg2]; omega
  have h3 : dg n 3 = 0 := by rw [dg3]; omega
  simp only [wc, h0, h1, h2, h3, Nat.mod_eq_of_lt h]; rfl
theorem dig_calls (x : Nat) (w0 : World) : Ret Tryz.prog 61 [wv x] w0 [] (RetB 32 x) := by
  refine fn_start Tryz.func61 rfl Tryz.ntmps61 rfl [(0, wv x)] ⟨rfl, trivial⟩ ?_
  intro Q a hP hF hR hN
  have hS := St.start w0
  refine wp_seq_k fun K1 hK1 => ?_
  refine wp_region_lit ?_
  refine so (wn rfl) (O.box rfl rfl hF (hF.ev rfl) rfl hS fun b1 a w hF hS => ?_)
  refine sv' hF (wn rfl) rfl rfl (R.assign (hF.ev rfl)) fun a hF => ?_
  refine s0 ?_
  refine then_n (hK1 _ _ ?_)
  refine wp_seq_k fun K2 hK2 => ?_
  refine wp_region_lit ?_
  refine so (wn rfl) (O.makeSlice rfl rfl hF Tryz.underlying61 inf3 rfl rfl (hF.ev rfl) (hF.ev rfl) (by omega) (by omega) (by omega) (by omega) hS fun b5 a w hF hS => ?_)
  rw [show zeros [Value.int .i64 0] (Int.toNat 32) = mki 32 (fun i => x / 256 ^ (31 - i) % 256) 0 from mki_0 32 _] at hS
  refine sv' hF (wn rfl) rfl rfl (R.assign (hF.ev rfl)) fun a hF => ?_
  refine s0 ?_
  refine then_n (hK2 _ _ ?_)
  refine wp_seq_k fun K3 hK3 => ?_
  refine wp_seq_k fun K4 hK4 => ?_
  refine wp_region_lit ?_
  refine sv' hF (wn rfl) rfl rfl (R.assign (hF.ev rfl)) fun a hF => ?_
  refine s0 ?_
  refine then_n (hK4 _ _ ?_)
  refine wp_block ?_
  refine wp_loop_N (fun g a w => ∃ (i : Nat), 32 - i = g ∧ Fr 26 [(1, .pointer (some ⟨b1, 0, none⟩)), (3, .slice (some ⟨b5, 0, none⟩) 32 32), (4, .int .i64 ((i : Nat) : Int))] a ∧ St w0 [] [[(b5, Cel (mki 32 (fun i => x / 256 ^ (31 - i) % 256) i) 3)], [(b1, Cel (wc x) 32)]] w ∧ (i ≤ 32)) (32 - 0) ?_ ?_
  · exact ⟨0, rfl, hF.sub ⟨rfl, rfl, rfl, trivial⟩, hS.sel [0, 1] rfl rfl, by omega⟩
  · rintro KL1 g a w ⟨i, hg1, hF, hS, hi⟩ hKL1
    refine wp_seq_k fun K5 hK5 => ?_
    refine wp_seq_k fun K6 hK6 => ?_
    refine wp_region_lit ?_
    refine sv' hF (wn rfl) rfl rfl (R.move (hF.ev rfl)) fun a hF => ?_
    refine sv' hF (wn rfl) rfl rfl (R.lss (hF.ev rfl) (hF.ev rfl)) fun a hF => ?_
    refine s0 ?_
    refine then_n (hK6 _ _ ?_)
    refine cD hF rfl (fun c1 => ?_) (fun c1 => ?_)
    ·
      refine wp_skip ?_
      refine then_n (hK5 _ _ ?_)
      refine wp_seq_k fun K7 hK7 => ?_
      refine wp_block ?_
      refine wp_region_lit ?_
      refine sv' hF (wn rfl) rfl rfl (R.move (hF.ev rfl)) fun a hF => ?_
      refine sv' hF (wn rfl) rfl rfl (R.move (hF.ev rfl)) fun a hF => ?_
      refine sv' hF (wn rfl) rfl rfl (R.move (hF.ev rfl)) fun a hF => ?_
      refine sv' hF (wn rfl) rfl rfl (R.quoI (hF.ev rfl) (hF.ev rfl) (by omega)) fun a hF => ?_
      refine sv' hF (wn rfl) rfl rfl (R.subI (hF.ev rfl) (hF.ev rfl) (by omega)) fun a hF => ?_
      refine sv' hF (wn rfl) rfl rfl (R.indexA Tryz.underlying32 sz30 (hF.ev rfl) (hF.ev rfl) (by omega) (by omega)) fun a hF => ?_
      refine sv' hF (wn rfl) rfl rfl (R.load one30 (hF.ev rfl) hS (.t .h) ((by (have h9 := wc_at x (3 - i / 8) (by omega)); simpa using (show (wc x)[((3 : Int) - (i : Int) / 8).toNat * 1]? = _ by rw [show ((3 : Int) - (i : Int) / 8).toNat * 1 = 0 + ((3 - i / 8 : Nat) : Int).toNat * 1 by omega]; exact h9)))) fun a hF => ?_
      refine sv' hF (wn rfl) rfl rfl (R.move (hF.ev rfl)) fun a hF => ?_
      refine sv' hF (wn rfl) rfl rfl (R.remI (hF.ev rfl) (hF.ev rfl) (by omega)) fun a hF => ?_
      refine sv' hF (wn rfl) rfl rfl (R.mulI (hF.ev rfl) (hF.ev rfl) (by omega)) fun a hF => ?_
      refine sv' hF (wn rfl) rfl rfl (R.subI (hF.ev rfl) (hF.ev rfl) (by omega)) fun a hF => ?_
      refine sv' hF (wn rfl) rfl rfl (R.shrU (m := 56 - 8 * (i % 8)) (hF.ev rfl) ((hF.ev rfl).trans (congrArg (Value.int .i64) (by omega))) (by omega)) fun a hF => ?_
      refine sv' hF (wn rfl) rfl rfl (R.as (u := .int .u64 ((x / 256 ^ (31 - i) % 256 : Nat) : Int)) (R.andU (hF.ev rfl) (hF.ev rfl) (Nat.lt_of_le_of_lt (Nat.div_le_self _ _) (dg_lt _ _)) (by decide)) (congrArg (fun z : Nat => Value.int .u64 (z : Int)) (dig_40 (by omega)))) fun a hF => ?_
      refine sv' hF (wn rfl) rfl rfl (R.convI Tryz.underlying30 Tryz.underlying3 (hF.ev rfl) (by omega)) fun a hF => ?_
      refine sv' hF (wn rfl) rfl rfl (R.indexS Tryz.underlying61 sz3 (hF.ev rfl) (hF.ev rfl) (by omega) (by omega)) fun a hF => ?_
      refine so (wn rfl) (O.store sz3 (hF.ev rfl) (hF.ev rfl) rfl rfl hS .h (mki_at 32 (fun i => x / 256 ^ (31 - i) % 256) i _ rfl) (by rw [length_mki]; omega) fun w hS => ?_)
      refine s0 ?_
      refine blk_n ?_
      refine then_n (hK7 _ _ ?_)
      refine wp_region_lit ?_
      refine sv' hF (wn rfl) rfl rfl (R.move (hF.ev rfl)) fun a hF => ?_
      refine sv' hF (wn rfl) rfl rfl (R.addI (hF.ev rfl) (hF.ev rfl) (by omega)) fun a hF => ?_
      refine sv' hF (wn rfl) rfl rfl (R.assign (hF.ev rfl)) fun a hF => ?_
      refine s0 ?_
      refine then_n (hKL1 (32 - (i + 1)) _ _ ?_ ?_)
      · omega
      · exact ⟨i + 1, rfl, hF.sub ⟨rfl, rfl, rfl, trivial⟩, hS.sel [0, 1] rfl rfl, by omega⟩
    ·
      obtain rfl : i = 32 := by omega
      rw [mki_all] at hS
      refine wp_exit (then_x (then_x (blk_hit ?_)))
      refine then_n (hK3 _ _ ?_)
      refine wp_seq_k fun K8 hK8 => ?_
      refine wp_region_lit ?_
      refine sv' hF (wn rfl) rfl rfl (R.move (hF.ev rfl)) fun a hF => ?_
      refine sv' hF (wn rfl) rfl rfl (R.assign (hF.ev rfl)) fun a hF => ?_
      refine s0 ?_
      refine then_n (hK8 _ _ ?_)
      refine wp_ret (hR _ _ _ _ _ hF (run_results Tryz.results61 (.t hF rfl (.nil))) ?_)
      exact ⟨_, _, rfl, ⟨_, rfl, rfl⟩, hS.one .h⟩
theorem number_calls (A : Option Addr) (c : Nat) (xs : List Nat) (w0 : World) (hA : Rd w0 A (ints xs)) (hB : Byt xs) (hl : xs.length ≤ 32) : Ret Tryz.prog 29 [.slice A xs.length c] w0 [] (fun v s => v = wv (numB xs) ∧ s = []) := by
  refine fn_start Tryz.func29 rfl Tryz.ntmps29 rfl [(0, .slice A xs.length c)] ⟨rfl, trivial⟩ ?_
  intro Q a hP hF hR hN
  have hS := St.start w0
  refine wp_seq_k fun K1 hK1 => ?_
  refine wp_region_lit ?_
  refine so (wn rfl) (O.alloc rfl rfl hF ze32 rfl hS fun b2 a w hF hS => ?_)
  refine s0 ?_
  refine then_n (hK1 _ _ ?_)
  refine wp_seq_k fun K2 hK2 => ?_
  refine wp_region_lit ?_
  refine so (wn rfl) (O.alloc rfl rfl hF ze32 rfl hS fun b3 a w hF hS => ?_)
  refine s0 ?_
  refine then_n (hK2 _ _ ?_)
  refine wp_seq_k fun K3 hK3 => ?_
  refine wp_seq_k fun K4 hK4 => ?_
  refine wp_region_lit ?_
  refine sv' hF (wn rfl) rfl rfl (R.assign (hF.ev rfl)) fun a hF => ?_
  refine s0 ?_
  refine then_n (hK4 _ _ ?_)
  refine wp_block ?_
  refine wp_loop_N (fun g a w => ∃ (i : Nat), xs.length - i = g ∧ Fr 33 [(0, .slice A xs.length c), (2, .pointer (some ⟨b2, 0, none⟩)), (3, .pointer (some ⟨b3, 0, none⟩)), (4, .int .i64 ((i : Nat) : Int))] a ∧ St w0 [] [[(b3, Cel (wc (upN xs i)) 32)], [(b2, Cel ([.int .u64 0, .int .u64 0, .int .u64 0, .int .u64 0]) 32)]] w ∧ (i ≤ xs.length)) (xs.length - 0) ?_ ?_
  · exact ⟨0, rfl, hF.sub ⟨rfl, rfl, rfl, rfl, trivial⟩, hS.sel [0, 1] rfl (by rw [upN_0]; rfl), by omega⟩
  · rintro KL1 g a w ⟨i, hg1, hF, hS, hi⟩ hKL1
    refine wp_seq_k fun K5 hK5 => ?_
    refine wp_seq_k fun K6 hK6 => ?_
    refine wp_region_lit ?_
    refine sv' hF (wn rfl) rfl rfl (R.move (hF.ev rfl)) fun a hF => ?_
    refine sv' hF (wn rfl) rfl rfl (R.move (hF.ev rfl)) fun a hF => ?_
    refine sv' hF (wn rfl) rfl rfl (R.len Tryz.underlying61 (hF.ev rfl)) fun a hF => ?_
    refine sv' hF (wn rfl) rfl rfl (R.lss (hF.ev rfl) (hF.ev rfl)) fun a hF => ?_
    refine s0 ?_
    refine then_n (hK6 _ _ ?_)
    refine cD hF rfl (fun c1 => ?_) (fun c1 => ?_)
    ·
      refine wp_skip ?_
      refine then_n (hK5 _ _ ?_)
      refine wp_seq_k fun K7 hK7 => ?_
      refine wp_block ?_
      refine wp_seq_k fun K8 hK8 => ?_
      refine wp_region_lit ?_
      refine sv' hF (wn rfl) rfl rfl (R.move (hF.ev rfl)) fun a hF => ?_
      refine sv' hF (wn rfl) rfl rfl (R.len Tryz.underlying61 (hF.ev rfl)) fun a hF => ?_
      refine sv' hF (wn rfl) rfl rfl (R.subI (hF.ev rfl) (hF.ev rfl) (by omega)) fun a hF => ?_
      refine sv' hF (wn rfl) rfl rfl (R.move (hF.ev rfl)) fun a hF => ?_
      refine sv' hF (wn rfl) rfl rfl (R.subI (hF.ev rfl) (hF.ev rfl) (by omega)) fun a hF => ?_
      refine sv' hF (wn rfl) rfl rfl (R.assign (hF.ev rfl)) fun a hF => ?_
      refine s0 ?_
      refine then_n (hK8 _ _ ?_)
      refine wp_drawS hS [(0, 0), (1, 0), (2, 0), (3, 1), (4, 0), (5, 0), (6, 0), (7, 1), (8, 0), (9, 0), (10, 0), (11, 0), (12, 0), (13, 0), (14, 0), (15, 3)] mix (by kernel_rfl) (hP.then.block.then.then.block) fun w hS => ?_
      have hD := hS
      refine dq hF rfl (wn rfl) rfl rfl (fun w => R.move (hF.ev rfl)) fun a hF => ?_
      refine dq hF rfl (wn rfl) rfl rfl (fun w => R.quoI (hF.ev rfl) (hF.ev rfl) (by omega)) fun a hF => ?_
      refine dq hF rfl (wn rfl) rfl rfl (fun w => R.indexA Tryz.underlying32 sz30 (hF.ev rfl) (hF.ev rfl) (by omega) (by omega)) fun a hF => ?_
      refine dr hF rfl (wn rfl) rfl rfl hD (fun w hD => R.load one30 (hF.ev rfl) hD .h (upN_at (k := (xs.length - 1 - i) / 8) (by omega) (by omega))) fun a hF => ?_
      refine dq hF rfl (wn rfl) rfl rfl (fun w => R.move (hF.ev rfl)) fun a hF => ?_
      refine dq hF rfl (wn rfl) rfl rfl (fun w => R.move (hF.ev rfl)) fun a hF => ?_
      refine dq hF rfl (wn rfl) rfl rfl (fun w => R.indexO Tryz.underlying61 sz3 (hF.ev rfl) (Rd.ne hA (by rw [length_ints]; omega)) (hF.ev rfl) (by omega) (by omega)) fun a hF => ?_
      refine dr hF rfl (wn rfl) rfl rfl hD (fun w hD => R.loadO one3 (hF.ev rfl) (hA.old hD) (intsO (i := i) (by omega) (by omega))) fun a hF => ?_
      refine dq hF rfl (wn rfl) rfl rfl (fun w => R.as (u := .int .u64 ((xs.getD i 0 : Nat) : Int)) (R.convU Tryz.underlying3 Tryz.underlying30 (hF.ev rfl)) (congrArg (fun z : Nat => Value.int .u64 (z : Int)) (Nat.mod_eq_of_lt (by have := byt_getD hB i; omega)))) fun a hF => ?_
      refine dq hF rfl (wn rfl) rfl rfl (fun w => R.move (hF.ev rfl)) fun a hF => ?_
      refine dq hF rfl (wn rfl) rfl rfl (fun w => R.remI (hF.ev rfl) (hF.ev rfl) (by omega)) fun a hF => ?_
      refine dq hF rfl (wn rfl) rfl rfl (fun w => R.mulI (hF.ev rfl) (hF.ev rfl) (by omega)) fun a hF => ?_
      refine dq hF rfl (wn rfl) rfl rfl (fun w => R.shlU (m := 8 * ((xs.length - 1 - i) % 8)) (hF.ev rfl) ((hF.ev rfl).trans (congrArg (Value.int .i64) (by omega))) (by omega)) fun a hF => ?_
      refine dq hF rfl (wn rfl) rfl rfl (fun w => R.orU (hF.ev rfl) (hF.ev rfl) (dg_lt _ _) (Nat.mod_lt _ (by decide))) fun a hF => ?_
      refine dq hF rfl (wn rfl) rfl rfl (fun w => R.indexA Tryz.underlying32 sz30 (hF.ev rfl) (hF.ev rfl) (by omega) (by omega)) fun a hF => ?_
      refine dw rfl (wn rfl) (O.store sz30 (hF.ev rfl) (hF.ev rfl) rfl rfl hS .h (wc_ord (V := upN xs i) (i := xs.length - 1 - i) (upN_mod (by omega)) (byt_getD hB i) (by omega)) (by show _ < 4; omega) fun w hS => ?_)
      rw [upN_succ (by omega)] at hS
      refine d0 ?_
      refine blk_n ?_
      refine then_n (hK7 _ _ ?_)
      refine wp_region_lit ?_
      refine sv' hF (wn rfl) rfl rfl (R.move (hF.ev rfl)) fun a hF => ?_
      refine sv' hF (wn rfl) rfl rfl (R.addI (hF.ev rfl) (hF.ev rfl) (by omega)) fun a hF => ?_
      refine sv' hF (wn rfl) rfl rfl (R.assign (hF.ev rfl)) fun a hF => ?_
      refine s0 ?_
      refine then_n (hKL1 (xs.length - (i + 1)) _ _ ?_ ?_)
      · omega
      · exact ⟨i + 1, rfl, hF.sub ⟨rfl, rfl, rfl, (congrArg (fun z => some (Value.int .i64 z)) (by omega)), trivial⟩, hS.sel [0, 1] rfl rfl, by omega⟩
    ·
      obtain rfl : i = xs.length := by omega
      rw [upN_all] at hS
      refine wp_exit (then_x (then_x (blk_hit ?_)))
      refine then_n (hK3 _ _ ?_)
      refine wp_seq_k fun K9 hK9 => ?_
      refine wp_region_lit ?_
      refine sv' hF (wn rfl) rfl rfl (R.loadW agg32 (hF.ev rfl) hS .h sz32 (rfl)) fun a hF => ?_
      refine so (wn rfl) (O.storeW sz32 (hF.ev rfl) (hF.ev rfl) (rfl) rfl (by simp [Value.oneCell']) hS (.t .h) (rfl) fun w hS => ?_)
      refine s0 ?_
      refine then_n (hK9 _ _ ?_)
      refine wp_ret (hR _ _ _ _ _ hF (run_results Tryz.results29 (.cw hF rfl agg32 hS (.t .h) sz32 (rfl) (.nil))) ?_)
      exact ⟨_, [], rfl, ⟨rfl, rfl⟩, hS.none⟩
theorem nought_calls (x : Nat) (w0 : World) (hx : x < 115792089237316195423570985008687907853269984665640564039457584007913129639936) : Ret Tryz.prog 46 [wv x] w0 [] (fun v s => v = .bool (decide (x = 0)) ∧ s = []) := by
  refine fn_start Tryz.func46 rfl Tryz.ntmps46 rfl [(0, wv x)] ⟨rfl, trivial⟩ ?_
  intro Q a hP hF hR hN
  have hS := St.start w0
  refine wp_seq_k fun K1 hK1 => ?_
  refine wp_region_lit ?_
  refine so (wn rfl) (O.box rfl rfl hF (hF.ev rfl) rfl hS fun b1 a w hF hS => ?_)
  refine sv' hF (wn rfl) rfl rfl (R.assign (hF.ev rfl)) fun a hF => ?_
  refine s0 ?_
  refine then_n (hK1 _ _ ?_)
  refine wp_seq_k fun K2 hK2 => ?_
  refine wp_region_lit ?_
  refine sv' hF (wn rfl) rfl rfl (R.loadW agg32 (hF.ev rfl) hS .h sz32 (rfl)) fun a hF => ?_
  refine sv' hF (wn rfl) rfl rfl (R.buildArr (l := [_, _, _, _]) Tryz.underlying32 ze32 sz30 (hF.evp rfl) rfl) fun a hF => ?_
  refine sv' hF (wn rfl) rfl rfl (R.eqlW (x := x) (y := 0) (hF.ev rfl) (hF.ev rfl) hx (by decide)) fun a hF => ?_
  refine sv' hF (wn rfl) rfl rfl (R.assign (hF.ev rfl)) fun a hF => ?_
  refine s0 ?_
  refine then_n (hK2 _ _ ?_)
  refine wp_ret (hR _ _ _ _ _ hF (run_results Tryz.results46 (.t hF rfl (.nil))) ?_)
  exact ⟨_, [], rfl, ⟨rfl, rfl⟩, hS.none⟩
theorem rcount_calls (n : Nat) (w0 : World) (hn : n < 18446744073709551616) : Ret Tryz.prog 60 [.int .i64 ((n : Nat) : Int)] w0 [] (fun v s => v = wv (n) ∧ s = []) := by
  refine fn_start Tryz.func60 rfl Tryz.ntmps60 rfl [(0, .int .i64 ((n : Nat) : Int))] ⟨rfl, trivial⟩ ?_
  intro Q a hP hF hR hN
  have hS := St.start w0
  refine wp_seq_k fun K1 hK1 => ?_
  refine wp_region_lit ?_
  refine so (wn rfl) (O.alloc rfl rfl hF ze32 rfl hS fun b2 a w hF hS => ?_)
  refine s0 ?_
  refine then_n (hK1 _ _ ?_)
  refine wp_seq_k fun K2 hK2 => ?_
  refine wp_region_lit ?_
  refine sv' hF (wn rfl) rfl rfl (R.move (hF.ev rfl)) fun a hF => ?_
  refine sv' hF (wn rfl) rfl rfl (R.convU Tryz.underlying3 Tryz.underlying30 (hF.ev rfl)) fun a hF => ?_
  refine sv' hF (wn rfl) rfl rfl (R.buildArr (l := [_, _, _, _]) Tryz.underlying32 ze32 sz30 (hF.evp rfl) rfl) fun a hF => ?_
  refine so (wn rfl) (O.storeW sz32 (hF.ev rfl) (hF.ev rfl) (rfl) rfl (by simp [Value.oneCell']) hS .h (rfl) fun w hS => ?_)
  refine s0 ?_
  refine then_n (hK2 _ _ ?_)
  refine wp_ret (hR _ _ _ _ _ hF (run_results Tryz.results60 (.cw hF rfl agg32 hS .h sz32 (rfl) (.nil))) ?_)
  exact ⟨_, [], rfl, ⟨congrArg (fun l : List Value => Value.agg l.toArray) (count_wc (by omega)), rfl⟩, hS.none⟩
end Go.Proofs.YtlapmbkfmbkdoaaGreatDoor
end
section
namespace Go.Proofs.YtlapmbkfmbkdoaaGreatDoor
open Go Go.Fw Go.RowKit
attribute [local irreducible] Go.Oper.wp Go.Code.wp Go.wpList Go.Fw.WL Go.Calls
theorem bw_1 {x y t : Nat} (h : x / 256 ^ t % 256 < y / 256 ^ t % 256 + bwB x y t) : bwB x y (t + 1) = 1 := by rw [less_bw, if_pos h]
theorem bw_n {x y t : Nat} (h : ¬ x / 256 ^ t % 256 < y / 256 ^ t % 256 + bwB x y t) : bwB x y (t + 1) = 0 := by rw [less_bw, if_neg h]
theorem bwB_le (x y t : Nat) : bwB x y t ≤ 1 := by unfold bwB; split <;> omega
theorem toB_pw {n v : Nat} : toB n (v % 256 ^ n) = toB n v := toB_mod n v
theorem cmpB_calls (A B : Option Addr) (n c d x y : Nat) (w0 : World) (hA : Rd w0 A (ints (toB n x))) (hB : Rd w0 B (ints (toB n y))) (hn : n ≤ 64) (hx : x < 256 ^ n) (hy : y < 256 ^ n) : Ret Tryz.prog 97 [.slice A n c, .slice B n d] w0 [] (fun v s => v = .int .i64 (cmpV x y) ∧ s = []) := by
  refine fn_start Tryz.func97 rfl Tryz.ntmps97 rfl [(0, .slice A n c), (1, .slice B n d)] ⟨rfl, rfl, trivial⟩ ?_
  intro Q a hP hF hR hN
  have hS := St.start w0
  refine wp_seq_k fun K1 hK1 => ?_
  refine wp_region_lit ?_
  refine sv' hF (wn rfl) rfl rfl (R.assign (hF.ev rfl)) fun a hF => ?_
  refine s0 ?_
  refine then_n (hK1 _ _ ?_)
  refine wp_seq_k fun K2 hK2 => ?_
  refine wp_seq_k fun K3 hK3 => ?_
  refine wp_region_lit ?_
  refine sv' hF (wn rfl) rfl rfl (R.assign (hF.ev rfl)) fun a hF => ?_
  refine s0 ?_
  refine then_n (hK3 _ _ ?_)
  refine wp_block ?_
  refine wp_loop_N (fun g a w => ∃ (i : Nat), n - i = g ∧ Fr 30 [(0, .slice A n c), (1, .slice B n d), (5, .int .i64 ((i : Nat) : Int))] a ∧ St w0 [] [] w ∧ (i ≤ n) ∧ (x / 256 ^ (n - i) = y / 256 ^ (n - i))) (n - 0) ?_ ?_
  · exact ⟨0, rfl, hF.sub ⟨rfl, rfl, rfl, trivial⟩, hS.sel [] rfl rfl, by omega, (by rw [Nat.sub_zero, Nat.div_eq_of_lt hx, Nat.div_eq_of_lt hy])⟩
  · rintro KL1 g a w ⟨i, hg1, hF, hS, hi, hcp⟩ hKL1
    have hcp2 : i < n → x / 256 ^ (n - 1 - i + 1) = y / 256 ^ (n - 1 - i + 1) := fun h => by rw [show n - 1 - i + 1 = n - i by omega]; exact hcp
    refine wp_seq_k fun K4 hK4 => ?_
    refine wp_seq_k fun K5 hK5 => ?_
    refine wp_region_lit ?_
    refine sv' hF (wn rfl) rfl rfl (R.move (hF.ev rfl)) fun a hF => ?_
    refine sv' hF (wn rfl) rfl rfl (R.move (hF.ev rfl)) fun a hF => ?_
    refine sv' hF (wn rfl) rfl rfl (R.len Tryz.underlying61 (hF.ev rfl)) fun a hF => ?_
    refine sv' hF (wn rfl) rfl rfl (R.lss (hF.ev rfl) (hF.ev rfl)) fun a hF => ?_
    refine s0 ?_
    refine then_n (hK5 _ _ ?_)
    refine cD hF rfl (fun c1 => ?_) (fun c1 => ?_)
    ·
      refine wp_skip ?_
      refine then_n (hK4 _ _ ?_)
      refine wp_seq_k fun K6 hK6 => ?_
      refine wp_block ?_
      refine wp_seq_k fun K7 hK7 => ?_
      refine wp_drawS hS [(0, 0), (1, 0), (2, 0), (3, 1), (4, 0), (5, 0), (6, 0), (7, 1), (8, 0)] mix (by kernel_rfl) (hP.then.block.then.then.block.then) fun w hS => ?_
      have hD := hS
      refine dq hF rfl (wn rfl) rfl rfl (fun w => R.move (hF.ev rfl)) fun a hF => ?_
      refine dq hF rfl (wn rfl) rfl rfl (fun w => R.move (hF.ev rfl)) fun a hF => ?_
      refine dq hF rfl (wn rfl) rfl rfl (fun w => R.indexO Tryz.underlying61 sz3 (hF.ev rfl) (Rd.ne hA (by rw [length_ints, length_toB]; omega)) (hF.ev rfl) (by omega) (by omega)) fun a hF => ?_
      refine dr hF rfl (wn rfl) rfl rfl hD (fun w hD => R.loadO one3 (hF.ev rfl) (hA.old hD) (ints_getB (i := i) (by omega) (by omega))) fun a hF => ?_
      refine dq hF rfl (wn rfl) rfl rfl (fun w => R.move (hF.ev rfl)) fun a hF => ?_
      refine dq hF rfl (wn rfl) rfl rfl (fun w => R.move (hF.ev rfl)) fun a hF => ?_
      refine dq hF rfl (wn rfl) rfl rfl (fun w => R.indexO Tryz.underlying61 sz3 (hF.ev rfl) (Rd.ne hB (by rw [length_ints, length_toB]; omega)) (hF.ev rfl) (by omega) (by omega)) fun a hF => ?_
      refine dr hF rfl (wn rfl) rfl rfl hD (fun w hD => R.loadO one3 (hF.ev rfl) (hB.old hD) (ints_getB (i := i) (by omega) (by omega))) fun a hF => ?_
      refine dq hF rfl (wn rfl) rfl rfl (fun w => R.neq (hF.ev rfl) (hF.ev rfl)) fun a hF => ?_
      refine d0 ?_
      refine then_n (hK7 _ _ ?_)
      refine cD hF rfl (fun c2 => ?_) (fun c2 => ?_)
      ·
        refine wp_seq_k fun K8 hK8 => ?_
        refine wp_seq_k fun K9 hK9 => ?_
        refine wp_drawS hS [(0, 0), (1, 0), (2, 0), (3, 1), (4, 0), (5, 0), (6, 0), (7, 1), (8, 0)] mix (by kernel_rfl) (hP.then.block.then.then.block.then.then) fun w hS => ?_
        have hD := hS
        refine dq hF rfl (wn rfl) rfl rfl (fun w => R.move (hF.ev rfl)) fun a hF => ?_
        refine dq hF rfl (wn rfl) rfl rfl (fun w => R.move (hF.ev rfl)) fun a hF => ?_
        refine dq hF rfl (wn rfl) rfl rfl (fun w => R.indexO Tryz.underlying61 sz3 (hF.ev rfl) (Rd.ne hA (by rw [length_ints, length_toB]; omega)) (hF.ev rfl) (by omega) (by omega)) fun a hF => ?_
        refine dr hF rfl (wn rfl) rfl rfl hD (fun w hD => R.loadO one3 (hF.ev rfl) (hA.old hD) (ints_getB (i := i) (by omega) (by omega))) fun a hF => ?_
        refine dq hF rfl (wn rfl) rfl rfl (fun w => R.move (hF.ev rfl)) fun a hF => ?_
        refine dq hF rfl (wn rfl) rfl rfl (fun w => R.move (hF.ev rfl)) fun a hF => ?_
        refine dq hF rfl (wn rfl) rfl rfl (fun w => R.indexO Tryz.underlying61 sz3 (hF.ev rfl) (Rd.ne hB (by rw [length_ints, length_toB]; omega)) (hF.ev rfl) (by omega) (by omega)) fun a hF => ?_
        refine dr hF rfl (wn rfl) rfl rfl hD (fun w hD => R.loadO one3 (hF.ev rfl) (hB.old hD) (ints_getB (i := i) (by omega) (by omega))) fun a hF => ?_
        refine dq hF rfl (wn rfl) rfl rfl (fun w => R.lss (hF.ev rfl) (hF.ev rfl)) fun a hF => ?_
        refine d0 ?_
        refine then_n (hK9 _ _ ?_)
        refine cD hF rfl (fun c3 => ?_) (fun c3 => ?_)
        ·
          refine wp_seq_k fun K10 hK10 => ?_
          refine wp_region_lit ?_
          refine sv' hF (wn rfl) rfl rfl (R.assign (hF.ev rfl)) fun a hF => ?_
          refine s0 ?_
          refine then_n (hK10 _ _ ?_)
          refine wp_ret (then_r (blk_r (then_r (then_r (blk_r (then_r (hR _ _ _ _ _ hF (run_results Tryz.results97 (.t hF rfl (.nil))) ?_)))))))
          exact ⟨_, [], rfl, ⟨by rw [cmpV_lt (cmpB_lt (k := n - 1 - i) (hcp2 (by omega)) (by omega))]; rfl, rfl⟩, hS.none⟩
        ·
          refine wp_skip ?_
          refine then_n (hK8 _ _ ?_)
          refine wp_seq_k fun K11 hK11 => ?_
          refine wp_region_lit ?_
          refine sv' hF (wn rfl) rfl rfl (R.assign (hF.ev rfl)) fun a hF => ?_
          refine s0 ?_
          refine then_n (hK11 _ _ ?_)
          refine wp_ret (blk_r (then_r (then_r (blk_r (then_r (hR _ _ _ _ _ hF (run_results Tryz.results97 (.t hF rfl (.nil))) ?_))))))
          exact ⟨_, [], rfl, ⟨by rw [cmpV_gt (cmpB_lt (k := n - 1 - i) (hcp2 (by omega)).symm (by omega))]; rfl, rfl⟩, hS.none⟩
      ·
        refine wp_skip ?_
        refine blk_n ?_
        refine then_n (hK6 _ _ ?_)
        refine wp_region_lit ?_
        refine sv' hF (wn rfl) rfl rfl (R.move (hF.ev rfl)) fun a hF => ?_
        refine sv' hF (wn rfl) rfl rfl (R.addI (hF.ev rfl) (hF.ev rfl) (by omega)) fun a hF => ?_
        refine sv' hF (wn rfl) rfl rfl (R.assign (hF.ev rfl)) fun a hF => ?_
        refine s0 ?_
        refine then_n (hKL1 (n - (i + 1)) _ _ ?_ ?_)
        · omega
        · exact ⟨i + 1, rfl, hF.sub ⟨rfl, rfl, (congrArg (fun z => some (Value.int .i64 z)) (by omega)), trivial⟩, hS.sel [] rfl rfl, by omega, (by have h9 := cmpB_same (x := x) (y := y) (k := n - 1 - i) (hcp2 (by omega)) (by omega); rwa [show n - 1 - i = n - (i + 1) by omega] at h9)⟩
    ·
      refine wp_exit (then_x (then_x (blk_hit ?_)))
      refine then_n (hK2 _ _ ?_)
      refine wp_seq_k fun K12 hK12 => ?_
      refine wp_region_lit ?_
      refine sv' hF (wn rfl) rfl rfl (R.assign (hF.ev rfl)) fun a hF => ?_
      refine s0 ?_
      refine then_n (hK12 _ _ ?_)
      refine wp_ret (hR _ _ _ _ _ hF (run_results Tryz.results97 (.t hF rfl (.nil))) ?_)
      exact ⟨_, [], rfl, ⟨by rw [cmpV_eq (by rw [show n - i = 0 by omega] at hcp; simpa using hcp)]; rfl, rfl⟩, hS.none⟩
theorem lessB_calls (A B : Option Addr) (n c d x y : Nat) (w0 : World) (hA : Rd w0 A (ints (toB n x))) (hB : Rd w0 B (ints (toB n y))) (hn : n ≤ 64) (hyx : y ≤ x) : Ret Tryz.prog 98 [.slice A n c, .slice B n d] w0 [] (RetB n (x - y)) := by
  refine fn_start Tryz.func98 rfl Tryz.ntmps98 rfl [(0, .slice A n c), (1, .slice B n d)] ⟨rfl, rfl, trivial⟩ ?_
  intro Q a hP hF hR hN
  have hS := St.start w0
  refine wp_seq_k fun K1 hK1 => ?_
  refine wp_region_lit ?_
  refine sv' hF (wn rfl) rfl rfl (R.assign (hF.ev rfl)) fun a hF => ?_
  refine s0 ?_
  refine then_n (hK1 _ _ ?_)
  refine wp_seq_k fun K2 hK2 => ?_
  refine wp_region_lit ?_
  refine sv' hF (wn rfl) rfl rfl (R.move (hF.ev rfl)) fun a hF => ?_
  refine sv' hF (wn rfl) rfl rfl (R.len Tryz.underlying61 (hF.ev rfl)) fun a hF => ?_
  refine so (wn rfl) (O.makeSlice rfl rfl hF Tryz.underlying61 inf3 rfl rfl (hF.ev rfl) (hF.ev rfl) (by omega) (by omega) (by omega) (by omega) hS fun b11 a w hF hS => ?_)
  rw [show zeros [Value.int .i64 0] (Int.toNat ((n : Nat) : Int)) = ints (toB n ((x - y) % 256 ^ 0)) from by (rw [Nat.pow_zero, Nat.mod_one, ← toB_0]; exact zeros_ints n)] at hS
  refine sv' hF (wn rfl) rfl rfl (R.assign (hF.ev rfl)) fun a hF => ?_
  refine s0 ?_
  refine then_n (hK2 _ _ ?_)
  refine wp_seq_k fun K3 hK3 => ?_
  refine wp_region_lit ?_
  refine sv' hF (wn rfl) rfl rfl (R.assign (hF.ev rfl)) fun a hF => ?_
  refine s0 ?_
  refine then_n (hK3 _ _ ?_)
  refine wp_seq_k fun K4 hK4 => ?_
  refine wp_seq_k fun K5 hK5 => ?_
  refine wp_region_lit ?_
  refine sv' hF (wn rfl) rfl rfl (R.move (hF.ev rfl)) fun a hF => ?_
  refine sv' hF (wn rfl) rfl rfl (R.len Tryz.underlying61 (hF.ev rfl)) fun a hF => ?_
  refine sv' hF (wn rfl) rfl rfl (R.subI (hF.ev rfl) (hF.ev rfl) (by omega)) fun a hF => ?_
  refine sv' hF (wn rfl) rfl rfl (R.assign (hF.ev rfl)) fun a hF => ?_
  refine s0 ?_
  refine then_n (hK5 _ _ ?_)
  refine wp_block ?_
  refine wp_loop_N (fun g a w => ∃ (t : Nat), n - t = g ∧ Fr 39 [(0, .slice A n c), (1, .slice B n d), (5, .slice (some ⟨b11, 0, none⟩) n n), (6, .int .i64 ((bwB x y t : Nat) : Int)), (7, .int .i64 (((n : Nat) : Int) - 1 - ((t : Nat) : Int)))] a ∧ St w0 [] [[(b11, Cel (ints (toB n ((x - y) % 256 ^ t))) 3)]] w ∧ (t ≤ n)) (n - 0) ?_ ?_
  · exact ⟨0, rfl, hF.sub ⟨rfl, rfl, rfl, (by rw [bwB_0]; rfl), (congrArg (fun z => some (Value.int .i64 z)) (by omega)), trivial⟩, hS.sel [0] rfl rfl, by omega⟩
  · rintro KL1 g a w ⟨t, hg1, hF, hS, ht⟩ hKL1
    have hdx : x / 256 ^ t % 256 < 256 := Nat.mod_lt _ (by decide); have hdy : y / 256 ^ t % 256 < 256 := Nat.mod_lt _ (by decide); have hbw := bwB_le x y t
    refine wp_seq_k fun K6 hK6 => ?_
    refine wp_seq_k fun K7 hK7 => ?_
    refine wp_region_lit ?_
    refine sv' hF (wn rfl) rfl rfl (R.move (hF.ev rfl)) fun a hF => ?_
    refine sv' hF (wn rfl) rfl rfl (R.geq (hF.ev rfl) (hF.ev rfl)) fun a hF => ?_
    refine s0 ?_
    refine then_n (hK7 _ _ ?_)
    refine cD hF rfl (fun c1 => ?_) (fun c1 => ?_)
    ·
      refine wp_skip ?_
      refine then_n (hK6 _ _ ?_)
      refine wp_seq_k fun K8 hK8 => ?_
      refine wp_block ?_
      refine wp_seq_k fun K9 hK9 => ?_
      refine wp_drawS hS [(0, 0), (1, 0), (2, 0), (3, 1), (4, 0), (5, 0), (6, 0), (7, 1), (8, 0), (9, 0), (10, 0), (11, 0)] mix (by kernel_rfl) (hP.then.block.then.then.block.then) fun w hS => ?_
      have hD := hS
      refine dq hF rfl (wn rfl) rfl rfl (fun w => R.move (hF.ev rfl)) fun a hF => ?_
      refine dq hF rfl (wn rfl) rfl rfl (fun w => R.move (hF.ev rfl)) fun a hF => ?_
      refine dq hF rfl (wn rfl) rfl rfl (fun w => R.indexO Tryz.underlying61 sz3 (hF.ev rfl) (Rd.ne hA (by rw [length_ints, length_toB]; omega)) (hF.ev rfl) (by omega) (by omega)) fun a hF => ?_
      refine dr hF rfl (wn rfl) rfl rfl hD (fun w hD => R.loadO one3 (hF.ev rfl) (hA.old hD) (ints_getT (t := t) (by omega) (by omega))) fun a hF => ?_
      refine dq hF rfl (wn rfl) rfl rfl (fun w => R.move (hF.ev rfl)) fun a hF => ?_
      refine dq hF rfl (wn rfl) rfl rfl (fun w => R.move (hF.ev rfl)) fun a hF => ?_
      refine dq hF rfl (wn rfl) rfl rfl (fun w => R.indexO Tryz.underlying61 sz3 (hF.ev rfl) (Rd.ne hB (by rw [length_ints, length_toB]; omega)) (hF.ev rfl) (by omega) (by omega)) fun a hF => ?_
      refine dr hF rfl (wn rfl) rfl rfl hD (fun w hD => R.loadO one3 (hF.ev rfl) (hB.old hD) (ints_getT (t := t) (by omega) (by omega))) fun a hF => ?_
      refine dq hF rfl (wn rfl) rfl rfl (fun w => R.subI (hF.ev rfl) (hF.ev rfl) (by omega)) fun a hF => ?_
      refine dq hF rfl (wn rfl) rfl rfl (fun w => R.move (hF.ev rfl)) fun a hF => ?_
      refine dq hF rfl (wn rfl) rfl rfl (fun w => R.subI (hF.ev rfl) (hF.ev rfl) (by omega)) fun a hF => ?_
      refine dq hF rfl (wn rfl) rfl rfl (fun w => R.assign (hF.ev rfl)) fun a hF => ?_
      refine d0 ?_
      refine then_n (hK9 _ _ ?_)
      refine wp_seq_k fun K10 hK10 => ?_
      refine wp_region_lit ?_
      refine sv' hF (wn rfl) rfl rfl (R.assign (hF.ev rfl)) fun a hF => ?_
      refine s0 ?_
      refine then_n (hK10 _ _ ?_)
      refine wp_seq_k fun K11 hK11 => ?_
      have hK11' : ∀ a w, (Fr 39 [(0, .slice A n c), (1, .slice B n d), (5, .slice (some ⟨b11, 0, none⟩) n n), (6, .int .i64 ((bwB x y (t + 1) : Nat) : Int)), (7, .int .i64 (((n : Nat) : Int) - 1 - ((t : Nat) : Int))), (8, .int .i64 (((x - y) / 256 ^ t % 256 : Nat) : Int))] a ∧ St w0 [] [[(b11, Cel (ints (toB n ((x - y) % 256 ^ t))) 3)]] w) → K11 a w := by
        rintro a w ⟨hF, hS⟩
        refine hK11 _ _ ?_
        refine wp_region_lit ?_
        refine sv' hF (wn rfl) rfl rfl (R.move (hF.ev rfl)) fun a hF => ?_
        refine sv' hF (wn rfl) rfl rfl (R.move (hF.ev rfl)) fun a hF => ?_
        refine sv' hF (wn rfl) rfl rfl (R.move (hF.ev rfl)) fun a hF => ?_
        refine sv' hF (wn rfl) rfl rfl (R.indexS Tryz.underlying61 sz3 (hF.ev rfl) (hF.ev rfl) (by omega) (by omega)) fun a hF => ?_
        refine so (wn rfl) (O.store sz3 (hF.ev rfl) (hF.ev rfl) rfl rfl hS .h (ints_setB (k := n) (t := t) (e := (x - y) / 256 ^ t % 256) (by omega) (Nat.mod_lt _ (by decide)) (by omega) rfl) (by rw [length_ints, length_toB]; omega) fun w hS => ?_)
        rw [setB_take] at hS
        refine s0 ?_
        refine blk_n ?_
        refine then_n (hK8 _ _ ?_)
        refine wp_region_lit ?_
        refine sv' hF (wn rfl) rfl rfl (R.move (hF.ev rfl)) fun a hF => ?_
        refine sv' hF (wn rfl) rfl rfl (R.subI (hF.ev rfl) (hF.ev rfl) (by omega)) fun a hF => ?_
        refine sv' hF (wn rfl) rfl rfl (R.assign (hF.ev rfl)) fun a hF => ?_
        refine s0 ?_
        refine then_n (hKL1 (n - (t + 1)) _ _ ?_ ?_)
        · omega
        · exact ⟨t + 1, rfl, hF.sub ⟨rfl, rfl, rfl, rfl, (congrArg (fun z => some (Value.int .i64 z)) (by omega)), trivial⟩, hS.sel [0] rfl rfl, by omega⟩
      refine wp_seq_k fun K12 hK12 => ?_
      refine wp_region_lit ?_
      refine sv' hF (wn rfl) rfl rfl (R.move (hF.ev rfl)) fun a hF => ?_
      refine sv' hF (wn rfl) rfl rfl (R.lss (hF.ev rfl) (hF.ev rfl)) fun a hF => ?_
      refine s0 ?_
      refine then_n (hK12 _ _ ?_)
      refine cD hF rfl (fun c2 => ?_) (fun c2 => ?_)
      ·
        refine wp_seq_k fun K13 hK13 => ?_
        refine wp_region_lit ?_
        refine sv' hF (wn rfl) rfl rfl (R.move (hF.ev rfl)) fun a hF => ?_
        refine sv' hF (wn rfl) rfl rfl (R.addI (hF.ev rfl) (hF.ev rfl) (by omega)) fun a hF => ?_
        refine sv' hF (wn rfl) rfl rfl (R.assign (hF.ev rfl)) fun a hF => ?_
        refine s0 ?_
        refine then_n (hK13 _ _ ?_)
        refine wp_region_lit ?_
        refine sv' hF (wn rfl) rfl rfl (R.assign (hF.ev rfl)) fun a hF => ?_
        refine s0 ?_
        exact then_n (hK11' _ _ ⟨hF.sub ⟨rfl, rfl, rfl, (by rw [bw_1 (by omega)]; rfl), rfl, (congrArg (fun z => some (Value.int .i64 z)) (by have := less_dig x y t hyx; have := bw_1 (x := x) (y := y) (t := t) (by omega); omega)), trivial⟩, hS.sel [0] rfl rfl⟩)
      ·
        refine wp_skip ?_
        exact then_n (hK11' _ _ ⟨hF.sub ⟨rfl, rfl, rfl, (by rw [bw_n (by omega)]; rfl), rfl, (congrArg (fun z => some (Value.int .i64 z)) (by have := less_dig x y t hyx; have := bw_n (x := x) (y := y) (t := t) (by omega); omega)), trivial⟩, hS.sel [0] rfl rfl⟩)
    ·
      obtain rfl : t = n := by omega
      rw [toB_pw] at hS
      refine wp_exit (then_x (then_x (blk_hit ?_)))
      refine then_n (hK4 _ _ ?_)
      refine wp_seq_k fun K14 hK14 => ?_
      refine wp_region_lit ?_
      refine sv' hF (wn rfl) rfl rfl (R.move (hF.ev rfl)) fun a hF => ?_
      refine sv' hF (wn rfl) rfl rfl (R.assign (hF.ev rfl)) fun a hF => ?_
      refine s0 ?_
      refine then_n (hK14 _ _ ?_)
      refine wp_ret (hR _ _ _ _ _ hF (run_results Tryz.results98 (.t hF rfl (.nil))) ?_)
      exact ⟨_, _, rfl, ⟨_, rfl, rfl⟩, hS.one .h⟩
end Go.Proofs.YtlapmbkfmbkdoaaGreatDoor
end
section
namespace Go.Proofs.YtlapmbkfmbkdoaaGreatDoor
open Go Go.Fw Go.RowKit
attribute [local irreducible] Go.Oper.wp Go.Code.wp Go.wpList Go.Fw.WL Go.Calls
theorem rd_tail {w : World} {b n j v : Nat} (h : Rd w (some ⟨b, 0, none⟩) (ints (toB (n + j) v))) : Rd w (some ⟨b, j, none⟩) (ints (toB n v)) := by
  intro i u hu
  have e : (ints (toB (n + j) v))[j + i]? = some u := by
    have hd : toB n v = (toB (n + j) v).drop j := by rw [toB_drop j (by omega), Nat.add_sub_cancel]
    rw [hd] at hu
    unfold ints at hu ⊢
    rw [List.getElem?_map, List.getElem?_drop] at hu
    rw [List.getElem?_map]; exact hu
  obtain ⟨a, ha, hc⟩ := h (j + i) u e
  refine ⟨_, rfl, ?_⟩
  simp only [Option.some.injEq] at ha
  subst ha
  by_cases hi : i = 0 <;> by_cases hj : j = 0 <;> simp_all [Addr.add]
theorem mixB_get {P R k i off : Nat} (hk : k ≤ i) (h : i < 33) (ho : off = i) : (ints (mixL (toB 33 P) (toB 33 R) k))[off]? = some (.int .i64 ((R / 256 ^ (32 - i) % 256 : Nat) : Int)) := by
  rw [mixL_get (length_toB 33 P) (length_toB 33 R) h hk ho, toB_getD h]
theorem mixB_set {P R b k d off : Nat} {v : Value} (hP : P = 2 * R + b) (hb : b ≤ 1) (h : k < 33) (hd : d = R / 256 ^ (32 - k) % 256 % 128 * 2 + (if 0 < 32 - k then R / 256 ^ (32 - k - 1) % 256 / 128 else b)) (ho : off = k) (hv : v = .int .i64 ((d : Nat) : Int)) : (ints (mixL (toB 33 P) (toB 33 R) k)).set off v = ints (mixL (toB 33 P) (toB 33 R) (k + 1)) := by
  refine mixL_set (length_toB 33 P) (length_toB 33 R) h ?_ ho hv
  rw [toB_getD h, hd, hP, ← twice_dig hb]
theorem up_T {R b k : Nat} (h : k < 32) : R / 256 ^ (32 - (k + 1)) % 256 / 128 = (if 0 < 32 - k then R / 256 ^ (32 - k - 1) % 256 / 128 else b) := by
  rw [if_pos (by omega), show 32 - (k + 1) = 32 - k - 1 by omega]
theorem up_F {R b k : Nat} (h : ¬ k < 32) : b = (if 0 < 32 - k then R / 256 ^ (32 - k - 1) % 256 / 128 else b) := by rw [if_neg (by omega)]
theorem mixB_33 {P R : Nat} : mixL (toB 33 P) (toB 33 R) 33 = toB 33 P := mixL_all (length_toB _ _) (length_toB _ _)
theorem mixB_0 {P R : Nat} : mixL (toB 33 P) (toB 33 R) 0 = toB 33 R := mixL_0 _ _
theorem rem_T {x y i : Nat} (hy : 0 < y) (h : i < 256) (hc : y ≤ 2 * remT x y i + x / 2 ^ (255 - i) % 2) : remT x y (i + 1) = 2 * remT x y i + x / 2 ^ (255 - i) % 2 - y := by rw [remT_next hy h, if_pos hc]
theorem rem_F {x y i : Nat} (hy : 0 < y) (h : i < 256) (hc : ¬ y ≤ 2 * remT x y i + x / 2 ^ (255 - i) % 2) : remT x y (i + 1) = 2 * remT x y i + x / 2 ^ (255 - i) % 2 := by rw [remT_next hy h, if_neg hc]
theorem quo_T {x y i : Nat} (hy : 0 < y) (h : i < 256) (hc : y ≤ 2 * remT x y i + x / 2 ^ (255 - i) % 2) : quoT x y (i + 1) = quoT x y i + 2 ^ (255 - i) := by rw [quoT_next hy h, if_pos hc]
theorem quo_F {x y i : Nat} (hy : 0 < y) (h : i < 256) (hc : ¬ y ≤ 2 * remT x y i + x / 2 ^ (255 - i) % 2) : quoT x y (i + 1) = quoT x y i := by rw [quoT_next hy h, if_neg hc, Nat.add_zero]
theorem remT_lt {x y i : Nat} (hy : 0 < y) : remT x y i < y := Nat.mod_lt _ hy
theorem own_z1 (b : Nat) : OwnS [(b, Cel (ints [0]) 3)] (some ⟨b, 0, none⟩) 1 1 (ints [0]) 3 1 := OwnS.mk (cells := ints [0]) (rest := []) rfl (by decide) rfl (by decide)
theorem toB_33 {y : Nat} (h : y < 256 ^ 32) : ints [0] ++ ints (toB 32 y) = ints (toB 33 y) := by
  show _ = ints (toB (32 + 1) y)
  rw [toB_succ 32 y, Nat.div_eq_of_lt h]; rfl
theorem lt_33 {y : Nat} (h : y < 256 ^ 32) : y < 256 ^ 33 := Nat.lt_of_lt_of_le h (Nat.pow_le_pow_right (by decide) (by decide))
theorem two_33 {r y b : Nat} (hr : r < y) (hy : y < 256 ^ 32) (hb : b ≤ 1) : 2 * r + b < 256 ^ 33 := by
  have h33 : (256 : Nat) ^ 33 = 256 * 256 ^ 32 := by rw [show (33 : Nat) = 32 + 1 from rfl, Nat.pow_succ, Nat.mul_comm]
  omega
theorem p256_32 : (256 : Nat) ^ 32 = 2 ^ 256 := by decide
def RetQ (x y : Nat) (v : Value) (s : Seg) : Prop := ∃ bq br, v = .tuple #[.slice (some ⟨bq, 0, none⟩) 32 32, .slice (some ⟨br, 1, none⟩) 32 32] ∧ s = [(bq, Cel (ints (toB 32 (x / y))) 3)] ++ [(br, Cel (ints (toB 33 (x % y))) 3)]
set_option maxHeartbeats 2000000 in
theorem parts_calls (A B : Option Addr) (c d x y : Nat) (w0 : World) (hA : Rd w0 A (ints (toB 32 x))) (hB : Rd w0 B (ints (toB 32 y))) (hx : x < 256 ^ 32) (hy : y < 256 ^ 32) (hy0 : 0 < y) : Ret Tryz.prog 62 [.slice A 32 c, .slice B 32 d] w0 [] (RetQ x y) := by
  refine fn_start Tryz.func62 rfl Tryz.ntmps62 rfl [(0, .slice A 32 c), (1, .slice B 32 d)] ⟨rfl, rfl, trivial⟩ ?_
  intro Q a hP hF hR hN
  have hS := St.start w0
  refine wp_seq_k fun K1 hK1 => ?_
  refine wp_region_lit ?_
  refine sv' hF (wn rfl) rfl rfl (R.assign (hF.ev rfl)) fun a hF => ?_
  refine sv' hF (wn rfl) rfl rfl (R.assign (hF.ev rfl)) fun a hF => ?_
  refine s0 ?_
  refine then_n (hK1 _ _ ?_)
  refine wp_seq_k fun K2 hK2 => ?_
  refine wp_region_lit ?_
  refine so (wn rfl) (O.makeSlice rfl rfl hF Tryz.underlying61 inf3 rfl rfl (hF.ev rfl) (hF.ev rfl) (by omega) (by omega) (by omega) (by omega) hS fun b13 a w hF hS => ?_)
  rw [show zeros [Value.int .i64 0] (Int.toNat 32) = ints (toB 32 (quoT x y 0)) from by (rw [quoT_0 (p256_32 ▸ hx), ← toB_0]; exact zeros_ints 32)] at hS
  refine sv' hF (wn rfl) rfl rfl (R.assign (hF.ev rfl)) fun a hF => ?_
  refine s0 ?_
  refine then_n (hK2 _ _ ?_)
  refine wp_seq_k fun K3 hK3 => ?_
  refine wp_region_lit ?_
  refine so (wn rfl) (O.makeSlice rfl rfl hF Tryz.underlying61 inf3 rfl rfl (hF.ev rfl) (hF.ev rfl) (by omega) (by omega) (by omega) (by omega) hS fun b14 a w hF hS => ?_)
  rw [show zeros [Value.int .i64 0] (Int.toNat 33) = ints (toB 33 (remT x y 0)) from by (rw [remT_0 (p256_32 ▸ hx), ← toB_0]; exact zeros_ints 33)] at hS
  refine sv' hF (wn rfl) rfl rfl (R.assign (hF.ev rfl)) fun a hF => ?_
  refine s0 ?_
  refine then_n (hK3 _ _ ?_)
  refine wp_seq_k fun K4 hK4 => ?_
  refine wp_region_lit ?_
  refine so (wn rfl) (O.buildSlice (l := ints [0]) rfl rfl hF Tryz.underlying61 inf3 rfl rfl (hF.evp rfl) (by decide) rfl hS fun b15 a w hF hS => ?_)
  refine sv' hF (wn rfl) rfl rfl (R.move (hF.ev rfl)) fun a hF => ?_
  refine so (wn rfl) (O.appendO rfl rfl hF Tryz.underlying61 inf3 rfl rfl (by decide) (hF.ev rfl) (hF.ev rfl) hS (own_z1 b15) (fun _ => .h) (hB.old hS) (by rw [length_ints, length_toB]) (ints_one _) (by unfold maxLen; omega) (by omega) fun A17 c17 s17 a w hO17 hF hS => ?_)
  rw [show 1 + 32 = 33 from rfl] at hF hO17; rw [toB_33 hy] at hO17
  refine sv' hF (wn rfl) rfl rfl (R.assign (hF.ev rfl)) fun a hF => ?_
  refine s0 ?_
  refine then_n (hK4 _ _ ?_)
  refine wp_seq_k fun K5 hK5 => ?_
  refine wp_seq_k fun K6 hK6 => ?_
  refine wp_region_lit ?_
  refine sv' hF (wn rfl) rfl rfl (R.assign (hF.ev rfl)) fun a hF => ?_
  refine s0 ?_
  refine then_n (hK6 _ _ ?_)
  refine wp_block ?_
  refine wp_loop_N (fun g a w => ∃ (i : Nat) (br : Nat), 256 - i = g ∧ Fr 77 [(0, .slice A 32 c), (6, .slice (some ⟨b13, 0, none⟩) 32 32), (7, .slice (some ⟨br, 0, none⟩) 33 33), (8, .slice A17 33 c17), (9, .int .i64 ((i : Nat) : Int))] a ∧ St w0 [] [[(br, Cel (ints (toB 33 (remT x y i))) 3)], [(b13, Cel (ints (toB 32 (quoT x y i))) 3)], s17] w ∧ (i ≤ 256)) (256 - 0) ?_ ?_
  · exact ⟨0, b14, rfl, hF.sub ⟨rfl, rfl, rfl, rfl, rfl, trivial⟩, hS.sel [1, 2, 0] rfl rfl, by omega⟩
  · rintro KL1 g a w ⟨i, br, hg1, hF, hS, hi⟩ hKL1
    have hbt := bit2_le x (255 - i); have hrl := remT_lt (x := x) (i := i) hy0
    refine wp_seq_k fun K7 hK7 => ?_
    refine wp_seq_k fun K8 hK8 => ?_
    refine wp_region_lit ?_
    refine sv' hF (wn rfl) rfl rfl (R.move (hF.ev rfl)) fun a hF => ?_
    refine sv' hF (wn rfl) rfl rfl (R.lss (hF.ev rfl) (hF.ev rfl)) fun a hF => ?_
    refine s0 ?_
    refine then_n (hK8 _ _ ?_)
    refine cD hF rfl (fun c1 => ?_) (fun c1 => ?_)
    ·
      refine wp_skip ?_
      refine then_n (hK7 _ _ ?_)
      refine wp_seq_k fun K9 hK9 => ?_
      refine wp_block ?_
      refine wp_seq_k fun K10 hK10 => ?_
      refine wp_region_lit ?_
      refine sv' hF (wn rfl) rfl rfl (R.move (hF.ev rfl)) fun a hF => ?_
      refine sv' hF (wn rfl) rfl rfl (R.move (hF.ev rfl)) fun a hF => ?_
      refine sv' hF (wn rfl) rfl rfl (R.quoI (hF.ev rfl) (hF.ev rfl) (by omega)) fun a hF => ?_
      refine sv' hF (wn rfl) rfl rfl (R.indexO Tryz.underlying61 sz3 (hF.ev rfl) (Rd.ne hA (by rw [length_ints, length_toB]; omega)) (hF.ev rfl) (by omega) (by omega)) fun a hF => ?_
      refine sv' hF (wn rfl) rfl rfl (R.loadO one3 (hF.ev rfl) (hA.old hS) (ints_getT (t := 31 - i / 8) (by omega) (by omega))) fun a hF => ?_
      refine sv' hF (wn rfl) rfl rfl (R.move (hF.ev rfl)) fun a hF => ?_
      refine sv' hF (wn rfl) rfl rfl (R.remI (hF.ev rfl) (hF.ev rfl) (by omega)) fun a hF => ?_
      refine sv' hF (wn rfl) rfl rfl (R.subI (hF.ev rfl) (hF.ev rfl) (by omega)) fun a hF => ?_
      refine sv' hF (wn rfl) rfl rfl (R.shrI (m := 7 - i % 8) (hF.ev rfl) ((hF.ev rfl).trans (congrArg (Value.int .i64) (by omega))) (by omega)) fun a hF => ?_
      refine sv' hF (wn rfl) rfl rfl (R.as (u := .int .i64 ((x / 2 ^ (255 - i) % 2 : Nat) : Int)) (R.andI (q := 1) (hF.ev rfl) (hF.ev rfl) (Nat.lt_of_le_of_lt (Nat.div_le_self _ _) (by omega)) (by decide)) (congrArg (fun z : Nat => Value.int .i64 (z : Int)) (by rw [Nat.and_one_is_mod, bit_of (by omega)]))) fun a hF => ?_
      refine sv' hF (wn rfl) rfl rfl (R.assign (hF.ev rfl)) fun a hF => ?_
      refine s0 ?_
      refine then_n (hK10 _ _ ?_)
      refine wp_seq_k fun K11 hK11 => ?_
      refine wp_seq_k fun K12 hK12 => ?_
      refine wp_region_lit ?_
      refine sv' hF (wn rfl) rfl rfl (R.assign (hF.ev rfl)) fun a hF => ?_
      refine s0 ?_
      refine then_n (hK12 _ _ ?_)
      refine wp_block ?_
      refine wp_loop_N (fun g a w => ∃ (k : Nat), 33 - k = g ∧ Fr 77 [(0, .slice A 32 c), (6, .slice (some ⟨b13, 0, none⟩) 32 32), (7, .slice (some ⟨br, 0, none⟩) 33 33), (8, .slice A17 33 c17), (9, .int .i64 ((i : Nat) : Int)), (10, .int .i64 ((x / 2 ^ (255 - i) % 2 : Nat) : Int)), (11, .int .i64 ((k : Nat) : Int))] a ∧ St w0 [] [[(br, Cel (ints (mixL (toB 33 (2 * remT x y i + x / 2 ^ (255 - i) % 2)) (toB 33 (remT x y i)) k)) 3)], [(b13, Cel (ints (toB 32 (quoT x y i))) 3)], s17] w ∧ (k ≤ 33)) (33 - 0) ?_ ?_
      · exact ⟨0, rfl, hF.sub ⟨rfl, rfl, rfl, rfl, rfl, rfl, rfl, trivial⟩, hS.sel [0, 1, 2] rfl (by rw [mixB_0]; rfl), by omega⟩
      · rintro KL2 g a w ⟨k, hg2, hF, hS, hk⟩ hKL2
        refine wp_seq_k fun K13 hK13 => ?_
        refine wp_seq_k fun K14 hK14 => ?_
        refine wp_region_lit ?_
        refine sv' hF (wn rfl) rfl rfl (R.move (hF.ev rfl)) fun a hF => ?_
        refine sv' hF (wn rfl) rfl rfl (R.lss (hF.ev rfl) (hF.ev rfl)) fun a hF => ?_
        refine s0 ?_
        refine then_n (hK14 _ _ ?_)
        refine cD hF rfl (fun c2 => ?_) (fun c2 => ?_)
        ·
          refine wp_skip ?_
          refine then_n (hK13 _ _ ?_)
          refine wp_seq_k fun K15 hK15 => ?_
          refine wp_block ?_
          refine wp_seq_k fun K16 hK16 => ?_
          refine wp_region_lit ?_
          refine sv' hF (wn rfl) rfl rfl (R.assign (hF.ev rfl)) fun a hF => ?_
          refine s0 ?_
          refine then_n (hK16 _ _ ?_)
          refine wp_seq_k fun K17 hK17 => ?_
          have hK17' : ∀ a w, (Fr 77 [(0, .slice A 32 c), (6, .slice (some ⟨b13, 0, none⟩) 32 32), (7, .slice (some ⟨br, 0, none⟩) 33 33), (8, .slice A17 33 c17), (9, .int .i64 ((i : Nat) : Int)), (10, .int .i64 ((x / 2 ^ (255 - i) % 2 : Nat) : Int)), (11, .int .i64 ((k : Nat) : Int)), (12, .int .i64 (((if 0 < 32 - k then remT x y i / 256 ^ (32 - k - 1) % 256 / 128 else x / 2 ^ (255 - i) % 2) : Nat) : Int))] a ∧ St w0 [] [[(br, Cel (ints (mixL (toB 33 (2 * remT x y i + x / 2 ^ (255 - i) % 2)) (toB 33 (remT x y i)) k)) 3)], [(b13, Cel (ints (toB 32 (quoT x y i))) 3)], s17] w) → K17 a w := by
            rintro a w ⟨hF, hS⟩
            refine hK17 _ _ ?_
            have hup : (if 0 < 32 - k then remT x y i / 256 ^ (32 - k - 1) % 256 / 128 else x / 2 ^ (255 - i) % 2) ≤ 1 := by split <;> omega
            refine wp_region_lit ?_
            refine sv' hF (wn rfl) rfl rfl (R.move (hF.ev rfl)) fun a hF => ?_
            refine sv' hF (wn rfl) rfl rfl (R.move (hF.ev rfl)) fun a hF => ?_
            refine sv' hF (wn rfl) rfl rfl (R.move (hF.ev rfl)) fun a hF => ?_
            refine sv' hF (wn rfl) rfl rfl (R.move (hF.ev rfl)) fun a hF => ?_
            refine sv' hF (wn rfl) rfl rfl (R.indexS Tryz.underlying61 sz3 (hF.ev rfl) (hF.ev rfl) (by omega) (by omega)) fun a hF => ?_
            refine sv' hF (wn rfl) rfl rfl (R.load one3 (hF.ev rfl) hS .h (mixB_get (i := k) (by omega) (by omega) (by omega))) fun a hF => ?_
            refine sv' hF (wn rfl) rfl rfl (R.remI (hF.ev rfl) (hF.ev rfl) (by omega)) fun a hF => ?_
            refine sv' hF (wn rfl) rfl rfl (R.mulI (hF.ev rfl) (hF.ev rfl) (by omega)) fun a hF => ?_
            refine sv' hF (wn rfl) rfl rfl (R.move (hF.ev rfl)) fun a hF => ?_
            refine sv' hF (wn rfl) rfl rfl (R.addI (hF.ev rfl) (hF.ev rfl) (by omega)) fun a hF => ?_
            refine sv' hF (wn rfl) rfl rfl (R.indexS Tryz.underlying61 sz3 (hF.ev rfl) (hF.ev rfl) (by omega) (by omega)) fun a hF => ?_
            refine so (wn rfl) (O.store sz3 (hF.ev rfl) (hF.ev rfl) rfl rfl hS .h (mixB_set (b := x / 2 ^ (255 - i) % 2) (d := remT x y i / 256 ^ (32 - k) % 256 % 128 * 2 + (if 0 < 32 - k then remT x y i / 256 ^ (32 - k - 1) % 256 / 128 else x / 2 ^ (255 - i) % 2)) rfl hbt (by omega) rfl (by omega) (congrArg (Value.int .i64) (by omega))) (by rw [length_ints, length_mixL (length_toB 33 _) (length_toB 33 _) (by omega)]; omega) fun w hS => ?_)
            refine s0 ?_
            refine blk_n ?_
            refine then_n (hK15 _ _ ?_)
            refine wp_region_lit ?_
            refine sv' hF (wn rfl) rfl rfl (R.move (hF.ev rfl)) fun a hF => ?_
            refine sv' hF (wn rfl) rfl rfl (R.addI (hF.ev rfl) (hF.ev rfl) (by omega)) fun a hF => ?_
            refine sv' hF (wn rfl) rfl rfl (R.assign (hF.ev rfl)) fun a hF => ?_
            refine s0 ?_
            refine then_n (hKL2 (33 - (k + 1)) _ _ ?_ ?_)
            · omega
            · exact ⟨k + 1, rfl, hF.sub ⟨rfl, rfl, rfl, rfl, rfl, rfl, (congrArg (fun z => some (Value.int .i64 z)) (by omega)), trivial⟩, hS.sel [0, 1, 2] rfl rfl, by omega⟩
          refine wp_seq_k fun K18 hK18 => ?_
          refine wp_region_lit ?_
          refine sv' hF (wn rfl) rfl rfl (R.move (hF.ev rfl)) fun a hF => ?_
          refine sv' hF (wn rfl) rfl rfl (R.lss (hF.ev rfl) (hF.ev rfl)) fun a hF => ?_
          refine s0 ?_
          refine then_n (hK18 _ _ ?_)
          refine cD hF rfl (fun c3 => ?_) (fun c3 => ?_)
          ·
            refine wp_region_lit ?_
            refine sv' hF (wn rfl) rfl rfl (R.move (hF.ev rfl)) fun a hF => ?_
            refine sv' hF (wn rfl) rfl rfl (R.move (hF.ev rfl)) fun a hF => ?_
            refine sv' hF (wn rfl) rfl rfl (R.addI (hF.ev rfl) (hF.ev rfl) (by omega)) fun a hF => ?_
            refine sv' hF (wn rfl) rfl rfl (R.indexS Tryz.underlying61 sz3 (hF.ev rfl) (hF.ev rfl) (by omega) (by omega)) fun a hF => ?_
            refine sv' hF (wn rfl) rfl rfl (R.load one3 (hF.ev rfl) hS .h (mixB_get (i := k + 1) (by omega) (by omega) (by omega))) fun a hF => ?_
            refine sv' hF (wn rfl) rfl rfl (R.quoI (hF.ev rfl) (hF.ev rfl) (by omega)) fun a hF => ?_
            refine sv' hF (wn rfl) rfl rfl (R.assign (hF.ev rfl)) fun a hF => ?_
            refine s0 ?_
            exact then_n (hK17' _ _ ⟨hF.sub ⟨rfl, rfl, rfl, rfl, rfl, rfl, rfl, (congrArg (fun z => some (Value.int .i64 z)) (by have := up_T (R := remT x y i) (b := x / 2 ^ (255 - i) % 2) (k := k) (by omega); omega)), trivial⟩, hS.sel [0, 1, 2] rfl rfl⟩)
          ·
            refine wp_region_lit ?_
            refine sv' hF (wn rfl) rfl rfl (R.move (hF.ev rfl)) fun a hF => ?_
            refine sv' hF (wn rfl) rfl rfl (R.assign (hF.ev rfl)) fun a hF => ?_
            refine s0 ?_
            exact then_n (hK17' _ _ ⟨hF.sub ⟨rfl, rfl, rfl, rfl, rfl, rfl, rfl, (congrArg (fun z : Nat => some (Value.int .i64 (z : Int))) (up_F (k := k) (by omega))), trivial⟩, hS.sel [0, 1, 2] rfl rfl⟩)
        ·
          obtain rfl : k = 33 := by omega
          rw [mixB_33] at hS
          refine wp_exit (then_x (then_x (blk_hit ?_)))
          refine then_n (hK11 _ _ ?_)
          refine wp_seq_k fun K19 hK19 => ?_
          refine wp_region_lit ?_
          refine sv' hF (wn rfl) rfl rfl (R.move (hF.ev rfl)) fun a hF => ?_
          refine sv' hF (wn rfl) rfl rfl (R.move (hF.ev rfl)) fun a hF => ?_
          refine so (wn rfl) (O.call rfl rfl hF ent97 (hF.evs rfl) hS (cmpB_calls (some ⟨br, 0, none⟩) A17 33 33 c17 (2 * remT x y i + x / 2 ^ (255 - i) % 2) y w (Rd.own0 hS .h) (hO17.rd hS (.t (.t .h))) (by decide) (two_33 hrl hy hbt) (lt_33 hy)) fun v s58 a w hR hF hS => ?_)
          obtain ⟨rfl, rfl⟩ := hR
          refine sv' hF (wn rfl) rfl rfl (R.geq (hF.ev rfl) (hF.ev rfl)) fun a hF => ?_
          refine s0 ?_
          refine then_n (hK19 _ _ ?_)
          refine cD hF rfl (fun c4 => ?_) (fun c4 => ?_)
          ·
            have hc := cmpV_ge.1 c4
            refine wp_seq_k fun K20 hK20 => ?_
            refine wp_region_lit ?_
            refine sv' hF (wn rfl) rfl rfl (R.move (hF.ev rfl)) fun a hF => ?_
            refine sv' hF (wn rfl) rfl rfl (R.move (hF.ev rfl)) fun a hF => ?_
            refine so (wn rfl) (O.call rfl rfl hF ent98 (hF.evs rfl) hS (lessB_calls (some ⟨br, 0, none⟩) A17 33 33 c17 (2 * remT x y i + x / 2 ^ (255 - i) % 2) y w (Rd.own0 hS (.t .h)) (hO17.rd hS (.t (.t (.t .h)))) (by decide) hc) fun v s62 a w hR hF hS => ?_)
            obtain ⟨b62, rfl, rfl⟩ := hR
            refine sv' hF (wn rfl) rfl rfl (R.assign (hF.ev rfl)) fun a hF => ?_
            refine s0 ?_
            refine then_n (hK20 _ _ ?_)
            refine wp_drawS hS [(0, 0), (1, 0), (2, 0), (3, 0), (4, 1), (5, 0), (6, 0), (7, 0), (8, 0), (9, 0), (10, 0), (11, 3)] mix (by kernel_rfl) (hP.then.block.then.then.block) fun w hS => ?_
            have hD := hS
            refine dq hF rfl (wn rfl) rfl rfl (fun w => R.move (hF.ev rfl)) fun a hF => ?_
            refine dq hF rfl (wn rfl) rfl rfl (fun w => R.move (hF.ev rfl)) fun a hF => ?_
            refine dq hF rfl (wn rfl) rfl rfl (fun w => R.quoI (hF.ev rfl) (hF.ev rfl) (by omega)) fun a hF => ?_
            refine dq hF rfl (wn rfl) rfl rfl (fun w => R.indexS Tryz.underlying61 sz3 (hF.ev rfl) (hF.ev rfl) (by omega) (by omega)) fun a hF => ?_
            refine dr hF rfl (wn rfl) rfl rfl hD (fun w hD => R.load one3 (hF.ev rfl) hD (.t (.t (.t .h))) (ints_getT (t := 31 - i / 8) (by omega) (by omega))) fun a hF => ?_
            refine dq hF rfl (wn rfl) rfl rfl (fun w => R.move (hF.ev rfl)) fun a hF => ?_
            refine dq hF rfl (wn rfl) rfl rfl (fun w => R.remI (hF.ev rfl) (hF.ev rfl) (by omega)) fun a hF => ?_
            refine dq hF rfl (wn rfl) rfl rfl (fun w => R.subI (hF.ev rfl) (hF.ev rfl) (by omega)) fun a hF => ?_
            refine dq hF rfl (wn rfl) rfl rfl (fun w => R.shlI (p := 1) (m := 7 - i % 8) (hF.ev rfl) ((hF.ev rfl).trans (congrArg (Value.int .i64) (by omega))) (by omega) (by rw [Nat.one_mul]; exact Nat.lt_of_le_of_lt (Nat.pow_le_pow_right (by decide) (show 7 - i % 8 ≤ 7 by omega)) (by decide))) fun a hF => ?_
            refine dq hF rfl (wn rfl) rfl rfl (fun w => R.as (u := .int .i64 ((quoT x y i / 256 ^ (31 - i / 8) % 256 + 2 ^ (7 - i % 8) : Nat) : Int)) (R.orI (hF.ev rfl) (hF.ev rfl) (by omega) (by rw [Nat.one_mul]; exact Nat.lt_of_le_of_lt (Nat.pow_le_pow_right (by decide) (show 7 - i % 8 ≤ 7 by omega)) (by decide))) (congrArg (fun z : Nat => Value.int .i64 (z : Int)) (by rw [Nat.one_mul, quoT_or (by omega)]))) fun a hF => ?_
            refine dq hF rfl (wn rfl) rfl rfl (fun w => R.indexS Tryz.underlying61 sz3 (hF.ev rfl) (hF.ev rfl) (by omega) (by omega)) fun a hF => ?_
            refine dw rfl (wn rfl) (O.store sz3 (hF.ev rfl) (hF.ev rfl) rfl rfl hS (.t (.t (.t .h))) (ints_setB (k := 32) (t := 31 - i / 8) (e := quoT x y i / 256 ^ (31 - i / 8) % 256 + 2 ^ (7 - i % 8)) (by omega) (quoT_lt (by omega)) (by omega) rfl) (by rw [length_ints, length_toB]; omega) fun w hS => ?_)
            rw [quoT_set (by omega)] at hS
            refine d0 ?_
            refine blk_n ?_
            refine then_n (hK9 _ _ ?_)
            refine wp_region_lit ?_
            refine sv' hF (wn rfl) rfl rfl (R.move (hF.ev rfl)) fun a hF => ?_
            refine sv' hF (wn rfl) rfl rfl (R.addI (hF.ev rfl) (hF.ev rfl) (by omega)) fun a hF => ?_
            refine sv' hF (wn rfl) rfl rfl (R.assign (hF.ev rfl)) fun a hF => ?_
            refine s0 ?_
            refine then_n (hKL1 (256 - (i + 1)) _ _ ?_ ?_)
            · omega
            · exact ⟨i + 1, b62, rfl, hF.sub ⟨rfl, rfl, rfl, rfl, (congrArg (fun z => some (Value.int .i64 z)) (by omega)), trivial⟩, hS.sel [0, 3, 4] rfl (by first | (rw [rem_T hy0 (by omega) hc, quo_T hy0 (by omega) hc]; rfl) | (rw [rem_F hy0 (by omega) hc, quo_F hy0 (by omega) hc]; rfl)), by omega⟩
          ·
            have hc : ¬ y ≤ (2 * remT x y i + x / 2 ^ (255 - i) % 2) := fun h => c4 (cmpV_ge.2 h)
            refine wp_skip ?_
            refine blk_n ?_
            refine then_n (hK9 _ _ ?_)
            refine wp_region_lit ?_
            refine sv' hF (wn rfl) rfl rfl (R.move (hF.ev rfl)) fun a hF => ?_
            refine sv' hF (wn rfl) rfl rfl (R.addI (hF.ev rfl) (hF.ev rfl) (by omega)) fun a hF => ?_
            refine sv' hF (wn rfl) rfl rfl (R.assign (hF.ev rfl)) fun a hF => ?_
            refine s0 ?_
            refine then_n (hKL1 (256 - (i + 1)) _ _ ?_ ?_)
            · omega
            · exact ⟨i + 1, br, rfl, hF.sub ⟨rfl, rfl, rfl, rfl, (congrArg (fun z => some (Value.int .i64 z)) (by omega)), trivial⟩, hS.sel [1, 2, 3] rfl (by first | (rw [rem_T hy0 (by omega) hc, quo_T hy0 (by omega) hc]; rfl) | (rw [rem_F hy0 (by omega) hc, quo_F hy0 (by omega) hc]; rfl)), by omega⟩
    ·
      obtain rfl : i = 256 := by omega
      rw [quoT_end, remT_end] at hS
      refine wp_exit (then_x (then_x (blk_hit ?_)))
      refine then_n (hK5 _ _ ?_)
      refine wp_seq_k fun K21 hK21 => ?_
      refine wp_drawS hS [(0, 0), (1, 0), (2, 0), (3, 0), (4, 0)] mix (by kernel_rfl) (hP.then) fun w hS => ?_
      have hD := hS
      refine dq hF rfl (wn rfl) rfl rfl (fun w => R.move (hF.ev rfl)) fun a hF => ?_
      refine dq hF rfl (wn rfl) rfl rfl (fun w => R.move (hF.ev rfl)) fun a hF => ?_
      refine dq hF rfl (wn rfl) rfl rfl (fun w => R.as (u := .slice (some ⟨br, 1, none⟩) 32 32) (R.sliceLo (p := 1) Tryz.underlying61 (hF.ev rfl) (hF.ev rfl) (by decide) sz3) (rfl)) fun a hF => ?_
      refine dq hF rfl (wn rfl) rfl rfl (fun w => R.assign (hF.ev rfl)) fun a hF => ?_
      refine dq hF rfl (wn rfl) rfl rfl (fun w => R.assign (hF.ev rfl)) fun a hF => ?_
      refine d0 ?_
      refine then_n (hK21 _ _ ?_)
      refine wp_ret (hR _ _ _ _ _ hF (run_results Tryz.results62 (.t hF rfl (.t hF rfl (.nil)))) ?_)
      exact ⟨_, _, rfl, ⟨b13, br, rfl, rfl⟩, ((hS.sel [1, 0] rfl rfl).flat (bs' := [_ ++ _]) (by simp [selS])).one .h⟩
end Go.Proofs.YtlapmbkfmbkdoaaGreatDoor
end
section
namespace Go.Proofs.YtlapmbkfmbkdoaaGreatDoor
open Go Go.Fw Go.RowKit
attribute [local irreducible] Go.Oper.wp Go.Code.wp Go.wpList Go.Fw.WL Go.Calls
theorem number32 (A : Option Addr) (c v : Nat) (w0 : World) (hA : Rd w0 A (ints (toB 32 v))) : Ret Tryz.prog 29 [.slice A 32 c] w0 [] (fun u s => u = wv (v % 256 ^ 32) ∧ s = []) := by
  have := number_calls A c (toB 32 v) w0 hA toB_lt (by rw [length_toB]; decide)
  rwa [length_toB, numB_toB] at this
theorem M256 : (256 : Nat) ^ 32 = 115792089237316195423570985008687907853269984665640564039457584007913129639936 := by decide
end Go.Proofs.YtlapmbkfmbkdoaaGreatDoor
end
section
namespace Go.Proofs.YtlapmbkfmbkdoaaGreatDoor
open Go Go.Fw Go.RowKit
section
variable {F : Fx} {stk : List Nat} {left p : Nat} {asks : List Fw.Ask}
end
theorem sz_push {xs : List Nat} {p : Nat} (h : sizeN xs p ≠ 0) (hc : cAt xs p = 2) : sizeN xs p = 2 + cAt xs (p + 1) ∧ 1 ≤ cAt xs (p + 1) ∧ cAt xs (p + 1) ≤ 32 := by
  revert h; unfold sizeN
  repeat' split
  all_goals omega
theorem sz_two {xs : List Nat} {p : Nat} (h : sizeN xs p ≠ 0) (hc : cAt xs p = 4 ∨ cAt xs p = 5 ∨ cAt xs p = 16) : sizeN xs p = 2 := by
  revert h; unfold sizeN
  repeat' split
  all_goals omega
theorem sz_three {xs : List Nat} {p : Nat} (h : sizeN xs p ≠ 0) (hc : cAt xs p = 14 ∨ cAt xs p = 15) : sizeN xs p = 3 := by
  revert h; unfold sizeN
  repeat' split
  all_goals omega
theorem number_n (A : Option Addr) (n c : Nat) (xs : List Nat) (w0 : World) (hA : Rd w0 A (ints xs)) (hB : Byt xs) (hl : n ≤ 32) (hn : xs.length = n) : Ret Tryz.prog 29 [.slice A n c] w0 [] (fun v s => v = wv (numB xs) ∧ s = []) := by
  subst hn; exact number_calls A c xs w0 hA hB hl
end Go.Proofs.YtlapmbkfmbkdoaaGreatDoor
end
section
namespace Go.Proofs.YtlapmbkfmbkdoaaGreatDoor
open Go Go.Fw Go.RowKit
attribute [local irreducible] Go.Oper.wp Go.Code.wp Go.wpList Go.Fw.WL Go.Calls
end Go.Proofs.YtlapmbkfmbkdoaaGreatDoor
end
section
namespace Go.Proofs.YtlapmbkfmbkdoaaGreatDoor
open Go Go.Fw Go.RowKit
attribute [local irreducible] Go.Oper.wp Go.Code.wp Go.wpList Go.Fw.WL Go.Calls
theorem bstr_app (xs ys : List Nat) : bstr xs ++ bstr ys = bstr (xs ++ ys) := by
  apply ByteArray.ext
  simp [bstr]
theorem R.addS {P : Program} {w : World} {ρ : Operand → Value} {dst : Option Tmp} {ty : TypeId} {pos : String} {af : Array Edge} {g : Option (Nat × Bool)} {x y : Operand} {T T' : TypeId} {s t : ByteArray} (hx : ρ x = .string s) (hy : ρ y = .string t) (h : s.size + t.size ≤ 9223372036854775807) :
    (execOp ρ ⟨dst, .binOp .add T x y T', ty, pos, af, g⟩).run P w = .ok (.value (.string (s ++ t))) w := by
  have h2 : ¬ (((s.size + t.size : Nat) : Int) > IntKind.i64.max) := by
    have : IntKind.i64.max = 9223372036854775807 := rfl
    omega
  have hv : (Op.stringOp .add s t).run P w = .ok (.string (s ++ t)) w := by
    unfold Op.stringOp
    simp only [if_neg h2, Sem.run_pure]
  simp [execOp, hx, hy, eqGuard, binOp, hv, Sem.run_bind]
theorem R.catS {P : Program} {w : World} {ρ : Operand → Value} {dst : Option Tmp} {ty : TypeId} {pos : String} {af : Array Edge} {g : Option (Nat × Bool)} {x y : Operand} {T T' : TypeId} {xs ys : List Nat} (hx : ρ x = .string (bstr xs)) (hy : ρ y = .string (bstr ys)) (h : xs.length + ys.length ≤ 9223372036854775807) :
    (execOp ρ ⟨dst, .binOp .add T x y T', ty, pos, af, g⟩).run P w = .ok (.value (.string (bstr (xs ++ ys)))) w := by
  rw [← bstr_app]
  exact R.addS hx hy (by rw [size_bstr, size_bstr]; exact h)
def decS (n : Nat) : List Nat := (dec n).reverse.map (48 + ·)
def ddS (n : Nat) : List Nat := (dd n).reverse.map (48 + ·)
theorem decS_0 : decS 0 = [48] := by unfold decS; rw [dec_0]; rfl
theorem decS_pos {n : Nat} (h : n ≠ 0) : decS n = ddS n := by unfold decS ddS dec; rw [if_neg h]
theorem ddS_0 : ddS 0 = [] := by unfold ddS; rw [dd_0]; rfl
theorem ddS_step {n : Nat} (h : n ≠ 0) : ddS n = ddS (n / 10) ++ [48 + n % 10] := by unfold ddS; rw [dd_pos h]; simp
theorem len_decS {n : Nat} (h : n < 115792089237316195423570985008687907853269984665640564039457584007913129639936) : (decS n).length ≤ 78 := by
  unfold decS
  rw [List.length_map, List.length_reverse]
  exact length_dec_le (Nat.lt_of_lt_of_le h (by decide)) (by decide)
theorem len_ddS {n : Nat} (h : n < 115792089237316195423570985008687907853269984665640564039457584007913129639936) : (ddS n).length ≤ 78 := by
  by_cases h0 : n = 0
  · rw [h0, ddS_0]; exact Nat.zero_le _
  · rw [← decS_pos h0]; exact len_decS h
def namesL : List (List Nat) := [[115, 116, 111, 112], [100, 111, 110, 101], [112, 117, 115, 104], [112, 111, 112], [100, 117, 112], [115, 119, 97, 112], [97, 100, 100], [115, 117, 98], [109, 117, 108], [100, 105, 118], [109, 111, 100], [108, 101, 115, 115], [115, 97, 109, 101], [110, 111, 116], [106, 117, 109, 112], [119, 104, 101, 110], [97, 114, 103], [97, 114, 103, 115], [99, 97, 108, 108, 101, 114], [115, 101, 108, 102], [116, 111, 107, 101, 110], [97, 109, 111, 117, 110, 116], [116, 105, 109, 101], [103, 97, 115], [108, 111, 97, 100], [115, 97, 118, 101], [104, 97, 118, 101], [115, 101, 110, 100]]
def strs (l : List (List Nat)) : List Value := l.map fun x => .string (bstr x)
def nameN (c : Nat) : List Nat := namesL.getD c []
theorem strs_at {l : List (List Nat)} {i off : Nat} (h : i < l.length) (ho : off = i) : (strs l)[off]? = some (.string (bstr (l.getD i []))) := by
  subst ho; simp [strs, List.getD_eq_getElem?_getD, h]
def goN (code l : List Nat) (p : Nat) : Bool := l.any fun q => isJump code q && targetN code q == p
def operL (code : List Nat) (p : Nat) : List Nat :=
  if cAt code p = 2 then 32 :: decS (numB ((code.drop (p + 2)).take (sizeN code p - 2))) else
  if cAt code p = 4 ∨ cAt code p = 5 ∨ cAt code p = 16 then 32 :: decS (cAt code (p + 1)) else
  if cAt code p = 14 ∨ cAt code p = 15 then 32 :: 76 :: decS (targetN code p) else []
def labN (code l : List Nat) (p : Nat) : List Nat := if goN code l p then 76 :: (decS p ++ [58, 10]) else []
def lineN (code l : List Nat) (p : Nat) : List Nat := labN code l p ++ (nameN (cAt code p) ++ (operL code p ++ [10]))
def linesN (code l : List Nat) : List Nat → List Nat
  | [] => []
  | p :: r => lineN code l p ++ linesN code l r
def textN (code : List Nat) : List Nat := match placesN code with
  | some l => linesN code l l
  | none => []
theorem lines_snoc (code l : List Nat) (a : List Nat) (p : Nat) : linesN code l (a ++ [p]) = linesN code l a ++ lineN code l p := by
  induction a with
  | nil => simp [linesN]
  | cons x a ih => simp only [List.cons_append, linesN, ih, List.append_assoc]
theorem len_name (c : Nat) : (nameN c).length ≤ 6 := by
  by_cases h : c < 28
  · have : ∀ c, c < 28 → (nameN c).length ≤ 6 := by decide
    exact this c h
  · unfold nameN; rw [List.getD_eq_getElem?_getD, List.getElem?_eq_none (by show 28 ≤ c; omega)]; decide
theorem go_skip {code l : List Nat} {i p : Nat} (hi : i < l.length) (h : ¬ (isJump code (l.getD i 0) = true ∧ targetN code (l.getD i 0) = p)) : goN code (l.drop i) p = goN code (l.drop (i + 1)) p := by
  have hg : l.getD i 0 = l[i] := by rw [List.getD_eq_getElem?_getD, List.getElem?_eq_getElem hi]; rfl
  rw [hg] at h
  unfold goN
  rw [List.drop_eq_getElem_cons hi, List.any_cons]
  have : (isJump code l[i] && targetN code l[i] == p) = false := by
    rw [Bool.eq_false_iff]; intro h2
    simp only [Bool.and_eq_true, beq_iff_eq] at h2
    exact h h2
  rw [this, Bool.false_or]
theorem go_hit {code l : List Nat} {i p : Nat} (hi : i < l.length) (h : isJump code (l.getD i 0) = true ∧ targetN code (l.getD i 0) = p) : goN code (l.drop i) p = true := by
  have hg : l.getD i 0 = l[i] := by rw [List.getD_eq_getElem?_getD, List.getElem?_eq_getElem hi]; rfl
  rw [hg] at h
  unfold goN
  rw [List.drop_eq_getElem_cons hi, List.any_cons]
  simp [h.1, h.2]
theorem go_end {code l : List Nat} {i p : Nat} (hi : l.length ≤ i) : goN code (l.drop i) p = false := by rw [List.drop_of_length_le hi]; rfl
theorem isJ_iff {xs : List Nat} {q : Nat} : isJump xs q = true ↔ (cAt xs q = 14 ∨ cAt xs q = 15) := by simp [isJump]
theorem ten_div {a : Nat} (ha : a < 115792089237316195423570985008687907853269984665640564039457584007913129639936) : a / 10 % 256 ^ 32 = a / 10 := Nat.mod_eq_of_lt (by rw [M256]; omega)
theorem digit_at {a off : Nat} (ho : off = 31) : (ints (toB 32 (a % 10)))[off]? = some (.int .i64 ((a % 10 : Nat) : Int)) := by
  have := ints_getB (k := 32) (n := a % 10) (i := 31) (off := off) (by decide) ho
  rw [this]
  simp; omega
set_option maxHeartbeats 1000000 in
theorem decimals_calls (x : Nat) (w0 : World) (hx : x < 115792089237316195423570985008687907853269984665640564039457584007913129639936) : Ret Tryz.prog 28 [wv x] w0 [] (fun v s => v = .string (bstr (decS x)) ∧ s = []) := by
  refine fn_start Tryz.func28 rfl Tryz.ntmps28 rfl [(0, wv x)] ⟨rfl, trivial⟩ ?_
  intro Q a hP hF hR hN
  have hS := St.start w0
  refine wp_seq_k fun K1 hK1 => ?_
  refine wp_region_lit ?_
  refine so (wn rfl) (O.box rfl rfl hF (hF.ev rfl) rfl hS fun b1 a w hF hS => ?_)
  refine sv' hF (wn rfl) rfl rfl (R.assign (hF.ev rfl)) fun a hF => ?_
  refine s0 ?_
  refine then_n (hK1 _ _ ?_)
  refine wp_seq_k fun K2 hK2 => ?_
  refine wp_seq_k fun K3 hK3 => ?_
  refine wp_region_lit ?_
  refine sv' hF (wn rfl) rfl rfl (R.loadW agg32 (hF.ev rfl) hS .h sz32 (rfl)) fun a hF => ?_
  refine so (wn rfl) (O.call rfl rfl hF ent46 (hF.evs rfl) hS (nought_calls x w hx) fun v s8 a w hR hF hS => ?_)
  obtain ⟨rfl, rfl⟩ := hR
  refine s0 ?_
  refine then_n (hK3 _ _ ?_)
  refine cD hF rfl (fun c1 => ?_) (fun c1 => ?_)
  ·
    refine wp_seq_k fun K4 hK4 => ?_
    refine wp_region_lit ?_
    refine sv' hF (wn rfl) rfl rfl (R.assign (hF.ev rfl)) fun a hF => ?_
    refine s0 ?_
    refine then_n (hK4 _ _ ?_)
    refine wp_ret (then_r (hR _ _ _ _ _ hF (run_results Tryz.results28 (.t hF rfl (.nil))) ?_))
    exact ⟨_, [], rfl, ⟨by rw [c1, decS_0]; rfl, rfl⟩, hS.none⟩
  ·
    refine wp_skip ?_
    refine then_n (hK2 _ _ ?_)
    refine wp_seq_k fun K5 hK5 => ?_
    refine wp_region_lit ?_
    refine sv' hF (wn rfl) rfl rfl (R.assign (hF.ev rfl)) fun a hF => ?_
    refine s0 ?_
    refine then_n (hK5 _ _ ?_)
    refine wp_seq_k fun K6 hK6 => ?_
    refine wp_region_lit ?_
    refine sv' hF (wn rfl) rfl rfl (R.buildArr (l := [_, _, _, _]) Tryz.underlying32 ze32 sz30 (hF.evp rfl) rfl) fun a hF => ?_
    refine so (wn rfl) (O.call rfl rfl hF ent61 (hF.evs rfl) hS (dig_calls 10 w) fun v s10 a w hR hF hS => ?_)
    obtain ⟨b10, rfl, rfl⟩ := hR
    refine sv' hF (wn rfl) rfl rfl (R.assign (hF.ev rfl)) fun a hF => ?_
    refine s0 ?_
    refine then_n (hK6 _ _ ?_)
    refine wp_seq_k fun K7 hK7 => ?_
    refine wp_block ?_
    refine wp_loop_N (fun g a w => ∃ (a0 : Nat) (o : List Nat), a0 = g ∧ Fr 33 [(1, .pointer (some ⟨b1, 0, none⟩)), (3, .string (bstr (o))), (4, .slice (some ⟨b10, 0, none⟩) 32 32)] a ∧ St w0 [] [[(b10, Cel (ints (toB 32 10)) 3)], [(b1, Cel (wc a0) 32)]] w ∧ (a0 < 115792089237316195423570985008687907853269984665640564039457584007913129639936) ∧ (ddS x = ddS a0 ++ o)) (x) ?_ ?_
    · exact ⟨x, [], rfl, hF.sub ⟨rfl, rfl, rfl, trivial⟩, hS.sel [0, 2] rfl rfl, hx, by simp⟩
    · rintro KL1 g a w ⟨a0, o, hg1, hF, hS, ha, hdx⟩ hKL1
      have hol : o.length ≤ 78 := by (have h8 := congrArg List.length hdx; rw [List.length_append] at h8; have h9 := len_ddS hx; omega)
      refine wp_seq_k fun K8 hK8 => ?_
      refine wp_seq_k fun K9 hK9 => ?_
      refine wp_region_lit ?_
      refine sv' hF (wn rfl) rfl rfl (R.loadW agg32 (hF.ev rfl) hS (.t .h) sz32 (rfl)) fun a hF => ?_
      refine so (wn rfl) (O.call rfl rfl hF ent46 (hF.evs rfl) hS (nought_calls a0 w ha) fun v s12 a w hR hF hS => ?_)
      obtain ⟨rfl, rfl⟩ := hR
      refine sv' hF (wn rfl) rfl rfl ((by first | exact R.notD (hF.ev rfl) | exact R.not (hF.ev rfl))) fun a hF => ?_
      refine s0 ?_
      refine then_n (hK9 _ _ ?_)
      refine cD hF rfl (fun hz => ?_) (fun hz => ?_)
      ·
        refine wp_skip ?_
        refine then_n (hK8 _ _ ?_)
        refine wp_block ?_
        refine wp_seq_k fun K10 hK10 => ?_
        refine wp_region_lit ?_
        refine sv' hF (wn rfl) rfl rfl (R.loadW agg32 (hF.ev rfl) hS (.t (.t .h)) sz32 (rfl)) fun a hF => ?_
        refine so (wn rfl) (O.call rfl rfl hF ent61 (hF.evs rfl) hS (dig_calls a0 w) fun v s16 a w hR hF hS => ?_)
        obtain ⟨b16, rfl, rfl⟩ := hR
        refine sv' hF (wn rfl) rfl rfl (R.move (hF.ev rfl)) fun a hF => ?_
        refine so (wn rfl) (O.call rfl rfl hF ent62 (hF.evs rfl) hS (parts_calls (some ⟨b16, 0, none⟩) (some ⟨b10, 0, none⟩) 32 32 a0 10 w (Rd.own0 hS .h) (Rd.own0 hS (.t (.t .h))) (by rw [M256]; exact ha) (by decide) (by decide)) fun v s18 a w hR hF hS => ?_)
        obtain ⟨bq, br, rfl, rfl⟩ := hR
        refine sv' hF (wn rfl) rfl rfl (R.move (hF.ev rfl)) fun a hF => ?_
        refine sv' hF (wn rfl) rfl rfl (R.extract (hF.ev rfl) rfl) fun a hF => ?_
        refine sv' hF (wn rfl) rfl rfl (R.extract (hF.ev rfl) rfl) fun a hF => ?_
        refine sv' hF (wn rfl) rfl rfl (R.assign (hF.ev rfl)) fun a hF => ?_
        refine sv' hF (wn rfl) rfl rfl (R.assign (hF.ev rfl)) fun a hF => ?_
        refine s0 ?_
        refine then_n (hK10 _ _ ?_)
        refine wp_seq_k fun K11 hK11 => ?_
        have hS := St.split2 hS
        refine wp_region_lit ?_
        refine sv' hF (wn rfl) rfl rfl (R.move (hF.ev rfl)) fun a hF => ?_
        refine sv' hF (wn rfl) rfl rfl (R.indexO Tryz.underlying61 sz3 (hF.ev rfl) ((rd_tail (n := 32) (j := 1) (Rd.own0 hS (.t .h))).ne (by rw [length_ints, length_toB]; decide)) (hF.ev rfl) (by omega) (by omega)) fun a hF => ?_
        refine sv' hF (wn rfl) rfl rfl (R.loadO one3 (hF.ev rfl) (rd_tail (n := 32) (j := 1) (Rd.own0 hS (.t .h))) (digit_at (by omega))) fun a hF => ?_
        refine sv' hF (wn rfl) rfl rfl (R.addI (hF.ev rfl) (hF.ev rfl) (by omega)) fun a hF => ?_
        refine sv' hF (wn rfl) rfl rfl (R.as (u := .int .u8 ((48 + a0 % 10 : Nat) : Int)) (R.convB (p := 48 + a0 % 10) Tryz.underlying3 Tryz.underlying5 ((hF.ev rfl).trans (congrArg (Value.int .i64) (by omega)))) (congrArg (fun z : Nat => Value.int .u8 (z : Int)) (Nat.mod_eq_of_lt (by omega)))) fun a hF => ?_
        refine so (wn rfl) (O.buildSlice (l := [_]) rfl rfl hF Tryz.underlying22 inf5 rfl rfl (hF.evp rfl) (by decide) rfl hS fun b26 a w hF hS => ?_)
        refine sv' hF (wn rfl) rfl rfl (R.convStr (xs := [48 + a0 % 10]) Tryz.underlying22 Tryz.underlying5 Tryz.underlying9 (hF.ev rfl) (Rd.own0 (l := byts [48 + a0 % 10]) hS .h) rfl) fun a hF => ?_
        refine sv' hF (wn rfl) rfl rfl (R.move (hF.ev rfl)) fun a hF => ?_
        refine sv' hF (wn rfl) rfl rfl (R.catS (hF.ev rfl) (hF.ev rfl) (by simp only [List.length_cons, List.length_nil]; omega)) fun a hF => ?_
        refine sv' hF (wn rfl) rfl rfl (R.assign (hF.ev rfl)) fun a hF => ?_
        refine s0 ?_
        refine then_n (hK11 _ _ ?_)
        refine wp_region_lit ?_
        refine sv' hF (wn rfl) rfl rfl (R.move (hF.ev rfl)) fun a hF => ?_
        refine so (wn rfl) (O.call rfl rfl hF ent29 (hF.evs rfl) hS (number32 (some ⟨bq, 0, none⟩) 32 (a0 / 10) w (Rd.own0 hS (.t .h))) fun v s31 a w hR hF hS => ?_)
        obtain ⟨rfl, rfl⟩ := hR
        refine so (wn rfl) (O.storeW sz32 (hF.ev rfl) (hF.ev rfl) (rfl) rfl (by simp [Value.oneCell']) hS (.t (.t (.t (.t (.t (.t (.t .h))))))) (rfl) fun w hS => ?_)
        refine s0 ?_
        refine blk_n ?_
        refine then_n (hKL1 (a0 / 10) _ _ ?_ ?_)
        · omega
        · exact ⟨a0 / 10, _, rfl, hF.sub ⟨rfl, rfl, rfl, trivial⟩, hS.sel [6, 7] rfl (by rw [ten_div ha]; rfl), by omega, (by rw [hdx, ddS_step hz]; simp)⟩
      ·
        obtain rfl : a0 = 0 := Classical.not_not.1 hz
        refine wp_exit (then_x (then_x (blk_hit ?_)))
        refine then_n (hK7 _ _ ?_)
        refine wp_seq_k fun K12 hK12 => ?_
        refine wp_region_lit ?_
        refine sv' hF (wn rfl) rfl rfl (R.move (hF.ev rfl)) fun a hF => ?_
        refine sv' hF (wn rfl) rfl rfl (R.assign (hF.ev rfl)) fun a hF => ?_
        refine s0 ?_
        refine then_n (hK12 _ _ ?_)
        refine wp_ret (hR _ _ _ _ _ hF (run_results Tryz.results28 (.t hF rfl (.nil))) ?_)
        exact ⟨_, [], rfl, ⟨by rw [decS_pos c1, hdx, ddS_0]; rfl, rfl⟩, hS.none⟩
theorem plain_calls (m : Nat) (w0 : World) (hm : m < 18446744073709551616) : Ret Tryz.prog 26 [.int .i64 ((m : Nat) : Int)] w0 [] (fun v s => v = .string (bstr (decS m)) ∧ s = []) := by
  refine fn_start Tryz.func26 rfl Tryz.ntmps26 rfl [(0, .int .i64 ((m : Nat) : Int))] ⟨rfl, trivial⟩ ?_
  intro Q a hP hF hR hN
  have hS := St.start w0
  refine wp_seq_k fun K1 hK1 => ?_
  refine wp_region_lit ?_
  refine sv' hF (wn rfl) rfl rfl (R.assign (hF.ev rfl)) fun a hF => ?_
  refine s0 ?_
  refine then_n (hK1 _ _ ?_)
  refine wp_seq_k fun K2 hK2 => ?_
  refine wp_region_lit ?_
  refine sv' hF (wn rfl) rfl rfl (R.move (hF.ev rfl)) fun a hF => ?_
  refine so (wn rfl) (O.call rfl rfl hF ent60 (hF.evs rfl) hS (rcount_calls m _ (by omega)) fun v s4 a w hR hF hS => ?_)
  obtain ⟨rfl, rfl⟩ := hR
  refine so (wn rfl) (O.call rfl rfl hF ent28 (hF.evs rfl) hS (decimals_calls m w (by omega)) fun v s5 a w hR hF hS => ?_)
  obtain ⟨rfl, rfl⟩ := hR
  refine sv' hF (wn rfl) rfl rfl (R.assign (hF.ev rfl)) fun a hF => ?_
  refine s0 ?_
  refine then_n (hK2 _ _ ?_)
  refine wp_ret (hR _ _ _ _ _ hF (run_results Tryz.results26 (.t hF rfl (.nil))) ?_)
  exact ⟨_, [], rfl, ⟨rfl, rfl⟩, hS.none⟩
theorem name_calls (m : Nat) (w0 : World) (hm : m < 28) : Ret Tryz.prog 27 [.int .i64 ((m : Nat) : Int)] w0 [] (fun v s => v = .string (bstr (nameN m)) ∧ s = []) := by
  refine fn_start Tryz.func27 rfl Tryz.ntmps27 rfl [(0, .int .i64 ((m : Nat) : Int))] ⟨rfl, trivial⟩ ?_
  intro Q a hP hF hR hN
  have hS := St.start w0
  refine wp_seq_k fun K1 hK1 => ?_
  refine wp_region_lit ?_
  refine sv' hF (wn rfl) rfl rfl (R.assign (hF.ev rfl)) fun a hF => ?_
  refine s0 ?_
  refine then_n (hK1 _ _ ?_)
  refine wp_seq_k fun K2 hK2 => ?_
  refine wp_region_lit ?_
  refine so (wn rfl) (O.buildSlice (l := strs namesL) rfl rfl hF Tryz.underlying108 inf9 rfl rfl (hF.evp rfl) (by decide) rfl hS fun b4 a w hF hS => ?_)
  refine sv' hF (wn rfl) rfl rfl (R.assign (hF.ev rfl)) fun a hF => ?_
  refine s0 ?_
  refine then_n (hK2 _ _ ?_)
  refine wp_seq_k fun K3 hK3 => ?_
  refine wp_seq_k fun K4 hK4 => ?_
  refine wp_region_lit ?_
  refine sv' hF (wn rfl) rfl rfl (R.move (hF.ev rfl)) fun a hF => ?_
  refine sv' hF (wn rfl) rfl rfl (R.as (u := .bool false) (R.lss (p := ((m : Nat) : Int)) (q := 0) (hF.ev rfl) (hF.ev rfl)) (congrArg Value.bool (decide_eq_false (by omega)))) fun a hF => ?_
  refine sv' hF (wn rfl) rfl rfl (R.move (hF.ev rfl)) fun a hF => ?_
  refine sv' hF (wy hF rfl rfl rfl) rfl rfl (R.move (hF.ev rfl)) fun a hF => ?_
  refine sv' hF (wy hF rfl rfl rfl) rfl rfl (R.as (u := .bool false) (R.geq (p := ((m : Nat) : Int)) (q := 28) (hF.ev rfl) (hF.ev rfl)) (congrArg Value.bool (decide_eq_false (by omega)))) fun a hF => ?_
  refine sv' hF (wn rfl) rfl rfl (R.pickF (hF.ev rfl) (hF.ev rfl)) fun a hF => ?_
  refine s0 ?_
  refine then_n (hK4 _ _ ?_)
  refine cF hF rfl ?_
  refine wp_skip ?_
  refine then_n (hK3 _ _ ?_)
  refine wp_seq_k fun K5 hK5 => ?_
  refine wp_region_lit ?_
  refine sv' hF (wn rfl) rfl rfl (R.move (hF.ev rfl)) fun a hF => ?_
  refine sv' hF (wn rfl) rfl rfl (R.move (hF.ev rfl)) fun a hF => ?_
  refine sv' hF (wn rfl) rfl rfl (R.indexS Tryz.underlying108 sz9 (hF.ev rfl) (hF.ev rfl) (by omega) (by omega)) fun a hF => ?_
  refine sv' hF (wn rfl) rfl rfl (R.load one9 (hF.ev rfl) hS .h (strs_at (i := m) hm (by omega))) fun a hF => ?_
  refine sv' hF (wn rfl) rfl rfl (R.assign (hF.ev rfl)) fun a hF => ?_
  refine s0 ?_
  refine then_n (hK5 _ _ ?_)
  refine wp_ret (hR _ _ _ _ _ hF (run_results Tryz.results27 (.t hF rfl (.nil))) ?_)
  exact ⟨_, [], rfl, ⟨rfl, rfl⟩, hS.none⟩
set_option maxHeartbeats 1000000 in
theorem goes_calls (A : Option Addr) (n c : Nat) (xs : List Nat) (B : Option Addr) (d : Nat) (l : List Nat) (p : Nat) (w0 : World) (hA : Rd w0 A (byts xs)) (hn : xs.length = n) (hnc : n ≤ c) (hc : c ≤ 9223372036854775807) (hB : Byt xs) (hn2 : n ≤ 1024) (hL : Rd w0 B (ints l)) (hld : l.length ≤ 1000000) (hpl : ∀ q ∈ l, q < xs.length ∧ sizeN xs q ≠ 0) : Ret Tryz.prog 25 [.slice A n c, .slice B l.length d, .int .i64 ((p : Nat) : Int)] w0 [] (fun v s => v = .bool (goN xs l p) ∧ s = []) := by
  refine fn_start Tryz.func25 rfl Tryz.ntmps25 rfl [(0, .slice A n c), (1, .slice B l.length d), (2, .int .i64 ((p : Nat) : Int))] ⟨rfl, rfl, rfl, trivial⟩ ?_
  intro Q a hP hF hR hN
  have hS := St.start w0
  refine wp_seq_k fun K1 hK1 => ?_
  refine wp_region_lit ?_
  refine sv' hF (wn rfl) rfl rfl (R.assign (hF.ev rfl)) fun a hF => ?_
  refine s0 ?_
  refine then_n (hK1 _ _ ?_)
  refine wp_seq_k fun K2 hK2 => ?_
  refine wp_seq_k fun K3 hK3 => ?_
  refine wp_region_lit ?_
  refine sv' hF (wn rfl) rfl rfl (R.assign (hF.ev rfl)) fun a hF => ?_
  refine s0 ?_
  refine then_n (hK3 _ _ ?_)
  refine wp_block ?_
  refine wp_loop_N (fun g a w => ∃ (i : Nat), l.length - i = g ∧ Fr 39 [(0, .slice A n c), (1, .slice B l.length d), (2, .int .i64 ((p : Nat) : Int)), (7, .int .i64 ((i : Nat) : Int))] a ∧ St w0 [] [] w ∧ (i ≤ l.length) ∧ (goN xs (l.drop i) p = goN xs l p)) (l.length - 0) ?_ ?_
  · exact ⟨0, rfl, hF.sub ⟨rfl, rfl, rfl, rfl, trivial⟩, hS.sel [] rfl rfl, by omega, by rw [List.drop_zero]⟩
  · rintro KL1 g a w ⟨i, hg1, hF, hS, hi, hg2⟩ hKL1
    refine wp_seq_k fun K4 hK4 => ?_
    refine wp_seq_k fun K5 hK5 => ?_
    refine wp_region_lit ?_
    refine sv' hF (wn rfl) rfl rfl (R.move (hF.ev rfl)) fun a hF => ?_
    refine sv' hF (wn rfl) rfl rfl (R.move (hF.ev rfl)) fun a hF => ?_
    refine sv' hF (wn rfl) rfl rfl (R.len Tryz.underlying61 (hF.ev rfl)) fun a hF => ?_
    refine sv' hF (wn rfl) rfl rfl (R.lss (hF.ev rfl) (hF.ev rfl)) fun a hF => ?_
    refine s0 ?_
    refine then_n (hK5 _ _ ?_)
    refine cD hF rfl (fun c1 => ?_) (fun c1 => ?_)
    ·
      have hqm := hpl (l.getD i 0) (getD_mem (by omega)); obtain ⟨hql, hqs⟩ := hqm; have hcb := cAt_lt hB (l.getD i 0)
      refine wp_skip ?_
      refine then_n (hK4 _ _ ?_)
      refine wp_seq_k fun K6 hK6 => ?_
      refine wp_block ?_
      refine wp_seq_k fun K7 hK7 => ?_
      refine wp_region_lit ?_
      refine sv' hF (wn rfl) rfl rfl (R.move (hF.ev rfl)) fun a hF => ?_
      refine sv' hF (wn rfl) rfl rfl (R.move (hF.ev rfl)) fun a hF => ?_
      refine sv' hF (wn rfl) rfl rfl (R.move (hF.ev rfl)) fun a hF => ?_
      refine sv' hF (wn rfl) rfl rfl (R.indexO Tryz.underlying61 sz3 (hF.ev rfl) (Rd.ne hL (by rw [length_ints]; omega)) (hF.ev rfl) (by omega) (by omega)) fun a hF => ?_
      refine sv' hF (wn rfl) rfl rfl (R.loadO one3 (hF.ev rfl) (hL.old hS) (intsO (i := i) (by omega) (by omega))) fun a hF => ?_
      refine sv' hF (wn rfl) rfl rfl (R.indexO Tryz.underlying22 sz5 (hF.ev rfl) (Rd.ne hA (by rw [length_byts]; omega)) (hF.ev rfl) (by omega) (by omega)) fun a hF => ?_
      refine sv' hF (wn rfl) rfl rfl (R.loadO one5 (hF.ev rfl) (hA.old hS) (cb_at (i := (l.getD i 0)) (by omega) (by omega))) fun a hF => ?_
      refine sv' hF (wn rfl) rfl rfl (R.convI Tryz.underlying5 Tryz.underlying3 (hF.ev rfl) (by omega)) fun a hF => ?_
      refine sv' hF (wn rfl) rfl rfl (R.assign (hF.ev rfl)) fun a hF => ?_
      refine s0 ?_
      refine then_n (hK7 _ _ ?_)
      refine wp_seq_k fun K8 hK8 => ?_
      have hK8' : ∀ a w, (Fr 39 [(0, .slice A n c), (1, .slice B l.length d), (2, .int .i64 ((p : Nat) : Int)), (7, .int .i64 ((i : Nat) : Int)), (38, .bool (decide ((cAt xs (l.getD i 0) = 14 ∨ cAt xs (l.getD i 0) = 15) ∧ targetN xs (l.getD i 0) = p)))] a ∧ St w0 [] [] w) → K8 a w := by
        rintro a w ⟨hF, hS⟩
        refine hK8 _ _ ?_
        refine cD hF rfl (fun c2 => ?_) (fun c2 => ?_)
        ·
          refine wp_seq_k fun K9 hK9 => ?_
          refine wp_region_lit ?_
          refine sv' hF (wn rfl) rfl rfl (R.assign (hF.ev rfl)) fun a hF => ?_
          refine s0 ?_
          refine then_n (hK9 _ _ ?_)
          refine wp_ret (blk_r (then_r (then_r (blk_r (then_r (hR _ _ _ _ _ hF (run_results Tryz.results25 (.t hF rfl (.nil))) ?_))))))
          exact ⟨_, [], rfl, ⟨congrArg Value.bool (by rw [← hg2]; exact (go_hit (by omega) ⟨isJ_iff.2 c2.1, c2.2⟩).symm), rfl⟩, hS.none⟩
        ·
          refine wp_skip ?_
          refine blk_n ?_
          refine then_n (hK6 _ _ ?_)
          refine wp_region_lit ?_
          refine sv' hF (wn rfl) rfl rfl (R.move (hF.ev rfl)) fun a hF => ?_
          refine sv' hF (wn rfl) rfl rfl (R.addI (hF.ev rfl) (hF.ev rfl) (by omega)) fun a hF => ?_
          refine sv' hF (wn rfl) rfl rfl (R.assign (hF.ev rfl)) fun a hF => ?_
          refine s0 ?_
          refine then_n (hKL1 (l.length - (i + 1)) _ _ ?_ ?_)
          · omega
          · exact ⟨i + 1, rfl, hF.sub ⟨rfl, rfl, rfl, (congrArg (fun z => some (Value.int .i64 z)) (by omega)), trivial⟩, hS.sel [] rfl rfl, by omega, (go_skip (by omega) (fun h => c2 ⟨isJ_iff.1 h.1, h.2⟩)).symm.trans hg2⟩
      refine wp_region_lit ?_
      refine sv' hF (wn rfl) rfl rfl (R.move (hF.ev rfl)) fun a hF => ?_
      refine sv' hF (wn rfl) rfl rfl (R.eql (hF.ev rfl) (hF.ev rfl)) fun a hF => ?_
      refine sv' hF (wn rfl) rfl rfl (R.move (hF.ev rfl)) fun a hF => ?_
      refine hF.splitD (t := 25) rfl (fun h25 hF => ?_) (fun h25 hF => ?_)
      ·
        refine sk hF (ws hF rfl rfl rfl rfl) rfl rfl fun a hF => ?_
        refine sk hF (ws hF rfl rfl rfl rfl) rfl rfl fun a hF => ?_
        refine sv' hF (wn rfl) rfl rfl (R.pickT (hF.ev rfl) (hF.ev rfl)) fun a hF => ?_
        refine sv' hF (wn rfl) rfl rfl (R.move (hF.ev rfl)) fun a hF => ?_
        refine sv' hF (wy hF rfl rfl rfl) rfl rfl (R.move (hF.ev rfl)) fun a hF => ?_
        refine sv' hF (wy hF rfl rfl rfl) rfl rfl (R.move (hF.ev rfl)) fun a hF => ?_
        refine sv' hF (wy hF rfl rfl rfl) rfl rfl (R.move (hF.ev rfl)) fun a hF => ?_
        refine sv' hF (wy hF rfl rfl rfl) rfl rfl (R.indexO Tryz.underlying61 sz3 (hF.ev rfl) (Rd.ne hL (by rw [length_ints]; omega)) (hF.ev rfl) (by omega) (by omega)) fun a hF => ?_
        refine sv' hF (wy hF rfl rfl rfl) rfl rfl (R.loadO one3 (hF.ev rfl) (hL.old hS) (intsO (i := i) (by omega) (by omega))) fun a hF => ?_
        refine so (wy hF rfl rfl rfl) (O.call rfl rfl hF ent30 (hF.evs rfl) hS (rtarget_calls A n c xs (l.getD i 0) w (hA.old hS) hn hnc hc hB (by have := jump_size (xs := xs) (p := (l.getD i 0)) (by omega) hqs (isJ_iff.2 (by omega)); omega)) fun v s35 a w hR hF hS => ?_)
        obtain ⟨rfl, rfl⟩ := hR
        refine sv' hF (wy hF rfl rfl rfl) rfl rfl (R.move (hF.ev rfl)) fun a hF => ?_
        refine sv' hF (wy hF rfl rfl rfl) rfl rfl (R.eql (hF.ev rfl) (hF.ev rfl)) fun a hF => ?_
        refine sv' hF (wn rfl) rfl rfl (R.pickT (hF.ev rfl) (hF.ev rfl)) fun a hF => ?_
        refine s0 ?_
        exact then_n (hK8' _ _ ⟨hF.sub ⟨rfl, rfl, rfl, rfl, (congrArg (fun z => some (Value.bool z)) (by first | exact (decide_eq_true (by omega)).symm | exact (decide_eq_false (by omega)).symm | exact decide_eq_decide.2 (by omega))), trivial⟩, hS.sel [] rfl rfl⟩)
      ·
        refine sv' hF (wy hF rfl rfl rfl) rfl rfl (R.move (hF.ev rfl)) fun a hF => ?_
        refine sv' hF (wy hF rfl rfl rfl) rfl rfl (R.eql (hF.ev rfl) (hF.ev rfl)) fun a hF => ?_
        refine sv' hF (wn rfl) rfl rfl (R.pickF (hF.ev rfl) (hF.ev rfl)) fun a hF => ?_
        refine sv' hF (wn rfl) rfl rfl (R.move (hF.ev rfl)) fun a hF => ?_
        refine hF.splitD (t := 29) rfl (fun h29 hF => ?_) (fun h29 hF => ?_)
        ·
          refine sv' hF (wy hF rfl rfl rfl) rfl rfl (R.move (hF.ev rfl)) fun a hF => ?_
          refine sv' hF (wy hF rfl rfl rfl) rfl rfl (R.move (hF.ev rfl)) fun a hF => ?_
          refine sv' hF (wy hF rfl rfl rfl) rfl rfl (R.move (hF.ev rfl)) fun a hF => ?_
          refine sv' hF (wy hF rfl rfl rfl) rfl rfl (R.indexO Tryz.underlying61 sz3 (hF.ev rfl) (Rd.ne hL (by rw [length_ints]; omega)) (hF.ev rfl) (by omega) (by omega)) fun a hF => ?_
          refine sv' hF (wy hF rfl rfl rfl) rfl rfl (R.loadO one3 (hF.ev rfl) (hL.old hS) (intsO (i := i) (by omega) (by omega))) fun a hF => ?_
          refine so (wy hF rfl rfl rfl) (O.call rfl rfl hF ent30 (hF.evs rfl) hS (rtarget_calls A n c xs (l.getD i 0) w (hA.old hS) hn hnc hc hB (by have := jump_size (xs := xs) (p := (l.getD i 0)) (by omega) hqs (isJ_iff.2 (by omega)); omega)) fun v s35 a w hR hF hS => ?_)
          obtain ⟨rfl, rfl⟩ := hR
          refine sv' hF (wy hF rfl rfl rfl) rfl rfl (R.move (hF.ev rfl)) fun a hF => ?_
          refine sv' hF (wy hF rfl rfl rfl) rfl rfl (R.eql (hF.ev rfl) (hF.ev rfl)) fun a hF => ?_
          refine sv' hF (wn rfl) rfl rfl (R.pickT (hF.ev rfl) (hF.ev rfl)) fun a hF => ?_
          refine s0 ?_
          exact then_n (hK8' _ _ ⟨hF.sub ⟨rfl, rfl, rfl, rfl, (congrArg (fun z => some (Value.bool z)) (by first | exact (decide_eq_true (by omega)).symm | exact (decide_eq_false (by omega)).symm | exact decide_eq_decide.2 (by omega))), trivial⟩, hS.sel [] rfl rfl⟩)
        ·
          refine sk hF (ws hF rfl rfl rfl rfl) rfl rfl fun a hF => ?_
          refine sk hF (ws hF rfl rfl rfl rfl) rfl rfl fun a hF => ?_
          refine sk hF (ws hF rfl rfl rfl rfl) rfl rfl fun a hF => ?_
          refine sk hF (ws hF rfl rfl rfl rfl) rfl rfl fun a hF => ?_
          refine sk hF (ws hF rfl rfl rfl rfl) rfl rfl fun a hF => ?_
          refine sk hF (ws hF rfl rfl rfl rfl) rfl rfl fun a hF => ?_
          refine sk hF (ws hF rfl rfl rfl rfl) rfl rfl fun a hF => ?_
          refine sk hF (ws hF rfl rfl rfl rfl) rfl rfl fun a hF => ?_
          refine sv' hF (wn rfl) rfl rfl (R.pickF (hF.ev rfl) (hF.ev rfl)) fun a hF => ?_
          refine s0 ?_
          exact then_n (hK8' _ _ ⟨hF.sub ⟨rfl, rfl, rfl, rfl, (congrArg (fun z => some (Value.bool z)) (by first | exact (decide_eq_true (by omega)).symm | exact (decide_eq_false (by omega)).symm | exact decide_eq_decide.2 (by omega))), trivial⟩, hS.sel [] rfl rfl⟩)
    ·
      refine wp_exit (then_x (then_x (blk_hit ?_)))
      refine then_n (hK2 _ _ ?_)
      refine wp_seq_k fun K10 hK10 => ?_
      refine wp_region_lit ?_
      refine sv' hF (wn rfl) rfl rfl (R.assign (hF.ev rfl)) fun a hF => ?_
      refine s0 ?_
      refine then_n (hK10 _ _ ?_)
      refine wp_ret (hR _ _ _ _ _ hF (run_results Tryz.results25 (.t hF rfl (.nil))) ?_)
      exact ⟨_, [], rfl, ⟨congrArg Value.bool (by rw [← hg2]; exact (go_end (by omega)).symm), rfl⟩, hS.none⟩
end Go.Proofs.YtlapmbkfmbkdoaaGreatDoor
end
section
namespace Go.Proofs.YtlapmbkfmbkdoaaGreatDoor
open Go Go.Fw Go.RowKit
attribute [local irreducible] Go.Oper.wp Go.Code.wp Go.wpList Go.Fw.WL Go.Calls
theorem goes_dec (A : Option Addr) (n c : Nat) (xs : List Nat) (B : Option Addr) (d : Nat) (l : List Nat) (p : Nat) (w0 : World) (hA : Rd w0 A (byts xs)) (hn : xs.length = n) (hnc : n ≤ c) (hc : c ≤ 9223372036854775807) (hB : Byt xs) (hn2 : n ≤ 1024) (hL : Rd w0 B (ints l)) (hld : l.length ≤ 1000000) (hpl : ∀ q ∈ l, q < xs.length ∧ sizeN xs q ≠ 0) : Ret Tryz.prog 25 [.slice A n c, .slice B l.length d, .int .i64 ((p : Nat) : Int)] w0 [] (fun v s => v = .bool (decide (goN xs l p = true)) ∧ s = []) := by
  have := goes_calls A n c xs B d l p w0 hA hn hnc hc hB hn2 hL hld hpl
  rwa [show goN xs l p = decide (goN xs l p = true) by simp] at this
theorem lab_T {xs l : List Nat} {p : Nat} (h : goN xs l p = true) : labN xs l p = 76 :: (decS p ++ [58, 10]) := if_pos h
theorem lab_F {xs l : List Nat} {p : Nat} (h : ¬ goN xs l p = true) : labN xs l p = [] := if_neg h
theorem op_2 {xs : List Nat} {p : Nat} (h : cAt xs p = 2) : operL xs p = 32 :: decS (numB ((xs.drop (p + 2)).take (sizeN xs p - 2))) := if_pos h
theorem op_4 {xs : List Nat} {p : Nat} (h : cAt xs p = 4 ∨ cAt xs p = 5 ∨ cAt xs p = 16) : operL xs p = 32 :: decS (cAt xs (p + 1)) := by unfold operL; rw [if_neg (by omega), if_pos h]
theorem op_j {xs : List Nat} {p : Nat} (h : cAt xs p = 14 ∨ cAt xs p = 15) : operL xs p = 32 :: 76 :: decS (targetN xs p) := by unfold operL; rw [if_neg (by omega), if_neg (by omega), if_pos h]
theorem op_n {xs : List Nat} {p : Nat} (h : ¬ (cAt xs p = 2 ∨ (cAt xs p = 4 ∨ cAt xs p = 5 ∨ cAt xs p = 16) ∨ (cAt xs p = 14 ∨ cAt xs p = 15))) : operL xs p = [] := by unfold operL; rw [if_neg (by omega), if_neg (by omega), if_neg (by omega)]
theorem line_next {xs l o : List Nat} {i : Nat} (h : o = linesN xs l (l.take i)) (hi : i < l.length) : o ++ labN xs l (l.getD i 0) ++ nameN (cAt xs (l.getD i 0)) ++ operL xs (l.getD i 0) ++ [10] = linesN xs l (l.take (i + 1)) := by
  have hg : l.getD i 0 = l[i] := by rw [List.getD_eq_getElem?_getD, List.getElem?_eq_getElem hi]; rfl
  rw [take_snoc l i hi, lines_snoc, ← h, ← hg]
  unfold lineN
  simp only [List.append_assoc]
theorem text_of {xs l : List Nat} (h : placesN xs = some l) : textN xs = linesN xs l l := by unfold textN; rw [h]
theorem take_byte {xs : List Nat} {q j : Nat} (h : q + 2 + j < xs.length) : ints ((xs.drop (q + 2)).take j) ++ [.int .i64 ((cAt xs (q + 2 + j) : Nat) : Int)] = ints ((xs.drop (q + 2)).take (j + 1)) := by
  have hd : j < (xs.drop (q + 2)).length := by rw [List.length_drop]; omega
  rw [take_snoc (xs.drop (q + 2)) j hd]
  have e : (xs.drop (q + 2))[j] = cAt xs (q + 2 + j) := by
    rw [List.getElem_drop]
    unfold cAt
    rw [List.getD_eq_getElem?_getD, List.getElem?_eq_getElem h]; rfl
  rw [e]
  simp [ints]
theorem own_byteK {s : Seg} {A : Option Addr} {c q j : Nat} {xs : List Nat} (h : q + 2 + j < xs.length) (hO : OwnS s A (j + 1) c (ints ((xs.drop (q + 2)).take j) ++ [.int .i64 ((cAt xs (q + 2 + j) : Nat) : Int)]) 3 1) : OwnS s A (j + 1) c (ints ((xs.drop (q + 2)).take (j + 1))) 3 1 := by rwa [take_byte h] at hO
theorem len_oper {xs : List Nat} {p : Nat} (hB : Byt xs) (_hp : p < xs.length) (hs : sizeN xs p ≠ 0) : (operL xs p).length ≤ 80 := by
  have h1 := cAt_lt hB (p + 1)
  have h2 := cAt_lt hB (p + 2)
  unfold operL
  split
  · rename_i h
    have hsp := sz_push hs h
    have := len_decS (n := numB ((xs.drop (p + 2)).take (sizeN xs p - 2))) (numB_lt32 (by rw [List.length_take]; omega) (fun d hd => hB d (List.drop_subset _ _ (List.take_subset _ _ hd))))
    rw [List.length_cons]; omega
  split
  · have := len_decS (n := cAt xs (p + 1)) (by omega)
    rw [List.length_cons]; omega
  split
  · have := len_decS (n := targetN xs p) (by unfold targetN; omega)
    rw [List.length_cons, List.length_cons]; omega
  · exact Nat.zero_le _
set_option maxHeartbeats 4000000 in
theorem rtext_good (A : Option Addr) (n c : Nat) (xs l : List Nat) (w0 : World) (hA : Rd w0 A (byts xs)) (hn : xs.length = n) (hnc : n ≤ c) (hc : c ≤ 9223372036854775807) (hB : Byt xs) (hck : chkN xs = true) (hl : placesN xs = some l) (hn2 : n ≤ 1024) (hpl : ∀ q ∈ l, q < xs.length ∧ sizeN xs q ≠ 0) (hll : l.length ≤ 1024) : Ret Tryz.prog 8 [.slice A n c] w0 [] (fun v s => v = .tuple #[.string (bstr (textN xs)), .int .i64 0] ∧ s = []) := by
  refine fn_start Tryz.func8 rfl Tryz.ntmps8 rfl [(0, .slice A n c)] ⟨rfl, trivial⟩ ?_
  intro Q a hP hF hR hN
  have hS := St.start w0
  refine wp_seq_k fun K1 hK1 => ?_
  refine wp_region_lit ?_
  refine sv' hF (wn rfl) rfl rfl (R.assign (hF.ev rfl)) fun a hF => ?_
  refine sv' hF (wn rfl) rfl rfl (R.assign (hF.ev rfl)) fun a hF => ?_
  refine s0 ?_
  refine then_n (hK1 _ _ ?_)
  refine wp_seq_k fun K2 hK2 => ?_
  refine wp_seq_k fun K3 hK3 => ?_
  refine wp_region_lit ?_
  refine sv' hF (wn rfl) rfl rfl (R.move (hF.ev rfl)) fun a hF => ?_
  refine so (wn rfl) (O.call rfl rfl hF ent15 (hF.evs rfl) hS (rcheck_calls A n c xs _ (hA.old hS) hn hnc hc hB) fun v s13 a w hR hF hS => ?_)
  obtain ⟨rfl, rfl⟩ := hR
  rw [show chkV xs = .int .i64 0 from by rw [chkV, hck]; rfl] at hF
  refine sv' hF (wn rfl) rfl rfl (R.as (u := .bool false) (R.neq (p := 0) (q := 0) (hF.ev rfl) (hF.ev rfl)) (rfl)) fun a hF => ?_
  refine s0 ?_
  refine then_n (hK3 _ _ ?_)
  refine cF hF rfl ?_
  refine wp_skip ?_
  refine then_n (hK2 _ _ ?_)
  refine wp_seq_k fun K4 hK4 => ?_
  refine wp_region_lit ?_
  refine sv' hF (wn rfl) rfl rfl (R.move (hF.ev rfl)) fun a hF => ?_
  refine so (wn rfl) (O.call rfl rfl hF ent24 (hF.evs rfl) hS (places_some A n c xs l w (hA.old hS) hn hnc hc hB (by omega) hl) fun v s17 a w hR hF hS => ?_)
  obtain ⟨A17, c17, rfl, hO17⟩ := hR
  refine sv' hF (wn rfl) rfl rfl (R.move (hF.ev rfl)) fun a hF => ?_
  refine sv' hF (wn rfl) rfl rfl (R.extract (hF.ev rfl) rfl) fun a hF => ?_
  refine sv' hF (wn rfl) rfl rfl (R.extract (hF.ev rfl) rfl) fun a hF => ?_
  refine sv' hF (wn rfl) rfl rfl (R.assign (hF.ev rfl)) fun a hF => ?_
  refine sv' hF (wn rfl) rfl rfl (R.assign (hF.ev rfl)) fun a hF => ?_
  refine s0 ?_
  refine then_n (hK4 _ _ ?_)
  refine wp_seq_k fun K5 hK5 => ?_
  refine wp_region_lit ?_
  refine sv' hF (wn rfl) rfl rfl (R.assign (hF.ev rfl)) fun a hF => ?_
  refine s0 ?_
  refine then_n (hK5 _ _ ?_)
  refine wp_seq_k fun K6 hK6 => ?_
  refine wp_seq_k fun K7 hK7 => ?_
  refine wp_region_lit ?_
  refine sv' hF (wn rfl) rfl rfl (R.assign (hF.ev rfl)) fun a hF => ?_
  refine s0 ?_
  refine then_n (hK7 _ _ ?_)
  refine wp_block ?_
  refine wp_loop_N (fun g a w => ∃ (i : Nat) (o : List Nat), l.length - i = g ∧ Fr 106 [(0, .slice A n c), (4, .slice A17 l.length c17), (7, .int .i64 ((i : Nat) : Int)), (6, .string (bstr (o)))] a ∧ St w0 [] [s17] w ∧ (i ≤ l.length) ∧ (o = linesN xs l (l.take i)) ∧ (o.length ≤ 400 * i)) (l.length - 0) ?_ ?_
  · exact ⟨0, [], rfl, hF.sub ⟨rfl, rfl, rfl, rfl, trivial⟩, hS.sel [0] rfl rfl, by omega, rfl, by decide⟩
  · rintro KL1 g a w ⟨i, o, hg1, hF, hS, hi, ho, hol⟩ hKL1
    refine wp_seq_k fun K8 hK8 => ?_
    refine wp_seq_k fun K9 hK9 => ?_
    refine wp_region_lit ?_
    refine sv' hF (wn rfl) rfl rfl (R.move (hF.ev rfl)) fun a hF => ?_
    refine sv' hF (wn rfl) rfl rfl (R.move (hF.ev rfl)) fun a hF => ?_
    refine sv' hF (wn rfl) rfl rfl (R.len Tryz.underlying61 (hF.ev rfl)) fun a hF => ?_
    refine sv' hF (wn rfl) rfl rfl (R.lss (hF.ev rfl) (hF.ev rfl)) fun a hF => ?_
    refine s0 ?_
    refine then_n (hK9 _ _ ?_)
    refine cD hF rfl (fun c2 => ?_) (fun c2 => ?_)
    ·
      have hqm := hpl (l.getD i 0) (getD_mem (by omega)); obtain ⟨hql, hqs⟩ := hqm; have hcb := cAt_lt hB (l.getD i 0); have hcb1 := cAt_lt hB ((l.getD i 0) + 1); have hsl := (sizeN_le xs (l.getD i 0)).resolve_left hqs; have hdq := len_decS (n := (l.getD i 0)) (by omega)
      refine wp_skip ?_
      refine then_n (hK8 _ _ ?_)
      refine wp_seq_k fun K10 hK10 => ?_
      refine wp_block ?_
      refine wp_seq_k fun K11 hK11 => ?_
      refine wp_region_lit ?_
      refine sv' hF (wn rfl) rfl rfl (R.move (hF.ev rfl)) fun a hF => ?_
      refine sv' hF (wn rfl) rfl rfl (R.move (hF.ev rfl)) fun a hF => ?_
      refine sv' hF (wn rfl) rfl rfl (R.indexO Tryz.underlying61 sz3 (hF.ev rfl) ((hO17.rd hS .h).ne (by rw [length_ints]; omega)) (hF.ev rfl) (by omega) (by omega)) fun a hF => ?_
      refine sv' hF (wn rfl) rfl rfl (R.loadO one3 (hF.ev rfl) (hO17.rd hS .h) (intsO (i := i) (by omega) (by omega))) fun a hF => ?_
      refine sv' hF (wn rfl) rfl rfl (R.assign (hF.ev rfl)) fun a hF => ?_
      refine s0 ?_
      refine then_n (hK11 _ _ ?_)
      refine wp_seq_k fun K12 hK12 => ?_
      have hK12' : ∀ a w, (Fr 106 [(0, .slice A n c), (4, .slice A17 l.length c17), (7, .int .i64 ((i : Nat) : Int)), (6, .string (bstr ((o ++ labN xs l (l.getD i 0))))), (8, .int .i64 (((l.getD i 0) : Nat) : Int))] a ∧ St w0 [] [s17] w) → K12 a w := by
        rintro a w ⟨hF, hS⟩
        refine hK12 _ _ ?_
        have hlb : (labN xs l (l.getD i 0)).length ≤ 81 := by (unfold labN; split; simp only [List.length_append, List.length_cons, List.length_nil]; omega; exact Nat.zero_le _)
        have hnm := len_name (cAt xs (l.getD i 0))
        refine wp_seq_k fun K13 hK13 => ?_
        refine wp_region_lit ?_
        refine sv' hF (wn rfl) rfl rfl (R.move (hF.ev rfl)) fun a hF => ?_
        refine sv' hF (wn rfl) rfl rfl (R.move (hF.ev rfl)) fun a hF => ?_
        refine sv' hF (wn rfl) rfl rfl (R.indexO Tryz.underlying22 sz5 (hF.ev rfl) (Rd.ne hA (by rw [length_byts]; omega)) (hF.ev rfl) (by omega) (by omega)) fun a hF => ?_
        refine sv' hF (wn rfl) rfl rfl (R.loadO one5 (hF.ev rfl) (hA.old hS) (cb_at (i := (l.getD i 0)) (by omega) (by omega))) fun a hF => ?_
        refine sv' hF (wn rfl) rfl rfl (R.convI Tryz.underlying5 Tryz.underlying3 (hF.ev rfl) (by omega)) fun a hF => ?_
        refine sv' hF (wn rfl) rfl rfl (R.assign (hF.ev rfl)) fun a hF => ?_
        refine s0 ?_
        refine then_n (hK13 _ _ ?_)
        refine wp_seq_k fun K14 hK14 => ?_
        refine wp_region_lit ?_
        refine sv' hF (wn rfl) rfl rfl (R.move (hF.ev rfl)) fun a hF => ?_
        refine sv' hF (wn rfl) rfl rfl (R.move (hF.ev rfl)) fun a hF => ?_
        refine so (wn rfl) (O.call rfl rfl hF ent27 (hF.evs rfl) hS (name_calls (cAt xs (l.getD i 0)) w (size_28 hqs)) fun v s47 a w hR hF hS => ?_)
        obtain ⟨rfl, rfl⟩ := hR
        refine sv' hF (wn rfl) rfl rfl (R.catS (xs := (o ++ labN xs l (l.getD i 0))) (ys := nameN (cAt xs (l.getD i 0))) (hF.ev rfl) (hF.ev rfl) (by simp only [List.length_append, List.length_cons, List.length_nil]; omega)) fun a hF => ?_
        refine sv' hF (wn rfl) rfl rfl (R.assign (hF.ev rfl)) fun a hF => ?_
        refine s0 ?_
        refine then_n (hK14 _ _ ?_)
        refine wp_seq_k fun K15 hK15 => ?_
        have hK15' : ∀ a w, (Fr 106 [(0, .slice A n c), (4, .slice A17 l.length c17), (7, .int .i64 ((i : Nat) : Int)), (6, .string (bstr ((o ++ labN xs l (l.getD i 0) ++ nameN (cAt xs (l.getD i 0)) ++ operL xs (l.getD i 0)))))] a ∧ St w0 [] [s17] w) → K15 a w := by
          rintro a w ⟨hF, hS⟩
          refine hK15 _ _ ?_
          have hop : (operL xs (l.getD i 0)).length ≤ 80 := len_oper hB hql hqs
          refine wp_region_lit ?_
          refine sv' hF (wn rfl) rfl rfl (R.move (hF.ev rfl)) fun a hF => ?_
          refine sv' hF (wn rfl) rfl rfl (R.catS (xs := (o ++ labN xs l (l.getD i 0) ++ nameN (cAt xs (l.getD i 0)) ++ operL xs (l.getD i 0))) (ys := [10]) (hF.ev rfl) (hF.ev rfl) (by simp only [List.length_append, List.length_cons, List.length_nil]; omega)) fun a hF => ?_
          refine sv' hF (wn rfl) rfl rfl (R.assign (hF.ev rfl)) fun a hF => ?_
          refine s0 ?_
          refine blk_n ?_
          refine then_n (hK10 _ _ ?_)
          refine wp_region_lit ?_
          refine sv' hF (wn rfl) rfl rfl (R.move (hF.ev rfl)) fun a hF => ?_
          refine sv' hF (wn rfl) rfl rfl (R.addI (hF.ev rfl) (hF.ev rfl) (by omega)) fun a hF => ?_
          refine sv' hF (wn rfl) rfl rfl (R.assign (hF.ev rfl)) fun a hF => ?_
          refine s0 ?_
          refine then_n (hKL1 (l.length - (i + 1)) _ _ ?_ ?_)
          · omega
          · exact ⟨i + 1, _, rfl, hF.sub ⟨rfl, rfl, (congrArg (fun z => some (Value.int .i64 z)) (by omega)), rfl, trivial⟩, hS.sel [0] rfl rfl, by omega, line_next ho (by omega), (by simp only [List.length_append, List.length_cons, List.length_nil]; omega)⟩
        refine wp_seq_k fun K16 hK16 => ?_
        refine wp_region_lit ?_
        refine sv' hF (wn rfl) rfl rfl (R.move (hF.ev rfl)) fun a hF => ?_
        refine s0 ?_
        refine then_n (hK16 _ _ ?_)
        refine wp_block ?_
        refine wp_seq_k fun K17 hK17 => ?_
        refine wp_region_lit ?_
        refine sv' hF (wn rfl) rfl rfl (R.eql (hF.ev rfl) (hF.ev rfl)) fun a hF => ?_
        refine sv' hF (wn rfl) rfl rfl (R.assign (hF.ev rfl)) fun a hF => ?_
        refine s0 ?_
        refine then_n (hK17 _ _ ?_)
        refine cD hF rfl (fun c4 => ?_) (fun c4 => ?_)
        ·
          have hsp := sz_push hqs (by omega)
          refine wp_seq_k fun K18 hK18 => ?_
          refine wp_region_lit ?_
          refine sv' hF (wn rfl) rfl rfl (R.assign (hF.ev rfl)) fun a hF => ?_
          refine s0 ?_
          refine then_n (hK18 _ _ ?_)
          refine wp_seq_k fun K19 hK19 => ?_
          refine wp_seq_k fun K20 hK20 => ?_
          refine wp_region_lit ?_
          refine sv' hF (wn rfl) rfl rfl (R.assign (hF.ev rfl)) fun a hF => ?_
          refine s0 ?_
          refine then_n (hK20 _ _ ?_)
          refine wp_block ?_
          have hS := hS.cons0
          refine wp_loop_N (fun g a w => ∃ (j : Nat) (A1 : Option Addr) (c1 : Nat) (z : Seg), cAt xs ((l.getD i 0) + 1) - j = g ∧ Fr 106 [(0, .slice A n c), (4, .slice A17 l.length c17), (7, .int .i64 ((i : Nat) : Int)), (6, .string (bstr ((o ++ labN xs l (l.getD i 0) ++ nameN (cAt xs (l.getD i 0)))))), (8, .int .i64 (((l.getD i 0) : Nat) : Int)), (10, .slice A1 j c1), (11, .int .i64 ((j : Nat) : Int))] a ∧ St w0 [] [z, s17] w ∧ (j ≤ cAt xs ((l.getD i 0) + 1)) ∧ (OwnS z A1 j c1 (ints ((xs.drop ((l.getD i 0) + 2)).take j)) 3 1)) (cAt xs ((l.getD i 0) + 1) - 0) ?_ ?_
          · exact ⟨0, none, 0, [], rfl, hF.sub ⟨rfl, rfl, rfl, rfl, rfl, rfl, rfl, trivial⟩, hS.sel [0, 2] rfl rfl, Nat.zero_le _, OwnS.nil 3 1⟩
          · rintro KL2 g a w ⟨j, A1, c1, z, hg2, hF, hS, hj, hO⟩ hKL2
            have hcj := cAt_lt hB ((l.getD i 0) + 2 + j)
            refine wp_seq_k fun K21 hK21 => ?_
            refine wp_seq_k fun K22 hK22 => ?_
            refine wp_region_lit ?_
            refine sv' hF (wn rfl) rfl rfl (R.move (hF.ev rfl)) fun a hF => ?_
            refine sv' hF (wn rfl) rfl rfl (R.move (hF.ev rfl)) fun a hF => ?_
            refine sv' hF (wn rfl) rfl rfl (R.move (hF.ev rfl)) fun a hF => ?_
            refine sv' hF (wn rfl) rfl rfl (R.addI (hF.ev rfl) (hF.ev rfl) (by omega)) fun a hF => ?_
            refine sv' hF (wn rfl) rfl rfl (R.indexO Tryz.underlying22 sz5 (hF.ev rfl) (Rd.ne hA (by rw [length_byts]; omega)) (hF.ev rfl) (by omega) (by omega)) fun a hF => ?_
            refine sv' hF (wn rfl) rfl rfl (R.loadO one5 (hF.ev rfl) (hA.old hS) (cb_at (i := (l.getD i 0) + 1) (by omega) (by omega))) fun a hF => ?_
            refine sv' hF (wn rfl) rfl rfl (R.convI Tryz.underlying5 Tryz.underlying3 (hF.ev rfl) (by omega)) fun a hF => ?_
            refine sv' hF (wn rfl) rfl rfl (R.lss (hF.ev rfl) (hF.ev rfl)) fun a hF => ?_
            refine s0 ?_
            refine then_n (hK22 _ _ ?_)
            refine cD hF rfl (fun c5 => ?_) (fun c5 => ?_)
            ·
              refine wp_skip ?_
              refine then_n (hK21 _ _ ?_)
              refine wp_seq_k fun K23 hK23 => ?_
              refine wp_block ?_
              refine wp_region_lit ?_
              refine sv' hF (wn rfl) rfl rfl (R.move (hF.ev rfl)) fun a hF => ?_
              refine sv' hF (wn rfl) rfl rfl (R.move (hF.ev rfl)) fun a hF => ?_
              refine sv' hF (wn rfl) rfl rfl (R.move (hF.ev rfl)) fun a hF => ?_
              refine sv' hF (wn rfl) rfl rfl (R.addI (hF.ev rfl) (hF.ev rfl) (by omega)) fun a hF => ?_
              refine sv' hF (wn rfl) rfl rfl (R.move (hF.ev rfl)) fun a hF => ?_
              refine sv' hF (wn rfl) rfl rfl (R.addI (hF.ev rfl) (hF.ev rfl) (by omega)) fun a hF => ?_
              refine sv' hF (wn rfl) rfl rfl (R.indexO Tryz.underlying22 sz5 (hF.ev rfl) (Rd.ne hA (by rw [length_byts]; omega)) (hF.ev rfl) (by omega) (by omega)) fun a hF => ?_
              refine sv' hF (wn rfl) rfl rfl (R.loadO one5 (hF.ev rfl) (hA.old hS) (cb_at (i := (l.getD i 0) + 2 + j) (by omega) (by omega))) fun a hF => ?_
              refine sv' hF (wn rfl) rfl rfl (R.convI Tryz.underlying5 Tryz.underlying3 (hF.ev rfl) (by omega)) fun a hF => ?_
              refine so (wn rfl) (O.buildSlice (l := [_]) rfl rfl hF Tryz.underlying61 inf3 rfl rfl (hF.evp rfl) (by decide) rfl hS fun b71 a w hF hS => ?_)
              refine so (wn rfl) (O.append rfl rfl hF Tryz.underlying61 inf3 rfl rfl (by decide) (hF.ev rfl) (hF.ev rfl) hS hO (fun _ => (.t .h)) (Rd.own0 hS .h) (rfl) (by simp [Value.oneCell']) (by unfold maxLen; omega) (by omega) fun A72 c72 s72 a w hO72 hF hS => ?_)
              refine sv' hF (wn rfl) rfl rfl (R.assign (hF.ev rfl)) fun a hF => ?_
              refine s0 ?_
              refine blk_n ?_
              refine then_n (hK23 _ _ ?_)
              refine wp_region_lit ?_
              refine sv' hF (wn rfl) rfl rfl (R.move (hF.ev rfl)) fun a hF => ?_
              refine sv' hF (wn rfl) rfl rfl (R.addI (hF.ev rfl) (hF.ev rfl) (by omega)) fun a hF => ?_
              refine sv' hF (wn rfl) rfl rfl (R.assign (hF.ev rfl)) fun a hF => ?_
              refine s0 ?_
              refine then_n (hKL2 (cAt xs ((l.getD i 0) + 1) - (j + 1)) _ _ ?_ ?_)
              · omega
              · exact ⟨j + 1, A72, c72, s72, rfl, hF.sub ⟨rfl, rfl, rfl, rfl, rfl, rfl, (congrArg (fun z => some (Value.int .i64 z)) (by omega)), trivial⟩, hS.sel [1, 2] rfl rfl, by omega, own_byteK (by omega) hO72⟩
            ·
              have hjj : j = cAt xs ((l.getD i 0) + 1) := by omega
              have hnb : numB ((xs.drop ((l.getD i 0) + 2)).take j) < 115792089237316195423570985008687907853269984665640564039457584007913129639936 := numB_lt32 (by rw [List.length_take]; omega) (fun d hd => hB d (List.drop_subset _ _ (List.take_subset _ _ hd)))
              have hdn := len_decS hnb
              refine wp_exit (then_x (then_x (blk_hit ?_)))
              refine then_n (hK19 _ _ ?_)
              refine wp_region_lit ?_
              refine sv' hF (wn rfl) rfl rfl (R.move (hF.ev rfl)) fun a hF => ?_
              refine sv' hF (wn rfl) rfl rfl (R.move (hF.ev rfl)) fun a hF => ?_
              refine so (wn rfl) (O.call rfl rfl hF ent29 (hF.evs rfl) hS (number_n A1 j c1 ((xs.drop ((l.getD i 0) + 2)).take j) w (hO.rd hS .h) (fun d hd => hB d (List.drop_subset _ _ (List.take_subset _ _ hd))) (by omega) (by rw [List.length_take, List.length_drop]; omega)) fun v s75 a w hR hF hS => ?_)
              obtain ⟨rfl, rfl⟩ := hR
              refine so (wn rfl) (O.call rfl rfl hF ent28 (hF.evs rfl) hS (decimals_calls (numB ((xs.drop ((l.getD i 0) + 2)).take j)) w hnb) fun v s76 a w hR hF hS => ?_)
              obtain ⟨rfl, rfl⟩ := hR
              refine sv' hF (wn rfl) rfl rfl (R.catS (xs := [32]) (ys := (decS (numB ((xs.drop ((l.getD i 0) + 2)).take j)))) (hF.ev rfl) (hF.ev rfl) (by simp only [List.length_append, List.length_cons, List.length_nil]; omega)) fun a hF => ?_
              refine sv' hF (wn rfl) rfl rfl (R.catS (xs := (o ++ labN xs l (l.getD i 0) ++ nameN (cAt xs (l.getD i 0)))) (ys := ([32] ++ (decS (numB ((xs.drop ((l.getD i 0) + 2)).take j))))) (hF.ev rfl) (hF.ev rfl) (by simp only [List.length_append, List.length_cons, List.length_nil]; omega)) fun a hF => ?_
              refine sv' hF (wn rfl) rfl rfl (R.assign (hF.ev rfl)) fun a hF => ?_
              refine s0 ?_
              refine blk_n ?_
              exact then_n (hK15' _ _ ⟨hF.sub ⟨rfl, rfl, rfl, (congrArg (fun z => some (Value.string (bstr z))) (by rw [op_2 (by omega), show sizeN xs (l.getD i 0) - 2 = j by omega]; simp)), trivial⟩, hS.sel [3] rfl rfl⟩)
        ·
          refine wp_seq_k fun K24 hK24 => ?_
          refine wp_seq_k fun K25 hK25 => ?_
          refine wp_region_lit ?_
          refine sv' hF (wn rfl) rfl rfl (R.eql (hF.ev rfl) (hF.ev rfl)) fun a hF => ?_
          refine sv' hF (wn rfl) rfl rfl (R.assign (hF.ev rfl)) fun a hF => ?_
          refine s0 ?_
          refine then_n (hK25 _ _ ?_)
          refine cD hF rfl (fun c6 => ?_) (fun c6 => ?_)
          ·
            have hF := hF.nowT (t := 79) rfl c6
            have hsp := sz_two hqs (by omega)
            have hdo := len_decS (n := cAt xs ((l.getD i 0) + 1)) (by omega)
            refine wp_skip ?_
            refine then_n (hK24 _ _ ?_)
            refine cT hF rfl ?_
            refine wp_region_lit ?_
            refine sv' hF (wn rfl) rfl rfl (R.move (hF.ev rfl)) fun a hF => ?_
            refine sv' hF (wn rfl) rfl rfl (R.move (hF.ev rfl)) fun a hF => ?_
            refine sv' hF (wn rfl) rfl rfl (R.move (hF.ev rfl)) fun a hF => ?_
            refine sv' hF (wn rfl) rfl rfl (R.addI (hF.ev rfl) (hF.ev rfl) (by omega)) fun a hF => ?_
            refine sv' hF (wn rfl) rfl rfl (R.indexO Tryz.underlying22 sz5 (hF.ev rfl) (Rd.ne hA (by rw [length_byts]; omega)) (hF.ev rfl) (by omega) (by omega)) fun a hF => ?_
            refine sv' hF (wn rfl) rfl rfl (R.loadO one5 (hF.ev rfl) (hA.old hS) (cb_at (i := (l.getD i 0) + 1) (by omega) (by omega))) fun a hF => ?_
            refine sv' hF (wn rfl) rfl rfl (R.convI Tryz.underlying5 Tryz.underlying3 (hF.ev rfl) (by omega)) fun a hF => ?_
            refine so (wn rfl) (O.call rfl rfl hF ent26 (hF.evs rfl) hS (plain_calls (cAt xs ((l.getD i 0) + 1)) w (by omega)) fun v s90 a w hR hF hS => ?_)
            obtain ⟨rfl, rfl⟩ := hR
            refine sv' hF (wn rfl) rfl rfl (R.catS (xs := [32]) (ys := (decS (cAt xs ((l.getD i 0) + 1)))) (hF.ev rfl) (hF.ev rfl) (by simp only [List.length_append, List.length_cons, List.length_nil]; omega)) fun a hF => ?_
            refine sv' hF (wn rfl) rfl rfl (R.catS (xs := (o ++ labN xs l (l.getD i 0) ++ nameN (cAt xs (l.getD i 0)))) (ys := ([32] ++ (decS (cAt xs ((l.getD i 0) + 1))))) (hF.ev rfl) (hF.ev rfl) (by simp only [List.length_append, List.length_cons, List.length_nil]; omega)) fun a hF => ?_
            refine sv' hF (wn rfl) rfl rfl (R.assign (hF.ev rfl)) fun a hF => ?_
            refine s0 ?_
            refine blk_n ?_
            exact then_n (hK15' _ _ ⟨hF.sub ⟨rfl, rfl, rfl, (congrArg (fun z => some (Value.string (bstr z))) (by rw [op_4 (by omega)]; simp)), trivial⟩, hS.sel [2] rfl rfl⟩)
          ·
            have hF := hF.nowF (t := 79) rfl c6
            refine wp_seq_k fun K26 hK26 => ?_
            refine wp_region_lit ?_
            refine sv' hF (wn rfl) rfl rfl (R.eql (hF.ev rfl) (hF.ev rfl)) fun a hF => ?_
            refine sv' hF (wn rfl) rfl rfl (R.assign (hF.ev rfl)) fun a hF => ?_
            refine s0 ?_
            refine then_n (hK26 _ _ ?_)
            refine cD hF rfl (fun c6 => ?_) (fun c6 => ?_)
            ·
              have hF := hF.nowT (t := 79) rfl c6
              have hsp := sz_two hqs (by omega)
              have hdo := len_decS (n := cAt xs ((l.getD i 0) + 1)) (by omega)
              refine wp_skip ?_
              refine then_n (hK24 _ _ ?_)
              refine cT hF rfl ?_
              refine wp_region_lit ?_
              refine sv' hF (wn rfl) rfl rfl (R.move (hF.ev rfl)) fun a hF => ?_
              refine sv' hF (wn rfl) rfl rfl (R.move (hF.ev rfl)) fun a hF => ?_
              refine sv' hF (wn rfl) rfl rfl (R.move (hF.ev rfl)) fun a hF => ?_
              refine sv' hF (wn rfl) rfl rfl (R.addI (hF.ev rfl) (hF.ev rfl) (by omega)) fun a hF => ?_
              refine sv' hF (wn rfl) rfl rfl (R.indexO Tryz.underlying22 sz5 (hF.ev rfl) (Rd.ne hA (by rw [length_byts]; omega)) (hF.ev rfl) (by omega) (by omega)) fun a hF => ?_
              refine sv' hF (wn rfl) rfl rfl (R.loadO one5 (hF.ev rfl) (hA.old hS) (cb_at (i := (l.getD i 0) + 1) (by omega) (by omega))) fun a hF => ?_
              refine sv' hF (wn rfl) rfl rfl (R.convI Tryz.underlying5 Tryz.underlying3 (hF.ev rfl) (by omega)) fun a hF => ?_
              refine so (wn rfl) (O.call rfl rfl hF ent26 (hF.evs rfl) hS (plain_calls (cAt xs ((l.getD i 0) + 1)) w (by omega)) fun v s90 a w hR hF hS => ?_)
              obtain ⟨rfl, rfl⟩ := hR
              refine sv' hF (wn rfl) rfl rfl (R.catS (xs := [32]) (ys := (decS (cAt xs ((l.getD i 0) + 1)))) (hF.ev rfl) (hF.ev rfl) (by simp only [List.length_append, List.length_cons, List.length_nil]; omega)) fun a hF => ?_
              refine sv' hF (wn rfl) rfl rfl (R.catS (xs := (o ++ labN xs l (l.getD i 0) ++ nameN (cAt xs (l.getD i 0)))) (ys := ([32] ++ (decS (cAt xs ((l.getD i 0) + 1))))) (hF.ev rfl) (hF.ev rfl) (by simp only [List.length_append, List.length_cons, List.length_nil]; omega)) fun a hF => ?_
              refine sv' hF (wn rfl) rfl rfl (R.assign (hF.ev rfl)) fun a hF => ?_
              refine s0 ?_
              refine blk_n ?_
              exact then_n (hK15' _ _ ⟨hF.sub ⟨rfl, rfl, rfl, (congrArg (fun z => some (Value.string (bstr z))) (by rw [op_4 (by omega)]; simp)), trivial⟩, hS.sel [2] rfl rfl⟩)
            ·
              have hF := hF.nowF (t := 79) rfl c6
              refine wp_region_lit ?_
              refine sv' hF (wn rfl) rfl rfl (R.eql (hF.ev rfl) (hF.ev rfl)) fun a hF => ?_
              refine sv' hF (wn rfl) rfl rfl (R.assign (hF.ev rfl)) fun a hF => ?_
              refine s0 ?_
              refine then_n (hK24 _ _ ?_)
              refine cD hF rfl (fun c6 => ?_) (fun c6 => ?_)
              ·
                have hF := hF.nowT (t := 79) rfl c6
                have hsp := sz_two hqs (by omega)
                have hdo := len_decS (n := cAt xs ((l.getD i 0) + 1)) (by omega)
                refine wp_region_lit ?_
                refine sv' hF (wn rfl) rfl rfl (R.move (hF.ev rfl)) fun a hF => ?_
                refine sv' hF (wn rfl) rfl rfl (R.move (hF.ev rfl)) fun a hF => ?_
                refine sv' hF (wn rfl) rfl rfl (R.move (hF.ev rfl)) fun a hF => ?_
                refine sv' hF (wn rfl) rfl rfl (R.addI (hF.ev rfl) (hF.ev rfl) (by omega)) fun a hF => ?_
                refine sv' hF (wn rfl) rfl rfl (R.indexO Tryz.underlying22 sz5 (hF.ev rfl) (Rd.ne hA (by rw [length_byts]; omega)) (hF.ev rfl) (by omega) (by omega)) fun a hF => ?_
                refine sv' hF (wn rfl) rfl rfl (R.loadO one5 (hF.ev rfl) (hA.old hS) (cb_at (i := (l.getD i 0) + 1) (by omega) (by omega))) fun a hF => ?_
                refine sv' hF (wn rfl) rfl rfl (R.convI Tryz.underlying5 Tryz.underlying3 (hF.ev rfl) (by omega)) fun a hF => ?_
                refine so (wn rfl) (O.call rfl rfl hF ent26 (hF.evs rfl) hS (plain_calls (cAt xs ((l.getD i 0) + 1)) w (by omega)) fun v s90 a w hR hF hS => ?_)
                obtain ⟨rfl, rfl⟩ := hR
                refine sv' hF (wn rfl) rfl rfl (R.catS (xs := [32]) (ys := (decS (cAt xs ((l.getD i 0) + 1)))) (hF.ev rfl) (hF.ev rfl) (by simp only [List.length_append, List.length_cons, List.length_nil]; omega)) fun a hF => ?_
                refine sv' hF (wn rfl) rfl rfl (R.catS (xs := (o ++ labN xs l (l.getD i 0) ++ nameN (cAt xs (l.getD i 0)))) (ys := ([32] ++ (decS (cAt xs ((l.getD i 0) + 1))))) (hF.ev rfl) (hF.ev rfl) (by simp only [List.length_append, List.length_cons, List.length_nil]; omega)) fun a hF => ?_
                refine sv' hF (wn rfl) rfl rfl (R.assign (hF.ev rfl)) fun a hF => ?_
                refine s0 ?_
                refine blk_n ?_
                exact then_n (hK15' _ _ ⟨hF.sub ⟨rfl, rfl, rfl, (congrArg (fun z => some (Value.string (bstr z))) (by rw [op_4 (by omega)]; simp)), trivial⟩, hS.sel [2] rfl rfl⟩)
              ·
                have hF := hF.nowF (t := 79) rfl c6
                refine wp_seq_k fun K27 hK27 => ?_
                refine wp_seq_k fun K28 hK28 => ?_
                refine wp_region_lit ?_
                refine sv' hF (wn rfl) rfl rfl (R.eql (hF.ev rfl) (hF.ev rfl)) fun a hF => ?_
                refine sv' hF (wn rfl) rfl rfl (R.assign (hF.ev rfl)) fun a hF => ?_
                refine s0 ?_
                refine then_n (hK28 _ _ ?_)
                refine cD hF rfl (fun c7 => ?_) (fun c7 => ?_)
                ·
                  have hF := hF.nowT (t := 93) rfl c7
                  have hsp := sz_three hqs (by omega)
                  have htg : targetN xs (l.getD i 0) ≤ 65535 := by (have := cAt_lt hB ((l.getD i 0) + 2); unfold targetN; omega)
                  have hdt := len_decS (n := targetN xs (l.getD i 0)) (by omega)
                  refine wp_skip ?_
                  refine then_n (hK27 _ _ ?_)
                  refine cT hF rfl ?_
                  refine wp_region_lit ?_
                  refine sv' hF (wn rfl) rfl rfl (R.move (hF.ev rfl)) fun a hF => ?_
                  refine sv' hF (wn rfl) rfl rfl (R.move (hF.ev rfl)) fun a hF => ?_
                  refine sv' hF (wn rfl) rfl rfl (R.move (hF.ev rfl)) fun a hF => ?_
                  refine so (wn rfl) (O.call rfl rfl hF ent30 (hF.evs rfl) hS (rtarget_calls A n c xs (l.getD i 0) w (hA.old hS) hn hnc hc hB (by omega)) fun v s99 a w hR hF hS => ?_)
                  obtain ⟨rfl, rfl⟩ := hR
                  refine so (wn rfl) (O.call rfl rfl hF ent26 (hF.evs rfl) hS (plain_calls (targetN xs (l.getD i 0)) w (by omega)) fun v s100 a w hR hF hS => ?_)
                  obtain ⟨rfl, rfl⟩ := hR
                  refine sv' hF (wn rfl) rfl rfl (R.catS (xs := [32, 76]) (ys := (decS (targetN xs (l.getD i 0)))) (hF.ev rfl) (hF.ev rfl) (by simp only [List.length_append, List.length_cons, List.length_nil]; omega)) fun a hF => ?_
                  refine sv' hF (wn rfl) rfl rfl (R.catS (xs := (o ++ labN xs l (l.getD i 0) ++ nameN (cAt xs (l.getD i 0)))) (ys := ([32, 76] ++ (decS (targetN xs (l.getD i 0))))) (hF.ev rfl) (hF.ev rfl) (by simp only [List.length_append, List.length_cons, List.length_nil]; omega)) fun a hF => ?_
                  refine sv' hF (wn rfl) rfl rfl (R.assign (hF.ev rfl)) fun a hF => ?_
                  refine s0 ?_
                  refine blk_n ?_
                  exact then_n (hK15' _ _ ⟨hF.sub ⟨rfl, rfl, rfl, (congrArg (fun z => some (Value.string (bstr z))) (by rw [op_j (by omega)]; simp)), trivial⟩, hS.sel [3] rfl rfl⟩)
                ·
                  have hF := hF.nowF (t := 93) rfl c7
                  refine wp_region_lit ?_
                  refine sv' hF (wn rfl) rfl rfl (R.eql (hF.ev rfl) (hF.ev rfl)) fun a hF => ?_
                  refine sv' hF (wn rfl) rfl rfl (R.assign (hF.ev rfl)) fun a hF => ?_
                  refine s0 ?_
                  refine then_n (hK27 _ _ ?_)
                  refine cD hF rfl (fun c7 => ?_) (fun c7 => ?_)
                  ·
                    have hF := hF.nowT (t := 93) rfl c7
                    have hsp := sz_three hqs (by omega)
                    have htg : targetN xs (l.getD i 0) ≤ 65535 := by (have := cAt_lt hB ((l.getD i 0) + 2); unfold targetN; omega)
                    have hdt := len_decS (n := targetN xs (l.getD i 0)) (by omega)
                    refine wp_region_lit ?_
                    refine sv' hF (wn rfl) rfl rfl (R.move (hF.ev rfl)) fun a hF => ?_
                    refine sv' hF (wn rfl) rfl rfl (R.move (hF.ev rfl)) fun a hF => ?_
                    refine sv' hF (wn rfl) rfl rfl (R.move (hF.ev rfl)) fun a hF => ?_
                    refine so (wn rfl) (O.call rfl rfl hF ent30 (hF.evs rfl) hS (rtarget_calls A n c xs (l.getD i 0) w (hA.old hS) hn hnc hc hB (by omega)) fun v s99 a w hR hF hS => ?_)
                    obtain ⟨rfl, rfl⟩ := hR
                    refine so (wn rfl) (O.call rfl rfl hF ent26 (hF.evs rfl) hS (plain_calls (targetN xs (l.getD i 0)) w (by omega)) fun v s100 a w hR hF hS => ?_)
                    obtain ⟨rfl, rfl⟩ := hR
                    refine sv' hF (wn rfl) rfl rfl (R.catS (xs := [32, 76]) (ys := (decS (targetN xs (l.getD i 0)))) (hF.ev rfl) (hF.ev rfl) (by simp only [List.length_append, List.length_cons, List.length_nil]; omega)) fun a hF => ?_
                    refine sv' hF (wn rfl) rfl rfl (R.catS (xs := (o ++ labN xs l (l.getD i 0) ++ nameN (cAt xs (l.getD i 0)))) (ys := ([32, 76] ++ (decS (targetN xs (l.getD i 0))))) (hF.ev rfl) (hF.ev rfl) (by simp only [List.length_append, List.length_cons, List.length_nil]; omega)) fun a hF => ?_
                    refine sv' hF (wn rfl) rfl rfl (R.assign (hF.ev rfl)) fun a hF => ?_
                    refine s0 ?_
                    refine blk_n ?_
                    exact then_n (hK15' _ _ ⟨hF.sub ⟨rfl, rfl, rfl, (congrArg (fun z => some (Value.string (bstr z))) (by rw [op_j (by omega)]; simp)), trivial⟩, hS.sel [3] rfl rfl⟩)
                  ·
                    have hF := hF.nowF (t := 93) rfl c7
                    refine wp_skip ?_
                    refine blk_n ?_
                    exact then_n (hK15' _ _ ⟨hF.sub ⟨rfl, rfl, rfl, (congrArg (fun z => some (Value.string (bstr z))) (by rw [op_n (by omega), List.append_nil])), trivial⟩, hS.sel [1] rfl rfl⟩)
      refine wp_seq_k fun K29 hK29 => ?_
      refine wp_region_lit ?_
      refine sv' hF (wn rfl) rfl rfl (R.move (hF.ev rfl)) fun a hF => ?_
      refine sv' hF (wn rfl) rfl rfl (R.move (hF.ev rfl)) fun a hF => ?_
      refine sv' hF (wn rfl) rfl rfl (R.move (hF.ev rfl)) fun a hF => ?_
      refine so (wn rfl) (O.call rfl rfl hF ent25 (hF.evs rfl) hS (goes_dec A n c xs A17 c17 l (l.getD i 0) w (hA.old hS) hn hnc hc hB (by omega) (hO17.rd hS .h) (by omega) hpl) fun v s33 a w hR hF hS => ?_)
      obtain ⟨rfl, rfl⟩ := hR
      refine s0 ?_
      refine then_n (hK29 _ _ ?_)
      refine cD hF rfl (fun c3 => ?_) (fun c3 => ?_)
      ·
        refine wp_region_lit ?_
        refine sv' hF (wn rfl) rfl rfl (R.move (hF.ev rfl)) fun a hF => ?_
        refine sv' hF (wn rfl) rfl rfl (R.move (hF.ev rfl)) fun a hF => ?_
        refine so (wn rfl) (O.call rfl rfl hF ent26 (hF.evs rfl) hS (plain_calls (l.getD i 0) w (by omega)) fun v s36 a w hR hF hS => ?_)
        obtain ⟨rfl, rfl⟩ := hR
        refine sv' hF (wn rfl) rfl rfl (R.catS (xs := [76]) (ys := decS (l.getD i 0)) (hF.ev rfl) (hF.ev rfl) (by simp only [List.length_append, List.length_cons, List.length_nil]; omega)) fun a hF => ?_
        refine sv' hF (wn rfl) rfl rfl (R.catS (xs := ([76] ++ decS (l.getD i 0))) (ys := [58, 10]) (hF.ev rfl) (hF.ev rfl) (by simp only [List.length_append, List.length_cons, List.length_nil]; omega)) fun a hF => ?_
        refine sv' hF (wn rfl) rfl rfl (R.catS (xs := o) (ys := ([76] ++ decS (l.getD i 0) ++ [58, 10])) (hF.ev rfl) (hF.ev rfl) (by simp only [List.length_append, List.length_cons, List.length_nil]; omega)) fun a hF => ?_
        refine sv' hF (wn rfl) rfl rfl (R.assign (hF.ev rfl)) fun a hF => ?_
        refine s0 ?_
        exact then_n (hK12' _ _ ⟨hF.sub ⟨rfl, rfl, rfl, (congrArg (fun z => some (Value.string (bstr z))) (by rw [lab_T c3]; simp)), rfl, trivial⟩, hS.sel [2] rfl rfl⟩)
      ·
        refine wp_skip ?_
        exact then_n (hK12' _ _ ⟨hF.sub ⟨rfl, rfl, rfl, (congrArg (fun z => some (Value.string (bstr z))) (by rw [lab_F c3, List.append_nil])), rfl, trivial⟩, hS.sel [1] rfl rfl⟩)
    ·
      have hil : i = l.length := by omega
      rw [hil, List.take_length] at ho
      refine wp_exit (then_x (then_x (blk_hit ?_)))
      refine then_n (hK6 _ _ ?_)
      refine wp_seq_k fun K30 hK30 => ?_
      refine wp_region_lit ?_
      refine sv' hF (wn rfl) rfl rfl (R.move (hF.ev rfl)) fun a hF => ?_
      refine sv' hF (wn rfl) rfl rfl (R.assign (hF.ev rfl)) fun a hF => ?_
      refine sv' hF (wn rfl) rfl rfl (R.assign (hF.ev rfl)) fun a hF => ?_
      refine s0 ?_
      refine then_n (hK30 _ _ ?_)
      refine wp_ret (hR _ _ _ _ _ hF (run_results Tryz.results8 (.t hF rfl (.t hF rfl (.nil)))) ?_)
      exact ⟨_, [], rfl, ⟨by rw [text_of hl, ← ho]; rfl, rfl⟩, hS.none⟩
theorem rtext_bad (A : Option Addr) (n c : Nat) (xs : List Nat) (w0 : World) (hA : Rd w0 A (byts xs)) (hn : xs.length = n) (hnc : n ≤ c) (hc : c ≤ 9223372036854775807) (hB : Byt xs) (hck : chkN xs = false) : Ret Tryz.prog 8 [.slice A n c] w0 [] (fun v s => v = .tuple #[.string ⟨#[]⟩, .int .i64 100] ∧ s = []) := by
  refine fn_start Tryz.func8 rfl Tryz.ntmps8 rfl [(0, .slice A n c)] ⟨rfl, trivial⟩ ?_
  intro Q a hP hF hR hN
  have hS := St.start w0
  refine wp_seq_k fun K1 hK1 => ?_
  refine wp_region_lit ?_
  refine sv' hF (wn rfl) rfl rfl (R.assign (hF.ev rfl)) fun a hF => ?_
  refine sv' hF (wn rfl) rfl rfl (R.assign (hF.ev rfl)) fun a hF => ?_
  refine s0 ?_
  refine then_n (hK1 _ _ ?_)
  refine wp_seq_k fun K2 hK2 => ?_
  refine wp_seq_k fun K3 hK3 => ?_
  refine wp_region_lit ?_
  refine sv' hF (wn rfl) rfl rfl (R.move (hF.ev rfl)) fun a hF => ?_
  refine so (wn rfl) (O.call rfl rfl hF ent15 (hF.evs rfl) hS (rcheck_calls A n c xs _ (hA.old hS) hn hnc hc hB) fun v s13 a w hR hF hS => ?_)
  obtain ⟨rfl, rfl⟩ := hR
  rw [show chkV xs = .int .i64 100 from by rw [chkV, hck]; rfl] at hF
  refine sv' hF (wn rfl) rfl rfl (R.as (u := .bool true) (R.neq (p := 100) (q := 0) (hF.ev rfl) (hF.ev rfl)) (rfl)) fun a hF => ?_
  refine s0 ?_
  refine then_n (hK3 _ _ ?_)
  refine cT hF rfl ?_
  refine wp_seq_k fun K4 hK4 => ?_
  refine wp_region_lit ?_
  refine sv' hF (wn rfl) rfl rfl (R.assign (hF.ev rfl)) fun a hF => ?_
  refine sv' hF (wn rfl) rfl rfl (R.assign (hF.ev rfl)) fun a hF => ?_
  refine s0 ?_
  refine then_n (hK4 _ _ ?_)
  refine wp_ret (then_r (hR _ _ _ _ _ hF (run_results Tryz.results8 (.t hF rfl (.t hF rfl (.nil)))) ?_))
  exact ⟨_, [], rfl, ⟨rfl, rfl⟩, hS.none⟩
end Go.Proofs.YtlapmbkfmbkdoaaGreatDoor
end
section
namespace Go.Proofs.YtlapmbkfmbkdoaaGreatDoor
open Go Go.Fw Go.RowKit
attribute [local irreducible] Go.Oper.wp Go.Code.wp Go.wpList Go.Fw.WL Go.Calls
theorem len64_calls (x : Nat) (w0 : World) (hx : x < 18446744073709551616) : Ret Tryz.prog 147 [.int .u64 (x : Nat)] w0 [] (fun v s => v = .int .i64 ((bl x).length : Nat) ∧ s = []) := by
  refine fn_start Tryz.func147 rfl Tryz.ntmps147 rfl [(0, .int .u64 (x : Nat))] ⟨rfl, trivial⟩ ?_
  intro Q a hP hF hR hN
  have hS := St.start w0
  refine wp_seq_k fun K1 hK1 => ?_
  refine wp_region_lit ?_
  refine sv' hF (wn rfl) rfl rfl (R.assign (hF.ev rfl)) fun a hF => ?_
  refine s0 ?_
  refine then_n (hK1 _ _ ?_)
  refine wp_seq_k fun K2 hK2 => ?_
  have hK2' : ∀ a w, (∃ (y1 : Nat) (n1 : Nat), Fr 25 [(0, .int .u64 (y1 : Nat)), (2, .int .i64 (n1 : Nat))] a ∧ St w0 [] [] w ∧ (n1 + (bl y1).length = (bl x).length) ∧ (y1 < 4294967296) ∧ (n1 ≤ 32)) → K2 a w := by
    rintro a w ⟨y1, n1, hF, hS, e1, l1, m1⟩
    refine hK2 _ _ ?_
    refine wp_seq_k fun K3 hK3 => ?_
    have hK3' : ∀ a w, (∃ (y2 : Nat) (n2 : Nat), Fr 25 [(0, .int .u64 (y2 : Nat)), (2, .int .i64 (n2 : Nat))] a ∧ St w0 [] [] w ∧ (n2 + (bl y2).length = (bl x).length) ∧ (y2 < 65536) ∧ (n2 ≤ 48)) → K3 a w := by
      rintro a w ⟨y2, n2, hF, hS, e2, l2, m2⟩
      refine hK3 _ _ ?_
      refine wp_seq_k fun K4 hK4 => ?_
      have hK4' : ∀ a w, (∃ (y3 : Nat) (n3 : Nat), Fr 25 [(0, .int .u64 (y3 : Nat)), (2, .int .i64 (n3 : Nat))] a ∧ St w0 [] [] w ∧ (n3 + (bl y3).length = (bl x).length) ∧ (y3 < 256) ∧ (n3 ≤ 56)) → K4 a w := by
        rintro a w ⟨y3, n3, hF, hS, e3, l3, m3⟩
        refine hK4 _ _ ?_
        have h8 : (bl y3).length ≤ 8 := (length_bl_lt y3 8).2 l3
        refine wp_seq_k fun K5 hK5 => ?_
        refine wp_region_lit ?_
        refine sv' hF (wn rfl) rfl rfl (R.move (hF.ev rfl)) fun a hF => ?_
        refine sv' hF (wn rfl) rfl rfl (R.move (hF.ev rfl)) fun a hF => ?_
        refine sv' hF (wn rfl) rfl rfl (R.as (R.convB Tryz.underlying30 Tryz.underlying5 (hF.ev rfl)) (by rw [Nat.mod_eq_of_lt l3])) fun a hF => ?_
        refine sv' hF (wn rfl) rfl rfl (R.lenTab (hF.ev rfl) (by kernel_rfl) (hF.ev rfl) l3) fun a hF => ?_
        refine sv' hF (wn rfl) rfl rfl (R.convI Tryz.underlying5 Tryz.underlying3 (hF.ev rfl) (by omega)) fun a hF => ?_
        refine sv' hF (wn rfl) rfl rfl (R.addI (hF.ev rfl) (hF.ev rfl) (by omega)) fun a hF => ?_
        refine sv' hF (wn rfl) rfl rfl (R.assign (hF.ev rfl)) fun a hF => ?_
        refine s0 ?_
        refine then_n (hK5 _ _ ?_)
        refine wp_ret (hR _ _ _ _ _ hF (run_results Tryz.results147 (.t hF rfl (.nil))) ?_)
        exact ⟨_, [], rfl, ⟨congrArg (Value.int .i64) (by omega), rfl⟩, hS.none⟩
      refine wp_seq_k fun K6 hK6 => ?_
      refine wp_region_lit ?_
      refine sv' hF (wn rfl) rfl rfl (R.move (hF.ev rfl)) fun a hF => ?_
      refine sv' hF (wn rfl) rfl rfl (R.geq (hF.ev rfl) (hF.ev rfl)) fun a hF => ?_
      refine s0 ?_
      refine then_n (hK6 _ _ ?_)
      refine cD hF rfl (fun c1 => ?_) (fun c1 => ?_)
      ·
        refine wp_seq_k fun K7 hK7 => ?_
        refine wp_region_lit ?_
        refine sv' hF (wn rfl) rfl rfl (R.move (hF.ev rfl)) fun a hF => ?_
        refine sv' hF (wn rfl) rfl rfl (R.shrU (m := 8) (hF.ev rfl) (hF.ev rfl) (by decide)) fun a hF => ?_
        refine sv' hF (wn rfl) rfl rfl (R.assign (hF.ev rfl)) fun a hF => ?_
        refine s0 ?_
        refine then_n (hK7 _ _ ?_)
        refine wp_region_lit ?_
        refine sv' hF (wn rfl) rfl rfl (R.move (hF.ev rfl)) fun a hF => ?_
        refine sv' hF (wn rfl) rfl rfl (R.addI (hF.ev rfl) (hF.ev rfl) (by omega)) fun a hF => ?_
        refine sv' hF (wn rfl) rfl rfl (R.assign (hF.ev rfl)) fun a hF => ?_
        refine s0 ?_
        exact then_n (hK4' _ _ ⟨y2 / 2 ^ 8, n2 + 8, hF.sub ⟨rfl, rfl, trivial⟩, hS.sel [] rfl rfl, by have := len_shr (x := y2) (k := 8) (by omega); omega, by omega, by omega⟩)
      ·
        refine wp_skip ?_
        exact then_n (hK4' _ _ ⟨y2, n2, hF.sub ⟨rfl, rfl, trivial⟩, hS.sel [] rfl rfl, by omega, by omega, by omega⟩)
    refine wp_seq_k fun K8 hK8 => ?_
    refine wp_region_lit ?_
    refine sv' hF (wn rfl) rfl rfl (R.move (hF.ev rfl)) fun a hF => ?_
    refine sv' hF (wn rfl) rfl rfl (R.geq (hF.ev rfl) (hF.ev rfl)) fun a hF => ?_
    refine s0 ?_
    refine then_n (hK8 _ _ ?_)
    refine cD hF rfl (fun c2 => ?_) (fun c2 => ?_)
    ·
      refine wp_seq_k fun K9 hK9 => ?_
      refine wp_region_lit ?_
      refine sv' hF (wn rfl) rfl rfl (R.move (hF.ev rfl)) fun a hF => ?_
      refine sv' hF (wn rfl) rfl rfl (R.shrU (m := 16) (hF.ev rfl) (hF.ev rfl) (by decide)) fun a hF => ?_
      refine sv' hF (wn rfl) rfl rfl (R.assign (hF.ev rfl)) fun a hF => ?_
      refine s0 ?_
      refine then_n (hK9 _ _ ?_)
      refine wp_region_lit ?_
      refine sv' hF (wn rfl) rfl rfl (R.move (hF.ev rfl)) fun a hF => ?_
      refine sv' hF (wn rfl) rfl rfl (R.addI (hF.ev rfl) (hF.ev rfl) (by omega)) fun a hF => ?_
      refine sv' hF (wn rfl) rfl rfl (R.assign (hF.ev rfl)) fun a hF => ?_
      refine s0 ?_
      exact then_n (hK3' _ _ ⟨y1 / 2 ^ 16, n1 + 16, hF.sub ⟨rfl, rfl, trivial⟩, hS.sel [] rfl rfl, by have := len_shr (x := y1) (k := 16) (by omega); omega, by omega, by omega⟩)
    ·
      refine wp_skip ?_
      exact then_n (hK3' _ _ ⟨y1, n1, hF.sub ⟨rfl, rfl, trivial⟩, hS.sel [] rfl rfl, by omega, by omega, by omega⟩)
  refine wp_seq_k fun K10 hK10 => ?_
  refine wp_region_lit ?_
  refine sv' hF (wn rfl) rfl rfl (R.move (hF.ev rfl)) fun a hF => ?_
  refine sv' hF (wn rfl) rfl rfl (R.geq (hF.ev rfl) (hF.ev rfl)) fun a hF => ?_
  refine s0 ?_
  refine then_n (hK10 _ _ ?_)
  refine cD hF rfl (fun c3 => ?_) (fun c3 => ?_)
  ·
    refine wp_seq_k fun K11 hK11 => ?_
    refine wp_region_lit ?_
    refine sv' hF (wn rfl) rfl rfl (R.move (hF.ev rfl)) fun a hF => ?_
    refine sv' hF (wn rfl) rfl rfl (R.shrU (m := 32) (hF.ev rfl) (hF.ev rfl) (by decide)) fun a hF => ?_
    refine sv' hF (wn rfl) rfl rfl (R.assign (hF.ev rfl)) fun a hF => ?_
    refine s0 ?_
    refine then_n (hK11 _ _ ?_)
    refine wp_region_lit ?_
    refine sv' hF (wn rfl) rfl rfl (R.assign (hF.ev rfl)) fun a hF => ?_
    refine s0 ?_
    exact then_n (hK2' _ _ ⟨x / 2 ^ 32, 32, hF.sub ⟨rfl, rfl, trivial⟩, hS.sel [] rfl rfl, by have := len_shr (x := x) (k := 32) (by omega); omega, by omega, by omega⟩)
  ·
    refine wp_skip ?_
    exact then_n (hK2' _ _ ⟨x, 0, hF.sub ⟨rfl, rfl, trivial⟩, hS.sel [] rfl rfl, by omega, by omega, by omega⟩)
theorem lz64_calls (x : Nat) (w0 : World) (hx : x < 18446744073709551616) : Ret Tryz.prog 130 [.int .u64 (x : Nat)] w0 [] (fun v s => v = .int .i64 ((64 - (bl x).length : Nat) : Int) ∧ s = []) := by
  refine fn_start Tryz.func130 rfl Tryz.ntmps130 rfl [(0, .int .u64 (x : Nat))] ⟨rfl, trivial⟩ ?_
  intro Q a hP hF hR hN
  have hS := St.start w0
  refine wp_seq_k fun K1 hK1 => ?_
  refine wp_region_lit ?_
  refine sv' hF (wn rfl) rfl rfl (R.assign (hF.ev rfl)) fun a hF => ?_
  refine s0 ?_
  refine then_n (hK1 _ _ ?_)
  refine wp_seq_k fun K2 hK2 => ?_
  refine wp_region_lit ?_
  refine sv' hF (wn rfl) rfl rfl (R.move (hF.ev rfl)) fun a hF => ?_
  refine so (wn rfl) (O.call rfl rfl hF ent147 (hF.evs rfl) hS (len64_calls x _ hx) fun v s4 a w hR hF hS => ?_)
  obtain ⟨rfl, rfl⟩ := hR
  have hl := len64 hx
  refine sv' hF (wn rfl) rfl rfl (R.subI (hF.ev rfl) (hF.ev rfl) (by omega)) fun a hF => ?_
  refine sv' hF (wn rfl) rfl rfl (R.assign (hF.ev rfl)) fun a hF => ?_
  refine s0 ?_
  refine then_n (hK2 _ _ ?_)
  refine wp_ret (hR _ _ _ _ _ hF (run_results Tryz.results130 (.t hF rfl (.nil))) ?_)
  exact ⟨_, [], rfl, ⟨congrArg (Value.int .i64) (by omega), rfl⟩, hS.none⟩
theorem div64_calls (hi lo y : Nat) (w0 : World) (hhi : hi < y) (hlo : lo < 18446744073709551616) (hy2 : 9223372036854775808 ≤ y) (hy : y < 18446744073709551616) : Ret Tryz.prog 94 [.int .u64 ((hi : Nat) : Int), .int .u64 ((lo : Nat) : Int), .int .u64 ((y : Nat) : Int)] w0 [] (fun v s => v = .tuple #[.int .u64 (((hi * 18446744073709551616 + lo) / y : Nat) : Int), .int .u64 (((hi * 18446744073709551616 + lo) % y : Nat) : Int)] ∧ s = []) := by
  refine fn_start Tryz.func94 rfl Tryz.ntmps94 rfl [(0, .int .u64 ((hi : Nat) : Int)), (1, .int .u64 ((lo : Nat) : Int)), (2, .int .u64 ((y : Nat) : Int))] ⟨rfl, rfl, rfl, trivial⟩ ?_
  intro Q a hP hF hR hN
  have hS := St.start w0
  have hhB : hi < 18446744073709551616 := Nat.lt_trans hhi hy
  have e64 : (bl y).length = 64 := by
    have h1 := len64 hy
    have h2 : ¬ (bl y).length ≤ 63 := fun h => by have := (length_bl_lt y 63).1 h; omega
    omega
  have hv1 : lo / 4294967296 < 4294967296 := by omega
  have hv0 : lo % 4294967296 < 4294967296 := by omega
  have hR1 : ((hi * 4294967296 + lo / 4294967296) % y) < y := Nat.mod_lt _ (by omega)
  have hNq : (hi * 18446744073709551616 + lo) / y < 18446744073709551616 := by
    rw [Nat.div_lt_iff_lt_mul (by omega)]
    have : (hi + 1) * 18446744073709551616 ≤ y * 18446744073709551616 := Nat.mul_le_mul_right _ hhi
    rw [Nat.mul_comm 18446744073709551616 y]
    omega
  refine wp_seq_k fun K1 hK1 => ?_
  refine wp_region_lit ?_
  refine sv' hF (wn rfl) rfl rfl (R.assign (hF.ev rfl)) fun a hF => ?_
  refine sv' hF (wn rfl) rfl rfl (R.assign (hF.ev rfl)) fun a hF => ?_
  refine s0 ?_
  refine then_n (hK1 _ _ ?_)
  refine wp_seq_k fun K2 hK2 => ?_
  refine wp_seq_k fun K3 hK3 => ?_
  refine wp_region_lit ?_
  refine sv' hF (wn rfl) rfl rfl (R.move (hF.ev rfl)) fun a hF => ?_
  refine sv' hF (wn rfl) rfl rfl (R.eql (hF.ev rfl) (hF.ev rfl)) fun a hF => ?_
  refine s0 ?_
  refine then_n (hK3 _ _ ?_)
  refine cD hF rfl (fun z0 => ?_) (fun z0 => ?_)
  ·
    exfalso; omega
  ·
    refine wp_skip ?_
    refine then_n (hK2 _ _ ?_)
    refine wp_seq_k fun K4 hK4 => ?_
    refine wp_seq_k fun K5 hK5 => ?_
    refine wp_region_lit ?_
    refine sv' hF (wn rfl) rfl rfl (R.move (hF.ev rfl)) fun a hF => ?_
    refine sv' hF (wn rfl) rfl rfl (R.move (hF.ev rfl)) fun a hF => ?_
    refine sv' hF (wn rfl) rfl rfl (R.leq (hF.ev rfl) (hF.ev rfl)) fun a hF => ?_
    refine s0 ?_
    refine then_n (hK5 _ _ ?_)
    refine cD hF rfl (fun z1 => ?_) (fun z1 => ?_)
    ·
      exfalso; omega
    ·
      refine wp_skip ?_
      refine then_n (hK4 _ _ ?_)
      refine wp_seq_k fun K6 hK6 => ?_
      refine wp_seq_k fun K7 hK7 => ?_
      refine wp_region_lit ?_
      refine sv' hF (wn rfl) rfl rfl (R.move (hF.ev rfl)) fun a hF => ?_
      refine sv' hF (wn rfl) rfl rfl (R.eql (hF.ev rfl) (hF.ev rfl)) fun a hF => ?_
      refine s0 ?_
      refine then_n (hK7 _ _ ?_)
      refine cD hF rfl (fun z2 => ?_) (fun z2 => ?_)
      ·
        refine wp_seq_k fun K8 hK8 => ?_
        refine wp_drawS hS [(0, 0), (1, 0), (2, 0), (3, 0), (4, 0), (5, 0), (6, 0), (7, 0)] mix (by kernel_rfl) (hP.then.then) fun w hS => ?_
        have hD := hS
        refine dq hF rfl (wn rfl) rfl rfl (fun w => R.move (hF.ev rfl)) fun a hF => ?_
        refine dq hF rfl (wn rfl) rfl rfl (fun w => R.move (hF.ev rfl)) fun a hF => ?_
        refine dq hF rfl (wn rfl) rfl rfl (fun w => R.quoU (hF.ev rfl) (hF.ev rfl) (by omega) (by omega)) fun a hF => ?_
        refine dq hF rfl (wn rfl) rfl rfl (fun w => R.move (hF.ev rfl)) fun a hF => ?_
        refine dq hF rfl (wn rfl) rfl rfl (fun w => R.move (hF.ev rfl)) fun a hF => ?_
        refine dq hF rfl (wn rfl) rfl rfl (fun w => R.remU (hF.ev rfl) (hF.ev rfl) (by omega)) fun a hF => ?_
        refine dq hF rfl (wn rfl) rfl rfl (fun w => R.assign (hF.ev rfl)) fun a hF => ?_
        refine dq hF rfl (wn rfl) rfl rfl (fun w => R.assign (hF.ev rfl)) fun a hF => ?_
        refine d0 ?_
        refine then_n (hK8 _ _ ?_)
        refine wp_ret (then_r (hR _ _ _ _ _ hF (run_results Tryz.results94 (.t hF rfl (.t hF rfl (.nil)))) ?_))
        exact ⟨_, [], rfl, ⟨by (have h0 : hi = 0 := by omega); subst h0; simp only [Nat.zero_mul, Nat.zero_add]; rfl, rfl⟩, hS.none⟩
      ·
        refine wp_skip ?_
        refine then_n (hK6 _ _ ?_)
        refine wp_seq_k fun K9 hK9 => ?_
        refine wp_region_lit ?_
        refine sv' hF (wn rfl) rfl rfl (R.move (hF.ev rfl)) fun a hF => ?_
        refine so (wn rfl) (O.call rfl rfl hF ent130 (hF.evs rfl) hS (lz64_calls y _ hy) fun v s35 a w hR hF hS => ?_)
        obtain ⟨rfl, rfl⟩ := hR
        refine sv' hF (wn rfl) rfl rfl (R.as (u := .int .u64 ((0 : Nat) : Int)) (R.convU Tryz.underlying3 Tryz.underlying126 (hF.ev rfl)) (by rw [e64])) fun a hF => ?_
        refine sv' hF (wn rfl) rfl rfl (R.assign (hF.ev rfl)) fun a hF => ?_
        refine s0 ?_
        refine then_n (hK9 _ _ ?_)
        refine wp_seq_k fun K10 hK10 => ?_
        refine wp_region_lit ?_
        refine sv' hF (wn rfl) rfl rfl (R.move (hF.ev rfl)) fun a hF => ?_
        refine sv' hF (wn rfl) rfl rfl (R.move (hF.ev rfl)) fun a hF => ?_
        refine sv' hF (wn rfl) rfl rfl (R.as (u := .int .u64 ((y : Nat) : Int)) (R.shlU (m := 0) (hF.ev rfl) (hF.ev rfl) (by decide)) (by rw [Nat.pow_zero, Nat.mul_one, Nat.mod_eq_of_lt hy])) fun a hF => ?_
        refine sv' hF (wn rfl) rfl rfl (R.assign (hF.ev rfl)) fun a hF => ?_
        refine s0 ?_
        refine then_n (hK10 _ _ ?_)
        refine wp_seq_k fun K11 hK11 => ?_
        refine wp_region_lit ?_
        refine sv' hF (wn rfl) rfl rfl (R.move (hF.ev rfl)) fun a hF => ?_
        refine sv' hF (wn rfl) rfl rfl (R.as (u := .int .u64 (((y / 4294967296) : Nat) : Int)) (R.shrU (m := 32) (hF.ev rfl) (hF.ev rfl) (by decide)) (rfl)) fun a hF => ?_
        refine sv' hF (wn rfl) rfl rfl (R.assign (hF.ev rfl)) fun a hF => ?_
        refine s0 ?_
        refine then_n (hK11 _ _ ?_)
        refine wp_seq_k fun K12 hK12 => ?_
        refine wp_region_lit ?_
        refine sv' hF (wn rfl) rfl rfl (R.move (hF.ev rfl)) fun a hF => ?_
        refine sv' hF (wn rfl) rfl rfl (R.as (u := .int .u64 (((y % 4294967296) : Nat) : Int)) (R.andU (q := 4294967295) (hF.ev rfl) (hF.ev rfl) hy (by decide)) (by rw [and32n])) fun a hF => ?_
        refine sv' hF (wn rfl) rfl rfl (R.assign (hF.ev rfl)) fun a hF => ?_
        refine s0 ?_
        refine then_n (hK12 _ _ ?_)
        refine wp_seq_k fun K13 hK13 => ?_
        refine wp_region_lit ?_
        refine sv' hF (wn rfl) rfl rfl (R.move (hF.ev rfl)) fun a hF => ?_
        refine sv' hF (wn rfl) rfl rfl (R.move (hF.ev rfl)) fun a hF => ?_
        refine sv' hF (wn rfl) rfl rfl (R.as (u := .int .u64 ((hi : Nat) : Int)) (R.shlU (m := 0) (hF.ev rfl) (hF.ev rfl) (by decide)) (by rw [Nat.pow_zero, Nat.mul_one, Nat.mod_eq_of_lt hhB])) fun a hF => ?_
        refine sv' hF (wn rfl) rfl rfl (R.move (hF.ev rfl)) fun a hF => ?_
        refine sv' hF (wn rfl) rfl rfl (R.move (hF.ev rfl)) fun a hF => ?_
        refine sv' hF (wn rfl) rfl rfl (R.as (u := .int .u64 ((64 : Nat) : Int)) (R.subU (p := 64) (q := 0) (hF.ev rfl) (hF.ev rfl) (by decide)) (rfl)) fun a hF => ?_
        refine sv' hF (wn rfl) rfl rfl (R.as (u := .int .u64 ((0 : Nat) : Int)) (R.shrU (m := 64) (hF.ev rfl) (hF.ev rfl) (by decide)) (by rw [Nat.div_eq_of_lt (show lo < 2 ^ 64 from hlo)])) fun a hF => ?_
        refine sv' hF (wn rfl) rfl rfl (R.as (u := .int .u64 ((hi : Nat) : Int)) (R.orU (q := 0) (hF.ev rfl) (hF.ev rfl) hhB (by decide)) (by rw [Nat.or_zero])) fun a hF => ?_
        refine sv' hF (wn rfl) rfl rfl (R.assign (hF.ev rfl)) fun a hF => ?_
        refine s0 ?_
        refine then_n (hK13 _ _ ?_)
        refine wp_seq_k fun K14 hK14 => ?_
        refine wp_region_lit ?_
        refine sv' hF (wn rfl) rfl rfl (R.move (hF.ev rfl)) fun a hF => ?_
        refine sv' hF (wn rfl) rfl rfl (R.move (hF.ev rfl)) fun a hF => ?_
        refine sv' hF (wn rfl) rfl rfl (R.as (u := .int .u64 ((lo : Nat) : Int)) (R.shlU (m := 0) (hF.ev rfl) (hF.ev rfl) (by decide)) (by rw [Nat.pow_zero, Nat.mul_one, Nat.mod_eq_of_lt hlo])) fun a hF => ?_
        refine sv' hF (wn rfl) rfl rfl (R.assign (hF.ev rfl)) fun a hF => ?_
        refine s0 ?_
        refine then_n (hK14 _ _ ?_)
        refine wp_seq_k fun K15 hK15 => ?_
        refine wp_region_lit ?_
        refine sv' hF (wn rfl) rfl rfl (R.move (hF.ev rfl)) fun a hF => ?_
        refine sv' hF (wn rfl) rfl rfl (R.as (u := .int .u64 ((lo / 4294967296 : Nat) : Int)) (R.shrU (m := 32) (hF.ev rfl) (hF.ev rfl) (by decide)) (rfl)) fun a hF => ?_
        refine sv' hF (wn rfl) rfl rfl (R.assign (hF.ev rfl)) fun a hF => ?_
        refine s0 ?_
        refine then_n (hK15 _ _ ?_)
        refine wp_seq_k fun K16 hK16 => ?_
        refine wp_region_lit ?_
        refine sv' hF (wn rfl) rfl rfl (R.move (hF.ev rfl)) fun a hF => ?_
        refine sv' hF (wn rfl) rfl rfl (R.as (u := .int .u64 ((lo % 4294967296 : Nat) : Int)) (R.andU (q := 4294967295) (hF.ev rfl) (hF.ev rfl) hlo (by decide)) (by rw [and32n])) fun a hF => ?_
        refine sv' hF (wn rfl) rfl rfl (R.assign (hF.ev rfl)) fun a hF => ?_
        refine s0 ?_
        refine then_n (hK16 _ _ ?_)
        refine wp_seq_k fun K17 hK17 => ?_
        refine wp_region_lit ?_
        refine sv' hF (wn rfl) rfl rfl (R.move (hF.ev rfl)) fun a hF => ?_
        refine sv' hF (wn rfl) rfl rfl (R.move (hF.ev rfl)) fun a hF => ?_
        refine sv' hF (wn rfl) rfl rfl (R.quoU (hF.ev rfl) (hF.ev rfl) (by omega) (by omega)) fun a hF => ?_
        refine sv' hF (wn rfl) rfl rfl (R.assign (hF.ev rfl)) fun a hF => ?_
        refine s0 ?_
        refine then_n (hK17 _ _ ?_)
        refine wp_seq_k fun K18 hK18 => ?_
        refine wp_region_lit ?_
        refine sv' hF (wn rfl) rfl rfl (R.move (hF.ev rfl)) fun a hF => ?_
        refine sv' hF (wn rfl) rfl rfl (R.move (hF.ev rfl)) fun a hF => ?_
        refine sv' hF (wn rfl) rfl rfl (R.move (hF.ev rfl)) fun a hF => ?_
        refine sv' hF (wn rfl) rfl rfl (R.mulU (hF.ev rfl) (hF.ev rfl)) fun a hF => ?_
        refine sv' hF (wn rfl) rfl rfl (R.as (u := .int .u64 ((hi % (y / 4294967296) : Nat) : Int)) (R.subU (hF.ev rfl) (hF.ev rfl) (by omega)) (congrArg (fun z : Nat => Value.int .u64 (z : Int)) (by have := (q_start hy2 hv1 hhi).1; omega))) fun a hF => ?_
        refine sv' hF (wn rfl) rfl rfl (R.assign (hF.ev rfl)) fun a hF => ?_
        refine s0 ?_
        refine then_n (hK18 _ _ ?_)
        refine wp_seq_k fun K19 hK19 => ?_
        have hK19' : ∀ a w, (Fr 135 [(2, .int .u64 ((y : Nat) : Int)), (8, .int .u64 ((0 : Nat) : Int)), (9, .int .u64 (((y / 4294967296) : Nat) : Int)), (10, .int .u64 (((y % 4294967296) : Nat) : Int)), (11, .int .u64 ((hi : Nat) : Int)), (13, .int .u64 ((lo / 4294967296 : Nat) : Int)), (14, .int .u64 ((lo % 4294967296 : Nat) : Int)), (15, .int .u64 ((((hi * 4294967296 + lo / 4294967296) / y) : Nat) : Int))] a ∧ St w0 [] [] w) → K19 a w := by
          rintro a w ⟨hF, hS⟩
          refine hK19 _ _ ?_
          refine wp_seq_k fun K20 hK20 => ?_
          refine wp_region_lit ?_
          refine sv' hF (wn rfl) rfl rfl (R.move (hF.ev rfl)) fun a hF => ?_
          refine sv' hF (wn rfl) rfl rfl (R.mulU (q := 4294967296) (hF.ev rfl) (hF.ev rfl)) fun a hF => ?_
          refine sv' hF (wn rfl) rfl rfl (R.move (hF.ev rfl)) fun a hF => ?_
          refine sv' hF (wn rfl) rfl rfl (R.addU (hF.ev rfl) (hF.ev rfl)) fun a hF => ?_
          refine sv' hF (wn rfl) rfl rfl (R.move (hF.ev rfl)) fun a hF => ?_
          refine sv' hF (wn rfl) rfl rfl (R.move (hF.ev rfl)) fun a hF => ?_
          refine sv' hF (wn rfl) rfl rfl (R.mulU (hF.ev rfl) (hF.ev rfl)) fun a hF => ?_
          refine sv' hF (wn rfl) rfl rfl (R.as (u := .int .u64 ((((hi * 4294967296 + lo / 4294967296) % y) : Nat) : Int)) (R.subU (hF.ev rfl) (hF.ev rfl) (by omega)) (congrArg (fun z : Nat => Value.int .u64 (z : Int)) (rest_is rest_of (by omega)))) fun a hF => ?_
          refine sv' hF (wn rfl) rfl rfl (R.assign (hF.ev rfl)) fun a hF => ?_
          refine s0 ?_
          refine then_n (hK20 _ _ ?_)
          refine wp_seq_k fun K21 hK21 => ?_
          refine wp_region_lit ?_
          refine sv' hF (wn rfl) rfl rfl (R.move (hF.ev rfl)) fun a hF => ?_
          refine sv' hF (wn rfl) rfl rfl (R.move (hF.ev rfl)) fun a hF => ?_
          refine sv' hF (wn rfl) rfl rfl (R.quoU (hF.ev rfl) (hF.ev rfl) (by omega) (by omega)) fun a hF => ?_
          refine sv' hF (wn rfl) rfl rfl (R.assign (hF.ev rfl)) fun a hF => ?_
          refine s0 ?_
          refine then_n (hK21 _ _ ?_)
          refine wp_seq_k fun K22 hK22 => ?_
          refine wp_region_lit ?_
          refine sv' hF (wn rfl) rfl rfl (R.move (hF.ev rfl)) fun a hF => ?_
          refine sv' hF (wn rfl) rfl rfl (R.move (hF.ev rfl)) fun a hF => ?_
          refine sv' hF (wn rfl) rfl rfl (R.move (hF.ev rfl)) fun a hF => ?_
          refine sv' hF (wn rfl) rfl rfl (R.mulU (hF.ev rfl) (hF.ev rfl)) fun a hF => ?_
          refine sv' hF (wn rfl) rfl rfl (R.as (u := .int .u64 ((((hi * 4294967296 + lo / 4294967296) % y) % (y / 4294967296) : Nat) : Int)) (R.subU (hF.ev rfl) (hF.ev rfl) (by omega)) (congrArg (fun z : Nat => Value.int .u64 (z : Int)) (by have := (q_start hy2 hv0 hR1).1; omega))) fun a hF => ?_
          refine sv' hF (wn rfl) rfl rfl (R.assign (hF.ev rfl)) fun a hF => ?_
          refine s0 ?_
          refine then_n (hK22 _ _ ?_)
          refine wp_seq_k fun K23 hK23 => ?_
          have hK23' : ∀ a w, (Fr 135 [(2, .int .u64 ((y : Nat) : Int)), (8, .int .u64 ((0 : Nat) : Int)), (9, .int .u64 (((y / 4294967296) : Nat) : Int)), (10, .int .u64 (((y % 4294967296) : Nat) : Int)), (14, .int .u64 ((lo % 4294967296 : Nat) : Int)), (15, .int .u64 ((((hi * 4294967296 + lo / 4294967296) / y) : Nat) : Int)), (17, .int .u64 ((((hi * 4294967296 + lo / 4294967296) % y) : Nat) : Int)), (18, .int .u64 ((((((hi * 4294967296 + lo / 4294967296) % y) * 4294967296 + lo % 4294967296) / y) : Nat) : Int))] a ∧ St w0 [] [] w) → K23 a w := by
            rintro a w ⟨hF, hS⟩
            refine hK23 _ _ ?_
            refine wp_seq_k fun K24 hK24 => ?_
            refine wp_region_lit ?_
            refine sv' hF (wn rfl) rfl rfl (R.move (hF.ev rfl)) fun a hF => ?_
            refine sv' hF (wn rfl) rfl rfl (R.mulU (q := 4294967296) (hF.ev rfl) (hF.ev rfl)) fun a hF => ?_
            refine sv' hF (wn rfl) rfl rfl (R.move (hF.ev rfl)) fun a hF => ?_
            refine sv' hF (wn rfl) rfl rfl (R.as (u := .int .u64 (((hi * 18446744073709551616 + lo) / y : Nat) : Int)) (R.addU (hF.ev rfl) (hF.ev rfl)) (congrArg (fun z : Nat => Value.int .u64 (z : Int)) (by rw [(div64_law (show 0 < y by omega)).1] at hNq ⊢; exact sum_is hNq))) fun a hF => ?_
            refine sv' hF (wn rfl) rfl rfl (R.move (hF.ev rfl)) fun a hF => ?_
            refine sv' hF (wn rfl) rfl rfl (R.mulU (q := 4294967296) (hF.ev rfl) (hF.ev rfl)) fun a hF => ?_
            refine sv' hF (wn rfl) rfl rfl (R.move (hF.ev rfl)) fun a hF => ?_
            refine sv' hF (wn rfl) rfl rfl (R.addU (hF.ev rfl) (hF.ev rfl)) fun a hF => ?_
            refine sv' hF (wn rfl) rfl rfl (R.move (hF.ev rfl)) fun a hF => ?_
            refine sv' hF (wn rfl) rfl rfl (R.move (hF.ev rfl)) fun a hF => ?_
            refine sv' hF (wn rfl) rfl rfl (R.mulU (hF.ev rfl) (hF.ev rfl)) fun a hF => ?_
            refine sv' hF (wn rfl) rfl rfl (R.as (u := .int .u64 (((hi * 18446744073709551616 + lo) % y : Nat) : Int)) (R.subU (hF.ev rfl) (hF.ev rfl) (by omega)) (congrArg (fun z : Nat => Value.int .u64 (z : Int)) (by rw [(div64_law (show 0 < y by omega)).2]; exact rest_is rest_of (Nat.lt_trans (Nat.mod_lt _ (by omega)) hy)))) fun a hF => ?_
            refine sv' hF (wn rfl) rfl rfl (R.move (hF.ev rfl)) fun a hF => ?_
            refine sv' hF (wn rfl) rfl rfl (R.as (u := .int .u64 (((hi * 18446744073709551616 + lo) % y : Nat) : Int)) (R.shrU (m := 0) (hF.ev rfl) (hF.ev rfl) (by decide)) (by rw [Nat.pow_zero, Nat.div_one])) fun a hF => ?_
            refine sv' hF (wn rfl) rfl rfl (R.assign (hF.ev rfl)) fun a hF => ?_
            refine sv' hF (wn rfl) rfl rfl (R.assign (hF.ev rfl)) fun a hF => ?_
            refine s0 ?_
            refine then_n (hK24 _ _ ?_)
            refine wp_ret (hR _ _ _ _ _ hF (run_results Tryz.results94 (.t hF rfl (.t hF rfl (.nil)))) ?_)
            exact ⟨_, [], rfl, ⟨rfl, rfl⟩, hS.none⟩
          refine wp_block ?_
          refine wp_loop_N (fun g a w => ∃ (q : Nat) (r : Nat), q = g ∧ Fr 135 [(2, .int .u64 ((y : Nat) : Int)), (8, .int .u64 ((0 : Nat) : Int)), (9, .int .u64 (((y / 4294967296) : Nat) : Int)), (10, .int .u64 (((y % 4294967296) : Nat) : Int)), (14, .int .u64 ((lo % 4294967296 : Nat) : Int)), (15, .int .u64 ((((hi * 4294967296 + lo / 4294967296) / y) : Nat) : Int)), (17, .int .u64 ((((hi * 4294967296 + lo / 4294967296) % y) : Nat) : Int)), (18, .int .u64 ((q : Nat) : Int)), (16, .int .u64 ((r : Nat) : Int))] a ∧ St w0 [] [] w ∧ (q * (y / 4294967296) + r = ((hi * 4294967296 + lo / 4294967296) % y)) ∧ ((((hi * 4294967296 + lo / 4294967296) % y) * 4294967296 + lo % 4294967296) / y ≤ q) ∧ (q ≤ 4294967297) ∧ (r < 4294967296)) (((hi * 4294967296 + lo / 4294967296) % y) / (y / 4294967296)) ?_ ?_
          · exact ⟨((hi * 4294967296 + lo / 4294967296) % y) / (y / 4294967296), ((hi * 4294967296 + lo / 4294967296) % y) % (y / 4294967296), rfl, hF.sub ⟨rfl, rfl, rfl, rfl, rfl, rfl, rfl, rfl, rfl, trivial⟩, hS.sel [] rfl rfl, (q_start hy2 hv0 hR1).1, (q_start hy2 hv0 hR1).2.1, (q_start hy2 hv0 hR1).2.2, by have := Nat.mod_lt ((hi * 4294967296 + lo / 4294967296) % y) (show 0 < (y / 4294967296) by omega); omega⟩
          · rintro KL1 g a w ⟨q, r, hg1, hF, hS, hq, hge, hqm, hr⟩ hKL1
            refine wp_seq_k fun K25 hK25 => ?_
            refine wp_seq_k fun K26 hK26 => ?_
            have hK26' : ∀ a w, (Fr 135 [(2, .int .u64 ((y : Nat) : Int)), (8, .int .u64 ((0 : Nat) : Int)), (9, .int .u64 (((y / 4294967296) : Nat) : Int)), (10, .int .u64 (((y % 4294967296) : Nat) : Int)), (14, .int .u64 ((lo % 4294967296 : Nat) : Int)), (15, .int .u64 ((((hi * 4294967296 + lo / 4294967296) / y) : Nat) : Int)), (17, .int .u64 ((((hi * 4294967296 + lo / 4294967296) % y) : Nat) : Int)), (18, .int .u64 ((q : Nat) : Int)), (16, .int .u64 ((r : Nat) : Int)), (113, .bool (decide (4294967296 ≤ q ∨ 4294967296 * r + lo % 4294967296 < q * (y % 4294967296))))] a ∧ St w0 [] [] w) → K26 a w := by
              rintro a w ⟨hF, hS⟩
              refine hK26 _ _ ?_
              refine cD hF rfl (fun z4 => ?_) (fun z4 => ?_)
              ·
                have hn := q_next hv0 hR1 hq hge (by omega)
                refine wp_skip ?_
                refine then_n (hK25 _ _ ?_)
                refine wp_block ?_
                refine wp_seq_k fun K27 hK27 => ?_
                refine wp_region_lit ?_
                refine sv' hF (wn rfl) rfl rfl (R.move (hF.ev rfl)) fun a hF => ?_
                refine sv' hF (wn rfl) rfl rfl (R.as (u := .int .u64 ((q - 1 : Nat) : Int)) (R.subU (q := 1) (hF.ev rfl) (hF.ev rfl) (by decide)) (congrArg (fun z : Nat => Value.int .u64 (z : Int)) (by omega))) fun a hF => ?_
                refine sv' hF (wn rfl) rfl rfl (R.assign (hF.ev rfl)) fun a hF => ?_
                refine s0 ?_
                refine then_n (hK27 _ _ ?_)
                refine wp_seq_k fun K28 hK28 => ?_
                refine wp_region_lit ?_
                refine sv' hF (wn rfl) rfl rfl (R.move (hF.ev rfl)) fun a hF => ?_
                refine sv' hF (wn rfl) rfl rfl (R.move (hF.ev rfl)) fun a hF => ?_
                refine sv' hF (wn rfl) rfl rfl (R.as (u := .int .u64 ((r + (y / 4294967296) : Nat) : Int)) (R.addU (hF.ev rfl) (hF.ev rfl)) (congrArg (fun z : Nat => Value.int .u64 (z : Int)) (by omega))) fun a hF => ?_
                refine sv' hF (wn rfl) rfl rfl (R.assign (hF.ev rfl)) fun a hF => ?_
                refine s0 ?_
                refine then_n (hK28 _ _ ?_)
                refine wp_seq_k fun K29 hK29 => ?_
                refine wp_region_lit ?_
                refine sv' hF (wn rfl) rfl rfl (R.move (hF.ev rfl)) fun a hF => ?_
                refine sv' hF (wn rfl) rfl rfl (R.geq (hF.ev rfl) (hF.ev rfl)) fun a hF => ?_
                refine s0 ?_
                refine then_n (hK29 _ _ ?_)
                refine cD hF rfl (fun z6 => ?_) (fun z6 => ?_)
                ·
                  refine wp_exit (blk_miss rfl (then_x (blk_hit ?_)))
                  exact then_n (hK23' _ _ ⟨hF.sub ⟨rfl, rfl, rfl, rfl, rfl, rfl, rfl, (congrArg (fun z : Nat => some (Value.int .u64 (z : Int))) (q_exit hy2 hv0 hR1 hq hge hqm (by omega) (by omega))), trivial⟩, hS.sel [] rfl rfl⟩)
                ·
                  refine wp_skip ?_
                  refine blk_n ?_
                  refine then_n (hKL1 (q - 1) _ _ ?_ ?_)
                  · omega
                  · exact ⟨q - 1, r + (y / 4294967296), rfl, hF.sub ⟨rfl, rfl, rfl, rfl, rfl, rfl, rfl, rfl, rfl, trivial⟩, hS.sel [] rfl rfl, hn.2.1, hn.1, by omega, by omega⟩
              ·
                refine wp_exit (then_x (then_x (blk_hit ?_)))
                exact then_n (hK23' _ _ ⟨hF.sub ⟨rfl, rfl, rfl, rfl, rfl, rfl, rfl, (congrArg (fun z : Nat => some (Value.int .u64 (z : Int))) (q_stop hy2 hq hge (by omega))), trivial⟩, hS.sel [] rfl rfl⟩)
            refine wp_region_lit ?_
            refine sv' hF (wn rfl) rfl rfl (R.move (hF.ev rfl)) fun a hF => ?_
            refine sv' hF (wn rfl) rfl rfl (R.geq (hF.ev rfl) (hF.ev rfl)) fun a hF => ?_
            refine sv' hF (wn rfl) rfl rfl (R.move (hF.ev rfl)) fun a hF => ?_
            refine hF.splitD (t := 104) rfl (fun h104 hF => ?_) (fun h104 hF => ?_)
            ·
              refine sk hF (ws hF rfl rfl rfl rfl) rfl rfl fun a hF => ?_
              refine sk hF (ws hF rfl rfl rfl rfl) rfl rfl fun a hF => ?_
              refine sk hF (ws hF rfl rfl rfl rfl) rfl rfl fun a hF => ?_
              refine sk hF (ws hF rfl rfl rfl rfl) rfl rfl fun a hF => ?_
              refine sk hF (ws hF rfl rfl rfl rfl) rfl rfl fun a hF => ?_
              refine sk hF (ws hF rfl rfl rfl rfl) rfl rfl fun a hF => ?_
              refine sk hF (ws hF rfl rfl rfl rfl) rfl rfl fun a hF => ?_
              refine sk hF (ws hF rfl rfl rfl rfl) rfl rfl fun a hF => ?_
              refine sv' hF (wn rfl) rfl rfl (R.pickT (hF.ev rfl) (hF.ev rfl)) fun a hF => ?_
              refine s0 ?_
              exact then_n (hK26' _ _ ⟨hF.sub ⟨rfl, rfl, rfl, rfl, rfl, rfl, rfl, rfl, rfl, (congrArg (fun z => some (Value.bool z)) (by first | exact (decide_eq_true (by omega)).symm | exact decide_eq_decide.2 (by omega))), trivial⟩, hS.sel [] rfl rfl⟩)
            ·
              have hqy : q * (y % 4294967296) ≤ 4294967295 * 4294967295 := Nat.mul_le_mul (by omega) (by omega)
              refine sv' hF (wy hF rfl rfl rfl) rfl rfl (R.move (hF.ev rfl)) fun a hF => ?_
              refine sv' hF (wy hF rfl rfl rfl) rfl rfl (R.move (hF.ev rfl)) fun a hF => ?_
              refine sv' hF (wy hF rfl rfl rfl) rfl rfl (R.mulU (hF.ev rfl) (hF.ev rfl)) fun a hF => ?_
              refine sv' hF (wy hF rfl rfl rfl) rfl rfl (R.move (hF.ev rfl)) fun a hF => ?_
              refine sv' hF (wy hF rfl rfl rfl) rfl rfl (R.mulU (p := 4294967296) (hF.ev rfl) (hF.ev rfl)) fun a hF => ?_
              refine sv' hF (wy hF rfl rfl rfl) rfl rfl (R.move (hF.ev rfl)) fun a hF => ?_
              refine sv' hF (wy hF rfl rfl rfl) rfl rfl (R.addU (hF.ev rfl) (hF.ev rfl)) fun a hF => ?_
              refine sv' hF (wy hF rfl rfl rfl) rfl rfl (R.gtr (hF.ev rfl) (hF.ev rfl)) fun a hF => ?_
              refine sv' hF (wn rfl) rfl rfl (R.pickF (hF.ev rfl) (hF.ev rfl)) fun a hF => ?_
              refine s0 ?_
              exact then_n (hK26' _ _ ⟨hF.sub ⟨rfl, rfl, rfl, rfl, rfl, rfl, rfl, rfl, rfl, (congrArg (fun z => some (Value.bool z)) (by first | exact (decide_eq_true (by omega)).symm | exact decide_eq_decide.2 (by omega))), trivial⟩, hS.sel [] rfl rfl⟩)
        refine wp_block ?_
        refine wp_loop_N (fun g a w => ∃ (q : Nat) (r : Nat), q = g ∧ Fr 135 [(2, .int .u64 ((y : Nat) : Int)), (8, .int .u64 ((0 : Nat) : Int)), (9, .int .u64 (((y / 4294967296) : Nat) : Int)), (10, .int .u64 (((y % 4294967296) : Nat) : Int)), (11, .int .u64 ((hi : Nat) : Int)), (12, .int .u64 ((lo : Nat) : Int)), (13, .int .u64 ((lo / 4294967296 : Nat) : Int)), (14, .int .u64 ((lo % 4294967296 : Nat) : Int)), (15, .int .u64 ((q : Nat) : Int)), (16, .int .u64 ((r : Nat) : Int))] a ∧ St w0 [] [] w ∧ (q * (y / 4294967296) + r = hi) ∧ ((hi * 4294967296 + lo / 4294967296) / y ≤ q) ∧ (q ≤ 4294967297) ∧ (r < 4294967296)) (hi / (y / 4294967296)) ?_ ?_
        · exact ⟨hi / (y / 4294967296), hi % (y / 4294967296), rfl, hF.sub ⟨rfl, rfl, rfl, rfl, rfl, rfl, rfl, rfl, rfl, rfl, trivial⟩, hS.sel [] rfl rfl, (q_start hy2 hv1 hhi).1, (q_start hy2 hv1 hhi).2.1, (q_start hy2 hv1 hhi).2.2, by have := Nat.mod_lt hi (show 0 < (y / 4294967296) by omega); omega⟩
        · rintro KL2 g a w ⟨q, r, hg2, hF, hS, hq, hge, hqm, hr⟩ hKL2
          refine wp_seq_k fun K30 hK30 => ?_
          refine wp_seq_k fun K31 hK31 => ?_
          have hK31' : ∀ a w, (Fr 135 [(2, .int .u64 ((y : Nat) : Int)), (8, .int .u64 ((0 : Nat) : Int)), (9, .int .u64 (((y / 4294967296) : Nat) : Int)), (10, .int .u64 (((y % 4294967296) : Nat) : Int)), (11, .int .u64 ((hi : Nat) : Int)), (12, .int .u64 ((lo : Nat) : Int)), (13, .int .u64 ((lo / 4294967296 : Nat) : Int)), (14, .int .u64 ((lo % 4294967296 : Nat) : Int)), (15, .int .u64 ((q : Nat) : Int)), (16, .int .u64 ((r : Nat) : Int)), (78, .bool (decide (4294967296 ≤ q ∨ 4294967296 * r + lo / 4294967296 < q * (y % 4294967296))))] a ∧ St w0 [] [] w) → K31 a w := by
            rintro a w ⟨hF, hS⟩
            refine hK31 _ _ ?_
            refine cD hF rfl (fun z3 => ?_) (fun z3 => ?_)
            ·
              have hn := q_next hv1 hhi hq hge (by omega)
              refine wp_skip ?_
              refine then_n (hK30 _ _ ?_)
              refine wp_block ?_
              refine wp_seq_k fun K32 hK32 => ?_
              refine wp_region_lit ?_
              refine sv' hF (wn rfl) rfl rfl (R.move (hF.ev rfl)) fun a hF => ?_
              refine sv' hF (wn rfl) rfl rfl (R.as (u := .int .u64 ((q - 1 : Nat) : Int)) (R.subU (q := 1) (hF.ev rfl) (hF.ev rfl) (by decide)) (congrArg (fun z : Nat => Value.int .u64 (z : Int)) (by omega))) fun a hF => ?_
              refine sv' hF (wn rfl) rfl rfl (R.assign (hF.ev rfl)) fun a hF => ?_
              refine s0 ?_
              refine then_n (hK32 _ _ ?_)
              refine wp_seq_k fun K33 hK33 => ?_
              refine wp_region_lit ?_
              refine sv' hF (wn rfl) rfl rfl (R.move (hF.ev rfl)) fun a hF => ?_
              refine sv' hF (wn rfl) rfl rfl (R.move (hF.ev rfl)) fun a hF => ?_
              refine sv' hF (wn rfl) rfl rfl (R.as (u := .int .u64 ((r + (y / 4294967296) : Nat) : Int)) (R.addU (hF.ev rfl) (hF.ev rfl)) (congrArg (fun z : Nat => Value.int .u64 (z : Int)) (by omega))) fun a hF => ?_
              refine sv' hF (wn rfl) rfl rfl (R.assign (hF.ev rfl)) fun a hF => ?_
              refine s0 ?_
              refine then_n (hK33 _ _ ?_)
              refine wp_seq_k fun K34 hK34 => ?_
              refine wp_region_lit ?_
              refine sv' hF (wn rfl) rfl rfl (R.move (hF.ev rfl)) fun a hF => ?_
              refine sv' hF (wn rfl) rfl rfl (R.geq (hF.ev rfl) (hF.ev rfl)) fun a hF => ?_
              refine s0 ?_
              refine then_n (hK34 _ _ ?_)
              refine cD hF rfl (fun z5 => ?_) (fun z5 => ?_)
              ·
                refine wp_exit (blk_miss rfl (then_x (blk_hit ?_)))
                exact then_n (hK19' _ _ ⟨hF.sub ⟨rfl, rfl, rfl, rfl, rfl, rfl, rfl, (congrArg (fun z : Nat => some (Value.int .u64 (z : Int))) (q_exit hy2 hv1 hhi hq hge hqm (by omega) (by omega))), trivial⟩, hS.sel [] rfl rfl⟩)
              ·
                refine wp_skip ?_
                refine blk_n ?_
                refine then_n (hKL2 (q - 1) _ _ ?_ ?_)
                · omega
                · exact ⟨q - 1, r + (y / 4294967296), rfl, hF.sub ⟨rfl, rfl, rfl, rfl, rfl, rfl, rfl, rfl, rfl, rfl, trivial⟩, hS.sel [] rfl rfl, hn.2.1, hn.1, by omega, by omega⟩
            ·
              refine wp_exit (then_x (then_x (blk_hit ?_)))
              exact then_n (hK19' _ _ ⟨hF.sub ⟨rfl, rfl, rfl, rfl, rfl, rfl, rfl, (congrArg (fun z : Nat => some (Value.int .u64 (z : Int))) (q_stop hy2 hq hge (by omega))), trivial⟩, hS.sel [] rfl rfl⟩)
          refine wp_region_lit ?_
          refine sv' hF (wn rfl) rfl rfl (R.move (hF.ev rfl)) fun a hF => ?_
          refine sv' hF (wn rfl) rfl rfl (R.geq (hF.ev rfl) (hF.ev rfl)) fun a hF => ?_
          refine sv' hF (wn rfl) rfl rfl (R.move (hF.ev rfl)) fun a hF => ?_
          refine hF.splitD (t := 69) rfl (fun h69 hF => ?_) (fun h69 hF => ?_)
          ·
            refine sk hF (ws hF rfl rfl rfl rfl) rfl rfl fun a hF => ?_
            refine sk hF (ws hF rfl rfl rfl rfl) rfl rfl fun a hF => ?_
            refine sk hF (ws hF rfl rfl rfl rfl) rfl rfl fun a hF => ?_
            refine sk hF (ws hF rfl rfl rfl rfl) rfl rfl fun a hF => ?_
            refine sk hF (ws hF rfl rfl rfl rfl) rfl rfl fun a hF => ?_
            refine sk hF (ws hF rfl rfl rfl rfl) rfl rfl fun a hF => ?_
            refine sk hF (ws hF rfl rfl rfl rfl) rfl rfl fun a hF => ?_
            refine sk hF (ws hF rfl rfl rfl rfl) rfl rfl fun a hF => ?_
            refine sv' hF (wn rfl) rfl rfl (R.pickT (hF.ev rfl) (hF.ev rfl)) fun a hF => ?_
            refine s0 ?_
            exact then_n (hK31' _ _ ⟨hF.sub ⟨rfl, rfl, rfl, rfl, rfl, rfl, rfl, rfl, rfl, rfl, (congrArg (fun z => some (Value.bool z)) (by first | exact (decide_eq_true (by omega)).symm | exact decide_eq_decide.2 (by omega))), trivial⟩, hS.sel [] rfl rfl⟩)
          ·
            have hqy : q * (y % 4294967296) ≤ 4294967295 * 4294967295 := Nat.mul_le_mul (by omega) (by omega)
            refine sv' hF (wy hF rfl rfl rfl) rfl rfl (R.move (hF.ev rfl)) fun a hF => ?_
            refine sv' hF (wy hF rfl rfl rfl) rfl rfl (R.move (hF.ev rfl)) fun a hF => ?_
            refine sv' hF (wy hF rfl rfl rfl) rfl rfl (R.mulU (hF.ev rfl) (hF.ev rfl)) fun a hF => ?_
            refine sv' hF (wy hF rfl rfl rfl) rfl rfl (R.move (hF.ev rfl)) fun a hF => ?_
            refine sv' hF (wy hF rfl rfl rfl) rfl rfl (R.mulU (p := 4294967296) (hF.ev rfl) (hF.ev rfl)) fun a hF => ?_
            refine sv' hF (wy hF rfl rfl rfl) rfl rfl (R.move (hF.ev rfl)) fun a hF => ?_
            refine sv' hF (wy hF rfl rfl rfl) rfl rfl (R.addU (hF.ev rfl) (hF.ev rfl)) fun a hF => ?_
            refine sv' hF (wy hF rfl rfl rfl) rfl rfl (R.gtr (hF.ev rfl) (hF.ev rfl)) fun a hF => ?_
            refine sv' hF (wn rfl) rfl rfl (R.pickF (hF.ev rfl) (hF.ev rfl)) fun a hF => ?_
            refine s0 ?_
            exact then_n (hK31' _ _ ⟨hF.sub ⟨rfl, rfl, rfl, rfl, rfl, rfl, rfl, rfl, rfl, rfl, (congrArg (fun z => some (Value.bool z)) (by first | exact (decide_eq_true (by omega)).symm | exact decide_eq_decide.2 (by omega))), trivial⟩, hS.sel [] rfl rfl⟩)
theorem text_calls (x : Nat) (w0 : World) (hx : x < 115792089237316195423570985008687907853269984665640564039457584007913129639936) : Ret Tryz.prog 38 [wv x] w0 [] (fun v s => v = .string (bstr (txt x)) ∧ s = []) := by
  refine fn_start Tryz.func38 rfl Tryz.ntmps38 rfl [(0, wv x)] ⟨rfl, trivial⟩ ?_
  intro Q a hP hF hR hN
  have hS := St.start w0
  refine wp_seq_k fun K1 hK1 => ?_
  refine wp_region_lit ?_
  refine so (wn rfl) (O.box rfl rfl hF (hF.ev rfl) rfl hS fun b1 a w hF hS => ?_)
  refine sv' hF (wn rfl) rfl rfl (R.assign (hF.ev rfl)) fun a hF => ?_
  refine s0 ?_
  refine then_n (hK1 _ _ ?_)
  refine wp_seq_k fun K2 hK2 => ?_
  have hS := hS.cons0
  refine wp_region_lit ?_
  refine sv' hF (wn rfl) rfl rfl (R.assign (hF.ev rfl)) fun a hF => ?_
  refine s0 ?_
  refine then_n (hK2 _ _ ?_)
  refine wp_seq_k fun K3 hK3 => ?_
  refine wp_block ?_
  refine wp_loop_N (fun g a w => ∃ (y : Nat) (l : List Nat) (A : Option Addr) (e : Nat) (s : Seg), y + (if l.length = 0 then 1 else 0) = g ∧ Fr 85 [(1, .pointer (some ⟨b1, 0, none⟩)), (3, .slice A l.length e)] a ∧ St w0 [] [[(b1, Cel (wc y) 32)], s] w ∧ (OwnS s A l.length e (dch l) 5 1) ∧ (Dig l) ∧ (val10 l + 10 ^ l.length * y = x) ∧ (y ≤ x)) (x + (if 0 = 0 then 1 else 0)) ?_ ?_
  · exact ⟨x, [], none, 0, [], rfl, hF.sub ⟨rfl, rfl, trivial⟩, hS.sel [1, 0] rfl rfl, OwnS.nil 5 1, by intro b hb; simp at hb, by simp [val10], Nat.le_refl _⟩
  · rintro KL1 g a w ⟨y, l, A, e, s, hg1, hF, hS, hO, hd, hv, hyx⟩ hKL1
    refine wp_seq_k fun K4 hK4 => ?_
    refine wp_seq_k fun K5 hK5 => ?_
    have hK5' : ∀ a w, (Fr 85 [(1, .pointer (some ⟨b1, 0, none⟩)), (3, .slice A l.length e), (15, .bool (decide (y ≠ 0 ∨ l.length = 0)))] a ∧ St w0 [] [[(b1, Cel (wc y) 32)], s] w) → K5 a w := by
      rintro a w ⟨hF, hS⟩
      refine hK5 _ _ ?_
      refine cD hF rfl (fun c1 => ?_) (fun c1 => ?_)
      ·
        have hl77 := few_dec hx hv c1
        refine wp_skip ?_
        refine then_n (hK4 _ _ ?_)
        refine wp_block ?_
        refine wp_seq_k fun K6 hK6 => ?_
        refine wp_region_lit ?_
        refine sv' hF (wn rfl) rfl rfl (R.assign (hF.ev rfl)) fun a hF => ?_
        refine s0 ?_
        refine then_n (hK6 _ _ ?_)
        refine wp_seq_k fun K7 hK7 => ?_
        refine wp_seq_k fun K8 hK8 => ?_
        refine wp_region_lit ?_
        refine sv' hF (wn rfl) rfl rfl (R.assign (hF.ev rfl)) fun a hF => ?_
        refine s0 ?_
        refine then_n (hK8 _ _ ?_)
        refine wp_block ?_
        refine wp_loop_N (fun g a w => ∃ (k : Nat), k = g ∧ Fr 85 [(1, .pointer (some ⟨b1, 0, none⟩)), (3, .slice A l.length e), (4, .int .u64 ((y / 18446744073709551616 ^ k % 10000000000000000000 : Nat) : Int)), (5, .int .i64 ((k : Nat) - 1 : Int))] a ∧ St w0 [] [[(b1, Cel (cells4 (quo4 y 10000000000000000000 k)) 32)], s] w ∧ (k ≤ 4)) (4) ?_ ?_
        · exact ⟨4, rfl, hF.sub ⟨rfl, rfl, (by rw [Nat.div_eq_of_lt (show y < 18446744073709551616 ^ 4 from Nat.lt_of_le_of_lt hyx hx)]; rfl), rfl, trivial⟩, hS.sel [0, 1] rfl (by rw [quo4_4]; rfl), by omega⟩
        · rintro KL2 g a w ⟨k, hg2, hF, hS, hk⟩ hKL2
          refine wp_seq_k fun K9 hK9 => ?_
          refine wp_seq_k fun K10 hK10 => ?_
          refine wp_region_lit ?_
          refine sv' hF (wn rfl) rfl rfl (R.move (hF.ev rfl)) fun a hF => ?_
          refine sv' hF (wn rfl) rfl rfl (R.geq (hF.ev rfl) (hF.ev rfl)) fun a hF => ?_
          refine s0 ?_
          refine then_n (hK10 _ _ ?_)
          refine cD hF rfl (fun c2 => ?_) (fun c2 => ?_)
          ·
            refine wp_skip ?_
            refine then_n (hK9 _ _ ?_)
            refine wp_seq_k fun K11 hK11 => ?_
            refine wp_block ?_
            refine wp_region_lit ?_
            refine sv' hF (wn rfl) rfl rfl (R.move (hF.ev rfl)) fun a hF => ?_
            refine sv' hF (wn rfl) rfl rfl (R.move (hF.ev rfl)) fun a hF => ?_
            refine sv' hF (wn rfl) rfl rfl (R.move (hF.ev rfl)) fun a hF => ?_
            refine sv' hF (wn rfl) rfl rfl (R.indexA Tryz.underlying32 sz30 (hF.ev rfl) (hF.ev rfl) (by omega) (by omega)) fun a hF => ?_
            refine sv' hF (wn rfl) rfl rfl (R.load one30 (hF.ev rfl) hS .h (show _ = some (Value.int .u64 ((dg y (k - 1) : Nat) : Int)) from by rw [cells4_at (k := k - 1) (by omega) (by omega), quo4_at _ _ _ (by omega)])) fun a hF => ?_
            refine so (wn rfl) (O.call rfl rfl hF ent94 (hF.evs rfl) hS (div64_calls (y / 18446744073709551616 ^ k % 10000000000000000000) (dg y (k - 1)) 10000000000000000000 w (Nat.mod_lt _ (by decide)) (dg_lt _ _) (by decide) (by decide)) fun v s26 a w hR hF hS => ?_)
            obtain ⟨rfl, rfl⟩ := hR
            refine sv' hF (wn rfl) rfl rfl (R.move (hF.ev rfl)) fun a hF => ?_
            refine sv' hF (wn rfl) rfl rfl (R.extract (hF.ev rfl) rfl) fun a hF => ?_
            refine sv' hF (wn rfl) rfl rfl (R.extract (hF.ev rfl) rfl) fun a hF => ?_
            refine sv' hF (wn rfl) rfl rfl (R.indexA Tryz.underlying32 sz30 (hF.ev rfl) (hF.ev rfl) (by omega) (by omega)) fun a hF => ?_
            refine so (wn rfl) (O.store sz30 (hF.ev rfl) (hF.ev rfl) rfl rfl hS (.t .h) (cells4_set (k := k - 1) (by omega)) (by rw [length_cells4]; omega) fun w hS => ?_)
            refine sv' hF (wn rfl) rfl rfl (R.assign (hF.ev rfl)) fun a hF => ?_
            refine s0 ?_
            refine blk_n ?_
            refine then_n (hK11 _ _ ?_)
            refine wp_region_lit ?_
            refine sv' hF (wn rfl) rfl rfl (R.move (hF.ev rfl)) fun a hF => ?_
            refine sv' hF (wn rfl) rfl rfl (R.subI (hF.ev rfl) (hF.ev rfl) (by omega)) fun a hF => ?_
            refine sv' hF (wn rfl) rfl rfl (R.assign (hF.ev rfl)) fun a hF => ?_
            refine s0 ?_
            refine then_n (hKL2 (k - 1) _ _ ?_ ?_)
            · omega
            · exact ⟨k - 1, rfl, hF.sub ⟨rfl, rfl, (by rw [← rem_div y 10000000000000000000 k (by decide) (by omega)]; rfl), (congrArg (fun z => some (Value.int .i64 z)) (by omega)), trivial⟩, hS.sel [1, 2] rfl (by rw [← quo4_step y 10000000000000000000 k (by decide) (by omega)]; rfl), by omega⟩
          ·
            obtain rfl : k = 0 := by omega
            rw [quo4_0] at hS
            refine wp_exit (then_x (then_x (blk_hit ?_)))
            refine then_n (hK7 _ _ ?_)
            refine wp_seq_k fun K12 hK12 => ?_
            refine wp_region_lit ?_
            refine sv' hF (wn rfl) rfl rfl (R.move (hF.ev rfl)) fun a hF => ?_
            refine s0 ?_
            refine then_n (hK12 _ _ ?_)
            refine wp_block ?_
            refine wp_loop_N (fun g a w => ∃ (j : Nat) (r : Nat) (m : List Nat) (A2 : Option Addr) (e2 : Nat) (s2 : Seg), 19 - j = g ∧ Fr 85 [(1, .pointer (some ⟨b1, 0, none⟩)), (3, .slice A2 m.length e2), (4, .int .u64 ((r : Nat) : Int)), (30, .int .i64 (j : Nat))] a ∧ St w0 [] [[(b1, Cel (wc (y / 10000000000000000000)) 32)], s2] w ∧ (OwnS s2 A2 m.length e2 (dch m) 5 1) ∧ (Dig m) ∧ (m.length = l.length + j) ∧ (j ≤ 19) ∧ (r < 10 ^ (19 - j)) ∧ (val10 m + 10 ^ m.length * r = val10 l + 10 ^ l.length * (y % 10000000000000000000))) (19 - 0) ?_ ?_
            · exact ⟨0, y % 10000000000000000000, l, A, e, s, rfl, hF.sub ⟨rfl, rfl, (by rw [Nat.pow_zero, Nat.div_one]; rfl), rfl, trivial⟩, hS.sel [0, 1] rfl rfl, hO, hd, rfl, by omega, Nat.mod_lt _ (by decide), rfl⟩
            · rintro KL3 g a w ⟨j, r, m, A2, e2, s2, hg3, hF, hS, hO2, hm, hml, hj, hr, hmv⟩ hKL3
              refine wp_seq_k fun K13 hK13 => ?_
              refine wp_region_lit ?_
              refine sv' hF (wn rfl) rfl rfl (R.lss (hF.ev rfl) (hF.ev rfl)) fun a hF => ?_
              refine s0 ?_
              refine then_n (hK13 _ _ ?_)
              refine wp_seq_k fun K14 hK14 => ?_
              refine cD hF rfl (fun c3 => ?_) (fun c3 => ?_)
              ·
                have hrl : r < 18446744073709551616 := Nat.lt_of_lt_of_le hr (Nat.le_trans (Nat.pow_le_pow_right (by decide) (Nat.sub_le _ _)) (by decide : 10 ^ 19 ≤ 18446744073709551616))
                refine wp_skip ?_
                refine then_n (hK14 _ _ ?_)
                refine wp_seq_k fun K15 hK15 => ?_
                refine wp_block ?_
                refine wp_seq_k fun K16 hK16 => ?_
                refine wp_region_lit ?_
                refine sv' hF (wn rfl) rfl rfl (R.move (hF.ev rfl)) fun a hF => ?_
                refine sv' hF (wn rfl) rfl rfl (R.move (hF.ev rfl)) fun a hF => ?_
                refine sv' hF (wn rfl) rfl rfl (R.remU (q := 10) (hF.ev rfl) (hF.ev rfl) (by decide)) fun a hF => ?_
                refine sv' hF (wn rfl) rfl rfl (R.as (u := .int .u64 ((48 + r % 10 : Nat) : Int)) (R.addU (p := 48) (hF.ev rfl) (hF.ev rfl)) (congrArg (fun z : Nat => Value.int .u64 (z : Int)) (by omega))) fun a hF => ?_
                refine sv' hF (wn rfl) rfl rfl (R.as (u := .int .u8 ((48 + r % 10 : Nat) : Int)) (R.convB Tryz.underlying30 Tryz.underlying5 (hF.ev rfl)) (congrArg (fun z : Nat => Value.int .u8 (z : Int)) (by omega))) fun a hF => ?_
                refine so (wn rfl) (O.buildSlice (l := [_]) rfl rfl hF Tryz.underlying22 inf5 rfl rfl (hF.evp rfl) (by decide) rfl hS fun b37 a w hF hS => ?_)
                refine so (wn rfl) (O.append rfl rfl hF Tryz.underlying22 inf5 rfl rfl (by decide) (hF.ev rfl) (hF.ev rfl) hS hO2 (fun _ => (.t (.t .h))) (Rd.own0 hS .h) (rfl) (by simp [Value.oneCell']) (by unfold maxLen; omega) (by omega) fun A38 c38 s38 a w hO38 hF hS => ?_)
                refine sv' hF (wn rfl) rfl rfl (R.assign (hF.ev rfl)) fun a hF => ?_
                refine s0 ?_
                refine then_n (hK16 _ _ ?_)
                refine wp_region_lit ?_
                refine sv' hF (wn rfl) rfl rfl (R.move (hF.ev rfl)) fun a hF => ?_
                refine sv' hF (wn rfl) rfl rfl (R.quoU (q := 10) (hF.ev rfl) (hF.ev rfl) (by omega) (by decide)) fun a hF => ?_
                refine sv' hF (wn rfl) rfl rfl (R.assign (hF.ev rfl)) fun a hF => ?_
                refine s0 ?_
                refine blk_n ?_
                refine then_n (hK15 _ _ ?_)
                refine wp_region_lit ?_
                refine sv' hF (wn rfl) rfl rfl (R.addI (hF.ev rfl) (hF.ev rfl) (by omega)) fun a hF => ?_
                refine sv' hF (wn rfl) rfl rfl (R.move (hF.ev rfl)) fun a hF => ?_
                refine s0 ?_
                refine then_n (hKL3 (19 - (j + 1)) _ _ ?_ ?_)
                · omega
                · exact ⟨j + 1, r / 10, m ++ [r % 10], A38, c38, s38, rfl, hF.sub ⟨rfl, (by rw [List.length_append, List.length_singleton]; rfl), rfl, rfl, trivial⟩, hS.sel [1, 2] rfl rfl, own_snoc hO38, dig_snoc hm (by omega), by simp only [List.length_append, List.length_singleton]; omega, by omega, chunk_lt (by omega) hr, chunk_step hmv⟩
              ·
                obtain rfl : j = 19 := by omega
                refine wp_exit (then_x (then_x (blk_hit ?_)))
                refine blk_n ?_
                refine then_n (hKL1 (y / 10000000000000000000 + (if m.length = 0 then 1 else 0)) _ _ ?_ ?_)
                · rcases c1 with c1 | c1 <;> rw [if_neg (show ¬ m.length = 0 by omega)] <;> (try rw [if_pos c1] at hg1) <;> omega
                · exact ⟨y / 10000000000000000000, m, A2, e2, s2, rfl, hF.sub ⟨rfl, rfl, trivial⟩, hS.sel [0, 1] rfl rfl, hO2, hm, chunk_end hmv (by simpa using hr) (by omega) hv, Nat.le_trans (Nat.div_le_self _ _) hyx⟩
      ·
        have hy0 : y = 0 := by omega
        refine wp_exit (then_x (then_x (blk_hit ?_)))
        refine then_n (hK3 _ _ ?_)
        refine wp_seq_k fun K17 hK17 => ?_
        refine wp_block ?_
        refine wp_loop_N (fun g a w => ∃ (z : List Nat), z.length = g ∧ Fr 85 [(3, .slice A z.length e)] a ∧ St w0 [] [s] w ∧ (OwnS s A z.length e (dch z) 5 1) ∧ (Dig z) ∧ (val10 z = x) ∧ (0 < z.length)) (l.length) ?_ ?_
        · exact ⟨l, rfl, hF.sub ⟨rfl, trivial⟩, hS.sel [1] rfl rfl, hO, hd, by simpa [hy0] using hv, by omega⟩
        · rintro KL4 g a w ⟨z, hg4, hF, hS, hO, hd, hv, hz⟩ hKL4
          have hcap := hO.cap; have hle := hO.2.1
          refine wp_seq_k fun K18 hK18 => ?_
          refine wp_seq_k fun K19 hK19 => ?_
          have hK19' : ∀ a w, (Fr 85 [(3, .slice A z.length e), (53, .bool (decide (1 < z.length ∧ z.getD (z.length - 1) 0 = 0)))] a ∧ St w0 [] [s] w) → K19 a w := by
            rintro a w ⟨hF, hS⟩
            refine hK19 _ _ ?_
            refine cD hF rfl (fun c4 => ?_) (fun c4 => ?_)
            ·
              refine wp_skip ?_
              refine then_n (hK18 _ _ ?_)
              refine wp_block ?_
              refine wp_region_lit ?_
              refine sv' hF (wn rfl) rfl rfl (R.move (hF.ev rfl)) fun a hF => ?_
              refine sv' hF (wn rfl) rfl rfl (R.move (hF.ev rfl)) fun a hF => ?_
              refine sv' hF (wn rfl) rfl rfl (R.len Tryz.underlying22 (hF.ev rfl)) fun a hF => ?_
              refine sv' hF (wn rfl) rfl rfl (R.subI (hF.ev rfl) (hF.ev rfl) (by omega)) fun a hF => ?_
              refine sv' hF (wn rfl) rfl rfl (R.sliceHi Tryz.underlying22 (hF.ev rfl) (hF.ev rfl) (by omega) (by omega) _ sz5) fun a hF => ?_
              refine sv' hF (wn rfl) rfl rfl (R.assign (hF.ev rfl)) fun a hF => ?_
              refine s0 ?_
              refine blk_n ?_
              refine then_n (hKL4 (z.dropLast.length) _ _ ?_ ?_)
              · rw [List.length_dropLast]; omega
              · exact ⟨z.dropLast, rfl, hF.sub ⟨(congrArg (fun z => some (Value.slice A z e)) (by rw [List.length_dropLast]; omega)), trivial⟩, hS.sel [0] rfl rfl, own_drop hO, dig_dropLast hd, (strip (by omega) c4.2).trans hv, by rw [List.length_dropLast]; omega⟩
            ·
              have hdec := stripped hd hv hz c4
              refine wp_exit (then_x (then_x (blk_hit ?_)))
              refine then_n (hK17 _ _ ?_)
              refine wp_seq_k fun K20 hK20 => ?_
              refine wp_seq_k fun K21 hK21 => ?_
              obtain ⟨gb, rest, rfl, rfl, o4, o5⟩ := own_open hO hz; have hmx : maxLen = 9223372036854775807 := rfl
              refine wp_region_lit ?_
              refine sv' hF (wn rfl) rfl rfl (R.move (hF.ev rfl)) fun a hF => ?_
              refine sv' hF (wn rfl) rfl rfl (R.len Tryz.underlying22 (hF.ev rfl)) fun a hF => ?_
              refine sv' hF (wn rfl) rfl rfl (R.subI (hF.ev rfl) (hF.ev rfl) (by omega)) fun a hF => ?_
              refine sv' hF (wn rfl) rfl rfl (R.assign (hF.ev rfl)) fun a hF => ?_
              refine sv' hF (wn rfl) rfl rfl (R.assign (hF.ev rfl)) fun a hF => ?_
              refine s0 ?_
              refine then_n (hK21 _ _ ?_)
              refine wp_block ?_
              refine wp_loop_N (fun g a w => ∃ (i : Nat), z.length - i = g ∧ Fr 85 [(3, .slice (some ⟨gb, 0, none⟩) z.length e), (6, .int .i64 (i : Nat)), (7, .int .i64 ((z.length : Nat) - 1 - (i : Nat) : Int))] a ∧ St w0 [] [[(gb, Cel (dch (swp z i) ++ rest) 5)]] w ∧ (2 * i ≤ z.length)) (z.length - 0) ?_ ?_
              · exact ⟨0, rfl, hF.sub ⟨rfl, rfl, (congrArg (fun z => some (Value.int .i64 z)) (by omega)), trivial⟩, hS.sel [0] rfl (by rw [swp_0]; rfl), by omega⟩
              · rintro KL5 g a w ⟨i, hg5, hF, hS, hi⟩ hKL5
                refine wp_seq_k fun K22 hK22 => ?_
                refine wp_seq_k fun K23 hK23 => ?_
                refine wp_region_lit ?_
                refine sv' hF (wn rfl) rfl rfl (R.move (hF.ev rfl)) fun a hF => ?_
                refine sv' hF (wn rfl) rfl rfl (R.move (hF.ev rfl)) fun a hF => ?_
                refine sv' hF (wn rfl) rfl rfl (R.lss (hF.ev rfl) (hF.ev rfl)) fun a hF => ?_
                refine s0 ?_
                refine then_n (hK23 _ _ ?_)
                refine cD hF rfl (fun c5 => ?_) (fun c5 => ?_)
                ·
                  refine wp_skip ?_
                  refine then_n (hK22 _ _ ?_)
                  refine wp_seq_k fun K24 hK24 => ?_
                  refine wp_block ?_
                  refine wp_drawS hS [(0, 0), (1, 0), (2, 0), (3, 0), (4, 0), (5, 0), (6, 0), (7, 1), (8, 0), (9, 0), (10, 0), (11, 1), (12, 0), (13, 3), (14, 0), (15, 3)] mix (by kernel_rfl) (hP.then.block.then.then.block) fun w hS => ?_
                  have hD := hS
                  refine dq hF rfl (wn rfl) rfl rfl (fun w => R.move (hF.ev rfl)) fun a hF => ?_
                  refine dq hF rfl (wn rfl) rfl rfl (fun w => R.move (hF.ev rfl)) fun a hF => ?_
                  refine dq hF rfl (wn rfl) rfl rfl (fun w => R.move (hF.ev rfl)) fun a hF => ?_
                  refine dq hF rfl (wn rfl) rfl rfl (fun w => R.move (hF.ev rfl)) fun a hF => ?_
                  refine dq hF rfl (wn rfl) rfl rfl (fun w => R.move (hF.ev rfl)) fun a hF => ?_
                  refine dq hF rfl (wn rfl) rfl rfl (fun w => R.move (hF.ev rfl)) fun a hF => ?_
                  refine dq hF rfl (wn rfl) rfl rfl (fun w => R.indexS Tryz.underlying22 sz5 (hF.ev rfl) (hF.ev rfl) (by omega) (by omega)) fun a hF => ?_
                  refine dr hF rfl (wn rfl) rfl rfl hD (fun w hD => R.load one5 (hF.ev rfl) hD .h (swp_at z rest i (z.length - 1 - i) (by omega) (by omega) (by omega) _ (by omega))) fun a hF => ?_
                  refine dq hF rfl (wn rfl) rfl rfl (fun w => R.move (hF.ev rfl)) fun a hF => ?_
                  refine dq hF rfl (wn rfl) rfl rfl (fun w => R.move (hF.ev rfl)) fun a hF => ?_
                  refine dq hF rfl (wn rfl) rfl rfl (fun w => R.indexS Tryz.underlying22 sz5 (hF.ev rfl) (hF.ev rfl) (by omega) (by omega)) fun a hF => ?_
                  refine dr hF rfl (wn rfl) rfl rfl hD (fun w hD => R.load one5 (hF.ev rfl) hD .h (swp_at z rest i i (by omega) (by omega) (by omega) _ (by omega))) fun a hF => ?_
                  refine dq hF rfl (wn rfl) rfl rfl (fun w => R.indexS Tryz.underlying22 sz5 (hF.ev rfl) (hF.ev rfl) (by omega) (by omega)) fun a hF => ?_
                  refine dw rfl (wn rfl) (O.store sz5 (hF.ev rfl) (hF.ev rfl) rfl rfl hS .h (rfl) (by rw [List.length_append, length_dch, length_swp]; omega) fun w hS => ?_)
                  refine dq hF rfl (wn rfl) rfl rfl (fun w => R.indexS Tryz.underlying22 sz5 (hF.ev rfl) (hF.ev rfl) (by omega) (by omega)) fun a hF => ?_
                  refine dw rfl (wn rfl) (O.store sz5 (hF.ev rfl) (hF.ev rfl) rfl rfl hS .h (swp_step z rest i _ _ (by omega) (by omega) (by omega)) (by rw [List.length_set, List.length_append, length_dch, length_swp]; omega) fun w hS => ?_)
                  refine d0 ?_
                  refine blk_n ?_
                  refine then_n (hK24 _ _ ?_)
                  refine wp_region_lit ?_
                  refine sv' hF (wn rfl) rfl rfl (R.move (hF.ev rfl)) fun a hF => ?_
                  refine sv' hF (wn rfl) rfl rfl (R.addI (hF.ev rfl) (hF.ev rfl) (by omega)) fun a hF => ?_
                  refine sv' hF (wn rfl) rfl rfl (R.move (hF.ev rfl)) fun a hF => ?_
                  refine sv' hF (wn rfl) rfl rfl (R.subI (hF.ev rfl) (hF.ev rfl) (by omega)) fun a hF => ?_
                  refine sv' hF (wn rfl) rfl rfl (R.assign (hF.ev rfl)) fun a hF => ?_
                  refine sv' hF (wn rfl) rfl rfl (R.assign (hF.ev rfl)) fun a hF => ?_
                  refine s0 ?_
                  refine then_n (hKL5 (z.length - (i + 1)) _ _ ?_ ?_)
                  · omega
                  · exact ⟨i + 1, rfl, hF.sub ⟨rfl, rfl, (congrArg (fun z => some (Value.int .i64 z)) (by omega)), trivial⟩, hS.sel [0] rfl rfl, by omega⟩
                ·
                  have hsw := swp_end z i (by omega)
                  refine wp_exit (then_x (then_x (blk_hit ?_)))
                  refine then_n (hK20 _ _ ?_)
                  refine wp_seq_k fun K25 hK25 => ?_
                  refine wp_region_lit ?_
                  refine sv' hF (wn rfl) rfl rfl (R.move (hF.ev rfl)) fun a hF => ?_
                  refine sv' hF (wn rfl) rfl rfl (R.convStr (xs := (swp z i).map (48 + ·)) Tryz.underlying22 Tryz.underlying5 Tryz.underlying9 (hF.ev rfl) (Rd.own hS .h fun j v hj => by rw [Nat.zero_add, List.getElem?_append_left (l₁ := dch (swp z i)) (List.getElem?_eq_some_iff.1 hj).1]; exact hj) (by rw [List.length_map, length_swp])) fun a hF => ?_
                  refine sv' hF (wn rfl) rfl rfl (R.assign (hF.ev rfl)) fun a hF => ?_
                  refine s0 ?_
                  refine then_n (hK25 _ _ ?_)
                  refine wp_ret (hR _ _ _ _ _ hF (run_results Tryz.results38 (.t hF rfl (.nil))) ?_)
                  exact ⟨_, [], rfl, ⟨by rw [hsw, ← hdec]; rfl, rfl⟩, hS.none⟩
          refine wp_region_lit ?_
          refine sv' hF (wn rfl) rfl rfl (R.move (hF.ev rfl)) fun a hF => ?_
          refine sv' hF (wn rfl) rfl rfl (R.len Tryz.underlying22 (hF.ev rfl)) fun a hF => ?_
          refine sv' hF (wn rfl) rfl rfl (R.gtr (hF.ev rfl) (hF.ev rfl)) fun a hF => ?_
          refine sv' hF (wn rfl) rfl rfl (R.move (hF.ev rfl)) fun a hF => ?_
          refine hF.splitD (t := 45) rfl (fun h45 hF => ?_) (fun h45 hF => ?_)
          ·
            refine sv' hF (wy hF rfl rfl rfl) rfl rfl (R.move (hF.ev rfl)) fun a hF => ?_
            refine sv' hF (wy hF rfl rfl rfl) rfl rfl (R.move (hF.ev rfl)) fun a hF => ?_
            refine sv' hF (wy hF rfl rfl rfl) rfl rfl (R.len Tryz.underlying22 (hF.ev rfl)) fun a hF => ?_
            refine sv' hF (wy hF rfl rfl rfl) rfl rfl (R.subI (hF.ev rfl) (hF.ev rfl) (by omega)) fun a hF => ?_
            refine sv' hF (wy hF rfl rfl rfl) rfl rfl (R.indexO Tryz.underlying22 sz5 (hF.ev rfl) (Rd.ne (hO.rd hS .h) (by rw [length_dch]; omega)) (hF.ev rfl) (by omega) (by omega)) fun a hF => ?_
            refine sv' hF (wy hF rfl rfl rfl) rfl rfl (R.loadO one5 (hF.ev rfl) (hO.rd hS .h) (show _ = some (Value.int .u8 ((48 + z.getD (z.length - 1) 0 : Nat) : Int)) from by rw [show (((z.length : Nat) : Int) - 1).toNat * 1 = z.length - 1 from by omega]; exact dch_get z _ (by omega))) fun a hF => ?_
            refine sv' hF (wy hF rfl rfl rfl) rfl rfl (R.eql (hF.ev rfl) (hF.ev rfl)) fun a hF => ?_
            refine sv' hF (wn rfl) rfl rfl (R.pickT (hF.ev rfl) (hF.ev rfl)) fun a hF => ?_
            refine s0 ?_
            exact then_n (hK19' _ _ ⟨hF.sub ⟨rfl, (congrArg (fun z => some (Value.bool z)) (by first | exact (decide_eq_false (by omega)).symm | exact decide_eq_decide.2 (by omega))), trivial⟩, hS.sel [0] rfl rfl⟩)
          ·
            refine sk hF (ws hF rfl rfl rfl rfl) rfl rfl fun a hF => ?_
            refine sk hF (ws hF rfl rfl rfl rfl) rfl rfl fun a hF => ?_
            refine sk hF (ws hF rfl rfl rfl rfl) rfl rfl fun a hF => ?_
            refine sk hF (ws hF rfl rfl rfl rfl) rfl rfl fun a hF => ?_
            refine sk hF (ws hF rfl rfl rfl rfl) rfl rfl fun a hF => ?_
            refine sk hF (ws hF rfl rfl rfl rfl) rfl rfl fun a hF => ?_
            refine sk hF (ws hF rfl rfl rfl rfl) rfl rfl fun a hF => ?_
            refine sv' hF (wn rfl) rfl rfl (R.pickF (hF.ev rfl) (hF.ev rfl)) fun a hF => ?_
            refine s0 ?_
            exact then_n (hK19' _ _ ⟨hF.sub ⟨rfl, (congrArg (fun z => some (Value.bool z)) (by first | exact (decide_eq_false (by omega)).symm | exact decide_eq_decide.2 (by omega))), trivial⟩, hS.sel [0] rfl rfl⟩)
    refine wp_region_lit ?_
    refine sv' hF (wn rfl) rfl rfl (R.loadW agg32 (hF.ev rfl) hS .h sz32 (rfl)) fun a hF => ?_
    refine so (wn rfl) (O.call rfl rfl hF ent93 (hF.evs rfl) hS (isZero_calls y _ (Nat.lt_of_le_of_lt hyx hx)) fun v s9 a w hR hF hS => ?_)
    obtain ⟨rfl, rfl⟩ := hR
    refine sv' hF (wn rfl) rfl rfl ((by first | exact R.notD (hF.ev rfl) | exact R.not (hF.ev rfl))) fun a hF => ?_
    refine sv' hF (wn rfl) rfl rfl (R.move (hF.ev rfl)) fun a hF => ?_
    refine hF.splitD (t := 11) rfl (fun h11 hF => ?_) (fun h11 hF => ?_)
    ·
      refine sk hF (ws hF rfl rfl rfl rfl) rfl rfl fun a hF => ?_
      refine sk hF (ws hF rfl rfl rfl rfl) rfl rfl fun a hF => ?_
      refine sk hF (ws hF rfl rfl rfl rfl) rfl rfl fun a hF => ?_
      refine sv' hF (wn rfl) rfl rfl (R.pickT (hF.ev rfl) (hF.ev rfl)) fun a hF => ?_
      refine s0 ?_
      exact then_n (hK5' _ _ ⟨hF.sub ⟨rfl, rfl, (congrArg (fun z => some (Value.bool z)) (by first | exact (decide_eq_true (by omega)).symm | exact decide_eq_decide.2 (by omega))), trivial⟩, hS.sel [1, 2] rfl rfl⟩)
    ·
      refine sv' hF (wy hF rfl rfl rfl) rfl rfl (R.move (hF.ev rfl)) fun a hF => ?_
      refine sv' hF (wy hF rfl rfl rfl) rfl rfl (R.len Tryz.underlying22 (hF.ev rfl)) fun a hF => ?_
      refine sv' hF (wy hF rfl rfl rfl) rfl rfl (R.eql (hF.ev rfl) (hF.ev rfl)) fun a hF => ?_
      refine sv' hF (wn rfl) rfl rfl (R.pickF (hF.ev rfl) (hF.ev rfl)) fun a hF => ?_
      refine s0 ?_
      exact then_n (hK5' _ _ ⟨hF.sub ⟨rfl, rfl, (congrArg (fun z => some (Value.bool z)) (by first | exact (decide_eq_true (by omega)).symm | exact decide_eq_decide.2 (by omega))), trivial⟩, hS.sel [1, 2] rfl rfl⟩)
end Go.Proofs.YtlapmbkfmbkdoaaGreatDoor
end
section
namespace Go.Proofs
def Tryz.laysM171_ren : Go.Shelf.Ren := ⟨fun | 171 => 35 | 243 => 92 | 246 => 129 | 283 => 143 | 284 => 144 | 285 => 145 | 286 => 146 | 129 => 147 | 317 => 154 | 318 => 155 | 319 => 156 | 320 => 157 | 337 => 163 | 338 => 164 | n => n, fun | 3 => 3 | 9 => 9 | 2 => 2 | 4 => 4 | 171 => 185 | 0 => 0 | 53 => 30 | 37 => 22 | 5 => 5 | 173 => 187 | 212 => 194 | 51 => 195 | 20 => 20 | 213 => 196 | 46 => 126 | 232 => 83 | 233 => 206 | n => n, fun | 17 => 2 | 18 => 6 | 19 => 7 | n => n⟩
theorem Tryz.laysM171 : Go.Proofs.LaysM.n171 Tryz.prog Tryz.laysM171_ren := {
  mixed := by kernel_rfl
  f129 := Tryz.func147.trans (congrArg some (by kernel_rfl))
  f171 := Tryz.func35.trans (congrArg some (by kernel_rfl))
  f243 := Tryz.func92.trans (congrArg some (by kernel_rfl))
  f246 := Tryz.func129.trans (congrArg some (by kernel_rfl))
  f283 := Tryz.func143.trans (congrArg some (by kernel_rfl))
  f284 := Tryz.func144.trans (congrArg some (by kernel_rfl))
  f285 := Tryz.func145.trans (congrArg some (by kernel_rfl))
  f286 := Tryz.func146.trans (congrArg some (by kernel_rfl))
  f317 := Tryz.func154.trans (congrArg some (by kernel_rfl))
  f318 := Tryz.func155.trans (congrArg some (by kernel_rfl))
  f319 := Tryz.func156.trans (congrArg some (by kernel_rfl))
  f320 := Tryz.func157.trans (congrArg some (by kernel_rfl))
  f337 := Tryz.func163.trans (congrArg some (by kernel_rfl))
  f338 := Tryz.func164.trans (congrArg some (by kernel_rfl))
  t0 := Tryz.underlying0
  a0 := Tryz.isAgg0
  z0 := Tryz.sizeOf0
  v0 := Tryz.zeroValue0
  t2 := Tryz.underlying2
  a2 := Tryz.isAgg2
  z2 := Tryz.sizeOf2
  v2 := Tryz.zeroValue2
  t3 := Tryz.underlying3
  a3 := Tryz.isAgg3
  z3 := Tryz.sizeOf3
  v3 := Tryz.zeroValue3
  t4 := Tryz.underlying4
  a4 := Tryz.isAgg4
  z4 := Tryz.sizeOf4
  v4 := Tryz.zeroValue4
  t5 := Tryz.underlying5
  a5 := Tryz.isAgg5
  z5 := Tryz.sizeOf5
  v5 := Tryz.zeroValue5
  t9 := Tryz.underlying9
  a9 := Tryz.isAgg9
  z9 := Tryz.sizeOf9
  v9 := Tryz.zeroValue9
  t20 := Tryz.underlying20
  a20 := Tryz.isAgg20
  z20 := Tryz.sizeOf20
  v20 := Tryz.zeroValue20
  t37 := Tryz.underlying22
  a37 := Tryz.isAgg22
  z37 := Tryz.sizeOf22
  v37 := Tryz.zeroValue22
  t46 := Tryz.underlying126
  a46 := Tryz.isAgg126
  z46 := Tryz.sizeOf126
  v46 := Tryz.zeroValue126
  t51 := Tryz.underlying195
  a51 := Tryz.isAgg195
  z51 := Tryz.sizeOf195
  v51 := Tryz.zeroValue195
  t53 := Tryz.underlying30
  a53 := Tryz.isAgg30
  z53 := Tryz.sizeOf30
  v53 := Tryz.zeroValue30
  t171 := Tryz.underlying185
  a171 := Tryz.isAgg185
  z171 := Tryz.sizeOf185
  v171 := Tryz.zeroValue185
  t173 := Tryz.underlying187
  a173 := Tryz.isAgg187
  z173 := Tryz.sizeOf187
  v173 := Tryz.zeroValue187
  t212 := Tryz.underlying194
  a212 := Tryz.isAgg194
  z212 := Tryz.sizeOf194
  v212 := Tryz.zeroValue194
  t213 := Tryz.underlying196
  a213 := Tryz.isAgg196
  z213 := Tryz.sizeOf196
  t232 := Tryz.underlying83
  a232 := Tryz.isAgg83
  z232 := Tryz.sizeOf83
  v232 := Tryz.zeroValue83
  t233 := Tryz.underlying206
  a233 := Tryz.isAgg206
  z233 := Tryz.sizeOf206
  v233 := Tryz.zeroValue206
  g17 := by kernel_rfl
  g18 := by kernel_rfl
  g19 := by kernel_rfl
  i0 := by kernel_rfl
  i2 := by kernel_rfl
  i3 := by kernel_rfl
  i4 := by kernel_rfl
  i5 := by kernel_rfl
  i9 := by kernel_rfl
  i20 := by kernel_rfl
  i37 := by kernel_rfl
  i46 := by kernel_rfl
  i51 := by kernel_rfl
  i53 := by kernel_rfl
  i171 := by kernel_rfl
  i173 := by kernel_rfl
  i212 := by kernel_rfl
  i232 := by kernel_rfl
  i233 := by kernel_rfl
  m17 := by kernel_rfl
  m18 := by kernel_rfl
  m19 := by kernel_rfl }
def Tryz.lays169_ren : Go.Shelf.Ren := ⟨fun | 169 => 39 | n => n, fun | 70 => 75 | 9 => 9 | 0 => 0 | 72 => 77 | 37 => 22 | 127 => 134 | 3 => 3 | 5 => 5 | n => n, fun | n => n⟩
theorem Tryz.lays169 : Go.Proofs.Lays.n169 Tryz.prog Tryz.lays169_ren := {
  mixed := by kernel_rfl
  f169 := Tryz.func39.trans (congrArg some (by kernel_rfl))
  t0 := Tryz.underlying0
  a0 := Tryz.isAgg0
  z0 := Tryz.sizeOf0
  v0 := Tryz.zeroValue0
  t3 := Tryz.underlying3
  a3 := Tryz.isAgg3
  z3 := Tryz.sizeOf3
  v3 := Tryz.zeroValue3
  t9 := Tryz.underlying9
  a9 := Tryz.isAgg9
  z9 := Tryz.sizeOf9
  v9 := Tryz.zeroValue9
  t37 := Tryz.underlying22
  a37 := Tryz.isAgg22
  z37 := Tryz.sizeOf22
  v37 := Tryz.zeroValue22
  t70 := Tryz.underlying75
  a70 := Tryz.isAgg75
  z70 := Tryz.sizeOf75
  v70 := Tryz.zeroValue75
  t72 := Tryz.underlying77
  a72 := Tryz.isAgg77
  z72 := Tryz.sizeOf77
  v72 := Tryz.zeroValue77
  t127 := Tryz.underlying134
  a127 := Tryz.isAgg134
  z127 := Tryz.sizeOf134
  v127 := Tryz.zeroValue134 }
theorem Tryz.Builder_Extra_169 : Builder.Extra Tryz.prog Tryz.lays169_ren where
  sizeBuilder := by kernel_rfl
  liesBuilder := by kernel_rfl
  t5 := by kernel_rfl
  a5 := fun w => by kernel_rfl
  z5 := fun w => by kernel_rfl
  v5 := fun w => by kernel_rfl
  infoByte := by kernel_rfl
  cellsByte := by kernel_rfl
  sizeByte := by kernel_rfl
  neB5 := by decide
end Go.Proofs
namespace Go.Proofs.YtlapmbkfmbkdoaaGreatDoor
open Go Go.Fw Go.RowKit
def TabW (w : World) : Prop := Lib.TabIs Tryz.prog w "internal/strconv.uint64pow10" .u64 Lib.pow10Tab
theorem pow_global : ∃ g, Tryz.prog.globalNamed "internal/strconv.uint64pow10" = some g := Option.isSome_iff_exists.1 (by kernel_rfl)
theorem TabW.old {w0 w : World} {bs : List Seg} (h : TabW w0) (hS : St w0 [] bs w) : TabW w := by
  obtain ⟨g, hg⟩ := pow_global
  unfold TabW Lib.TabIs World.var? at h ⊢
  rw [hg] at h ⊢
  simp only [Option.bind_some] at h ⊢
  by_cases hk : g < w0.heap.size
  · rw [hS.keep g hk (by simp)]; exact h
  · rw [Array.getElem?_eq_none (by omega)] at h
    simp at h
theorem itoa_dec : ∀ n : Nat, Lib.decDigits n = (decS n).map fun b => UInt8.ofNat b := by
  intro n
  induction n using Nat.strongRecOn with
  | _ n ih =>
    rw [Lib.decDigits]
    by_cases h : n < 10
    · rw [dif_pos h]
      by_cases h0 : n = 0
      · subst h0; rw [decS_0]; rfl
      · rw [decS_pos h0, ddS_step h0, Nat.div_eq_of_lt h, ddS_0, Nat.mod_eq_of_lt h]; rfl
    · rw [dif_neg h, ih (n / 10) (by omega), decS_pos (n := n) (by omega), ddS_step (by omega), decS_pos (n := n / 10) (by omega)]
      simp
theorem itoa_calls (n : Nat) (w0 : World) (ht : TabW w0) (hn : n < 9223372036854775808) : Ret Tryz.prog 35 [.int .i64 ((n : Nat) : Int)] w0 [] (fun v s => v = .string (bstr (decS n)) ∧ s = []) := by
  refine Calls.mono (Any.strconv_Itoa Tryz.laysM171 n (by omega) (by omega) w0 ht) ?_
  rintro e w' ⟨rfl, k, os, rfl⟩
  refine ⟨_, [], rfl, ⟨?_, rfl⟩, ?_⟩
  · unfold Lib.itoa
    rw [if_neg (by omega), Int.toNat_natCast, itoa_dec]
    rfl
  · refine ⟨rfl, rfl, rfl, ?_, fun k hk _ => ?_, by simp, by simp, by simp [keys]⟩
    · simp [Go.Sort.grow, World.drewN]
    · have hk' : k < w0.heap.size := hk
      simp [Go.Sort.grow, World.drewN, Array.getElem?_append_left hk']
theorem O.appendS {P : Program} {N d : Nat} {env : Env} {a : Act} {w w0 : World} {K : Act → World → Prop} {Q : Exit → Act → World → Prop} {dst : Option Tmp} {ty : TypeId} {pos : String} {af : Array Edge} {g : Option (Nat × Bool)} {ks : List Nat} {bs : List Seg} {x y : Operand} {t u E : TypeId} {A : Option Addr} {n c : Nat} {cells : List Value} {s : Seg} {str : ByteArray} {f : Seg → List Seg} (hd : dst = some d) (hn : Nat.blt d N = true) (hF : Fr N env a) (hT : P.underlying t = some (.slice E)) (hU : P.underlying u = some .string) (hi : infT P E (.int .u8 0) 1 1)
    (hx : a.eval x = .slice A n c) (hy : a.eval y = .string str) (hS : St w0 ks bs w) (hO : OwnS s A n c cells E 1) (hr : ∀ s', RepB bs s s' (f s')) (h63 : n + str.size ≤ maxLen) (hby : n + str.size ≤ 140737488355328)
    (h : ∀ A' c' s' a' w', OwnS s' A' (n + str.size) c' (cells ++ Lib.strCells str) E 1 → Fr N ((d, .slice A' (n + str.size) c') :: env) a' → St w0 ks (f s') w' → K a' w') :
    Oper.wp P ⟨dst, .call ⟨.builtin .append, [x, y].toArray, #[t, u]⟩, ty, pos, af, g⟩ a w K Q := by
  subst hd
  obtain ⟨i, e1, e2, e3, e4⟩ := hi.get
  have hml : n + str.size ≤ 9223372036854775807 := by simp only [maxLen] at h63; exact h63
  have fin : ∀ v' w', (Builtin.append_ #[t, u] ty #[.slice A n c, .string str]).run P w = .ok v' w' →
      (∃ A' c' s', v' = .slice A' (n + str.size) c' ∧ OwnS s' A' (n + str.size) c' (cells ++ Lib.strCells str) E 1 ∧ St w0 ks (f s') w') → Oper.wp P ⟨some d, .call ⟨.builtin .append, [x, y].toArray, #[t, u]⟩, ty, pos, af, g⟩ a w K Q := by
    rintro v' w' hrun ⟨A', c', s', rfl, ho, hst⟩
    unfold Oper.wp
    have : (execOp a.eval ⟨some d, .call ⟨.builtin .append, [x, y].toArray, #[t, u]⟩, ty, pos, af, g⟩).run P w = .ok (.value (.slice A' (n + str.size) c')) w' := by
      simp only [execOp, resolve, invoke, builtin, Sem.run_bind, Sem.run_pure, Result.andThen_ok, List.map_toArray, List.map_cons, List.map_nil, hx, hy, hrun]
    rw [this, Oper.upon_value]
    exact h _ _ _ _ _ ho (hF.put hn _) hst
  have hnl : (Lib.strCells str).length = str.size := Lib.strCells_length str
  have h1 := Lib.strCells_oneCell str
  obtain ⟨o1, o2, o3⟩ := hO
  have hlen : (cells ++ Lib.strCells str).length = (n + str.size) * 1 := by rw [List.length_append, o1, hnl]; omega
  rcases o3 with ⟨rfl, rfl, rfl⟩ | ⟨gb, rest, rfl, rfl, o4, o5⟩
  · have hn0 : n = 0 := by omega
    subst hn0
    have hc0 : cells = [] := List.eq_nil_of_length_eq_zero (by simpa using o1)
    subst hc0
    obtain ⟨v', w', hrun, ho, hg, hz⟩ := Lib.run_append_own_string (P := P) (w := w) w.heap.size t u ty E i hT hU e1 e2 e3 e4 (.slice none 0 0) 0 [] ⟨rfl, .inl ⟨rfl, rfl⟩⟩ str h63 hby (Nat.le_refl _)
    obtain ⟨p1, p2⟩ := ho
    rcases p2 with ⟨rfl, hz0⟩ | ⟨g2, cap, cur, rfl, q1, q2, q3, q4, q5, q6⟩
    · refine fin _ _ hrun ⟨none, 0, [], by rw [hz0], ?_, ?_⟩
      · have : Lib.strCells str = [] := List.eq_nil_of_length_eq_zero (by omega)
        rw [this, hz0]; exact OwnS.nil _ _
      · exact hS.rep (hr []) hg.os hg.tape hg.output hg.size (fun k hk _ => hg.block k hk (by simp [Value.ownBlock])) (by simp) (by simp) (by simp)
    · have hcur : cur.toList = ([] ++ Lib.strCells str) ++ cur.toList.drop ((0 + str.size) * 1) := by
        have := List.take_append_drop ((0 + str.size) * 1) cur.toList
        rw [q6] at this; exact this.symm
      have hcur2 : (([] ++ Lib.strCells str) ++ cur.toList.drop ((0 + str.size) * 1)).toArray = cur := by rw [← hcur]
      refine fin _ _ hrun ⟨some ⟨g2, 0, none⟩, cap, [(g2, Cel (([] ++ Lib.strCells str) ++ cur.toList.drop ((0 + str.size) * 1)) E)], rfl, OwnS.mk hlen q3 (by rw [← hcur]; simpa using q5) q4, ?_⟩
      refine hS.rep (hr _) hg.os hg.tape hg.output hg.size (fun k hk _ => hg.block k hk (by simp [Value.ownBlock])) (fun p hp => ?_) (by simp) (fun p hp => ?_)
      · simp only [List.mem_singleton] at hp
        subst hp
        simp only [Cel, hcur2]; exact q2
      · simp only [List.mem_singleton] at hp
        subst hp
        exact .inl q1
  · have hgm : (gb, Cel (cells ++ rest) E) ∈ bs.flatten := List.mem_flatten.2 ⟨_, (hr []).mem, by simp⟩
    have hgb := hS.own _ hgm
    simp only at hgb
    by_cases hroom : n + str.size ≤ c
    · have hfit : n + str.size ≤ (cells ++ rest).toArray.size := by simp only [List.size_toArray]; rw [o4]; omega
      have hrun := Lib.run_append_room_string (P := P) (w := w) t u ty E i hT hU e1 e3 gb n c (cells ++ rest).toArray hgb str hroom hfit
      have o1' : cells.length = n := by omega
      have e5 : ((cells ++ rest).take n ++ Lib.strCells str ++ (cells ++ rest).drop (n + str.size)) = (cells ++ Lib.strCells str) ++ rest.drop str.size := by
        rw [← o1', List.take_left, List.drop_append]
        simp
      simp only [e5] at hrun
      refine fin _ _ hrun ⟨some ⟨gb, 0, none⟩, c, [(gb, Cel ((cells ++ Lib.strCells str) ++ rest.drop str.size) E)], rfl, ?_, ?_⟩
      · refine OwnS.mk hlen hroom ?_ o5
        simp only [List.length_append, List.length_drop, List.size_toArray, hnl] at o4 hfit ⊢
        omega
      · refine hS.rep (hr _) rfl rfl rfl (by simp) (fun k hk hne => ?_) ?_ (by simp) (by simp)
        · exact setRow_other w gb k _ (hne (gb, Cel (cells ++ rest) E) (by simp))
        · intro p hp
          simp only [List.mem_singleton] at hp
          subst hp
          exact setRow_heap w gb _ _ E _ hgb
    · have holds : ∀ j v, cells[j]? = some v → w.cell? ((⟨gb, 0, none⟩ : Addr).add j) = some v := fun j v hj => by
        rw [addr_add, cell_Cel hgb, Nat.zero_add, List.getElem?_append_left (List.getElem?_eq_some_iff.1 hj).1]; exact hj
      have hrun := Lib.run_append_grow_string (P := P) (w := w) t u ty E i (.int .u8 0) hT hU e1 e2 ⟨gb, 0, none⟩ n c cells (by rw [e3]; exact o1) holds str (by omega) (by omega) (growslice_fits (by omega) (by rw [e4]; omega))
      have hcap := grownCap_ge w (n + str.size) c E
      have hcm : grownCap w (n + str.size) c E ≤ maxLen := grownCap_le_maxLen w (n + str.size) c E h63
      rw [show (Value.int .u8 0).cells = [Value.int .u8 0].toArray from rfl, zero_zeros] at hrun
      have e5 : (cells.toArray ++ (Lib.strCells str).toArray ++ (zeros [.int .u8 0] (grownCap w (n + str.size) c E - (n + str.size))).toArray) = ((cells ++ Lib.strCells str) ++ zeros [.int .u8 0] (grownCap w (n + str.size) c E - (n + str.size))).toArray := by simp
      rw [e5] at hrun
      refine fin _ _ hrun ⟨some ⟨w.heap.size, 0, none⟩, _, [(w.heap.size, Cel ((cells ++ Lib.strCells str) ++ zeros [.int .u8 0] (grownCap w (n + str.size) c E - (n + str.size))) E)], rfl, ?_, ?_⟩
      · refine OwnS.mk hlen (by omega) ?_ hcm
        rw [List.length_append, hlen, length_zeros]; simp; omega
      · refine hS.rep (hr _) rfl rfl rfl (by simp) (fun k hk _ => Below.heap_alloc w.drew _ k hk) (fun p hp => by
          simp only [List.mem_singleton] at hp
          subst hp
          exact heap_alloc_new w.drew _) (by simp) (by simp)
def chs (xs : List Nat) : List Value := Lib.strCells (bstr xs)
theorem length_chs (xs : List Nat) : (chs xs).length = xs.length := by unfold chs; rw [Lib.strCells_length, size_bstr]
theorem chs_app (xs ys : List Nat) : chs xs ++ Lib.strCells (bstr ys) = chs (xs ++ ys) := by unfold chs; rw [← bstr_app]; simp [Lib.strCells]
def BldS (b : Nat) (xs : List Nat) (s : Seg) : Prop := ∃ p A c sg, s = (b, Cel [p, .slice A xs.length c] 77) :: sg ∧ OwnS sg A xs.length c (chs xs) 5 1 ∧ (p = .pointer none ∨ p = .pointer (some ⟨b, 0, none⟩))
theorem bld_new (b : Nat) : BldS b [] [(b, Cel [.pointer none, .slice none 0 0] 77)] := ⟨_, none, 0, [], rfl, OwnS.nil 5 1, .inl rfl⟩
theorem bld_is {w1 w : World} {bs : List Seg} {s : Seg} {b : Nat} {xs : List Nat} (hS : St w1 [] bs w) (hs : HasS bs s) (h : BldS b xs s) : Lib.IsBuilder 77 5 w1.heap.size b (chs xs) w := by
  obtain ⟨p, A, c, sg, rfl, hO, hp⟩ := h
  have hown : ∀ q ∈ (b, Cel [p, .slice A xs.length c] 77) :: sg, w.heap[q.1]? = some q.2 ∧ w1.heap.size ≤ q.1 := fun q hq => by
    have hm := List.mem_flatten.2 ⟨_, hs.mem, hq⟩
    refine ⟨hS.own q hm, ?_⟩
    rcases hS.place q hm with h | h
    · exact h
    · simp at h
  have hb := hown _ (List.mem_cons_self)
  have hat : Lib.BuilderAt 77 5 w1.heap.size b p (chs xs) w := by
    refine ⟨hb.2, .slice A xs.length c, hb.1, ?_, ?_⟩
    · obtain ⟨o1, o2, o3⟩ := hO
      refine ⟨by rw [length_chs, Nat.mul_one], ?_⟩
      rcases o3 with ⟨rfl, rfl, rfl⟩ | ⟨g, rest, rfl, rfl, o4, o5⟩
      · left
        have : xs.length = 0 := by omega
        rw [length_chs]
        exact ⟨by rw [this], this⟩
      · right
        have hg := hown (g, Cel (chs xs ++ rest) 5) (List.mem_cons_of_mem _ (List.mem_singleton.2 rfl))
        rw [length_chs]
        refine ⟨g, c, (chs xs ++ rest).toArray, rfl, hg.2, hg.1, o2, o5, by simpa using o4, ?_⟩
        rw [Nat.mul_one, ← length_chs xs]; simp
    · obtain ⟨o1, o2, o3⟩ := hO
      rcases o3 with ⟨rfl, rfl, rfl⟩ | ⟨g, rest, rfl, rfl, o4, o5⟩
      · simp [Value.ownBlock]
      · simp only [Value.ownBlock, ne_eq, Option.some.injEq]
        intro e
        subst e
        have hn := (hS.one hs).nodup
        simp [keys] at hn
  rcases hp with rfl | rfl
  · exact .inl hat
  · exact .inr hat
end Go.Proofs.YtlapmbkfmbkdoaaGreatDoor
end
section
namespace Go.Proofs.YtlapmbkfmbkdoaaGreatDoor
open Go Go.Fw Go.RowKit
attribute [local irreducible] Go.Oper.wp Go.Code.wp Go.wpList Go.Fw.WL Go.Calls
section
variable {P : Program} {w0 w : World} {ks : List Nat} {bs : List Seg} {ρ : Operand → Value} {dst : Option Tmp} {ty : TypeId} {pos : String} {af : Array Edge} {g : Option (Nat × Bool)} {x y : Operand} {T T' E : TypeId}
theorem R.nilnil (hx : ρ x = .pointer none) (hy : ρ y = .pointer none) (hT : P.underlying T = some (.pointer E)) :
    (execOp ρ ⟨dst, .binOp .eql T x y T', ty, pos, af, g⟩).run P w = .ok (.value (.bool true)) w := by
  have he : (Op.equal T (.pointer none) (.pointer none)).run P w = .ok true w := by
    unfold Op.equal Op.maxDepth
    rw [Op.equalIn]
    simp only [Sem.run_bind, run_underlying hT, Result.andThen_ok, Sem.run_pure]
    rfl
  simp only [execOp, hx, hy, eqGuard, binOp, he, Sem.run_bind, Sem.run_pure, Result.andThen_ok, Bool.not_true, Bool.false_eq_true, if_false]
theorem R.samePtr {a : Addr} (hx : ρ x = .pointer (some a)) (hy : ρ y = .pointer (some a)) (hT : P.underlying T = some (.pointer E)) (hn : nzT P E = true) :
    (execOp ρ ⟨dst, .binOp .neq T x y T', ty, pos, af, g⟩).run P w = .ok (.value (.bool false)) w := by
  obtain ⟨j, hj⟩ := Option.isSome_iff_exists.1 (show (P.info? E).isSome = true by unfold nzT at hn; cases h : P.info? E <;> simp_all)
  simp only [execOp, hx, hy, eqGuard, Lib.run_neq_ptr_same w a hT hj, Sem.run_bind, Sem.run_pure, Result.andThen_ok, Bool.not_true, Bool.false_eq_true, if_false]
theorem shape_Cel {b : Nat} {l : List Value} (hS : St w0 ks bs w) (hb : HasB bs b (Cel l E)) : w.shape? b = some (E, l.length) := by
  have := hS.get hb
  simp [World.shape?, Cel, this]
theorem R.toUnsafe {b : Nat} {l : List Value} {t U : TypeId} (hx : ρ x = .pointer (some ⟨b, 0, none⟩)) (hs : P.underlying T = some (.pointer t)) (hd : P.underlying U = some .unsafePointer) (hn : nzT P t = true) (hS : St w0 ks bs w) (hb : HasB bs b (Cel l E)) (hl : 0 < l.length) :
    (execOp ρ ⟨dst, .convert T U x, ty, pos, af, g⟩).run P w = .ok (.value (.pointer (some ⟨b, 0, none⟩))) w := by
  obtain ⟨j, hj, hz⟩ : ∃ j, P.info? t = some j ∧ j.size ≠ 0 := by
    unfold nzT at hn
    cases h : P.info? t with
    | none => simp [h] at hn
    | some j => exact ⟨j, rfl, Nat.ne_of_beq_eq_false (by simpa [h] using hn)⟩
  simp only [execOp, hx, Lib.run_to_unsafe w ⟨b, 0, none⟩ hs hd hj hz (shape_Cel hS hb) hl, Sem.run_bind, Sem.run_pure, Result.andThen_ok]
theorem R.fromUnsafe {b : Nat} {l : List Value} {t U : TypeId} (hx : ρ x = .pointer (some ⟨b, 0, none⟩)) (hs : P.underlying T = some .unsafePointer) (hd : P.underlying U = some (.pointer t)) (hn : nzT P t = true) (hS : St w0 ks bs w) (hb : HasB bs b (Cel l E)) (hl : liesAt P P.depth E (l.length / P.cellsOf E) 0 t 1 = true) :
    (execOp ρ ⟨dst, .convert T U x, ty, pos, af, g⟩).run P w = .ok (.value (.pointer (some ⟨b, 0, none⟩))) w := by
  obtain ⟨j, hj⟩ := Option.isSome_iff_exists.1 (show (P.info? t).isSome = true by unfold nzT at hn; cases h : P.info? t <;> simp_all)
  simp only [execOp, hx, Lib.run_from_unsafe w ⟨b, 0, none⟩ hs hd hj (shape_Cel hS hb) hl, Sem.run_bind, Sem.run_pure, Result.andThen_ok]
end
theorem lies77 : liesAt Tryz.prog Tryz.prog.depth 77 (2 / Tryz.prog.cellsOf 77) 0 77 1 = true := by kernel_rfl
theorem noEsc (v : Value) (w : World) : (callFunc 128 [v].toArray).run Tryz.prog w = .ok (.value v) w := by
  rw [run_callFunc_extern Tryz.func128 (by kernel_rfl) (by kernel_rfl) (by kernel_rfl) (e := Extern.AbiNoEscape.same) (by kernel_rfl)]
  rw [Lib.run_noEscape]
  rfl
theorem chk_new (b : Nat) (v : Value) (w0 : World) (ho : Own w0 [(b, Cel [.pointer none, v] 77)]) : Ret Tryz.prog 91 [.pointer (some ⟨b, 0, none⟩)] w0 (([(b, Cel [.pointer none, v] 77)] : Seg).map (·.1)) (fun u s' => u = .tuple #[] ∧ s' = [(b, Cel [.pointer (some ⟨b, 0, none⟩), v] 77)]) := by
  refine fn_start Tryz.func91 rfl Tryz.ntmps91 rfl [(0, .pointer (some ⟨b, 0, none⟩))] ⟨rfl, trivial⟩ ?_
  intro Q a hP hF hR hN
  have hS := St.enter ho
  refine wp_seq_k fun K1 hK1 => ?_
  refine wp_region_lit ?_
  refine sv' hF (wn rfl) rfl rfl (R.move (hF.ev rfl)) fun a hF => ?_
  refine sv' hF (wn rfl) rfl rfl (R.nilCheck (hF.ev rfl)) fun a hF => ?_
  refine sv' hF (wn rfl) rfl rfl (R.fieldAddr (k := 0) Tryz.underlying77 rfl nz75 (hF.ev rfl) rfl) fun a hF => ?_
  refine sv' hF (wn rfl) rfl rfl (R.load one75 (hF.ev rfl) hS .h (rfl)) fun a hF => ?_
  refine sv' hF (wn rfl) rfl rfl (R.nilnil (hF.ev rfl) (hF.ev rfl) Tryz.underlying75) fun a hF => ?_
  refine s0 ?_
  refine then_n (hK1 _ _ ?_)
  refine cT hF rfl ?_
  refine wp_region_lit ?_
  refine sv' hF (wn rfl) rfl rfl (R.move (hF.ev rfl)) fun a hF => ?_
  refine sv' hF (wn rfl) rfl rfl (R.move (hF.ev rfl)) fun a hF => ?_
  refine sv' hF (wn rfl) rfl rfl (R.toUnsafe (hF.ev rfl) Tryz.underlying75 Tryz.underlying168 nz77 hS .h (Nat.zero_lt_succ 1)) fun a hF => ?_
  refine sv' hF (wn rfl) rfl rfl (R.extern (hF.evs rfl) (noEsc _ _)) fun a hF => ?_
  refine sv' hF (wn rfl) rfl rfl (R.fromUnsafe (hF.ev rfl) Tryz.underlying168 Tryz.underlying75 nz77 hS .h lies77) fun a hF => ?_
  refine sv' hF (wn rfl) rfl rfl (R.nilCheck (hF.ev rfl)) fun a hF => ?_
  refine sv' hF (wn rfl) rfl rfl (R.fieldAddr (k := 0) Tryz.underlying77 rfl nz75 (hF.ev rfl) rfl) fun a hF => ?_
  refine so (wn rfl) (O.store sz75 (hF.ev rfl) (hF.ev rfl) rfl rfl hS .h (rfl) (by first | decide | omega | (show _ < 59; decide) | (show _ < 3; decide) | simp) fun w hS => ?_)
  refine s0 ?_
  refine (hN _ _ _ _ _ hF (run_results Tryz.results91 (.nil)) ?_)
  exact ⟨_, _, rfl, ⟨rfl, rfl⟩, hS.one .h⟩
theorem chk_old (b : Nat) (v : Value) (w0 : World) (ho : Own w0 [(b, Cel [.pointer (some ⟨b, 0, none⟩), v] 77)]) : Ret Tryz.prog 91 [.pointer (some ⟨b, 0, none⟩)] w0 (([(b, Cel [.pointer (some ⟨b, 0, none⟩), v] 77)] : Seg).map (·.1)) (fun u s' => u = .tuple #[] ∧ s' = [(b, Cel [.pointer (some ⟨b, 0, none⟩), v] 77)]) := by
  refine fn_start Tryz.func91 rfl Tryz.ntmps91 rfl [(0, .pointer (some ⟨b, 0, none⟩))] ⟨rfl, trivial⟩ ?_
  intro Q a hP hF hR hN
  have hS := St.enter ho
  refine wp_seq_k fun K1 hK1 => ?_
  refine wp_region_lit ?_
  refine sv' hF (wn rfl) rfl rfl (R.move (hF.ev rfl)) fun a hF => ?_
  refine sv' hF (wn rfl) rfl rfl (R.nilCheck (hF.ev rfl)) fun a hF => ?_
  refine sv' hF (wn rfl) rfl rfl (R.fieldAddr (k := 0) Tryz.underlying77 rfl nz75 (hF.ev rfl) rfl) fun a hF => ?_
  refine sv' hF (wn rfl) rfl rfl (R.load one75 (hF.ev rfl) hS .h (rfl)) fun a hF => ?_
  refine sv' hF (wn rfl) rfl rfl (R.nilP (hF.ev rfl) (hF.ev rfl) Tryz.underlying75) fun a hF => ?_
  refine s0 ?_
  refine then_n (hK1 _ _ ?_)
  refine cF hF rfl ?_
  refine wp_seq_k fun K2 hK2 => ?_
  refine wp_region_lit ?_
  refine sv' hF (wn rfl) rfl rfl (R.move (hF.ev rfl)) fun a hF => ?_
  refine sv' hF (wn rfl) rfl rfl (R.nilCheck (hF.ev rfl)) fun a hF => ?_
  refine sv' hF (wn rfl) rfl rfl (R.fieldAddr (k := 0) Tryz.underlying77 rfl nz75 (hF.ev rfl) rfl) fun a hF => ?_
  refine sv' hF (wn rfl) rfl rfl (R.load one75 (hF.ev rfl) hS .h (rfl)) fun a hF => ?_
  refine sv' hF (wn rfl) rfl rfl (R.move (hF.ev rfl)) fun a hF => ?_
  refine sv' hF (wn rfl) rfl rfl (R.samePtr (hF.ev rfl) (hF.ev rfl) Tryz.underlying75 nz77) fun a hF => ?_
  refine s0 ?_
  refine then_n (hK2 _ _ ?_)
  refine cF hF rfl ?_
  refine wp_skip ?_
  refine (hN _ _ _ _ _ hF (run_results Tryz.results91 (.nil)) ?_)
  exact ⟨_, _, rfl, ⟨rfl, rfl⟩, hS.one .h⟩
theorem chk_calls (b : Nat) (p v : Value) (w0 : World) (hp : p = .pointer none ∨ p = .pointer (some ⟨b, 0, none⟩)) (ho : Own w0 [(b, Cel [p, v] 77)]) : Ret Tryz.prog 91 [.pointer (some ⟨b, 0, none⟩)] w0 (([(b, Cel [p, v] 77)] : Seg).map (·.1)) (fun u s' => u = .tuple #[] ∧ s' = [(b, Cel [.pointer (some ⟨b, 0, none⟩), v] 77)]) := by
  rcases hp with rfl | rfl
  · exact chk_new b v w0 ho
  · exact chk_old b v w0 ho
theorem write_calls (b : Nat) (xs ys : List Nat) (s : Seg) (w0 : World) (hB : BldS b xs s) (ho : Own w0 s) (hl : xs.length + ys.length ≤ 100000000) : Ret Tryz.prog 34 [.pointer (some ⟨b, 0, none⟩), .string (bstr ys)] w0 (s.map (·.1)) (fun u s' => u = .tuple #[.int .i64 ((bstr ys).size : Int), .nilIface] ∧ BldS b (xs ++ ys) s') := by
  refine fn_start Tryz.func34 rfl Tryz.ntmps34 rfl [(0, .pointer (some ⟨b, 0, none⟩)), (1, .string (bstr ys))] ⟨rfl, rfl, trivial⟩ ?_
  intro Q a hP hF hR hN
  have hS := St.enter ho
  obtain ⟨p, A, c, sg, hs, hO, hp⟩ := hB; have hS := hS.flat (bs' := [[(b, Cel [p, .slice A xs.length c] 77)], sg]) (by simp [hs])
  refine wp_seq_k fun K1 hK1 => ?_
  refine wp_region_lit ?_
  refine sv' hF (wn rfl) rfl rfl (R.assign (hF.ev rfl)) fun a hF => ?_
  refine sv' hF (wn rfl) rfl rfl (R.assign (hF.ev rfl)) fun a hF => ?_
  refine s0 ?_
  refine then_n (hK1 _ _ ?_)
  refine wp_seq_k fun K2 hK2 => ?_
  refine wp_region_lit ?_
  refine sv' hF (wn rfl) rfl rfl (R.move (hF.ev rfl)) fun a hF => ?_
  refine so (wn rfl) (O.callK rfl rfl hF ent91 (hF.evs rfl) hS (chk_calls b p _ _ hp (hS.own1 .h)) (fun _ => .h) fun v s7 a w hR hF hS => ?_)
  obtain ⟨rfl, rfl⟩ := hR
  refine s0 ?_
  refine then_n (hK2 _ _ ?_)
  refine wp_seq_k fun K3 hK3 => ?_
  refine wp_region_lit ?_
  refine sv' hF (wn rfl) rfl rfl (R.move (hF.ev rfl)) fun a hF => ?_
  refine sv' hF (wn rfl) rfl rfl (R.move (hF.ev rfl)) fun a hF => ?_
  refine sv' hF (wn rfl) rfl rfl (R.nilCheck (hF.ev rfl)) fun a hF => ?_
  refine sv' hF (wn rfl) rfl rfl (R.fieldAddr (k := 1) Tryz.underlying77 rfl nz22 (hF.ev rfl) rfl) fun a hF => ?_
  refine sv' hF (wn rfl) rfl rfl (R.load one22 (hF.ev rfl) hS .h (rfl)) fun a hF => ?_
  refine sv' hF (wn rfl) rfl rfl (R.move (hF.ev rfl)) fun a hF => ?_
  refine so (wn rfl) (O.appendS rfl rfl hF Tryz.underlying22 Tryz.underlying9 inf5 (hF.ev rfl) (hF.ev rfl) hS hO (fun _ => .t .h) (by rw [size_bstr]; unfold maxLen; omega) (by rw [size_bstr]; omega) fun A2 c2 s2 a w hO2 hF hS => ?_)
  refine sv' hF (wn rfl) rfl rfl (R.nilCheck (hF.ev rfl)) fun a hF => ?_
  refine sv' hF (wn rfl) rfl rfl (R.fieldAddr (k := 1) Tryz.underlying77 rfl nz22 (hF.ev rfl) rfl) fun a hF => ?_
  refine so (wn rfl) (O.store sz22 (hF.ev rfl) (hF.ev rfl) rfl rfl hS .h (rfl) (by first | decide | omega | (show _ < 59; decide) | (show _ < 3; decide) | simp) fun w hS => ?_)
  refine s0 ?_
  refine then_n (hK3 _ _ ?_)
  refine wp_seq_k fun K4 hK4 => ?_
  refine wp_region_lit ?_
  refine sv' hF (wn rfl) rfl rfl (R.move (hF.ev rfl)) fun a hF => ?_
  refine sv' hF (wn rfl) rfl rfl (R.lenS Tryz.underlying9 (hF.ev rfl)) fun a hF => ?_
  refine sv' hF (wn rfl) rfl rfl (R.assign (hF.ev rfl)) fun a hF => ?_
  refine sv' hF (wn rfl) rfl rfl (R.assign (hF.ev rfl)) fun a hF => ?_
  refine s0 ?_
  refine then_n (hK4 _ _ ?_)
  refine wp_ret (hR _ _ _ _ _ hF (run_results Tryz.results34 (.t hF rfl (.t hF rfl (.nil)))) ?_)
  have hS := (hS.sel [0, 1] rfl rfl).flat (bs' := [(b, Cel [.pointer (some ⟨b, 0, none⟩), .slice A2 (xs ++ ys).length c2] 77) :: s2]) (by simp [selS, size_bstr])
  exact ⟨_, _, rfl, ⟨rfl, ⟨_, A2, c2, s2, rfl, by rw [← chs_app, List.length_append, ← size_bstr ys]; exact hO2, .inr rfl⟩⟩, hS⟩
end Go.Proofs.YtlapmbkfmbkdoaaGreatDoor
end
section
namespace Go.Proofs.YtlapmbkfmbkdoaaGreatDoor
open Go Go.Fw Go.RowKit
attribute [local irreducible] Go.Oper.wp Go.Code.wp Go.wpList Go.Fw.WL Go.Calls
theorem string_op {w0 w : World} {bs : List Seg} {N d : Nat} {env : Env} {a : Act} {K : Act → World → Prop} {Q : Exit → Act → World → Prop} {dst : Option Tmp} {ty : TypeId} {pos : String} {af : Array Edge} {g : Option (Nat × Bool)} {xs : List Operand} {tys : Array TypeId} {b : Nat} {ys : List Nat} {s : Seg} (hd : dst = some d) (hn : Nat.blt d N = true) (hF : Fr N env a) (hx : xs.map a.eval = [.pointer (some ⟨b, 0, none⟩)]) (hS : St w0 [] bs w) (hs : HasS bs s) (hB : BldS b ys s)
    (h : ∀ a' w', Fr N ((d, .string (bstr ys)) :: env) a' → St w0 [] [[]] w' → K a' w') : Oper.wp Tryz.prog ⟨dst, .call ⟨.value (.func 39), xs.toArray, tys⟩, ty, pos, af, g⟩ a w K Q := by
  subst hd
  unfold Oper.wp
  rw [Fw.run_call hx, ent39, Oper.upon_enter]
  refine Calls.mono (Any.Builder_String_any Tryz.lays169 Tryz.Builder_Extra_169 w0.heap.size b (ys.map fun n => UInt8.ofNat n) w (bld_is hS hs hB) hS.size) ?_
  rintro e w' ⟨rfl, hb⟩
  exact h _ w' (hF.put hn _) ⟨hb.os.trans hS.os, hb.tape.trans hS.tape, hb.output.trans hS.output, Nat.le_trans hS.size hb.size, fun k hk _ => (hb.block k hk).trans (hS.keep k hk (by simp)), by simp, by simp, by simp [keys]⟩
def tgts (xs m : List Nat) : List Nat := (m.filter (isJump xs)).map (targetN xs)
theorem tg_T {xs m : List Nat} {q : Nat} (h : cAt xs q = 14 ∨ cAt xs q = 15) : tgts xs (m ++ [q]) = tgts xs m ++ [targetN xs q] := by
  simp [tgts, List.filter_append, isJump_of h]
theorem tg_F {xs m : List Nat} {q : Nat} (h : ¬ (cAt xs q = 14 ∨ cAt xs q = 15)) : tgts xs (m ++ [q]) = tgts xs m := by
  have : isJump xs q = false := by simpa [isJump] using h
  simp [tgts, List.filter_append, this]
theorem tg_go (xs l : List Nat) (p : Nat) : (tgts xs l).contains p = goN xs l p := by
  rw [Bool.eq_iff_iff]
  simp [tgts, goN, and_assoc]
theorem tg_lt {xs l : List Nat} (hc : chkN xs = true) (hl : placesN xs = some l) {q : Nat} (hq : q ∈ l) (hj : cAt xs q = 14 ∨ cAt xs q = 15) : targetN xs q < xs.length ∧ xs.length ≤ 1024 := by
  have h1 : (l.all fun p => !isJump xs p || l.contains (targetN xs p)) = true := by
    simp only [chkN, hl, Bool.and_eq_true] at hc; exact hc.2
  have h3 : xs.length ≤ 1024 := by
    simp only [chkN, Bool.and_eq_true, decide_eq_true_eq] at hc; omega
  have h2 := List.all_eq_true.1 h1 q hq
  rw [isJump_of hj] at h2
  exact ⟨(places_mem hl _ (by simpa using h2)).1, h3⟩
def begL (l : List Nat) : List Value := (List.range 1024).map fun j => .bool (l.contains j)
theorem length_begL (l : List Nat) : (begL l).length = 1024 := by simp [begL]
theorem begL_at {xs l : List Nat} {j off : Nat} (h : j < 1024) (ho : off = j) : (begL (tgts xs l))[off]? = some (.bool (decide (goN xs l j = true))) := by
  subst ho
  rw [show decide (goN xs l off = true) = goN xs l off by simp, ← tg_go]
  simp [begL, h]
theorem begL_set {l : List Nat} {i off : Nat} (ho : off = i) : (begL l).set off (.bool true) = begL (l ++ [i]) := by
  subst ho
  apply List.ext_getElem?
  intro j
  rw [List.getElem?_set]
  by_cases hj : j < 1024
  · have e : ∀ m : List Nat, (begL m)[j]? = some (.bool (m.contains j)) := fun m => by simp [begL, hj]
    rw [e, e, length_begL]
    by_cases e : off = j
    · subst e; simp [hj]
    · rw [if_neg e]
      have : ¬ j = off := fun h => e h.symm
      simp [this]
  · rw [List.getElem?_eq_none (by rw [length_begL]; omega), List.getElem?_eq_none (by rw [length_begL]; omega)]
    by_cases e : off = j
    · rw [if_pos e, if_neg (by rw [length_begL]; omega)]
    · rw [if_neg e]
theorem ze69b : zeT Tryz.prog 69 (.agg (begL []).toArray) := by unfold zeT; kernel_rfl
theorem row_name {c : Nat} (h : c < 28) : tabR[c]? = some (rowC (bstr (nameN c)) c) := by
  have hcases : c = 0 ∨ c = 1 ∨ c = 2 ∨ c = 3 ∨ c = 4 ∨ c = 5 ∨ c = 6 ∨ c = 7 ∨ c = 8 ∨ c = 9 ∨ c = 10 ∨ c = 11 ∨ c = 12 ∨ c = 13 ∨ c = 14 ∨ c = 15 ∨ c = 16 ∨ c = 17 ∨ c = 18 ∨ c = 19 ∨ c = 20 ∨ c = 21 ∨ c = 22 ∨ c = 23 ∨ c = 24 ∨ c = 25 ∨ c = 26 ∨ c = 27 := by omega
  rcases hcases with rfl | rfl | rfl | rfl | rfl | rfl | rfl | rfl | rfl | rfl | rfl | rfl | rfl | rfl | rfl | rfl | rfl | rfl | rfl | rfl | rfl | rfl | rfl | rfl | rfl | rfl | rfl | rfl <;> exact rfl
theorem row_nm {c off : Nat} (h : c < 28) (ho : off = c * 5) : ∀ j v, (rowC (bstr (nameN c)) c)[j]? = some v → tabL[off + j]? = some v := by
  subst ho
  exact flat_at (by decide +kernel) (row_name h)
theorem line_m {xs l m o : List Nat} {i : Nat} (h : o = linesN xs l m) : o ++ labN xs l i ++ nameN (cAt xs i) ++ operL xs i ++ [10] = linesN xs l (m ++ [i]) := by
  rw [lines_snoc, ← h]
  unfold lineN
  simp only [List.append_assoc]
theorem plcs_all {xs l : List Nat} (h : placesN xs = some l) : plcs xs 0 = some l := h
theorem oper1 {c : Nat} (h : ((operN c : Nat) : Int) = 1) : c = 2 := (operN_spec c).1.1 (by omega)
theorem oper2 {c : Nat} (h : ((operN c : Nat) : Int) = 2) : c = 4 ∨ c = 5 ∨ c = 16 := (operN_spec c).2.1.1 (by omega)
theorem oper3 {c : Nat} (h : ((operN c : Nat) : Int) = 3) : c = 14 ∨ c = 15 := (operN_spec c).2.2.1 (by omega)
set_option maxHeartbeats 4000000 in
theorem mtext_good (A : Option Addr) (n c : Nat) (xs : List Nat) (l : List Nat) (w0 : World) (hA : Rd w0 A (byts xs)) (hn : xs.length = n) (hnc : n ≤ c) (hc : c ≤ 9223372036854775807) (hB : Byt xs) (ht : TabW w0) (hck : chkN xs = true) (hl : placesN xs = some l) (hn2 : n ≤ 1024) : Ret Tryz.prog 9 [.slice A n c] w0 [] (fun v s => v = .tuple #[.string (bstr (textN xs)), .int .i64 0] ∧ s = []) := by
  refine fn_start Tryz.func9 rfl Tryz.ntmps9 rfl [(0, .slice A n c)] ⟨rfl, trivial⟩ ?_
  intro Q a hP hF hR hN
  have hS := St.start w0
  refine wp_seq_k fun K1 hK1 => ?_
  refine wp_region_lit ?_
  refine sv' hF (wn rfl) rfl rfl (R.assign (hF.ev rfl)) fun a hF => ?_
  refine sv' hF (wn rfl) rfl rfl (R.assign (hF.ev rfl)) fun a hF => ?_
  refine s0 ?_
  refine then_n (hK1 _ _ ?_)
  refine wp_seq_k fun K2 hK2 => ?_
  refine wp_seq_k fun K3 hK3 => ?_
  refine wp_region_lit ?_
  refine sv' hF (wn rfl) rfl rfl (R.move (hF.ev rfl)) fun a hF => ?_
  refine so (wn rfl) (O.call rfl rfl hF ent14 (hF.evs rfl) hS (check_calls A n c xs _ (hA.old hS) hn hnc hc hB) fun v s16 a w hR hF hS => ?_)
  obtain ⟨rfl, rfl⟩ := hR
  rw [show chkV xs = .int .i64 0 from by rw [chkV, hck]; rfl] at hF
  refine sv' hF (wn rfl) rfl rfl (R.assign (hF.ev rfl)) fun a hF => ?_
  refine s0 ?_
  refine then_n (hK3 _ _ ?_)
  refine wp_seq_k fun K4 hK4 => ?_
  refine wp_region_lit ?_
  refine sv' hF (wn rfl) rfl rfl (R.move (hF.ev rfl)) fun a hF => ?_
  refine sv' hF (wn rfl) rfl rfl (R.as (u := .bool false) (R.neq (p := 0) (q := 0) (hF.ev rfl) (hF.ev rfl)) (rfl)) fun a hF => ?_
  refine s0 ?_
  refine then_n (hK4 _ _ ?_)
  refine cF hF rfl ?_
  refine wp_skip ?_
  refine then_n (hK2 _ _ ?_)
  refine wp_seq_k fun K5 hK5 => ?_
  refine wp_region_lit ?_
  refine so (wn rfl) (O.alloc rfl rfl hF ze69b rfl hS fun b5 a w hF hS => ?_)
  refine s0 ?_
  refine then_n (hK5 _ _ ?_)
  refine wp_seq_k fun K6 hK6 => ?_
  refine wp_seq_k fun K7 hK7 => ?_
  refine wp_region_lit ?_
  refine sv' hF (wn rfl) rfl rfl (R.assign (hF.ev rfl)) fun a hF => ?_
  refine s0 ?_
  refine then_n (hK7 _ _ ?_)
  refine wp_block ?_
  refine wp_loop_N (fun g a w => ∃ (i : Nat) (m : List Nat) (r : List Nat), n - i = g ∧ Fr 122 [(0, .slice A n c), (5, .pointer (some ⟨b5, 0, none⟩)), (6, .int .i64 ((i : Nat) : Int))] a ∧ St w0 [] [[(b5, Cel (begL (tgts xs m)) 69)]] w ∧ (i ≤ n) ∧ (plcs xs i = some r) ∧ (l = m ++ r)) (n - 0) ?_ ?_
  · exact ⟨0, [], l, rfl, hF.sub ⟨rfl, rfl, rfl, trivial⟩, hS.sel [0] rfl rfl, by omega, plcs_all hl, rfl⟩
  · rintro KL1 g a w ⟨i, m, r, hg1, hF, hS, hi, hr, hlr⟩ hKL1
    refine wp_seq_k fun K8 hK8 => ?_
    refine wp_seq_k fun K9 hK9 => ?_
    refine wp_region_lit ?_
    refine sv' hF (wn rfl) rfl rfl (R.move (hF.ev rfl)) fun a hF => ?_
    refine sv' hF (wn rfl) rfl rfl (R.move (hF.ev rfl)) fun a hF => ?_
    refine sv' hF (wn rfl) rfl rfl (R.len Tryz.underlying22 (hF.ev rfl)) fun a hF => ?_
    refine sv' hF (wn rfl) rfl rfl (R.lss (hF.ev rfl) (hF.ev rfl)) fun a hF => ?_
    refine s0 ?_
    refine then_n (hK9 _ _ ?_)
    refine cD hF rfl (fun c2 => ?_) (fun c2 => ?_)
    ·
      obtain ⟨r', hs2, rfl, hr2⟩ := plcs_cons (by omega) hr
      have hql : i ∈ l := by rw [hlr]; simp
      have hb := cAt_lt hB i; have hsz := (sizeN_le xs i).resolve_left hs2; have hc28 := size_28 hs2
      refine wp_skip ?_
      refine then_n (hK8 _ _ ?_)
      refine wp_seq_k fun K10 hK10 => ?_
      have hK10' : ∀ a w, (∃ (t : List Nat), Fr 122 [(0, .slice A n c), (5, .pointer (some ⟨b5, 0, none⟩)), (6, .int .i64 ((i : Nat) : Int))] a ∧ St w0 [] [[(b5, Cel (begL (t)) 69)]] w ∧ (t = tgts xs (m ++ [i]))) → K10 a w := by
        rintro a w ⟨t, hF, hS, htt⟩
        refine hK10 _ _ ?_
        subst htt
        refine wp_region_lit ?_
        refine sv' hF (wn rfl) rfl rfl (R.move (hF.ev rfl)) fun a hF => ?_
        refine sv' hF (wn rfl) rfl rfl (R.move (hF.ev rfl)) fun a hF => ?_
        refine sv' hF (wn rfl) rfl rfl (R.move (hF.ev rfl)) fun a hF => ?_
        refine so (wn rfl) (O.call rfl rfl hF ent31 (hF.evs rfl) hS (size_calls A n c xs i w (hA.old hS) hn hnc hc hB (by omega)) fun v s27 a w hR hF hS => ?_)
        obtain ⟨rfl, rfl⟩ := hR
        refine sv' hF (wn rfl) rfl rfl (R.addI (hF.ev rfl) (hF.ev rfl) (by omega)) fun a hF => ?_
        refine sv' hF (wn rfl) rfl rfl (R.assign (hF.ev rfl)) fun a hF => ?_
        refine s0 ?_
        refine then_n (hKL1 (n - (i + sizeN xs i)) _ _ ?_ ?_)
        · omega
        · exact ⟨i + sizeN xs i, m ++ [i], r', rfl, hF.sub ⟨rfl, rfl, (congrArg (fun z => some (Value.int .i64 z)) (by omega)), trivial⟩, hS.sel [1] rfl rfl, by omega, hr2, by rw [hlr]; simp⟩
      refine wp_block ?_
      refine wp_seq_k fun K11 hK11 => ?_
      have hK11' : ∀ a w, (Fr 122 [(0, .slice A n c), (5, .pointer (some ⟨b5, 0, none⟩)), (6, .int .i64 ((i : Nat) : Int)), (40, .bool (decide (cAt xs i = 14 ∨ cAt xs i = 15)))] a ∧ St w0 [] [[(b5, Cel (begL (tgts xs m)) 69)]] w) → K11 a w := by
        rintro a w ⟨hF, hS⟩
        refine hK11 _ _ ?_
        refine cD hF rfl (fun c3 => ?_) (fun c3 => ?_)
        ·
          have htl := tg_lt hck hl hql c3
          refine wp_region_lit ?_
          refine sv' hF (wn rfl) rfl rfl (R.move (hF.ev rfl)) fun a hF => ?_
          refine sv' hF (wn rfl) rfl rfl (R.move (hF.ev rfl)) fun a hF => ?_
          refine so (wn rfl) (O.call rfl rfl hF ent32 (hF.evs rfl) hS (target_calls A n c xs i w (hA.old hS) hn hnc hc hB (by have := sz_three hs2 c3; omega)) fun v s43 a w hR hF hS => ?_)
          obtain ⟨rfl, rfl⟩ := hR
          refine sv' hF (wn rfl) rfl rfl (R.indexA Tryz.underlying69 sz4 (hF.ev rfl) (hF.ev rfl) (by omega) (by omega)) fun a hF => ?_
          refine so (wn rfl) (O.store sz4 (hF.ev rfl) (hF.ev rfl) rfl rfl hS (.t .h) (begL_set (i := targetN xs i) (by omega)) (by rw [length_begL]; omega) fun w hS => ?_)
          refine s0 ?_
          refine blk_n ?_
          exact then_n (hK10' _ _ ⟨tgts xs m ++ [targetN xs i], hF.sub ⟨rfl, rfl, rfl, trivial⟩, hS.sel [1] rfl rfl, (tg_T c3).symm⟩)
        ·
          refine wp_skip ?_
          refine blk_n ?_
          exact then_n (hK10' _ _ ⟨tgts xs m, hF.sub ⟨rfl, rfl, rfl, trivial⟩, hS.sel [0] rfl rfl, (tg_F c3).symm⟩)
      refine wp_region_lit ?_
      refine sv' hF (wn rfl) rfl rfl (R.move (hF.ev rfl)) fun a hF => ?_
      refine sv' hF (wn rfl) rfl rfl (R.move (hF.ev rfl)) fun a hF => ?_
      refine sv' hF (wn rfl) rfl rfl (R.indexO Tryz.underlying22 sz5 (hF.ev rfl) (Rd.ne hA (by rw [length_byts]; omega)) (hF.ev rfl) (by omega) (by omega)) fun a hF => ?_
      refine sv' hF (wn rfl) rfl rfl (R.loadO one5 (hF.ev rfl) (hA.old hS) (cb_at (i := i) (by omega) (by omega))) fun a hF => ?_
      refine sv' hF (wn rfl) rfl rfl (R.eql (hF.ev rfl) (hF.ev rfl)) fun a hF => ?_
      refine sv' hF (wn rfl) rfl rfl (R.move (hF.ev rfl)) fun a hF => ?_
      refine hF.splitD (t := 34) rfl (fun h34 hF => ?_) (fun h34 hF => ?_)
      ·
        refine sk hF (ws hF rfl rfl rfl rfl) rfl rfl fun a hF => ?_
        refine sk hF (ws hF rfl rfl rfl rfl) rfl rfl fun a hF => ?_
        refine sk hF (ws hF rfl rfl rfl rfl) rfl rfl fun a hF => ?_
        refine sk hF (ws hF rfl rfl rfl rfl) rfl rfl fun a hF => ?_
        refine sk hF (ws hF rfl rfl rfl rfl) rfl rfl fun a hF => ?_
        refine sv' hF (wn rfl) rfl rfl (R.pickT (hF.ev rfl) (hF.ev rfl)) fun a hF => ?_
        refine s0 ?_
        exact then_n (hK11' _ _ ⟨hF.sub ⟨rfl, rfl, rfl, (congrArg (fun z => some (Value.bool z)) (by first | exact (decide_eq_true (by omega)).symm | exact (decide_eq_false (by omega)).symm | exact decide_eq_decide.2 (by omega))), trivial⟩, hS.sel [0] rfl rfl⟩)
      ·
        refine sv' hF (wy hF rfl rfl rfl) rfl rfl (R.move (hF.ev rfl)) fun a hF => ?_
        refine sv' hF (wy hF rfl rfl rfl) rfl rfl (R.move (hF.ev rfl)) fun a hF => ?_
        refine sv' hF (wy hF rfl rfl rfl) rfl rfl (R.indexO Tryz.underlying22 sz5 (hF.ev rfl) (Rd.ne hA (by rw [length_byts]; omega)) (hF.ev rfl) (by omega) (by omega)) fun a hF => ?_
        refine sv' hF (wy hF rfl rfl rfl) rfl rfl (R.loadO one5 (hF.ev rfl) (hA.old hS) (cb_at (i := i) (by omega) (by omega))) fun a hF => ?_
        refine sv' hF (wy hF rfl rfl rfl) rfl rfl (R.eql (hF.ev rfl) (hF.ev rfl)) fun a hF => ?_
        refine sv' hF (wn rfl) rfl rfl (R.pickF (hF.ev rfl) (hF.ev rfl)) fun a hF => ?_
        refine s0 ?_
        exact then_n (hK11' _ _ ⟨hF.sub ⟨rfl, rfl, rfl, (congrArg (fun z => some (Value.bool z)) (by first | exact (decide_eq_true (by omega)).symm | exact (decide_eq_false (by omega)).symm | exact decide_eq_decide.2 (by omega))), trivial⟩, hS.sel [0] rfl rfl⟩)
    ·
      have hre : r = [] := by (rw [plcs_end (p := i) (by omega)] at hr; simpa using hr.symm)
      subst hre
      rw [List.append_nil] at hlr
      subst hlr
      refine wp_exit (then_x (then_x (blk_hit ?_)))
      refine then_n (hK6 _ _ ?_)
      refine wp_seq_k fun K12 hK12 => ?_
      refine wp_region_lit ?_
      refine so (wn rfl) (O.call rfl rfl hF ent33 (hF.evs rfl) hS (table_calls w) fun v s45 a w hR hF hS => ?_)
      obtain ⟨rfl, rfl⟩ := hR
      refine so (wn rfl) (O.alloc rfl rfl hF ze73 rfl hS fun b7 a w hF hS => ?_)
      refine so (wn rfl) (O.storeW sz73 (hF.ev rfl) (hF.ev rfl) (rfl) rfl (one_tab) hS .h (rfl) fun w hS => ?_)
      refine s0 ?_
      refine then_n (hK12 _ _ ?_)
      refine wp_seq_k fun K13 hK13 => ?_
      refine wp_region_lit ?_
      refine so (wn rfl) (O.alloc rfl rfl hF ze77 rfl hS fun b8 a w hF hS => ?_)
      refine s0 ?_
      refine then_n (hK13 _ _ ?_)
      refine wp_seq_k fun K14 hK14 => ?_
      refine wp_seq_k fun K15 hK15 => ?_
      refine wp_region_lit ?_
      refine sv' hF (wn rfl) rfl rfl (R.assign (hF.ev rfl)) fun a hF => ?_
      refine s0 ?_
      refine then_n (hK15 _ _ ?_)
      refine wp_block ?_
      refine wp_loop_N (fun g a w => ∃ (i : Nat) (m : List Nat) (r : List Nat) (o : List Nat) (z : Seg), n - i = g ∧ Fr 122 [(0, .slice A n c), (5, .pointer (some ⟨b5, 0, none⟩)), (7, .pointer (some ⟨b7, 0, none⟩)), (8, .pointer (some ⟨b8, 0, none⟩)), (9, .int .i64 ((i : Nat) : Int))] a ∧ St w0 [] [z, [(b7, Cel tabL 73)], [(b5, Cel (begL (tgts xs l)) 69)]] w ∧ (i ≤ n) ∧ (plcs xs i = some r) ∧ (l = m ++ r) ∧ (o = linesN xs l m) ∧ (o.length ≤ 400 * i) ∧ (BldS b8 o z)) (n - 0) ?_ ?_
      · exact ⟨0, [], l, [], _, rfl, hF.sub ⟨rfl, rfl, rfl, rfl, rfl, trivial⟩, hS.sel [0, 1, 3] rfl rfl, by omega, plcs_all hl, rfl, rfl, by decide, bld_new b8⟩
      · rintro KL2 g a w ⟨i, m, r, o, z, hg2, hF, hS, hi, hr, hlr, ho, hol, hZ⟩ hKL2
        refine wp_seq_k fun K16 hK16 => ?_
        refine wp_seq_k fun K17 hK17 => ?_
        refine wp_region_lit ?_
        refine sv' hF (wn rfl) rfl rfl (R.move (hF.ev rfl)) fun a hF => ?_
        refine sv' hF (wn rfl) rfl rfl (R.move (hF.ev rfl)) fun a hF => ?_
        refine sv' hF (wn rfl) rfl rfl (R.len Tryz.underlying22 (hF.ev rfl)) fun a hF => ?_
        refine sv' hF (wn rfl) rfl rfl (R.lss (hF.ev rfl) (hF.ev rfl)) fun a hF => ?_
        refine s0 ?_
        refine then_n (hK17 _ _ ?_)
        refine cD hF rfl (fun c4 => ?_) (fun c4 => ?_)
        ·
          obtain ⟨r', hs2, rfl, hr2⟩ := plcs_cons (by omega) hr
          have hql : i ∈ l := by rw [hlr]; simp
          have hb := cAt_lt hB i; have hsz := (sizeN_le xs i).resolve_left hs2; have hc28 := size_28 hs2
          have hb1 := cAt_lt hB (i + 1); have hdq := len_decS (n := i) (by omega)
          refine wp_skip ?_
          refine then_n (hK16 _ _ ?_)
          refine wp_block ?_
          refine wp_seq_k fun K18 hK18 => ?_
          refine wp_region_lit ?_
          refine sv' hF (wn rfl) rfl rfl (R.move (hF.ev rfl)) fun a hF => ?_
          refine sv' hF (wn rfl) rfl rfl (R.move (hF.ev rfl)) fun a hF => ?_
          refine so (wn rfl) (O.call rfl rfl hF ent31 (hF.evs rfl) hS (size_calls A n c xs i w (hA.old hS) hn hnc hc hB (by omega)) fun v s52 a w hR hF hS => ?_)
          obtain ⟨rfl, rfl⟩ := hR
          refine sv' hF (wn rfl) rfl rfl (R.assign (hF.ev rfl)) fun a hF => ?_
          refine s0 ?_
          refine then_n (hK18 _ _ ?_)
          refine wp_seq_k fun K19 hK19 => ?_
          have hK19' : ∀ a w, (∃ (z : Seg), Fr 122 [(0, .slice A n c), (5, .pointer (some ⟨b5, 0, none⟩)), (7, .pointer (some ⟨b7, 0, none⟩)), (8, .pointer (some ⟨b8, 0, none⟩)), (9, .int .i64 ((i : Nat) : Int)), (10, .int .i64 ((sizeN xs i : Nat) : Int))] a ∧ St w0 [] [z, [(b7, Cel tabL 73)], [(b5, Cel (begL (tgts xs l)) 69)]] w ∧ (BldS b8 (o ++ labN xs l i) z)) → K19 a w := by
            rintro a w ⟨z, hF, hS, hZ⟩
            refine hK19 _ _ ?_
            have hlb : (labN xs l i).length ≤ 81 := by (unfold labN; split; simp only [List.length_append, List.length_cons, List.length_nil]; omega; exact Nat.zero_le _)
            have hnm := len_name (cAt xs i)
            refine wp_seq_k fun K20 hK20 => ?_
            refine wp_region_lit ?_
            refine sv' hF (wn rfl) rfl rfl (R.move (hF.ev rfl)) fun a hF => ?_
            refine sv' hF (wn rfl) rfl rfl (R.move (hF.ev rfl)) fun a hF => ?_
            refine sv' hF (wn rfl) rfl rfl (R.indexO Tryz.underlying22 sz5 (hF.ev rfl) (Rd.ne hA (by rw [length_byts]; omega)) (hF.ev rfl) (by omega) (by omega)) fun a hF => ?_
            refine sv' hF (wn rfl) rfl rfl (R.loadO one5 (hF.ev rfl) (hA.old hS) (cb_at (i := i) (by omega) (by omega))) fun a hF => ?_
            refine sv' hF (wn rfl) rfl rfl (R.indexA Tryz.underlying73 sz72 (hF.ev rfl) (hF.ev rfl) (by omega) (by omega)) fun a hF => ?_
            refine sv' hF (wn rfl) rfl rfl (R.loadA (cs := rowC (bstr (nameN (cAt xs i))) (cAt xs i)) agg72 (hF.ev rfl) hS (.t .h) sz72 rfl (row_nm (c := (cAt xs i)) (by omega) (by omega))) fun a hF => ?_
            refine so (wn rfl) (O.alloc rfl rfl hF ze72 rfl hS fun b11 a w hF hS => ?_)
            refine so (wn rfl) (O.storeW sz72 (hF.ev rfl) (hF.ev rfl) (rfl) rfl (one_row _ _) hS .h (rfl) fun w hS => ?_)
            refine s0 ?_
            refine then_n (hK20 _ _ ?_)
            refine wp_seq_k fun K21 hK21 => ?_
            refine wp_region_lit ?_
            refine sv' hF (wn rfl) rfl rfl (R.fieldAddr (k := 0) Tryz.underlying72 rfl nz9 (hF.ev rfl) rfl) fun a hF => ?_
            refine sv' hF (wn rfl) rfl rfl (R.load one9 (hF.ev rfl) hS .h (rfl)) fun a hF => ?_
            refine so (wn rfl) (O.callK rfl rfl hF ent34 (hF.evs rfl) hS (write_calls b8 (o ++ labN xs l i) (nameN (cAt xs i)) _ w hZ (hS.own1 (.t .h)) (by simp only [List.length_append, List.length_cons, List.length_nil]; omega)) (fun _ => (.t .h)) fun v s69 a w hR hF hS => ?_)
            obtain ⟨rfl, hZ⟩ := hR
            refine s0 ?_
            refine then_n (hK21 _ _ ?_)
            refine wp_seq_k fun K22 hK22 => ?_
            have hK22' : ∀ a w, (∃ (z : Seg), Fr 122 [(0, .slice A n c), (5, .pointer (some ⟨b5, 0, none⟩)), (7, .pointer (some ⟨b7, 0, none⟩)), (8, .pointer (some ⟨b8, 0, none⟩)), (9, .int .i64 ((i : Nat) : Int)), (10, .int .i64 ((sizeN xs i : Nat) : Int))] a ∧ St w0 [] [z, [(b7, Cel tabL 73)], [(b5, Cel (begL (tgts xs l)) 69)]] w ∧ (BldS b8 (o ++ labN xs l i ++ nameN (cAt xs i) ++ operL xs i) z)) → K22 a w := by
              rintro a w ⟨z, hF, hS, hZ⟩
              refine hK22 _ _ ?_
              have hop : (operL xs i).length ≤ 80 := len_oper hB (by omega) hs2
              refine wp_seq_k fun K23 hK23 => ?_
              refine wp_region_lit ?_
              refine so (wn rfl) (O.callK rfl rfl hF ent34 (hF.evs rfl) hS (write_calls b8 (o ++ labN xs l i ++ nameN (cAt xs i) ++ operL xs i) ([10]) _ w hZ (hS.own1 .h) (by simp only [List.length_append, List.length_cons, List.length_nil]; omega)) (fun _ => .h) fun v s117 a w hR hF hS => ?_)
              obtain ⟨rfl, hZ⟩ := hR
              refine s0 ?_
              refine then_n (hK23 _ _ ?_)
              refine wp_region_lit ?_
              refine sv' hF (wn rfl) rfl rfl (R.move (hF.ev rfl)) fun a hF => ?_
              refine sv' hF (wn rfl) rfl rfl (R.move (hF.ev rfl)) fun a hF => ?_
              refine sv' hF (wn rfl) rfl rfl (R.addI (hF.ev rfl) (hF.ev rfl) (by omega)) fun a hF => ?_
              refine sv' hF (wn rfl) rfl rfl (R.assign (hF.ev rfl)) fun a hF => ?_
              refine s0 ?_
              refine blk_n ?_
              refine then_n (hKL2 (n - (i + sizeN xs i)) _ _ ?_ ?_)
              · omega
              · exact ⟨i + sizeN xs i, m ++ [i], r', _, _, rfl, hF.sub ⟨rfl, rfl, rfl, rfl, (congrArg (fun z => some (Value.int .i64 z)) (by omega)), trivial⟩, hS.sel [0, 1, 2] rfl rfl, by omega, hr2, by rw [hlr]; simp, line_m ho, (by simp only [List.length_append, List.length_cons, List.length_nil]; omega), hZ⟩
            refine wp_seq_k fun K24 hK24 => ?_
            refine wp_region_lit ?_
            refine sv' hF (wn rfl) rfl rfl (R.move (hF.ev rfl)) fun a hF => ?_
            refine sv' hF (wn rfl) rfl rfl (R.move (hF.ev rfl)) fun a hF => ?_
            refine sv' hF (wn rfl) rfl rfl (R.indexO Tryz.underlying22 sz5 (hF.ev rfl) (Rd.ne hA (by rw [length_byts]; omega)) (hF.ev rfl) (by omega) (by omega)) fun a hF => ?_
            refine sv' hF (wn rfl) rfl rfl (R.loadO one5 (hF.ev rfl) (hA.old hS) (cb_at (i := i) (by omega) (by omega))) fun a hF => ?_
            refine sv' hF (wn rfl) rfl rfl (R.convI Tryz.underlying5 Tryz.underlying3 (hF.ev rfl) (by omega)) fun a hF => ?_
            refine so (wn rfl) (O.call rfl rfl hF ent36 (hF.evs rfl) hS (operandOf_calls (cAt xs i) w) fun v s75 a w hR hF hS => ?_)
            obtain ⟨rfl, rfl⟩ := hR
            refine s0 ?_
            refine then_n (hK24 _ _ ?_)
            refine wp_block ?_
            refine wp_seq_k fun K25 hK25 => ?_
            refine wp_region_lit ?_
            refine sv' hF (wn rfl) rfl rfl (R.eql (hF.ev rfl) (hF.ev rfl)) fun a hF => ?_
            refine sv' hF (wn rfl) rfl rfl (R.assign (hF.ev rfl)) fun a hF => ?_
            refine s0 ?_
            refine then_n (hK25 _ _ ?_)
            refine cD hF rfl (fun c6 => ?_) (fun c6 => ?_)
            ·
              have hc3 := oper1 c6; have hsp := sz_push hs2 hc3
              obtain ⟨k, hk⟩ : ∃ k, k = cAt xs (i + 1) := ⟨_, rfl⟩
              have hlk : ((xs.drop (i + 2)).take k).length = k := by (rw [List.length_take, List.length_drop]; omega)
              have hBk : Byt ((xs.drop (i + 2)).take k) := fun d hd => hB d (List.drop_subset _ _ (List.take_subset _ _ hd))
              have hnb : numB ((xs.drop (i + 2)).take k) < 115792089237316195423570985008687907853269984665640564039457584007913129639936 := numB_lt32 (by omega) hBk
              have hdn := len_decS hnb
              refine wp_seq_k fun K26 hK26 => ?_
              refine wp_region_lit ?_
              refine so (wn rfl) (O.alloc rfl rfl hF ze101b rfl hS fun b12 a w hF hS => ?_)
              refine s0 ?_
              refine then_n (hK26 _ _ ?_)
              refine wp_seq_k fun K27 hK27 => ?_
              refine wp_drawG hS (hS.sel [2] rfl rfl) [(0, 0), (1, 0), (2, 0), (3, 0), (4, 0), (5, 0), (6, 0), (7, 0), (8, 0), (9, 0), (10, 2)] mix (by kernel_rfl) (hP.then.block.then.block.then.block.then) fun w hS hD => ?_
              refine dq hF rfl (wn rfl) rfl rfl (fun w => R.move (hF.ev rfl)) fun a hF => ?_
              refine dq hF rfl (wn rfl) rfl rfl (fun w => R.subI (hF.ev rfl) (hF.ev rfl) (by omega)) fun a hF => ?_
              refine dq hF rfl (wn rfl) rfl rfl (fun w => R.sliceArrLo (p := 32 - k) Tryz.underlying83 sz5 (hF.ev rfl) ((hF.ev rfl).trans (congrArg (Value.int .i64) (by omega))) (by omega)) fun a hF => ?_
              refine dq hF rfl (wn rfl) rfl rfl (fun w => R.move (hF.ev rfl)) fun a hF => ?_
              refine dq hF rfl (wn rfl) rfl rfl (fun w => R.move (hF.ev rfl)) fun a hF => ?_
              refine dq hF rfl (wn rfl) rfl rfl (fun w => R.addI (hF.ev rfl) (hF.ev rfl) (by omega)) fun a hF => ?_
              refine dq hF rfl (wn rfl) rfl rfl (fun w => R.move (hF.ev rfl)) fun a hF => ?_
              refine dq hF rfl (wn rfl) rfl rfl (fun w => R.move (hF.ev rfl)) fun a hF => ?_
              refine dq hF rfl (wn rfl) rfl rfl (fun w => R.addI (hF.ev rfl) (hF.ev rfl) (by omega)) fun a hF => ?_
              refine dq hF rfl (wn rfl) rfl rfl (fun w => R.as (u := .slice (if c = i + 2 then A else A.map (·.add ((i + 2) * 1))) k (c - (i + 2))) (R.sliceMid (p := i + 2) (q := i + 2 + k) Tryz.underlying22 (hF.ev rfl) ((hF.ev rfl).trans (congrArg (Value.int .i64) (by omega))) ((hF.ev rfl).trans (congrArg (Value.int .i64) (by omega))) (by omega) (by omega) sz5) (congrArg (fun z => Value.slice _ z _) (by omega))) fun a hF => ?_
              have hrd : Rd w (if c = i + 2 then A else A.map (·.add ((i + 2) * 1))) (byts ((xs.drop (i + 2)).take k)) := by (rw [← byts_takeK]; exact (rd_dropB (hA.old hS) (by omega) (i + 2)).sub k)
              refine dl rfl (wn rfl) (O.copyAt (cs := byts ((xs.drop (i + 2)).take k)) rfl rfl hF Tryz.underlying22 sz5 (hF.ev rfl) (hF.ev rfl) hS hrd (by rw [length_byts, hlk, Nat.mul_one]) (by decide) (one_byts _) .h (spl_push hlk (by omega)) (by rw [length_byts]; simp; omega) fun a w hF hS => ⟨fun hD => hS.sel [2] rfl rfl, ?_⟩)
              have hD := hS.sel [2] rfl rfl
              refine d0 ?_
              refine then_n (hK27 _ _ ?_)
              refine wp_seq_k fun K28 hK28 => ?_
              refine wp_region_lit ?_
              refine sv' hF (wn rfl) rfl rfl (R.sliceAll Tryz.underlying83 sz5 (hF.ev rfl)) fun a hF => ?_
              refine so (wn rfl) (O.call rfl rfl hF ent37 (hF.evs rfl) hS (read32_calls ((xs.drop (i + 2)).take k) (32 - k) _ (Rd.own0 hS .h) (by rw [hlk]; omega) hBk) fun v s91 a w hR hF hS => ?_)
              obtain ⟨rfl, rfl⟩ := hR
              refine sv' hF (wn rfl) rfl rfl (R.move (hF.ev rfl)) fun a hF => ?_
              refine sv' hF (wn rfl) rfl rfl (R.extract (hF.ev rfl) rfl) fun a hF => ?_
              refine sv' hF (wn rfl) rfl rfl (R.extract (hF.ev rfl) rfl) fun a hF => ?_
              refine so (wn rfl) (O.alloc rfl rfl hF ze32 rfl hS fun b13 a w hF hS => ?_)
              refine so (wn rfl) (O.storeW sz32 (hF.ev rfl) (hF.ev rfl) (rfl) rfl (by simp [Value.oneCell']) hS .h (rfl) fun w hS => ?_)
              refine sv' hF (wn rfl) rfl rfl (R.assign (hF.ev rfl)) fun a hF => ?_
              refine s0 ?_
              refine then_n (hK28 _ _ ?_)
              refine wp_region_lit ?_
              refine sv' hF (wn rfl) rfl rfl (R.loadW agg32 (hF.ev rfl) hS .h sz32 (rfl)) fun a hF => ?_
              refine so (wn rfl) (O.call rfl rfl hF ent38 (hF.evs rfl) hS (text_calls (numB ((xs.drop (i + 2)).take k)) w hnb) fun v s95 a w hR hF hS => ?_)
              obtain ⟨rfl, rfl⟩ := hR
              refine sv' hF (wn rfl) rfl rfl (R.catS (xs := [32]) (ys := (decS (numB ((xs.drop (i + 2)).take k)))) (hF.ev rfl) (hF.ev rfl) (by simp only [List.length_append, List.length_cons, List.length_nil]; omega)) fun a hF => ?_
              refine so (wn rfl) (O.callK rfl rfl hF ent34 (hF.evs rfl) hS (write_calls b8 (o ++ labN xs l i ++ nameN (cAt xs i)) ([32] ++ (decS (numB ((xs.drop (i + 2)).take k)))) _ w hZ (hS.own1 (.t (.t (.t (.t (.t (.t .h))))))) (by simp only [List.length_append, List.length_cons, List.length_nil]; omega)) (fun _ => (.t (.t (.t (.t (.t (.t .h))))))) fun v s97 a w hR hF hS => ?_)
              obtain ⟨rfl, hZ⟩ := hR
              refine s0 ?_
              refine blk_n ?_
              exact then_n (hK22' _ _ ⟨_, hF.sub ⟨rfl, rfl, rfl, rfl, rfl, rfl, trivial⟩, hS.sel [6, 7, 8] rfl rfl, (by rw [op_2 hc3, show sizeN xs i - 2 = k by omega]; simpa using hZ)⟩)
            ·
              refine wp_seq_k fun K29 hK29 => ?_
              refine wp_region_lit ?_
              refine sv' hF (wn rfl) rfl rfl (R.eql (hF.ev rfl) (hF.ev rfl)) fun a hF => ?_
              refine sv' hF (wn rfl) rfl rfl (R.assign (hF.ev rfl)) fun a hF => ?_
              refine s0 ?_
              refine then_n (hK29 _ _ ?_)
              refine cD hF rfl (fun c7 => ?_) (fun c7 => ?_)
              ·
                have hc3 := oper2 c7; have hsp := sz_two hs2 hc3; have hdo := len_decS (n := cAt xs (i + 1)) (by omega)
                refine wp_region_lit ?_
                refine sv' hF (wn rfl) rfl rfl (R.move (hF.ev rfl)) fun a hF => ?_
                refine sv' hF (wn rfl) rfl rfl (R.move (hF.ev rfl)) fun a hF => ?_
                refine sv' hF (wn rfl) rfl rfl (R.addI (hF.ev rfl) (hF.ev rfl) (by omega)) fun a hF => ?_
                refine sv' hF (wn rfl) rfl rfl (R.indexO Tryz.underlying22 sz5 (hF.ev rfl) (Rd.ne hA (by rw [length_byts]; omega)) (hF.ev rfl) (by omega) (by omega)) fun a hF => ?_
                refine sv' hF (wn rfl) rfl rfl (R.loadO one5 (hF.ev rfl) (hA.old hS) (cb_at (i := i + 1) (by omega) (by omega))) fun a hF => ?_
                refine sv' hF (wn rfl) rfl rfl (R.convI Tryz.underlying5 Tryz.underlying3 (hF.ev rfl) (by omega)) fun a hF => ?_
                refine so (wn rfl) (O.call rfl rfl hF ent35 (hF.evs rfl) hS (itoa_calls (cAt xs (i + 1)) w (ht.old hS) (by omega)) fun v s106 a w hR hF hS => ?_)
                obtain ⟨rfl, rfl⟩ := hR
                refine sv' hF (wn rfl) rfl rfl (R.catS (xs := [32]) (ys := (decS (cAt xs (i + 1)))) (hF.ev rfl) (hF.ev rfl) (by simp only [List.length_append, List.length_cons, List.length_nil]; omega)) fun a hF => ?_
                refine so (wn rfl) (O.callK rfl rfl hF ent34 (hF.evs rfl) hS (write_calls b8 (o ++ labN xs l i ++ nameN (cAt xs i)) ([32] ++ (decS (cAt xs (i + 1)))) _ w hZ (hS.own1 (.t (.t (.t .h)))) (by simp only [List.length_append, List.length_cons, List.length_nil]; omega)) (fun _ => (.t (.t (.t .h)))) fun v s108 a w hR hF hS => ?_)
                obtain ⟨rfl, hZ⟩ := hR
                refine s0 ?_
                refine blk_n ?_
                exact then_n (hK22' _ _ ⟨_, hF.sub ⟨rfl, rfl, rfl, rfl, rfl, rfl, trivial⟩, hS.sel [3, 4, 5] rfl rfl, (by rw [op_4 hc3]; simpa using hZ)⟩)
              ·
                refine wp_seq_k fun K30 hK30 => ?_
                refine wp_region_lit ?_
                refine sv' hF (wn rfl) rfl rfl (R.eql (hF.ev rfl) (hF.ev rfl)) fun a hF => ?_
                refine sv' hF (wn rfl) rfl rfl (R.assign (hF.ev rfl)) fun a hF => ?_
                refine s0 ?_
                refine then_n (hK30 _ _ ?_)
                refine cD hF rfl (fun c8 => ?_) (fun c8 => ?_)
                ·
                  have hc3 := oper3 c8; have hsp := sz_three hs2 hc3
                  have htg : targetN xs i ≤ 65535 := by (have := cAt_lt hB (i + 2); unfold targetN; omega)
                  have hdt := len_decS (n := targetN xs i) (by omega)
                  refine wp_region_lit ?_
                  refine sv' hF (wn rfl) rfl rfl (R.move (hF.ev rfl)) fun a hF => ?_
                  refine sv' hF (wn rfl) rfl rfl (R.move (hF.ev rfl)) fun a hF => ?_
                  refine so (wn rfl) (O.call rfl rfl hF ent32 (hF.evs rfl) hS (target_calls A n c xs i w (hA.old hS) hn hnc hc hB (by have := sz_three hs2 hc3; omega)) fun v s113 a w hR hF hS => ?_)
                  obtain ⟨rfl, rfl⟩ := hR
                  refine so (wn rfl) (O.call rfl rfl hF ent35 (hF.evs rfl) hS (itoa_calls (targetN xs i) w (ht.old hS) (by omega)) fun v s114 a w hR hF hS => ?_)
                  obtain ⟨rfl, rfl⟩ := hR
                  refine sv' hF (wn rfl) rfl rfl (R.catS (xs := [32, 76]) (ys := (decS (targetN xs i))) (hF.ev rfl) (hF.ev rfl) (by simp only [List.length_append, List.length_cons, List.length_nil]; omega)) fun a hF => ?_
                  refine so (wn rfl) (O.callK rfl rfl hF ent34 (hF.evs rfl) hS (write_calls b8 (o ++ labN xs l i ++ nameN (cAt xs i)) ([32, 76] ++ (decS (targetN xs i))) _ w hZ (hS.own1 (.t (.t (.t (.t .h))))) (by simp only [List.length_append, List.length_cons, List.length_nil]; omega)) (fun _ => (.t (.t (.t (.t .h))))) fun v s116 a w hR hF hS => ?_)
                  obtain ⟨rfl, hZ⟩ := hR
                  refine s0 ?_
                  refine blk_n ?_
                  exact then_n (hK22' _ _ ⟨_, hF.sub ⟨rfl, rfl, rfl, rfl, rfl, rfl, trivial⟩, hS.sel [4, 5, 6] rfl rfl, (by rw [op_j hc3]; simpa using hZ)⟩)
                ·
                  refine wp_skip ?_
                  refine blk_n ?_
                  exact then_n (hK22' _ _ ⟨_, hF.sub ⟨rfl, rfl, rfl, rfl, rfl, rfl, trivial⟩, hS.sel [2, 3, 4] rfl rfl, (by rw [op_n (by have := operN_spec (cAt xs i); omega), List.append_nil]; exact hZ)⟩)
          refine wp_seq_k fun K31 hK31 => ?_
          refine wp_region_lit ?_
          refine sv' hF (wn rfl) rfl rfl (R.move (hF.ev rfl)) fun a hF => ?_
          refine sv' hF (wn rfl) rfl rfl (R.indexA Tryz.underlying69 sz4 (hF.ev rfl) (hF.ev rfl) (by omega) (by omega)) fun a hF => ?_
          refine sv' hF (wn rfl) rfl rfl (R.load one4 (hF.ev rfl) hS (.t (.t (.t .h))) (begL_at (j := i) (by omega) (by omega))) fun a hF => ?_
          refine s0 ?_
          refine then_n (hK31 _ _ ?_)
          refine cD hF rfl (fun c5 => ?_) (fun c5 => ?_)
          ·
            refine wp_region_lit ?_
            refine sv' hF (wn rfl) rfl rfl (R.move (hF.ev rfl)) fun a hF => ?_
            refine so (wn rfl) (O.call rfl rfl hF ent35 (hF.evs rfl) hS (itoa_calls (i) w (ht.old hS) (by omega)) fun v s57 a w hR hF hS => ?_)
            obtain ⟨rfl, rfl⟩ := hR
            refine sv' hF (wn rfl) rfl rfl (R.catS (xs := [76]) (ys := decS i) (hF.ev rfl) (hF.ev rfl) (by simp only [List.length_append, List.length_cons, List.length_nil]; omega)) fun a hF => ?_
            refine sv' hF (wn rfl) rfl rfl (R.catS (xs := ([76] ++ decS i)) (ys := [58, 10]) (hF.ev rfl) (hF.ev rfl) (by simp only [List.length_append, List.length_cons, List.length_nil]; omega)) fun a hF => ?_
            refine so (wn rfl) (O.callK rfl rfl hF ent34 (hF.evs rfl) hS (write_calls b8 o (([76] ++ decS i) ++ [58, 10]) _ w hZ (hS.own1 (.t (.t .h))) (by simp only [List.length_append, List.length_cons, List.length_nil]; omega)) (fun _ => (.t (.t .h))) fun v s60 a w hR hF hS => ?_)
            obtain ⟨rfl, hZ⟩ := hR
            refine s0 ?_
            exact then_n (hK19' _ _ ⟨_, hF.sub ⟨rfl, rfl, rfl, rfl, rfl, rfl, trivial⟩, hS.sel [2, 3, 4] rfl rfl, (by rw [lab_T c5]; simpa using hZ)⟩)
          ·
            refine wp_skip ?_
            exact then_n (hK19' _ _ ⟨_, hF.sub ⟨rfl, rfl, rfl, rfl, rfl, rfl, trivial⟩, hS.sel [1, 2, 3] rfl rfl, (by rw [lab_F c5, List.append_nil]; exact hZ)⟩)
        ·
          have hre : r = [] := by (rw [plcs_end (p := i) (by omega)] at hr; simpa using hr.symm)
          subst hre
          rw [List.append_nil] at hlr
          subst hlr
          refine wp_exit (then_x (then_x (blk_hit ?_)))
          refine then_n (hK14 _ _ ?_)
          refine wp_seq_k fun K32 hK32 => ?_
          refine wp_region_lit ?_
          refine so (wn rfl) (string_op rfl rfl hF (hF.evs rfl) hS .h hZ fun a w hF hS => ?_)
          refine sv' hF (wn rfl) rfl rfl (R.assign (hF.ev rfl)) fun a hF => ?_
          refine sv' hF (wn rfl) rfl rfl (R.assign (hF.ev rfl)) fun a hF => ?_
          refine s0 ?_
          refine then_n (hK32 _ _ ?_)
          refine wp_ret (hR _ _ _ _ _ hF (run_results Tryz.results9 (.t hF rfl (.t hF rfl (.nil)))) ?_)
          exact ⟨_, [], rfl, ⟨by rw [text_of hl, ← ho]; rfl, rfl⟩, hS⟩
theorem mtext_bad (A : Option Addr) (n c : Nat) (xs : List Nat) (w0 : World) (hA : Rd w0 A (byts xs)) (hn : xs.length = n) (hnc : n ≤ c) (hc : c ≤ 9223372036854775807) (hB : Byt xs) (hck : chkN xs = false) : Ret Tryz.prog 9 [.slice A n c] w0 [] (fun v s => v = .tuple #[.string ⟨#[]⟩, .int .i64 100] ∧ s = []) := by
  refine fn_start Tryz.func9 rfl Tryz.ntmps9 rfl [(0, .slice A n c)] ⟨rfl, trivial⟩ ?_
  intro Q a hP hF hR hN
  have hS := St.start w0
  refine wp_seq_k fun K1 hK1 => ?_
  refine wp_region_lit ?_
  refine sv' hF (wn rfl) rfl rfl (R.assign (hF.ev rfl)) fun a hF => ?_
  refine sv' hF (wn rfl) rfl rfl (R.assign (hF.ev rfl)) fun a hF => ?_
  refine s0 ?_
  refine then_n (hK1 _ _ ?_)
  refine wp_seq_k fun K2 hK2 => ?_
  refine wp_seq_k fun K3 hK3 => ?_
  refine wp_region_lit ?_
  refine sv' hF (wn rfl) rfl rfl (R.move (hF.ev rfl)) fun a hF => ?_
  refine so (wn rfl) (O.call rfl rfl hF ent14 (hF.evs rfl) hS (check_calls A n c xs _ (hA.old hS) hn hnc hc hB) fun v s16 a w hR hF hS => ?_)
  obtain ⟨rfl, rfl⟩ := hR
  rw [show chkV xs = .int .i64 100 from by rw [chkV, hck]; rfl] at hF
  refine sv' hF (wn rfl) rfl rfl (R.assign (hF.ev rfl)) fun a hF => ?_
  refine s0 ?_
  refine then_n (hK3 _ _ ?_)
  refine wp_seq_k fun K4 hK4 => ?_
  refine wp_region_lit ?_
  refine sv' hF (wn rfl) rfl rfl (R.move (hF.ev rfl)) fun a hF => ?_
  refine sv' hF (wn rfl) rfl rfl (R.as (u := .bool true) (R.neq (p := 100) (q := 0) (hF.ev rfl) (hF.ev rfl)) (rfl)) fun a hF => ?_
  refine s0 ?_
  refine then_n (hK4 _ _ ?_)
  refine cT hF rfl ?_
  refine wp_seq_k fun K5 hK5 => ?_
  refine wp_region_lit ?_
  refine sv' hF (wn rfl) rfl rfl (R.move (hF.ev rfl)) fun a hF => ?_
  refine sv' hF (wn rfl) rfl rfl (R.assign (hF.ev rfl)) fun a hF => ?_
  refine sv' hF (wn rfl) rfl rfl (R.assign (hF.ev rfl)) fun a hF => ?_
  refine s0 ?_
  refine then_n (hK5 _ _ ?_)
  refine wp_ret (then_r (hR _ _ _ _ _ hF (run_results Tryz.results9 (.t hF rfl (.t hF rfl (.nil)))) ?_))
  exact ⟨_, [], rfl, ⟨rfl, rfl⟩, hS.none⟩
end Go.Proofs.YtlapmbkfmbkdoaaGreatDoor
end
