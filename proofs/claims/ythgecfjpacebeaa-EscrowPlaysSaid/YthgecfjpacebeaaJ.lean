/- Plain arithmetic of binary digits, the lowest first. No Go in sight; no condition beyond each lemma's own. -/
import Derived.Test.YthgecfjpacebeaaG
namespace Go.Fw

def val : List Nat → Nat
  | [] => 0
  | b :: r => b + 2 * val r
def bl (n : Nat) : List Nat := if h : n = 0 then [] else (n % 2) :: bl (n / 2)
termination_by n
decreasing_by omega
def Bits (xs : List Nat) : Prop := ∀ b ∈ xs, b ≤ 1

theorem bl_0 : bl 0 = [] := by unfold bl; simp
theorem bl_pos {n : Nat} (h : n ≠ 0) : bl n = (n % 2) :: bl (n / 2) := by rw [bl, dif_neg h]
theorem val_bl (n : Nat) : val (bl n) = n := by
  induction n using Nat.strongRecOn with
  | _ n ih =>
    by_cases h : n = 0
    · subst h; simp [bl_0, val]
    · rw [bl_pos h, val, ih (n / 2) (by omega)]; omega
theorem bits_bl (n : Nat) : Bits (bl n) := by
  induction n using Nat.strongRecOn with
  | _ n ih =>
    by_cases h : n = 0
    · subst h; simp [bl_0, Bits]
    · rw [bl_pos h]
      intro b hb
      rcases List.mem_cons.1 hb with rfl | hb
      · omega
      · exact ih (n / 2) (by omega) b hb
theorem val_append (xs ys : List Nat) : val (xs ++ ys) = val xs + 2 ^ xs.length * val ys := by
  induction xs with
  | nil => simp [val]
  | cons b r ih => simp only [List.cons_append, val, ih, List.length_cons, Nat.pow_succ]; rw [Nat.mul_add]; rw [← Nat.mul_assoc, Nat.mul_comm 2 (2 ^ r.length)]; omega
theorem val_lt {xs : List Nat} (h : Bits xs) : val xs < 2 ^ xs.length := by
  induction xs with
  | nil => simp [val]
  | cons b r ih =>
    have h1 := h b (by simp)
    have h2 := ih fun c hc => h c (by simp [hc])
    simp only [val, List.length_cons, Nat.pow_succ]; omega
theorem val_ge_last {xs : List Nat} (hne : xs ≠ []) (hl : xs.getLast hne ≠ 0) : 2 ^ (xs.length - 1) ≤ val xs := by
  induction xs with
  | nil => exact absurd rfl hne
  | cons b r ih =>
    by_cases hr : r = []
    · subst hr; simp [val] at *; omega
    · have := ih hr (by rwa [List.getLast_cons hr] at hl)
      simp only [val, List.length_cons]
      have hlen : 0 < r.length := List.length_pos_iff.2 hr
      have : 2 ^ (r.length + 1 - 1) = 2 * 2 ^ (r.length - 1) := by
        rw [show r.length + 1 - 1 = (r.length - 1) + 1 from by omega, Nat.pow_succ]; omega
      omega
/-- digits without a nought at the end are those of their number -/
theorem bl_val {xs : List Nat} (h : Bits xs) (hl : ∀ hne : xs ≠ [], xs.getLast hne ≠ 0) : bl (val xs) = xs := by
  induction xs with
  | nil => simp [val, bl_0]
  | cons b r ih =>
    have h1 := h b (by simp)
    have h2 : Bits r := fun c hc => h c (by simp [hc])
    have h3 : ∀ hne : r ≠ [], r.getLast hne ≠ 0 := fun hne => by have := hl (by simp); rwa [List.getLast_cons hne] at this
    have hnz : val (b :: r) ≠ 0 := by
      have := val_ge_last (xs := b :: r) (by simp) (hl (by simp))
      have hp : 0 < 2 ^ ((b :: r).length - 1) := Nat.pow_pos (by decide)
      omega
    rw [bl_pos hnz]
    simp only [val]
    rw [show (b + 2 * val r) % 2 = b from by omega, show (b + 2 * val r) / 2 = val r from by omega, ih h2 h3]
theorem last_bl (n : Nat) (hne : bl n ≠ []) : (bl n).getLast hne ≠ 0 := by
  induction n using Nat.strongRecOn with
  | _ n ih =>
    by_cases h : n = 0
    · subst h; exact absurd bl_0 hne
    · have e := bl_pos h
      by_cases h2 : n / 2 = 0
      · have : bl n = [n % 2] := by rw [e, h2, bl_0]
        simp only [this, List.getLast_singleton]; omega
      · have hr : bl (n / 2) ≠ [] := by rw [bl_pos h2]; simp
        have : (bl n).getLast hne = (bl (n / 2)).getLast hr := by
          have : ∀ (xs : List Nat) (hx : xs ≠ []), xs = n % 2 :: bl (n / 2) → xs.getLast hx = (bl (n / 2)).getLast hr := by
            intro xs hx hxs; subst hxs; rw [List.getLast_cons hr]
          exact this _ hne e
        rw [this]; exact ih _ (by omega) hr
theorem length_bl_lt (n k : Nat) : (bl n).length ≤ k ↔ n < 2 ^ k := by
  constructor
  · intro h
    have h1 := val_lt (bits_bl n)
    rw [val_bl] at h1
    exact Nat.lt_of_lt_of_le h1 (Nat.pow_le_pow_right (by decide) h)
  · intro h
    by_cases hne : bl n = []
    · simp [hne]
    · have h1 := val_ge_last hne (last_bl n hne)
      rw [val_bl] at h1
      have h2 : 2 ^ ((bl n).length - 1) < 2 ^ k := Nat.lt_of_le_of_lt h1 h
      have := (Nat.pow_lt_pow_iff_right (a := 2) (by decide)).1 h2
      have := List.length_pos_iff.2 hne
      omega
theorem take_snoc {α : Type} (xs : List α) (k : Nat) (h : k < xs.length) : xs.take (k + 1) = xs.take k ++ [xs[k]] := List.take_succ_eq_append_getElem h
theorem val_take_succ (xs : List Nat) (k : Nat) (h : k < xs.length) : val (xs.take (k + 1)) = val (xs.take k) + 2 ^ k * xs.getD k 0 := by
  rw [take_snoc xs k h, val_append]
  simp [val, List.length_take, Nat.min_eq_left (Nat.le_of_lt h), h]
theorem val_drop (xs : List Nat) (k : Nat) : val (xs.drop k) = xs.getD k 0 + 2 * val (xs.drop (k + 1)) := by
  by_cases h : k < xs.length
  · rw [List.drop_eq_getElem_cons h, val]; simp [h]
  · simp [List.drop_eq_nil_of_le (Nat.le_of_not_lt h), List.drop_eq_nil_of_le (Nat.le_succ_of_le (Nat.le_of_not_lt h)), val, List.getElem?_eq_none (Nat.le_of_not_lt h)]
/-- one nought less at the end -/
theorem val_take_pred (xs : List Nat) (n : Nat) (h0 : 0 < n) (h : n ≤ xs.length) (hz : xs.getD (n - 1) 0 = 0) : val (xs.take (n - 1)) = val (xs.take n) := by
  have := val_take_succ xs (n - 1) (by omega)
  rw [show n - 1 + 1 = n from by omega, hz] at this
  omega
theorem take_is_bl {xs : List Nat} (hb : Bits xs) (n : Nat) (h : n ≤ xs.length) (hv : val (xs.take n) = val xs) (hz : n = 0 ∨ xs.getD (n - 1) 0 ≠ 0) : bl (val xs) = xs.take n := by
  rw [← hv]
  refine bl_val (fun b hb' => hb b (List.mem_of_mem_take hb')) fun hne => ?_
  rcases hz with rfl | hz
  · simp at hne
  · have hn : n ≠ 0 := fun e => by subst e; simp at hne
    rw [List.getLast_eq_getElem]
    simp only [List.length_take, Nat.min_eq_left h, List.getElem_take]
    rw [List.getD_eq_getElem?_getD, List.getElem?_eq_getElem (by omega)] at hz
    simpa using hz

/-- the bit at a place -/
def bit (x i : Nat) : Nat := x / 2 ^ i % 2
theorem bit_le (x i : Nat) : bit x i ≤ 1 := by unfold bit; omega
theorem getD_bl (n i : Nat) : (bl n).getD i 0 = bit n i := by
  induction n using Nat.strongRecOn generalizing i with
  | _ n ih =>
    by_cases h : n = 0
    · subst h; simp [bl_0, bit]
    · rw [bl_pos h]
      cases i with
      | zero => simp [bit]
      | succ i =>
        rw [List.getD_cons_succ, ih (n / 2) (by omega)]
        unfold bit
        rw [Nat.pow_succ, Nat.mul_comm, ← Nat.div_div_eq_div_mul]
theorem val_bits (x : Nat) : ∀ k, val ((List.range k).map (bit x)) = x % 2 ^ k
  | 0 => by simp [val, Nat.mod_one]
  | k + 1 => by
    rw [List.range_succ, List.map_append, val_append, val_bits x k]
    simp only [List.length_map, List.length_range, List.map_cons, List.map_nil, val, bit]
    rw [Nat.pow_succ, Nat.mod_mul, Nat.mul_zero, Nat.add_zero]

/-! lists of small numbers as ints in memory -/
def ints (xs : List Nat) : List Value := xs.map fun (n : Nat) => .int .i64 (n : Int)
theorem length_ints (xs : List Nat) : (ints xs).length = xs.length := by simp [ints]
theorem ints_at (xs : List Nat) (i : Nat) (h : i < xs.length) : (ints xs)[((i : Nat) : Int).toNat * 1]? = some (.int .i64 ((xs.getD i 0 : Nat) : Int)) := by
  simp [ints, h]
theorem ints_pred (xs : List Nat) (i : Nat) (h0 : 0 < i) (h : i ≤ xs.length) : (ints xs)[((i : Nat) - 1 : Int).toNat * 1]? = some (.int .i64 ((xs.getD (i - 1) 0 : Nat) : Int)) := by
  have : ((i : Nat) - 1 : Int).toNat = i - 1 := by omega
  rw [this]
  have h2 : i - 1 < xs.length := by omega
  simp [ints, h2]
theorem ints_take (xs : List Nat) (k : Nat) : (ints xs).take k = ints (xs.take k) := by simp [ints, List.map_take]
theorem ints_one (xs : List Nat) : ∀ u ∈ ints xs, u.oneCell' = true := by
  intro u hu
  simp only [ints, List.mem_map] at hu
  obtain ⟨n, _, rfl⟩ := hu
  rfl
/-- a list of ints comes back, its own -/
def RetI (xs : List Nat) (v : Value) (s : Seg) : Prop := ∃ A c, v = .slice A xs.length c ∧ OwnS s A xs.length c (ints xs) 3 1

/-! a list of ints that is filled from its head on -/
def mki (N : Nat) (f : Nat → Nat) (k : Nat) : List Value := (List.range N).map fun j => .int .i64 (if j < k then ((f j : Nat) : Int) else 0)
theorem length_mki (N : Nat) (f : Nat → Nat) (k : Nat) : (mki N f k).length = N := by simp [mki]
theorem mki_at (N : Nat) (f : Nat → Nat) (k : Nat) (v : Value) (h : v = .int .i64 ((f k : Nat) : Int)) : (mki N f k).set (0 + ((k : Nat) : Int).toNat * 1) v = mki N f (k + 1) := by
  subst h
  apply List.ext_getElem?
  intro j
  rw [List.getElem?_set]
  simp only [mki, List.length_map, List.length_range, Nat.zero_add, Int.toNat_natCast, Nat.mul_one, List.getElem?_map]
  by_cases hj : j < N
  · by_cases hk : k = j
    · subst hk; simp [hj]
    · simp [hk, hj]
      by_cases h1 : j < k
      · simp [h1, Nat.lt_succ_of_lt h1]
      · have : ¬ j < k + 1 := by omega
        simp [h1, this]
  · by_cases hk : k = j
    · subst hk; simp [hj]
    · simp [hk, hj]
theorem mki_0 (N : Nat) (f : Nat → Nat) : zeros [.int .i64 0] N = mki N f 0 := by
  rw [zeros_1]
  apply List.ext_getElem?
  intro j
  simp only [mki, List.getElem?_map, List.getElem?_replicate]
  by_cases hj : j < N <;> simp [hj]
theorem mki_all (N : Nat) (f : Nat → Nat) : mki N f N = ints ((List.range N).map f) := by
  simp only [mki, ints, List.map_map]
  apply List.map_congr_left
  intro j hj
  simp [List.mem_range.1 hj]
theorem bits_range (x N : Nat) : Bits ((List.range N).map (bit x)) := by
  intro b hb
  obtain ⟨j, _, rfl⟩ := List.mem_map.1 hb
  exact bit_le x j

/-! a bit out of its part -/
theorem bit_dg (x i : Nat) : dg x (i / 64) / 2 ^ (i % 64) % 2 = bit x i := by
  unfold dg bit
  have e : (18446744073709551616 : Nat) = 2 ^ 64 := rfl
  rw [e, ← Nat.pow_mul]
  have h1 : ∀ a m : Nat, m < 64 → a % 2 ^ 64 / 2 ^ m % 2 = a / 2 ^ m % 2 := by
    intro a m hm
    have : (2 : Nat) ^ 64 = 2 ^ m * 2 ^ (64 - m) := by rw [← Nat.pow_add]; congr 1; omega
    rw [this, Nat.mod_mul_right_div_self]
    have h2 : (2 : Nat) ^ (64 - m) = 2 * 2 ^ (63 - m) := by rw [show 64 - m = (63 - m) + 1 from by omega, Nat.pow_succ]; omega
    rw [h2, Nat.mod_mul_right_mod]
  rw [h1 _ _ (Nat.mod_lt _ (by decide)), Nat.div_div_eq_div_mul, ← Nat.pow_add]
  have := Nat.div_add_mod i 64
  rw [this]
theorem and1_wrap (z : Nat) : bits .and .i64 (IntKind.i64.wrap (z : Int)) 1 = ((z % 2 : Nat) : Int) := by
  have e1 : (BitVec.ofInt 64 (IntKind.i64.wrap (z : Int))).toNat = z % 18446744073709551616 := by
    rw [BitVec.toNat_ofInt, IntKind.wrap_i64]
    simp
    omega
  have e2 : (BitVec.ofInt 64 1).toNat = 1 := rfl
  show IntKind.i64.wrap ((BitVec.ofInt 64 (IntKind.i64.wrap (z : Int)) &&& BitVec.ofInt 64 1).toNat : Int) = _
  rw [BitVec.toNat_and, e1, e2, nat_mask1, IntWalk.i64_in]
  · congr 1; omega
  · omega
theorem wc_div (x i : Nat) (h : i < 256) : (wc x)[0 + ((i : Nat) / 64 : Int).toNat * 1]? = some (.int .u64 ((dg x (i / 64) : Nat) : Int)) := by
  have h1 : i / 64 < 4 := by omega
  have e : ((i : Nat) / 64 : Int).toNat = ((i / 64 : Nat) : Int).toNat := by omega
  rw [e]; exact wc_at x (i / 64) h1
theorem own_bits (x b : Nat) (hx : x < 115792089237316195423570985008687907853269984665640564039457584007913129639936) :
    OwnS [(b, Cel (ints ((List.range 256).map (bit x))) 3)] (some ⟨b, 0, none⟩) (bl x).length 256 (ints (bl x)) 3 1 := by
  have h0 : (bl x).length ≤ 256 := (length_bl_lt x 256).2 hx
  have h1 : OwnS [(b, Cel (ints ((List.range 256).map (bit x))) 3)] (some ⟨b, 0, none⟩) 256 256 (ints ((List.range 256).map (bit x))) 3 1 := by
    have := OwnS.mk (g := b) (rest := []) (cells := ints ((List.range 256).map (bit x))) (n := 256) (c := 256) (E := 3) (sz := 1) (by simp [ints]) (by decide) (by simp [ints]) (by decide)
    simpa using this
  have h2 := h1.take h0
  have h3 : ((List.range 256).map (bit x)).take (bl x).length = bl x := by
    apply List.ext_getElem?
    intro j
    rw [List.getElem?_take]
    by_cases hj : j < (bl x).length
    · rw [if_pos hj]
      have hj2 : j < 256 := by omega
      have := getD_bl x j
      rw [List.getD_eq_getElem?_getD, List.getElem?_eq_getElem hj] at this
      simp only [Option.getD_some] at this
      rw [List.getElem?_eq_getElem hj, this]
      simp [hj2]
    · rw [if_neg hj, List.getElem?_eq_none (by omega)]
  rw [Nat.mul_one, ints_take, h3] at h2
  exact h2

/-! parts and bits -/
theorem dg_eq (x j : Nat) : dg x j = x / 2 ^ (64 * j) % 2 ^ 64 := by
  unfold dg
  rw [show (18446744073709551616 : Nat) = 2 ^ 64 from rfl, ← Nat.pow_mul]
theorem mod_pow_succ (V i : Nat) : V % 2 ^ (i + 1) = V % 2 ^ i + 2 ^ i * bit V i := by
  unfold bit; rw [Nat.pow_succ, Nat.mod_mul]
theorem dg_or (V i : Nat) : dg (V % 2 ^ i) (i / 64) ||| (bit V i * 2 ^ (i % 64) % 18446744073709551616) = dg (V % 2 ^ (i + 1)) (i / 64) := by
  have hb := bit_le V i
  have hu : V % 2 ^ i < 2 ^ i := Nat.mod_lt _ (Nat.pow_pos (by decide))
  have hi := Nat.div_add_mod i 64
  have hr : i % 64 < 64 := Nat.mod_lt _ (by decide)
  rw [mod_pow_succ]
  generalize V % 2 ^ i = u at *
  generalize bit V i = b at *
  have hpi : (2 : Nat) ^ i = 2 ^ (64 * (i / 64)) * 2 ^ (i % 64) := by rw [← Nat.pow_add, hi]
  generalize i / 64 = j at *
  generalize i % 64 = r at *
  have hpr : 0 < (2 : Nat) ^ r := Nat.pow_pos (by decide)
  have hpj : 0 < (2 : Nat) ^ (64 * j) := Nat.pow_pos (by decide)
  have h64 : (2 : Nat) ^ 64 = 2 ^ r * 2 ^ (64 - r) := by rw [← Nat.pow_add]; congr 1; omega
  have hle : (2 : Nat) ^ (r + 1) ≤ 2 ^ 64 := Nat.pow_le_pow_right (by decide) (by omega)
  have hsucc : (2 : Nat) ^ (r + 1) = 2 * 2 ^ r := by rw [Nat.pow_succ]; omega
  have hq : u / 2 ^ (64 * j) < 2 ^ r := by rw [Nat.div_lt_iff_lt_mul hpj]; rw [hpi] at hu; rw [Nat.mul_comm]; exact hu
  have e1 : dg u j = u / 2 ^ (64 * j) := by rw [dg_eq, Nat.mod_eq_of_lt]; omega
  have hbr : b * 2 ^ r ≤ 2 ^ r := by
    have : b = 0 ∨ b = 1 := by omega
    rcases this with rfl | rfl <;> omega
  have e2 : b * 2 ^ r % 18446744073709551616 = b * 2 ^ r := by
    rw [Nat.mod_eq_of_lt]
    have : (18446744073709551616 : Nat) = 2 ^ 64 := rfl
    omega
  have e3 : dg (u + 2 ^ i * b) j = u / 2 ^ (64 * j) + b * 2 ^ r := by
    rw [dg_eq, hpi, Nat.mul_assoc, Nat.add_mul_div_left _ _ hpj, Nat.mod_eq_of_lt, Nat.mul_comm b]
    rw [Nat.mul_comm (2 ^ r) b]; omega
  rw [e1, e2, e3, Nat.or_comm, nat_join r _ _ (by rw [Nat.mul_mod_left]) hq]
  omega
theorem dg_other (V i j : Nat) (h : j ≠ i / 64) : dg (V % 2 ^ (i + 1)) j = dg (V % 2 ^ i) j := by
  have hb := bit_le V i
  have hu : V % 2 ^ i < 2 ^ i := Nat.mod_lt _ (Nat.pow_pos (by decide))
  rw [mod_pow_succ]
  generalize V % 2 ^ i = u at *
  generalize bit V i = b at *
  rw [dg_eq, dg_eq]
  rcases Nat.lt_or_ge j (i / 64) with hlt | hge
  · have hpi : (2 : Nat) ^ i = 2 ^ (64 * j) * (2 ^ 64 * 2 ^ (i - 64 * j - 64)) := by
      rw [← Nat.pow_add, ← Nat.pow_add]; congr 1; omega
    rw [hpi, Nat.mul_assoc, Nat.add_mul_div_left _ _ (Nat.pow_pos (by decide)), Nat.mul_assoc, Nat.add_mul_mod_self_left]
  · have hle : (2 : Nat) ^ (i + 1) ≤ 2 ^ (64 * j) := Nat.pow_le_pow_right (by decide) (by omega)
    have hs : (2 : Nat) ^ (i + 1) = 2 * 2 ^ i := by rw [Nat.pow_succ]; omega
    have hbr : 2 ^ i * b ≤ 2 ^ i := by
      have : b = 0 ∨ b = 1 := by omega
      rcases this with rfl | rfl <;> omega
    rw [Nat.div_eq_of_lt (by omega), Nat.div_eq_of_lt (by omega)]
theorem wc_or (V i : Nat) (h : i < 256) (v : Value) (hv : v = .int .u64 ((dg (V % 2 ^ i) (i / 64) ||| (bit V i * 2 ^ (i % 64) % 18446744073709551616) : Nat) : Int)) :
    (wc (V % 2 ^ i)).set (0 + ((i : Nat) / 64 : Int).toNat * 1) v = wc (V % 2 ^ (i + 1)) := by
  subst hv
  rw [dg_or]
  have e : ((i : Nat) / 64 : Int).toNat = i / 64 := by omega
  rw [e]
  have h4 : i / 64 = 0 ∨ i / 64 = 1 ∨ i / 64 = 2 ∨ i / 64 = 3 := by omega
  have o := fun j hj => dg_other V i j hj
  rcases h4 with e4 | e4 | e4 | e4 <;> simp only [e4, wc, Nat.zero_add, Nat.mul_one, List.set_cons_zero, List.set_cons_succ]
  · rw [o 1 (by omega), o 2 (by omega), o 3 (by omega)]
  · rw [o 0 (by omega), o 2 (by omega), o 3 (by omega)]
  · rw [o 0 (by omega), o 1 (by omega), o 3 (by omega)]
  · rw [o 0 (by omega), o 1 (by omega), o 2 (by omega)]
theorem bl_at (n i : Nat) (h : i < (bl n).length) : (ints (bl n))[((i : Nat) : Int).toNat * 1]? = some (.int .i64 ((bit n i : Nat) : Int)) := by
  rw [← getD_bl]; exact ints_at _ _ h
theorem bl_pred (n i : Nat) (h0 : 0 < i) (h : i ≤ (bl n).length) : (ints (bl n))[((i : Nat) - 1 : Int).toNat * 1]? = some (.int .i64 ((bit n (i - 1) : Nat) : Int)) := by
  rw [← getD_bl]; exact ints_pred _ _ h0 h
/-- digits without their noughts at the end are the head of what they were -/
theorem bl_take {xs : List Nat} (hb : Bits xs) : bl (val xs) = xs.take (bl (val xs)).length := by
  have key : ∀ n, n ≤ xs.length → val (xs.take n) = val xs → ∃ k, k ≤ xs.length ∧ val (xs.take k) = val xs ∧ (k = 0 ∨ xs.getD (k - 1) 0 ≠ 0) := by
    intro n
    induction n with
    | zero => intro h hv; exact ⟨0, h, hv, .inl rfl⟩
    | succ n ih =>
      intro h hv
      by_cases hz : xs.getD n 0 = 0
      · exact ih (by omega) (by rw [← hv]; exact val_take_pred xs (n + 1) (by omega) h hz)
      · exact ⟨n + 1, h, hv, .inr hz⟩
  obtain ⟨k, hk, hv, hz⟩ := key xs.length (Nat.le_refl _) (by rw [List.take_length])
  have e := take_is_bl hb k hk hv hz
  have hl : (bl (val xs)).length = k := by rw [e, List.length_take]; omega
  rw [hl, e]
theorem rd_cut {w : World} {A : Option Addr} {xs : List Nat} (h : Rd w A (ints xs)) (hb : Bits xs) : Rd w A (ints (bl (val xs))) := by
  rw [bl_take hb, ← ints_take]; exact h.sub _
theorem length_bl_le (xs : List Nat) (hb : Bits xs) : (bl (val xs)).length ≤ xs.length := by
  have := congrArg List.length (bl_take hb)
  rw [List.length_take] at this; omega
theorem mod_all (V : Nat) : V % 2 ^ (bl V).length = V := Nat.mod_eq_of_lt ((length_bl_lt V _).1 (Nat.le_refl _))
/-! comparing -/
def cmpN (x y : Nat) : Int := if x < y then -1 else if y < x then 1 else 0
theorem lt_of_length {x y : Nat} (h : (bl x).length < (bl y).length) : x < y := by
  have h1 := (length_bl_lt x (bl x).length).1 (Nat.le_refl _)
  rcases Nat.lt_or_ge y (2 ^ (bl x).length) with h2 | h2
  · have := (length_bl_lt y _).2 h2; omega
  · omega
theorem div_bit (x k : Nat) (h : 0 < k) : x / 2 ^ (k - 1) = 2 * (x / 2 ^ k) + bit x (k - 1) := by
  unfold bit
  have : x / 2 ^ k = x / 2 ^ (k - 1) / 2 := by rw [Nat.div_div_eq_div_mul, ← Nat.pow_succ]; congr 2; omega
  rw [this]; omega
theorem lt_of_bit {x y k : Nat} (h0 : 0 < k) (h : x / 2 ^ k = y / 2 ^ k) (hb : bit x (k - 1) < bit y (k - 1)) : x < y := by
  have h1 := div_bit x k h0
  have h2 := div_bit y k h0
  have h3 : x / 2 ^ (k - 1) < y / 2 ^ (k - 1) := by omega
  rcases Nat.lt_or_ge x y with h | h
  · exact h
  · exact absurd (Nat.div_le_div_right (c := 2 ^ (k - 1)) h) (by omega)
theorem same_div {x y k : Nat} (h0 : 0 < k) (h : x / 2 ^ k = y / 2 ^ k) (hb : bit x (k - 1) = bit y (k - 1)) : x / 2 ^ (k - 1) = y / 2 ^ (k - 1) := by
  rw [div_bit x k h0, div_bit y k h0, h, hb]
theorem same_top {x y : Nat} (h : (bl x).length = (bl y).length) : x / 2 ^ (bl x).length = y / 2 ^ (bl x).length := by
  rw [Nat.div_eq_of_lt ((length_bl_lt x _).1 (Nat.le_refl _)), Nat.div_eq_of_lt ((length_bl_lt y _).1 (by omega))]

/-! adding and taking away digit by digit -/
theorem val_snoc (xs : List Nat) (b : Nat) : val (xs ++ [b]) = val xs + 2 ^ xs.length * b := by rw [val_append]; simp [val]
/-- one round of the sum -/
theorem plus_step (out xs ys : List Nat) (k c T : Nat) (hl : out.length = k) (h : val out + 2 ^ k * (c + val (xs.drop k) + val (ys.drop k)) = T) :
    val (out ++ [(c + xs.getD k 0 + ys.getD k 0) % 2]) + 2 ^ (k + 1) * ((c + xs.getD k 0 + ys.getD k 0) / 2 + val (xs.drop (k + 1)) + val (ys.drop (k + 1))) = T := by
  rw [val_snoc, hl, ← h, val_drop xs k, val_drop ys k, Nat.pow_succ]
  generalize xs.getD k 0 = p
  generalize ys.getD k 0 = q
  generalize val (xs.drop (k + 1)) = u
  generalize val (ys.drop (k + 1)) = v
  have e : c + (p + 2 * u) + (q + 2 * v) = (c + p + q) % 2 + 2 * ((c + p + q) / 2 + u + v) := by omega
  generalize (c + p + q) % 2 = r at *
  generalize (c + p + q) / 2 + u + v = z at *
  rw [e, Nat.mul_add, Nat.mul_assoc]
  omega
theorem bits_snoc {xs : List Nat} (h : Bits xs) {b : Nat} (hb : b ≤ 1) : Bits (xs ++ [b]) := by
  intro c hc
  rcases List.mem_append.1 hc with hc | hc
  · exact h c hc
  · simp only [List.mem_singleton] at hc; omega
theorem bits_getD {xs : List Nat} (h : Bits xs) (k : Nat) : xs.getD k 0 ≤ 1 := by
  by_cases hk : k < xs.length
  · rw [List.getD_eq_getElem?_getD, List.getElem?_eq_getElem hk]; exact h _ (List.getElem_mem hk)
  · rw [List.getD_eq_getElem?_getD, List.getElem?_eq_none (by omega)]; simp
theorem getD_past (xs : List Nat) (k : Nat) (h : xs.length ≤ k) : xs.getD k 0 = 0 := by
  rw [List.getD_eq_getElem?_getD, List.getElem?_eq_none h]; rfl
theorem val_past (xs : List Nat) (k : Nat) (h : xs.length ≤ k) : val (xs.drop k) = 0 := by rw [List.drop_eq_nil_of_le h]; rfl
theorem ints_snoc (xs : List Nat) (b : Nat) : ints xs ++ [.int .i64 (b : Int)] = ints (xs ++ [b]) := by simp [ints]
theorem OwnS.cap {s : Seg} {A : Option Addr} {n c : Nat} {cells : List Value} {E : TypeId} {sz : Nat} (h : OwnS s A n c cells E sz) : c ≤ 9223372036854775807 := by
  rcases h.2.2 with ⟨_, h, _⟩ | ⟨_, _, _, _, _, h⟩
  · omega
  · exact h
theorem own_cut {s : Seg} {A : Option Addr} {n c : Nat} {xs : List Nat} (h : OwnS s A n c (ints xs) 3 1) (hl : xs.length = n) (hb : Bits xs) : OwnS s A (bl (val xs)).length c (ints (bl (val xs))) 3 1 := by
  have := h.take (k := (bl (val xs)).length) (by rw [← hl]; exact length_bl_le xs hb)
  rw [Nat.mul_one, ints_take, ← bl_take hb] at this
  exact this
theorem RetI.rd {xs : List Nat} {v : Value} {s : Seg} (h : RetI xs v s) : ∃ A c, v = .slice A xs.length c ∧ xs.length ≤ c ∧ c ≤ 9223372036854775807 ∧ OwnS s A xs.length c (ints xs) 3 1 := by
  obtain ⟨A, c, rfl, h⟩ := h
  exact ⟨A, c, rfl, h.2.1, h.cap, h⟩

/-! one round of the difference -/
theorem less_step (out xs ys : List Nat) (k q : Nat) (p : Nat) (hl : out.length = k) (hk : k < xs.length) (q' : Nat) (hp : (p : Int) = (xs.getD k 0 : Int) - q - (ys.getD k 0 : Int) + 2 * q')
    (h : val (xs.take k) + 2 ^ k * q = val out + val (ys.take k)) : val (xs.take (k + 1)) + 2 ^ (k + 1) * q' = val (out ++ [p]) + val (ys.take (k + 1)) := by
  rw [val_snoc, hl, val_take_succ xs k hk]
  have hy : val (ys.take (k + 1)) = val (ys.take k) + 2 ^ k * ys.getD k 0 := by
    by_cases h2 : k < ys.length
    · exact val_take_succ ys k h2
    · rw [List.take_of_length_le (by omega), List.take_of_length_le (by omega), getD_past ys k (by omega)]; omega
  rw [hy, Nat.pow_succ]
  generalize xs.getD k 0 = x at *
  generalize ys.getD k 0 = y at *
  have e : p + y + q = x + 2 * q' := by omega
  have e2 : 2 ^ k * (p + y + q) = 2 ^ k * (x + 2 * q') := by rw [e]
  simp only [Nat.mul_add, ← Nat.mul_assoc] at e2
  omega
theorem zeros_ints (n : Nat) : zeros [.int .i64 0] n = ints (List.replicate n 0) := by rw [zeros_1]; simp [ints]
theorem set_fill (o : List Nat) (k n p : Nat) (v : Value) (hv : v = .int .i64 (p : Int)) (hl : o.length = k) (hk : k < n) :
    (ints (o ++ List.replicate (n - k) 0)).set (0 + ((k : Nat) : Int).toNat * 1) v = ints ((o ++ [p]) ++ List.replicate (n - (k + 1)) 0) := by
  subst hv; subst hl
  have e : n - o.length = (n - (o.length + 1)) + 1 := by omega
  rw [e, List.replicate_succ]
  simp [ints]
theorem own_full (b : Nat) (o : List Nat) (h : o.length ≤ 9223372036854775807) : OwnS [(b, Cel (ints o) 3)] (some ⟨b, 0, none⟩) o.length o.length (ints o) 3 1 := by
  have := OwnS.mk (g := b) (rest := []) (cells := ints o) (n := o.length) (c := o.length) (E := 3) (sz := 1) (by simp [ints]) (Nat.le_refl _) (by simp [ints]) h
  simpa using this
theorem less_end (o : List Nat) (x y q : Nat) (hl : o.length = (bl x).length) (hb : Bits o) (hq : q ≤ 1) (hyx : y ≤ x)
    (h : val ((bl x).take (bl x).length) + 2 ^ (bl x).length * q = val o + val ((bl y).take (bl x).length)) : val o = x - y := by
  have h1 : (bl y).length ≤ (bl x).length := by
    rw [length_bl_lt]; exact Nat.lt_of_le_of_lt hyx ((length_bl_lt x _).1 (Nat.le_refl _))
  rw [List.take_length, List.take_of_length_le h1, val_bl, val_bl] at h
  have h2 := val_lt hb
  rw [hl] at h2
  have : q = 0 ∨ q = 1 := by omega
  rcases this with rfl | rfl <;> omega
end Go.Fw
