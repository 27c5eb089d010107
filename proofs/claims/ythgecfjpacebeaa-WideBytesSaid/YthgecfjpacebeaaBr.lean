/- Bytes as values, strings, decimal digits; the long division of bits.Div64. No condition beyond each lemma's own. -/
import Derived.Test.YthgecfjpacebeaaBq
import Derived.Laws.BytesArg
import Derived.Laws.Strings
namespace Go.Fw
open Go.RowKit
/-! ### bytes -/
def byts (xs : List Nat) : List Value := xs.map fun (n : Nat) => .int .u8 (n : Int)
def bstr (xs : List Nat) : ByteArray := ⟨(xs.map fun n => UInt8.ofNat n).toArray⟩
def bys (s : ByteArray) : List Nat := s.data.toList.map (·.toNat)
def Byt (xs : List Nat) : Prop := ∀ b ∈ xs, b < 256
theorem length_byts (xs : List Nat) : (byts xs).length = xs.length := by simp [byts]
theorem length_bys (s : ByteArray) : (bys s).length = s.size := by unfold bys; rw [List.length_map, Array.length_toList]; rfl
theorem size_bstr (xs : List Nat) : (bstr xs).size = xs.length := by simp [bstr, ByteArray.size]
theorem byt_bys (s : ByteArray) : Byt (bys s) := by
  intro b hb
  simp only [bys, List.mem_map] at hb
  obtain ⟨u, _, rfl⟩ := hb
  exact u.toNat_lt
theorem bstr_bys (s : ByteArray) : bstr (bys s) = s := by
  unfold bstr bys
  simp only [List.map_map]
  have : ((fun n => UInt8.ofNat n) ∘ fun (x : UInt8) => x.toNat) = id := by funext x; simp
  rw [this]
  simp
theorem bys_bstr {xs : List Nat} (h : Byt xs) : bys (bstr xs) = xs := by
  unfold bstr bys
  simp only [List.map_map]
  conv => rhs; rw [← List.map_id xs]
  apply List.map_congr_left
  intro a ha
  have := h a ha
  simp [Nat.mod_eq_of_lt this]
theorem bstr_inj {xs ys : List Nat} (hx : Byt xs) (hy : Byt ys) (h : bstr xs = bstr ys) : xs = ys := by
  rw [← bys_bstr hx, h, bys_bstr hy]
theorem bys_inj {s t : ByteArray} (h : bys s = bys t) : s = t := by rw [← bstr_bys s, h, bstr_bys]
theorem byts_one (xs : List Nat) : ∀ u ∈ byts xs, u.oneCell' = true := by
  intro u hu
  simp only [byts, List.mem_map] at hu
  obtain ⟨n, _, rfl⟩ := hu
  rfl
theorem byts_snoc (xs : List Nat) (b : Nat) : byts xs ++ [.int .u8 (b : Int)] = byts (xs ++ [b]) := by simp [byts]
theorem byts_append (xs ys : List Nat) : byts xs ++ byts ys = byts (xs ++ ys) := by simp [byts]
theorem byts_take (xs : List Nat) (k : Nat) : (byts xs).take k = byts (xs.take k) := by simp [byts, List.map_take]
theorem byts_get (xs : List Nat) (i : Nat) (h : i < xs.length) : (byts xs)[i]? = some (.int .u8 ((xs.getD i 0 : Nat) : Int)) := by
  simp [byts, h]
theorem bys_at (s : ByteArray) (i : Nat) (h : i < s.size) : (bys s).getD i 0 = (s[i]'h).toNat := by
  have h2 : i < s.data.toList.length := h
  unfold bys
  rw [List.getD_eq_getElem?_getD, List.getElem?_map, List.getElem?_eq_getElem h2]
  rfl

section
variable {P : Program} {w : World} {n c : Nat} {A : Option Addr} {xs : List Nat}
variable {ρ : Operand → Value} {dst : Option Tmp} {ty : TypeId} {pos : String} {af : Array Edge} {g : Option (Nat × Bool)} {x y : Operand} {T U E : TypeId}
theorem R.convStr (hT : P.underlying T = some (.slice E)) (hE : P.underlying E = some (.int .u8)) (hU : P.underlying U = some .string) (hx : ρ x = .slice A n c) (hA : Rd w A (byts xs)) (hn : xs.length = n) :
    (execOp ρ ⟨dst, .convert T U x, ty, pos, af, g⟩).run P w = .ok (.value (.string (bstr xs))) w := by
  have key : (Go.convert T U (.slice A n c)).run P w = .ok (.string (bstr xs)) w := by
    rw [run_convert_bytes_string w T U E A n c hT hE hU]
    cases A with
    | none =>
      have : xs = [] := by
        cases xs with
        | nil => rfl
        | cons b r => obtain ⟨a, ha, _⟩ := hA 0 (.int .u8 (b : Int)) rfl; simp at ha
      subst this
      have e : bstr [] = ByteArray.empty := rfl
      rw [e]
      simp [Conv.bytesToString]
    | some a =>
      have hl : (loadCells a n).run P w = .ok ((xs.map fun (n : Nat) => (n : Int)).map (Value.int .u8)).toArray w := by
        have h1 := run_loadCells_list (P := P) (w := w) a (byts xs) (fun j v hj => by
          obtain ⟨a', e, hc⟩ := hA j v hj
          simp only [Option.some.injEq] at e
          subst e; exact hc)
        rw [length_byts, hn] at h1
        rw [h1]
        simp [byts, Function.comp_def]
      rw [run_bytesToString w a n c _ hl, foldl_push_bytes]
      simp [bstr, ByteArray.empty, ByteArray.emptyWithCapacity, Function.comp_def]
      rfl
  simp only [execOp, hx, key, Sem.run_bind, Sem.run_pure, Result.andThen_ok]
theorem toList_eq_iff (s t : ByteArray) : (s.toList == t.toList) = decide (s = t) := by
  rw [ByteArray.toList_eq, ByteArray.toList_eq]
  by_cases h : s = t
  · subst h; simp
  · have h2 : ¬ s.data.toList = t.data.toList := fun e => h (by
      have h3 : s.data = t.data := by rw [← Array.toArray_toList (xs := s.data), e]
      cases s; cases t; cases h3; rfl)
    rw [decide_eq_false h]
    cases hb : s.data.toList == t.data.toList
    · rfl
    · exact absurd (by simpa using congrArg Array.toList (show s.data = t.data by simpa using hb)) h2
theorem R.eqlStr {s t : ByteArray} {T' : TypeId} (hx : ρ x = .string s) (hy : ρ y = .string t) :
    (execOp ρ ⟨dst, .binOp .eql T x y T', ty, pos, af, g⟩).run P w = .ok (.value (.bool (decide (s = t)))) w := by
  simp only [execOp, hx, hy, eqGuard, binOp_string_eql, toList_eq_iff, Sem.run_bind, Sem.run_pure]
  rfl
theorem R.neqStr {s t : ByteArray} {T' : TypeId} (hx : ρ x = .string s) (hy : ρ y = .string t) :
    (execOp ρ ⟨dst, .binOp .neq T x y T', ty, pos, af, g⟩).run P w = .ok (.value (.bool (decide (¬ s = t)))) w := by
  simp only [execOp, hx, hy, eqGuard, binOp_string_neq, toList_eq_iff, Sem.run_bind, Sem.run_pure, decide_not]
  rfl
/-- a byte of a string, as a number -/
theorem R.chr {k : IntKind} {m : Int} {s : ByteArray} (hT : P.underlying T = some .string) (hx : ρ x = .string s) (hy : ρ y = .int k m) (h0 : 0 ≤ m) (h2 : m.toNat < s.size) :
    (execOp ρ ⟨dst, .index T x y, ty, pos, af, g⟩).run P w = .ok (.value (.int .u8 (((bys s).getD m.toNat 0 : Nat) : Int))) w := by
  rw [bys_at s m.toNat h2]
  exact R.indexStr hT hx hy h0 h2
end

/-! ### decimal digits, the lowest first -/
def val10 : List Nat → Nat
  | [] => 0
  | b :: r => b + 10 * val10 r
def dd (n : Nat) : List Nat := if h : n = 0 then [] else (n % 10) :: dd (n / 10)
termination_by n
decreasing_by omega
def dec (n : Nat) : List Nat := if n = 0 then [0] else dd n
def Dig (xs : List Nat) : Prop := ∀ b ∈ xs, b < 10
/-- a number's text, its bytes -/
def txt (n : Nat) : List Nat := (dec n).reverse.map (48 + ·)
theorem dd_0 : dd 0 = [] := by unfold dd; simp
theorem dd_pos {n : Nat} (h : n ≠ 0) : dd n = (n % 10) :: dd (n / 10) := by rw [dd, dif_neg h]
theorem val_dd (n : Nat) : val10 (dd n) = n := by
  induction n using Nat.strongRecOn with
  | ind n ih =>
    by_cases h : n = 0
    · subst h; simp [dd_0, val10]
    · rw [dd_pos h, val10, ih _ (by omega)]; omega
theorem dig_dd (n : Nat) : Dig (dd n) := by
  induction n using Nat.strongRecOn with
  | ind n ih =>
    by_cases h : n = 0
    · subst h; intro b hb; simp [dd_0] at hb
    · rw [dd_pos h]
      intro b hb
      rcases List.mem_cons.1 hb with rfl | hb
      · omega
      · exact ih _ (by omega) b hb
theorem val10_append (xs ys : List Nat) : val10 (xs ++ ys) = val10 xs + 10 ^ xs.length * val10 ys := by
  induction xs with
  | nil => simp [val10]
  | cons b r ih =>
    simp only [List.cons_append, val10, ih, List.length_cons, Nat.pow_succ]
    rw [Nat.mul_add, ← Nat.mul_assoc, Nat.mul_comm 10 (10 ^ r.length)]
    omega
theorem val10_snoc (xs : List Nat) (b : Nat) : val10 (xs ++ [b]) = val10 xs + 10 ^ xs.length * b := by rw [val10_append]; simp [val10]
theorem val10_lt {xs : List Nat} (h : Dig xs) : val10 xs < 10 ^ xs.length := by
  induction xs with
  | nil => simp [val10]
  | cons b r ih =>
    have h1 := h b (by simp)
    have h2 := ih fun c hc => h c (by simp [hc])
    simp only [val10, List.length_cons, Nat.pow_succ]
    omega
/-- digits of which the last one isn't nought are those of their number -/
theorem dd_val {xs : List Nat} (h : Dig xs) (hl : ∀ hne : xs ≠ [], xs.getLast hne ≠ 0) : dd (val10 xs) = xs := by
  induction xs with
  | nil => simp [val10, dd_0]
  | cons b r ih =>
    have hb := h b (by simp)
    have hr := ih (fun c hc => h c (by simp [hc])) (fun hne => by have := hl (by simp); rwa [List.getLast_cons hne] at this)
    have hne : val10 (b :: r) ≠ 0 := by
      simp only [val10]
      cases r with
      | nil =>
        have := hl (by simp)
        simp only [List.getLast_singleton] at this
        omega
      | cons c r' =>
        intro h0
        have h1 : val10 (c :: r') = 0 := by omega
        rw [h1, dd_0] at hr
        simp at hr
    rw [dd_pos hne]
    simp only [val10]
    rw [show (b + 10 * val10 r) % 10 = b from by omega, show (b + 10 * val10 r) / 10 = val10 r from by omega, hr]
theorem dec_val {xs : List Nat} (h : Dig xs) (hne : xs ≠ []) (hl : xs.length = 1 ∨ xs.getLast hne ≠ 0) : dec (val10 xs) = xs := by
  unfold dec
  by_cases h0 : val10 xs = 0
  · rw [if_pos h0]
    rcases hl with hl | hl
    · obtain ⟨b, rfl⟩ := List.length_eq_one_iff.1 hl
      simp [val10] at h0
      rw [h0]
    · have := dd_val h fun _ => hl
      rw [h0, dd_0] at this
      exact absurd this.symm hne
  · rw [if_neg h0]
    refine dd_val h fun _ => ?_
    rcases hl with hl | hl
    · obtain ⟨b, rfl⟩ := List.length_eq_one_iff.1 hl
      simp [val10] at h0
      simpa using h0
    · exact hl
theorem val_dec (n : Nat) : val10 (dec n) = n := by
  unfold dec
  split
  · rename_i h; simp [val10, h]
  · exact val_dd n
theorem dig_dec (n : Nat) : Dig (dec n) := by
  unfold dec
  split
  · intro b hb; simp at hb; omega
  · exact dig_dd n
theorem dec_ne (n : Nat) : dec n ≠ [] := by
  unfold dec
  split
  · simp
  · rename_i h; rw [dd_pos h]; simp
theorem last_dd (n : Nat) (hne : dd n ≠ []) : (dd n).getLast hne ≠ 0 := by
  induction n using Nat.strongRecOn with
  | ind n ih =>
    by_cases h : n = 0
    · subst h; exact absurd dd_0 hne
    · have h2 := dd_pos h
      by_cases h3 : n / 10 = 0
      · have : dd n = [n % 10] := by rw [h2, h3, dd_0]
        simp only [this, List.getLast_singleton]
        omega
      · have hne2 : dd (n / 10) ≠ [] := by rw [dd_pos h3]; simp
        have := ih (n / 10) (by omega) hne2
        simp only [h2]
        rw [List.getLast_cons hne2]
        exact this
theorem length_dec_le {n k : Nat} (h : n < 10 ^ k) (hk : 0 < k) : (dec n).length ≤ k := by
  unfold dec
  split
  · exact hk
  · rename_i h0
    by_cases hle : (dd n).length ≤ k
    · exact hle
    · exfalso
      have hne : dd n ≠ [] := by rw [dd_pos h0]; simp
      have h1 := last_dd n hne
      have h2 : dd n = (dd n).dropLast ++ [(dd n).getLast hne] := (List.dropLast_concat_getLast hne).symm
      have h3 := val_dd n
      rw [h2, val10_snoc, List.length_dropLast] at h3
      have h4 : 10 ^ k ≤ 10 ^ ((dd n).length - 1) := Nat.pow_le_pow_right (by decide) (by omega)
      have h5 : 10 ^ ((dd n).length - 1) ≤ 10 ^ ((dd n).length - 1) * (dd n).getLast hne := Nat.le_mul_of_pos_right _ (by omega)
      omega
theorem dig_snoc {xs : List Nat} (h : Dig xs) {b : Nat} (hb : b < 10) : Dig (xs ++ [b]) := by
  intro c hc
  rcases List.mem_append.1 hc with hc | hc
  · exact h c hc
  · simp only [List.mem_singleton] at hc; omega

/-! ### long division in halves -/
/-- what the correcting loop of bits.Div64 knows: q is no less than the quotient of N by y -/
theorem knuth_first {u yn1 yn0 : Nat} (h1 : 2147483648 ≤ yn1) (h2 : yn0 < 4294967296) (hu : u < yn1 * 4294967296 + yn0) : u / yn1 ≤ 4294967297 := by
  have : u / yn1 < 4294967298 := by
    rw [Nat.div_lt_iff_lt_mul (by omega)]
    omega
  omega
theorem knuth_ge {u v yn1 yn0 : Nat} (h1 : 2147483648 ≤ yn1) (hv : v < 4294967296) : (u * 4294967296 + v) / (yn1 * 4294967296 + yn0) ≤ u / yn1 := by
  rw [Nat.le_div_iff_mul_le (by omega)]
  have h3 := Nat.div_mul_le_self (u * 4294967296 + v) (yn1 * 4294967296 + yn0)
  generalize (u * 4294967296 + v) / (yn1 * 4294967296 + yn0) = q at *
  have h4 : q * (yn1 * 4294967296 + yn0) = q * yn1 * 4294967296 + q * yn0 := by rw [Nat.mul_add, Nat.mul_assoc]
  omega
/-- the loop goes on: one less still isn't too little -/
theorem knuth_more {u v yn1 yn0 q r : Nat} (hv : v < 4294967296) (hu : u < yn1 * 4294967296 + yn0) (hq : q * yn1 + r = u)
    (hc : 4294967296 ≤ q ∨ 4294967296 * r + v < q * yn0) : (u * 4294967296 + v) / (yn1 * 4294967296 + yn0) ≤ q - 1 ∧ 1 ≤ q := by
  have hy : 0 < yn1 * 4294967296 + yn0 := by omega
  have key : (u * 4294967296 + v) / (yn1 * 4294967296 + yn0) < q := by
    rw [Nat.div_lt_iff_lt_mul hy]
    rcases hc with hc | hc
    · have : 4294967296 * (yn1 * 4294967296 + yn0) ≤ q * (yn1 * 4294967296 + yn0) := Nat.mul_le_mul_right _ hc
      omega
    · have h4 : q * (yn1 * 4294967296 + yn0) = q * yn1 * 4294967296 + q * yn0 := by rw [Nat.mul_add, Nat.mul_assoc]
      omega
  generalize (u * 4294967296 + v) / (yn1 * 4294967296 + yn0) = z at *
  omega
/-- the loop ends: q is the quotient -/
theorem knuth_end {u v yn1 yn0 q r : Nat} (hq : q * yn1 + r = u) (hge : (u * 4294967296 + v) / (yn1 * 4294967296 + yn0) ≤ q) (hy : 0 < yn1)
    (hc : q * yn0 ≤ 4294967296 * r + v) : (u * 4294967296 + v) / (yn1 * 4294967296 + yn0) = q := by
  refine Nat.le_antisymm hge ?_
  rw [Nat.le_div_iff_mul_le (by omega)]
  have h4 : q * (yn1 * 4294967296 + yn0) = q * yn1 * 4294967296 + q * yn0 := by rw [Nat.mul_add, Nat.mul_assoc]
  omega
end Go.Fw
