/- Texts Da Db Dc in one. -/
import Derived.Test.YtlapmbkfmbkdoaaM1
/- The metered machine in plain terms: sizes, places, checks, prices, steps, runs. No Go in sight. -/
namespace Go.Fw

/-- byte i of a program; nought behind its end -/
def cAt (code : List Nat) (i : Nat) : Nat := code.getD i 0
/-- how many bytes the instruction at a place has; 0: none -/
def sizeN (code : List Nat) (p : Nat) : Nat :=
  if code.length ≤ p ∨ 28 ≤ cAt code p then 0 else
  if cAt code p = 2 then (if code.length ≤ p + 1 ∨ cAt code (p + 1) < 1 ∨ 32 < cAt code (p + 1) then 0 else if code.length < p + (2 + cAt code (p + 1)) then 0 else 2 + cAt code (p + 1))
  else if cAt code p = 4 ∨ cAt code p = 5 ∨ cAt code p = 16 then
    (if p + 1 < code.length ∧ ((cAt code p = 4 ∧ 15 < cAt code (p + 1)) ∨ (cAt code p = 5 ∧ (cAt code (p + 1) < 1 ∨ 15 < cAt code (p + 1)))) then 0 else if code.length < p + 2 then 0 else 2)
  else if cAt code p = 14 ∨ cAt code p = 15 then (if code.length < p + 3 then 0 else 3)
  else 1
theorem sizeN_le (code : List Nat) (p : Nat) : sizeN code p = 0 ∨ p + sizeN code p ≤ code.length := by
  unfold sizeN
  split
  · exact .inl rfl
  split
  · split
    · exact .inl rfl
    split
    · exact .inl rfl
    · right; omega
  split
  · split
    · exact .inl rfl
    split
    · exact .inl rfl
    · right; omega
  split
  · split
    · exact .inl rfl
    · right; omega
  · right; omega
/-- where the instructions begin, from a place on; none: not all of it is instructions -/
def plc (code : List Nat) : Nat → Nat → Option (List Nat)
  | 0, _ => none
  | f + 1, p => if code.length ≤ p then some [] else if sizeN code p = 0 then none else (plc code f (p + sizeN code p)).map (p :: ·)
def placesN (code : List Nat) : Option (List Nat) := plc code (code.length + 1) 0
def targetN (code : List Nat) (p : Nat) : Nat := cAt code (p + 1) * 256 + cAt code (p + 2)
def isJump (code : List Nat) (p : Nat) : Bool := cAt code p == 14 || cAt code p == 15
/-- bytes are a program -/
def chkN (code : List Nat) : Bool :=
  decide (1 ≤ code.length) && decide (code.length ≤ 1024) && match placesN code with
  | none => false
  | some l => l.all fun p => !isJump code p || l.contains (targetN code p)

/-- the bound on fuel does not matter once it is enough -/
theorem plc_more (code : List Nat) : ∀ (f g p : Nat), code.length - p < f → code.length - p < g → plc code f p = plc code g p := by
  intro f
  induction f with
  | zero => intro g p h; omega
  | succ f ih =>
    intro g p hf hg
    cases g with
    | zero => omega
    | succ g =>
      simp only [plc]
      by_cases h1 : code.length ≤ p
      · simp [h1]
      · by_cases h2 : sizeN code p = 0
        · simp [h2]
        · rw [if_neg h1, if_neg h1, if_neg h2, if_neg h2, ih g (p + sizeN code p) (by omega) (by omega)]
def plcs (code : List Nat) (p : Nat) : Option (List Nat) := plc code (code.length + 1) p
theorem plcs_end {code : List Nat} {p : Nat} (h : code.length ≤ p) : plcs code p = some [] := by simp [plcs, plc, h]
theorem plcs_bad {code : List Nat} {p : Nat} (h : p < code.length) (hs : sizeN code p = 0) : plcs code p = none := by
  have : ¬ code.length ≤ p := by omega
  simp [plcs, plc, this, hs]
theorem plcs_next {code : List Nat} {p : Nat} (h : p < code.length) (hs : sizeN code p ≠ 0) : plcs code p = (plcs code (p + sizeN code p)).map (p :: ·) := by
  have : ¬ code.length ≤ p := by omega
  simp only [plcs]
  rw [plc, if_neg this, if_neg hs, plc_more code code.length (code.length + 1) _ (by omega) (by omega)]

/-- prices, what is taken and laid -/
def priceN (c : Nat) : Nat := [1, 1, 1, 1, 1, 1, 2, 2, 5, 10, 10, 2, 2, 2, 5, 5, 2, 2, 2, 2, 2, 2, 2, 2, 200, 200, 200, 500].getD c 0
def takesN (c : Nat) : Nat := [0, 1, 0, 1, 0, 0, 2, 2, 2, 2, 2, 2, 2, 1, 0, 1, 0, 0, 0, 0, 0, 0, 0, 0, 1, 2, 2, 3].getD c 0
def laysN (c : Nat) : Nat := [0, 0, 1, 0, 1, 0, 1, 1, 1, 1, 1, 1, 1, 1, 0, 0, 1, 1, 1, 1, 1, 1, 1, 1, 1, 0, 1, 0].getD c 0
theorem priceN_pos {c : Nat} (h : c < 28) : 1 ≤ priceN c := by
  have : ∀ c, c < 28 → 1 ≤ priceN c := by decide
  exact this c h

/-- a call -/
structure Cl where
  self : Nat → Nat
  caller : Nat → Nat
  token : Int
  amount : Nat
  args : List Nat
  time : Int
  gas : Int
/-- what a host is asked -/
structure Ask where
  kind : Nat
  a : Nat
  b : Nat
  token : Nat
  who : Nat
/-- the number of some bytes, the highest first -/
def numB (l : List Nat) : Nat := l.foldl (fun a d => a * 256 + d) 0
def adN (f : Nat → Nat) : Nat := numB ((List.range 20).map f)
def bit1 (b : Bool) : Nat := if b then 1 else 0
def arithN (c x y : Nat) : Option Nat :=
  if c = 6 then (if x + y < 115792089237316195423570985008687907853269984665640564039457584007913129639936 then some (x + y) else none)
  else if c = 7 then (if x < y then none else some (x - y))
  else if c = 8 then (if x * y < 115792089237316195423570985008687907853269984665640564039457584007913129639936 then some (x * y) else none)
  else if c = 11 then some (bit1 (decide (x < y)))
  else if c = 12 then some (bit1 (decide (x = y)))
  else if y = 0 then none
  else if c = 9 then some (x / y) else some (x % y)
def toldN (cl : Cl) (c b left : Nat) : Nat :=
  if c = 16 then cl.args.getD b 0 else if c = 17 then cl.args.length else if c = 18 then adN cl.caller else if c = 19 then adN cl.self
  else if c = 20 then cl.token.toNat else if c = 21 then cl.amount else if c = 22 then cl.time.toNat else left
/-- what it asks: none: nothing; some none: it may not -/
def askN (c : Nat) (v : Nat → Nat) : Option Ask :=
  if c = 24 then some ⟨1, v 0, 0, 0, 0⟩ else if c = 25 then some ⟨2, v 0, v 1, 0, 0⟩
  else if 64 ≤ v 0 then none
  else if c = 26 then some ⟨3, 0, 0, v 0, v 1⟩ else some ⟨4, v 2, 0, v 0, v 1⟩
def swapN (st : List Nat) (b : Nat) : List Nat := (st.set (st.length - 1) (st.getD (st.length - 1 - b) 0)).set (st.length - 1 - b) (st.getD (st.length - 1) 0)

inductive Out where
  | more (stk : List Nat) (left p : Nat) (asks : List Ask)
  | fin (v left : Nat) (asks : List Ask)
  | err (e : Int) (asks : List Ask)
/-- what an instruction does: c its code, b its operand, v what it took, st what lies below -/
def doN (cl : Cl) (code : List Nat) (rep : Nat → Nat × Int) (c b p left : Nat) (st : List Nat) (v : Nat → Nat) (asks : List Ask) : Out :=
  if c = 0 then .err 105 asks
  else if c = 1 then .fin (v 0) left asks
  else if c = 2 then .more (st ++ [numB ((code.drop (p + 2)).take (sizeN code p - 2))]) left (p + sizeN code p) asks
  else if c = 3 then .more st left (p + sizeN code p) asks
  else if c = 4 then .more (st ++ [st.getD (st.length - 1 - b) 0]) left (p + sizeN code p) asks
  else if c = 5 then .more (swapN st b) left (p + sizeN code p) asks
  else if c ≤ 12 then (match arithN c (v 0) (v 1) with
    | none => .err 104 asks
    | some r => .more (st ++ [r]) left (p + sizeN code p) asks)
  else if c = 13 then .more (st ++ [bit1 (decide (v 0 = 0))]) left (p + sizeN code p) asks
  else if c = 14 then .more st left (targetN code p) asks
  else if c = 15 then .more st left (if v 0 ≠ 0 then targetN code p else p + sizeN code p) asks
  else if c ≤ 23 then .more (st ++ [toldN cl c b left]) left (p + sizeN code p) asks
  else match askN c v with
    | none => .err 104 asks
    | some q => if (rep asks.length).2 ≠ 0 then .err (rep asks.length).2 (asks ++ [q]) else .more (if c = 24 ∨ c = 26 then st ++ [(rep asks.length).1] else st) left (p + sizeN code p) (asks ++ [q])

def stp (cl : Cl) (code : List Nat) (rep : Nat → Nat × Int) (stk : List Nat) (left p : Nat) (asks : List Ask) : Out :=
  if code.length ≤ p then .err 106 asks
  else if left < priceN (cAt code p) then .err 102 asks
  else if stk.length < (if cAt code p = 4 ∨ cAt code p = 5 then cAt code (p + 1) + 1 else takesN (cAt code p)) ∨ 64 < stk.length - takesN (cAt code p) + laysN (cAt code p) then .err 103 asks
  else doN cl code rep (cAt code p) (cAt code (p + 1)) p (left - priceN (cAt code p)) (stk.take (stk.length - takesN (cAt code p))) (fun i => stk.getD (stk.length - takesN (cAt code p) + i) 0) asks
/-- how it ends: the value, what is left, the error, what was asked -/
structure Ended where
  v : Nat
  left : Nat
  e : Int
  asks : List Ask
def runN (cl : Cl) (code : List Nat) (rep : Nat → Nat × Int) : Nat → List Nat → Nat → Nat → List Ask → Ended
  | 0, _, _, _, asks => ⟨0, 0, 1, asks⟩
  | f + 1, stk, left, p, asks => match stp cl code rep stk left p asks with
    | .more stk' left' p' asks' => runN cl code rep f stk' left' p' asks'
    | .fin v left' asks' => ⟨v, left', 0, asks'⟩
    | .err e asks' => ⟨0, 0, e, asks'⟩
def callOk (cl : Cl) : Bool := decide (0 ≤ cl.token) && decide (cl.token < 64) && decide (cl.args.length ≤ 8) && decide (0 ≤ cl.time) && decide (cl.time ≤ 4611686018427387904) && decide (1 ≤ cl.gas) && decide (cl.gas ≤ 10000)
structure Played where
  v : Nat
  gas : Int
  e : Int
  asks : List Ask
def playN (cl : Cl) (code : List Nat) (rep : Nat → Nat × Int) : Played :=
  if chkN code = false then ⟨0, 0, 100, []⟩
  else if callOk cl = false then ⟨0, 0, 101, []⟩
  else let r := runN cl code rep (cl.gas.toNat + 1) [] cl.gas.toNat 0 []
    if r.e = 0 then ⟨r.v, cl.gas - r.left, 0, r.asks⟩ else ⟨0, 0, r.e, r.asks⟩
end Go.Fw

/- Numbers in bytes, the highest first. No Go in sight. -/
namespace Go.Fw

/-- a number's k bytes, the highest first -/
def toB (k n : Nat) : List Nat := (List.range k).map fun i => n / 256 ^ (k - 1 - i) % 256
theorem length_toB (k n : Nat) : (toB k n).length = k := by simp [toB]
theorem toB_at {k n i : Nat} (h : i < k) : (toB k n)[i]? = some (n / 256 ^ (k - 1 - i) % 256) := by simp [toB, h]
theorem toB_getD {k n i : Nat} (h : i < k) : (toB k n).getD i 0 = n / 256 ^ (k - 1 - i) % 256 := by simp [List.getD, toB_at h]
theorem toB_lt {k n : Nat} : ∀ d ∈ toB k n, d < 256 := by
  intro d hd
  simp only [toB, List.mem_map] at hd
  obtain ⟨i, _, rfl⟩ := hd
  exact Nat.mod_lt _ (by decide)
theorem toB_succ (k n : Nat) : toB (k + 1) n = n / 256 ^ k % 256 :: toB k n := by
  simp only [toB, List.range_succ_eq_map, List.map_cons, List.map_map]
  congr 1
  apply List.map_congr_left
  intro i hi
  have hi := List.mem_range.1 hi
  simp only [Function.comp]
  congr 3; omega
theorem toB_last (k n : Nat) : toB (k + 1) n = toB k (n / 256) ++ [n % 256] := by
  simp only [toB, List.range_succ, List.map_append, List.map_cons, List.map_nil]
  congr 1
  · apply List.map_congr_left
    intro i hi
    have hi := List.mem_range.1 hi
    have : k + 1 - 1 - i = (k - 1 - i) + 1 := by omega
    rw [this, Nat.pow_succ, Nat.mul_comm, ← Nat.div_div_eq_div_mul]
  · simp
theorem snocRec {P : List Nat → Prop} (nil : P []) (append_singleton : ∀ l d, P l → P (l ++ [d])) : ∀ l, P l := by
  intro l
  rw [← l.reverse_reverse]
  induction l.reverse with
  | nil => exact nil
  | cons d r ih => rw [List.reverse_cons]; exact append_singleton _ _ ih
theorem numB_snoc (l : List Nat) (d : Nat) : numB (l ++ [d]) = numB l * 256 + d := by simp [numB]
theorem numB_toB : ∀ (k n : Nat), numB (toB k n) = n % 256 ^ k
  | 0, n => by simp [toB, numB, Nat.mod_one]
  | k + 1, n => by
    rw [toB_last, numB_snoc, numB_toB k, Nat.pow_succ, Nat.mul_comm (256 ^ k) 256, Nat.mod_mul]
    omega
theorem numB_lt : ∀ (l : List Nat), (∀ d ∈ l, d < 256) → numB l < 256 ^ l.length := by
  intro l
  induction l using snocRec with
  | nil => intro _; simp [numB]
  | append_singleton l d ih =>
    intro h
    have h1 := ih fun x hx => h x (by simp [hx])
    have h2 := h d (by simp)
    rw [numB_snoc, List.length_append, List.length_singleton, Nat.pow_succ]
    omega
theorem toB_numB : ∀ (l : List Nat), (∀ d ∈ l, d < 256) → toB l.length (numB l) = l := by
  intro l
  induction l using snocRec with
  | nil => intro _; rfl
  | append_singleton l d ih =>
    intro h
    have h1 := ih fun x hx => h x (by simp [hx])
    have h2 := h d (by simp)
    rw [numB_snoc, List.length_append, List.length_singleton, toB_last]
    have e1 : (numB l * 256 + d) / 256 = numB l := by omega
    have e2 : (numB l * 256 + d) % 256 = d := by omega
    rw [e1, e2, h1]
theorem p256_pos (k : Nat) : 0 < 256 ^ k := Nat.pow_pos (by decide)
theorem toB_mod (k n : Nat) : toB k (n % 256 ^ k) = toB k n := by
  apply List.map_congr_left
  intro i hi
  have hi := List.mem_range.1 hi
  have h1 : (256 : Nat) ^ k = 256 ^ (k - 1 - i) * (256 * 256 ^ i) := by
    rw [← Nat.mul_assoc, Nat.mul_comm _ 256, ← Nat.pow_succ', ← Nat.pow_add]; congr 1; omega
  rw [h1, Nat.mod_mul_right_div_self, Nat.mod_mul_right_mod]
theorem toB_inj {k m n : Nat} (hm : m < 256 ^ k) (hn : n < 256 ^ k) (h : toB k m = toB k n) : m = n := by
  have := congrArg numB h
  rwa [numB_toB, numB_toB, Nat.mod_eq_of_lt hm, Nat.mod_eq_of_lt hn] at this
theorem toB_drop {k n : Nat} (j : Nat) (h : j ≤ k) : (toB k n).drop j = toB (k - j) n := by
  apply List.ext_getElem?
  intro i
  rw [List.getElem?_drop]
  by_cases hi : i < k - j
  · rw [toB_at hi, toB_at (by omega)]
    congr 3
    have : k - 1 - (j + i) = k - j - 1 - i := by omega
    rw [this]
  · rw [List.getElem?_eq_none (by rw [length_toB]; omega), List.getElem?_eq_none (by rw [length_toB]; omega)]

/-! sums byte by byte -/
theorem div_add_b (x y p : Nat) (hp : 0 < p) : (x + y) / p = x / p + y / p + (x % p + y % p) / p := by
  have h : x + y = (x % p + y % p) + p * (x / p + y / p) := by
    have h1 := Nat.div_add_mod x p
    have h2 := Nat.div_add_mod y p
    rw [Nat.mul_add]; omega
  rw [h, Nat.add_mul_div_left _ _ hp]
  omega
def cyB (x y t : Nat) : Nat := (x % 256 ^ t + y % 256 ^ t) / 256 ^ t
theorem cyB_le (x y t : Nat) : cyB x y t ≤ 1 := by
  unfold cyB
  have h1 := Nat.mod_lt x (p256_pos t)
  have h2 := Nat.mod_lt y (p256_pos t)
  have : (x % 256 ^ t + y % 256 ^ t) / 256 ^ t < 2 := by
    rw [Nat.div_lt_iff_lt_mul (p256_pos t)]; omega
  omega
theorem cyB_0 (x y : Nat) : cyB x y 0 = 0 := by simp [cyB, Nat.mod_one]
theorem plus_dig (x y t : Nat) : (x / 256 ^ t % 256 + y / 256 ^ t % 256 + cyB x y t) % 256 = (x + y) / 256 ^ t % 256 := by
  rw [div_add_b x y _ (p256_pos t)]
  show _ = (x / 256 ^ t + y / 256 ^ t + cyB x y t) % 256
  omega
theorem plus_cy (x y t : Nat) : (x / 256 ^ t % 256 + y / 256 ^ t % 256 + cyB x y t) / 256 = cyB x y (t + 1) := by
  have e : ∀ z, z % 256 ^ (t + 1) / 256 ^ t = z / 256 ^ t % 256 := fun z => by rw [Nat.pow_succ, Nat.mod_mul_right_div_self]
  have e2 : ∀ z, z % 256 ^ (t + 1) % 256 ^ t = z % 256 ^ t := fun z => by rw [Nat.pow_succ, Nat.mod_mul_right_mod]
  show _ = (x % 256 ^ (t + 1) + y % 256 ^ (t + 1)) / 256 ^ (t + 1)
  rw [Nat.pow_succ, ← Nat.div_div_eq_div_mul, ← Nat.pow_succ, div_add_b _ _ _ (p256_pos t), e, e, e2, e2]
  rfl
/-- the top byte of a sum in one byte more -/
theorem cyB_top {x y k : Nat} (hx : x < 256 ^ k) (hy : y < 256 ^ k) : cyB x y k = (x + y) / 256 ^ k % 256 := by
  have h1 := cyB_le x y k
  have : cyB x y k = (x + y) / 256 ^ k := by simp only [cyB, Nat.mod_eq_of_lt hx, Nat.mod_eq_of_lt hy]
  omega
/-! differences -/
def bwB (x y t : Nat) : Nat := if x % 256 ^ t < y % 256 ^ t then 1 else 0
theorem bwB_0 (x y : Nat) : bwB x y 0 = 0 := by simp [bwB, Nat.mod_one]
theorem sub_div_b (x y p : Nat) (hp : 0 < p) (h : y ≤ x) : (x - y) / p + y / p + (if x % p < y % p then 1 else 0) = x / p := by
  have h1 := Nat.div_add_mod x p
  have h2 := Nat.div_add_mod y p
  have h3 := Nat.mod_lt x hp
  have h4 := Nat.mod_lt y hp
  have hq : y / p ≤ x / p := Nat.div_le_div_right h
  split
  · rename_i hlt
    have hne : y / p ≠ x / p := by
      intro e; rw [e] at h2; omega
    have h6 : x - y = (p + x % p - y % p) + p * (x / p - y / p - 1) := by
      have : p * (x / p) = p * (x / p - y / p - 1) + p * (y / p) + p := by
        rw [← Nat.mul_add, ← Nat.mul_succ]; congr 1; omega
      omega
    rw [h6, Nat.add_mul_div_left _ _ hp, Nat.div_eq_of_lt (by omega)]
    omega
  · have h6 : x - y = (x % p - y % p) + p * (x / p - y / p) := by
      have : p * (x / p) = p * (x / p - y / p) + p * (y / p) := by rw [← Nat.mul_add]; congr 1; omega
      omega
    rw [h6, Nat.add_mul_div_left _ _ hp, Nat.div_eq_of_lt (by omega)]
    omega
theorem less_dig (x y t : Nat) (h : y ≤ x) : ((x - y) / 256 ^ t) % 256 = (x / 256 ^ t % 256 + 256 - y / 256 ^ t % 256 - bwB x y t) % 256 := by
  have := sub_div_b x y _ (p256_pos t) h
  have h2 : bwB x y t ≤ 1 := by unfold bwB; split <;> omega
  change (x - y) / 256 ^ t + y / 256 ^ t + bwB x y t = x / 256 ^ t at this
  omega
theorem less_bw (x y t : Nat) : bwB x y (t + 1) = if x / 256 ^ t % 256 < y / 256 ^ t % 256 + bwB x y t then 1 else 0 := by
  have hx : x % 256 ^ (t + 1) = x % 256 ^ t + 256 ^ t * (x / 256 ^ t % 256) := by rw [Nat.pow_succ, Nat.mod_mul]
  have hy : y % 256 ^ (t + 1) = y % 256 ^ t + 256 ^ t * (y / 256 ^ t % 256) := by rw [Nat.pow_succ, Nat.mod_mul]
  have h1 := Nat.mod_lt x (p256_pos t)
  have h2 := Nat.mod_lt y (p256_pos t)
  unfold bwB
  rw [hx, hy]
  generalize x / 256 ^ t % 256 = a
  generalize y / 256 ^ t % 256 = b
  generalize x % 256 ^ t = r at *
  generalize y % 256 ^ t = s at *
  generalize 256 ^ t = p at *
  rcases Nat.lt_trichotomy a b with hab | rfl | hab
  · have : p * a + p ≤ p * b := by rw [← Nat.mul_succ]; exact Nat.mul_le_mul_left _ hab
    rw [if_pos (by omega), if_pos (by omega)]
  · by_cases h : r < s
    · simp [h]
    · simp [h]
  · have : p * b + p ≤ p * a := by rw [← Nat.mul_succ]; exact Nat.mul_le_mul_left _ hab
    have h3 : (if r < s then 1 else 0) ≤ 1 := by split <;> omega
    rw [if_neg (by omega), if_neg (by omega)]
end Go.Fw

/- One byte of a number set; products and quotients byte by byte and bit by bit. No Go in sight. -/
namespace Go.Fw
def setB (V j e : Nat) : Nat := V - V / 256 ^ j % 256 * 256 ^ j + e * 256 ^ j
theorem setB_le (V j : Nat) : V / 256 ^ j % 256 * 256 ^ j ≤ V := by
  have h1 := Nat.div_mul_le_self V (256 ^ j)
  have h2 : V / 256 ^ j % 256 * 256 ^ j ≤ V / 256 ^ j * 256 ^ j := Nat.mul_le_mul_right _ (Nat.mod_le _ _)
  omega
theorem setB_eq (V j e : Nat) : setB V j e + V / 256 ^ j % 256 * 256 ^ j = V + e * 256 ^ j := by
  have := setB_le V j
  unfold setB; omega
/-- the three parts of a number at a byte -/
theorem three (V j : Nat) : V = V % 256 ^ j + V / 256 ^ j % 256 * 256 ^ j + V / 256 ^ (j + 1) * 256 ^ (j + 1) := by
  have h1 := Nat.div_add_mod V (256 ^ j)
  have h2 := Nat.div_add_mod (V / 256 ^ j) 256
  rw [Nat.div_div_eq_div_mul, ← Nat.pow_succ] at h2
  have h3 : V / 256 ^ (j + 1) * 256 ^ (j + 1) + V / 256 ^ j % 256 * 256 ^ j = V / 256 ^ j * 256 ^ j := by
    rw [Nat.pow_succ, Nat.mul_comm (256 ^ j) 256, ← Nat.mul_assoc, ← Nat.add_mul]
    congr 1
    rw [← Nat.pow_succ', Nat.mul_comm]; exact h2
  have h4 : 256 ^ j * (V / 256 ^ j) = V / 256 ^ j * 256 ^ j := Nat.mul_comm _ _
  omega
theorem setB_three (V j e : Nat) : setB V j e = V % 256 ^ j + e * 256 ^ j + V / 256 ^ (j + 1) * 256 ^ (j + 1) := by
  have h1 := three V j
  have h2 := setB_eq V j e
  omega
theorem setB_digit (V j e i : Nat) (he : e < 256) : setB V j e / 256 ^ i % 256 = if i = j then e else V / 256 ^ i % 256 := by
  have hm := Nat.mod_lt V (p256_pos j)
  have hlow : V % 256 ^ j + e * 256 ^ j < 256 ^ (j + 1) := by
    have h5 : e * 256 ^ j + 256 ^ j ≤ 256 * 256 ^ j := by rw [← Nat.succ_mul]; exact Nat.mul_le_mul_right _ he
    rw [Nat.pow_succ, Nat.mul_comm (256 ^ j) 256]; omega
  rw [setB_three]
  rcases Nat.lt_trichotomy i j with h | rfl | h
  · rw [if_neg (by omega)]
    obtain ⟨d, rfl⟩ : ∃ d, j = i + 1 + d := ⟨j - i - 1, by omega⟩
    have e1 : V % 256 ^ (i + 1 + d) + e * 256 ^ (i + 1 + d) + V / 256 ^ (i + 1 + d + 1) * 256 ^ (i + 1 + d + 1) = V % 256 ^ (i + 1 + d) + 256 ^ i * (256 * (e * 256 ^ d + V / 256 ^ (i + 1 + d + 1) * 256 ^ (d + 1))) := by
      have a1 : (256 : Nat) ^ (i + 1 + d) = 256 ^ i * (256 * 256 ^ d) := by rw [Nat.pow_add, Nat.pow_succ, Nat.mul_assoc]
      have a2 : (256 : Nat) ^ (i + 1 + d + 1) = 256 ^ i * (256 * 256 ^ (d + 1)) := by rw [show i + 1 + d + 1 = i + 1 + (d + 1) by omega, Nat.pow_add, Nat.pow_succ, Nat.mul_assoc]
      generalize V / 256 ^ (i + 1 + d + 1) = q
      generalize V % 256 ^ (i + 1 + d) = r
      rw [a1, a2, Nat.add_assoc]
      congr 1
      rw [Nat.mul_add, Nat.mul_add]
      congr 1
      · rw [Nat.mul_left_comm, Nat.mul_left_comm e]
      · rw [Nat.mul_left_comm, Nat.mul_left_comm q]
    rw [e1, Nat.add_mul_div_left _ _ (p256_pos i), Nat.add_mul_mod_self_left]
    have a1 : (256 : Nat) ^ (i + 1 + d) = 256 ^ i * (256 * 256 ^ d) := by rw [Nat.pow_add, Nat.pow_succ, Nat.mul_assoc]
    rw [a1, Nat.mod_mul_right_div_self, Nat.mod_mul_right_mod]
  · rw [if_pos rfl, Nat.pow_succ, Nat.mul_comm (256 ^ i) 256, ← Nat.mul_assoc, Nat.add_assoc, ← Nat.add_mul, Nat.add_mul_div_right _ _ (p256_pos i), Nat.div_eq_of_lt hm]
    omega
  · rw [if_neg (by omega)]
    obtain ⟨d, rfl⟩ : ∃ d, i = j + 1 + d := ⟨i - j - 1, by omega⟩
    rw [Nat.pow_add 256 (j + 1) d, ← Nat.div_div_eq_div_mul, Nat.add_mul_div_right _ _ (p256_pos (j + 1)), Nat.div_eq_of_lt hlow, ← Nat.div_div_eq_div_mul]
    simp
theorem toB_set {k j V e : Nat} (hj : j < k) (he : e < 256) : (toB k V).set (k - 1 - j) e = toB k (setB V j e) := by
  apply List.ext_getElem?
  intro i
  rw [List.getElem?_set]
  by_cases hi : i < k
  · rw [toB_at hi, toB_at hi, setB_digit _ _ _ _ he, length_toB]
    by_cases h : k - 1 - j = i
    · rw [if_pos h, if_pos (by omega), if_pos (by omega)]
    · rw [if_neg h, if_neg (by omega)]
  · rw [List.getElem?_eq_none (by rw [length_toB]; omega), List.getElem?_eq_none (by rw [length_toB]; omega)]
    by_cases h : k - 1 - j = i
    · omega
    · rw [if_neg h]
theorem setB_lt {V j e m : Nat} (hV : V < 256 ^ m) (hj : j < m) (he : e < 256) : setB V j e < 256 ^ m := by
  have hm := Nat.mod_lt V (p256_pos j)
  have hlow : V % 256 ^ j + e * 256 ^ j < 256 ^ (j + 1) := by
    have h5 : e * 256 ^ j + 256 ^ j ≤ 256 * 256 ^ j := by rw [← Nat.succ_mul]; exact Nat.mul_le_mul_right _ he
    rw [Nat.pow_succ, Nat.mul_comm (256 ^ j) 256]; omega
  rw [setB_three]
  obtain ⟨d, rfl⟩ : ∃ d, m = j + 1 + d := ⟨m - j - 1, by omega⟩
  rw [Nat.pow_add 256 (j + 1) d] at hV ⊢
  have h1 : V / 256 ^ (j + 1) < 256 ^ d := Nat.div_lt_of_lt_mul hV
  have h2 : (V / 256 ^ (j + 1) + 1) * 256 ^ (j + 1) ≤ 256 ^ d * 256 ^ (j + 1) := Nat.mul_le_mul_right _ h1
  rw [Nat.add_mul, Nat.one_mul, Nat.mul_comm (256 ^ d)] at h2
  omega
theorem dig_zero {V m j : Nat} (hV : V < 256 ^ m) (h : m ≤ j) : V / 256 ^ j % 256 = 0 := by
  rw [Nat.div_eq_of_lt (Nat.lt_of_lt_of_le hV (Nat.pow_le_pow_right (by decide) h))]
/-! a row of a product: V what stands there, c what is carried -/
theorem row_step {V c S d y t u : Nat} (h : V + c * 256 ^ (t + u) = S + d * (y % 256 ^ u) * 256 ^ t) :
    setB V (t + u) ((V / 256 ^ (t + u) % 256 + d * (y / 256 ^ u % 256) + c) % 256) + (V / 256 ^ (t + u) % 256 + d * (y / 256 ^ u % 256) + c) / 256 * 256 ^ (t + (u + 1)) = S + d * (y % 256 ^ (u + 1)) * 256 ^ t := by
  have h1 := setB_eq V (t + u) ((V / 256 ^ (t + u) % 256 + d * (y / 256 ^ u % 256) + c) % 256)
  have h2 : y % 256 ^ (u + 1) = y % 256 ^ u + 256 ^ u * (y / 256 ^ u % 256) := by rw [Nat.pow_succ, Nat.mod_mul]
  have h3 : d * (y % 256 ^ (u + 1)) * 256 ^ t = d * (y % 256 ^ u) * 256 ^ t + d * (y / 256 ^ u % 256) * 256 ^ (t + u) := by
    rw [h2, Nat.mul_add, Nat.add_mul, Nat.pow_add]
    congr 1
    rw [Nat.mul_comm (256 ^ u), ← Nat.mul_assoc, Nat.mul_assoc _ (256 ^ u), Nat.mul_comm (256 ^ u)]
  have h4 : (256 : Nat) ^ (t + (u + 1)) = 256 * 256 ^ (t + u) := by rw [← Nat.add_assoc, Nat.pow_succ, Nat.mul_comm]
  rw [h3, h4]
  generalize V / 256 ^ (t + u) % 256 = v at *
  generalize d * (y / 256 ^ u % 256) = z at *
  generalize 256 ^ (t + u) = p at *
  have h5 : (v + z + c) % 256 * p + (v + z + c) / 256 * (256 * p) = v * p + z * p + c * p := by
    rw [← Nat.mul_assoc, ← Nat.add_mul, ← Nat.add_mul, ← Nat.add_mul]
    congr 1; omega
  omega
theorem row_carry {v d b c : Nat} (hv : v < 256) (hd : d < 256) (hb : b < 256) (hc : c < 256) : (v + d * b + c) / 256 < 256 := by
  have : d * b ≤ 255 * 255 := Nat.mul_le_mul (by omega) (by omega)
  omega
theorem row_end {V c S d y t : Nat} (hy : y < 256 ^ 32) (h : V + c * 256 ^ (t + 32) = S + d * (y % 256 ^ 32) * 256 ^ t) (hV : V < 256 ^ (t + 32)) (_hc : c < 256) :
    V / 256 ^ (t + 32) % 256 + c = c ∧ setB V (t + 32) c = S + d * y * 256 ^ t := by
  have h0 : V / 256 ^ (t + 32) % 256 = 0 := dig_zero hV (Nat.le_refl _)
  refine ⟨by omega, ?_⟩
  have h1 := setB_eq V (t + 32) c
  rw [h0] at h1
  rw [Nat.mod_eq_of_lt hy] at h
  omega
theorem rows_next {x y t : Nat} : x % 256 ^ t * y + x / 256 ^ t % 256 * y * 256 ^ t = x % 256 ^ (t + 1) * y := by
  have h2 : x % 256 ^ (t + 1) = x % 256 ^ t + 256 ^ t * (x / 256 ^ t % 256) := by rw [Nat.pow_succ, Nat.mod_mul]
  rw [h2, Nat.add_mul]
  congr 1
  rw [Nat.mul_comm (256 ^ t), Nat.mul_right_comm]
theorem rows_lt {x y t : Nat} (hy : y < 256 ^ 32) : x % 256 ^ t * y < 256 ^ (t + 32) := by
  rw [Nat.pow_add]
  exact Nat.mul_lt_mul'' (Nat.mod_lt _ (p256_pos t)) hy
theorem Fr.same {n : Nat} {l : Env} {a : Act} {t : Nat} {v : Value} (h : Fr n l a) (hx : look l t = some v) : Fr n ((t, v) :: l) a := ⟨h.size, h.defs, fun k u hu => by
  simp only [look] at hu
  by_cases e : t = k
  · subst e
    simp only [Nat.beq_refl, cond_true, Option.some.injEq] at hu
    subst hu
    exact h.get _ _ hx
  · have : Nat.beq t k = false := by
      cases hq : Nat.beq t k
      · rfl
      · exact absurd (Nat.eq_of_beq_eq_true hq) e
    rw [this, cond_false] at hu
    exact h.get _ _ hu⟩
theorem Fr.nowT {n : Nat} {env : Env} {a : Act} {t : Nat} {p : Prop} [Decidable p] (hF : Fr n env a) (hx : look env t = some (.bool (decide p))) (h : p) : Fr n ((t, .bool true) :: env) a := hF.same (by rw [hx, decide_eq_true h])
theorem Fr.nowF {n : Nat} {env : Env} {a : Act} {t : Nat} {p : Prop} [Decidable p] (hF : Fr n env a) (hx : look env t = some (.bool (decide p))) (h : ¬ p) : Fr n ((t, .bool false) :: env) a := hF.same (by rw [hx, decide_eq_false h])
end Go.Fw
