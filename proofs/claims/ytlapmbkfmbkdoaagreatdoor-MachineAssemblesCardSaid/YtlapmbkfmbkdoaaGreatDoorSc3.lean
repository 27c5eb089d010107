/- Part 3 of what the row MachineAssembles needs, with no condition beyond each lemma's own. -/
import Derived.Test.YtlapmbkfmbkdoaaGreatDoorSc2
section
namespace Go.Proofs.YtlapmbkfmbkdoaaGreatDoor
open Go Go.Fw Go.RowKit
def isLet (c : Nat) : Bool := decide (97 ≤ c ∧ c ≤ 122 ∨ 65 ≤ c ∧ c ≤ 90)
def labC (c : Nat) : Bool := decide ((97 ≤ c ∧ c ≤ 122 ∨ 65 ≤ c ∧ c ≤ 90) ∨ (48 ≤ c ∧ c ≤ 57) ∨ c = 95)
def okL (s : List Nat) : Bool := Nat.ble 1 s.length && (Nat.ble s.length 30 && (isLet (s.getD 0 0) && s.all labC))
def spl10 : List Nat → List Nat → List (List Nat)
  | cur, [] => [cur]
  | cur, c :: r => if c = 10 then cur :: spl10 [] r else spl10 (cur ++ [c]) r
def clo (cur : List Nat) : List (List Nat) := if cur = [] then [] else [cur]
def fld : List Nat → List Nat → List (List Nat)
  | cur, [] => clo cur
  | cur, c :: r => if c = 35 then clo cur else if c = 32 ∨ c = 9 then clo cur ++ fld [] r else fld (cur ++ [c]) r
def wordsN (l : List Nat) : List (List Nat) := fld [] l
def codeN (s : List Nat) : Nat := namesL.findIdx (· == s)
structure It where
  lab : List Nat
  code : Int
  bs : List Nat
  tg : List Nat
def trim0 : List Nat → List Nat
  | [] => []
  | c :: r => if c = 0 ∧ r ≠ [] then trim0 r else c :: r
def isLab (a : List Nat) (r : List (List Nat)) : Bool := decide (r = []) && (decide (a.getLast? = some 58) && okL a.dropLast)
def lblN (xs : List Nat) : List Nat × Bool := if xs.length < 2 ∨ 31 < xs.length ∨ ¬ xs.getD (xs.length - 1) 0 = 58 then ([], false) else (xs.take (xs.length - 1), okL (xs.take (xs.length - 1)))
abbrev hasP (c : Nat) : Prop := c = 2 ∨ c = 4 ∨ c = 5 ∨ c = 16 ∨ c = 14 ∨ c = 15
def mostN (c : Nat) : Nat := if c = 16 then 255 else 15
def leastN (c : Nat) : Nat := if c = 5 then 1 else 0
def pshN (n : Nat) : List Nat := 2 :: (trim0 (toB 32 n)).length :: trim0 (toB 32 n)
def insM (c n : Nat) (b : List Nat) : Option It :=
  if 2 < n ∨ 28 ≤ c ∨ ¬ (hasP c ↔ n = 2) then none else
  if ¬ hasP c then some ⟨[], c, [c], []⟩ else
  if c = 14 ∨ c = 15 then (if okL b = true then some ⟨[], c, [c, 0, 0], b⟩ else none) else
  match prs b with
  | none => none
  | some m => if c = 2 then some ⟨[], c, pshN m, []⟩ else if mostN c < m ∨ m < leastN c then none else some ⟨[], c, [c, m], []⟩
def undN (ws : List (List Nat)) : Option It :=
  if ws.length = 1 ∧ (lblN (ws.getD 0 [])).2 = true then some ⟨(lblN (ws.getD 0 [])).1, -1, [], []⟩ else insM (codeN (ws.getD 0 [])) ws.length (ws.getD 1 [])
def isL (x : It) (s : List Nat) : Bool := decide (x.code < 0) && x.lab == s
def tw (acc : List (It × Nat)) (x : It) : Bool := decide (x.code < 0) && acc.any fun y => isL y.1 x.lab
def sayN : List (List Nat) → Nat → List (It × Nat) → Nat ⊕ List (It × Nat)
  | [], _, acc => .inr acc
  | l :: r, i, acc => if wordsN l = [] then sayN r (i + 1) acc else
    match undN (wordsN l) with
    | none => .inl (i + 1)
    | some x => if tw acc x then .inl (i + 1) else sayN r (i + 1) (acc ++ [(x, i + 1)])
def plcL : List (It × Nat) → List Nat → Nat → Option Nat
  | [], _, _ => none
  | x :: r, s, p => if isL x.1 s then some p else plcL r s (p + x.1.bs.length)
def badN (all : List (It × Nat)) : List (It × Nat) → Option Nat
  | [] => none
  | x :: r => if x.1.tg ≠ [] ∧ plcL all x.1.tg 0 = none then some x.2 else badN all r
def outB (all : List (It × Nat)) (x : It) : List Nat := if x.tg = [] then x.bs else [x.bs.getD 0 0, (plcL all x.tg 0).getD 0 / 256 % 256, (plcL all x.tg 0).getD 0 % 256]
def flat (f : It → List Nat) (l : List (It × Nat)) : List Nat := l.flatMap fun x => f x.1
def lenN (l : List (It × Nat)) : Nat := (flat (·.bs) l).length
def jmps : List (It × Nat) → Nat → List (List Nat × Nat × Nat)
  | [], _ => []
  | x :: r, p => (if x.1.tg = [] then [] else [(x.1.tg, p, x.2)]) ++ jmps r (p + x.1.bs.length)
def labs : List (It × Nat) → Nat → List (List Nat × Nat)
  | [], _ => []
  | x :: r, p => (if x.1.code < 0 then [(x.1.lab, p)] else []) ++ labs r (p + x.1.bs.length)
def put2 (c : List Nat) (at' p : Nat) : List Nat := (c.set (at' + 1) (p / 256 % 256)).set (at' + 2) (p % 256)
def lkp (l : List (List Nat × Nat)) (s : List Nat) : Option Nat := (l.find? fun x => x.1 == s).map (·.2)
def patN (l : List (List Nat × Nat)) : List (List Nat × Nat × Nat) → List Nat → Nat ⊕ List Nat
  | [], c => .inr c
  | j :: r, c => match lkp l j.1 with
    | none => .inl j.2.2
    | some p => patN l r (put2 c j.2.1 (min p 1024))
def ItOK (x : It) : Prop := (x.tg ≠ [] → x.bs.length = 3 ∧ ¬ x.code < 0) ∧ (x.code < 0 → x.bs = [] ∧ x.tg = []) ∧ (¬ x.code < 0 → 0 < x.bs.length) ∧ Byt x.bs ∧ x.bs.length ≤ 34
theorem lenN_append (a b : List (It × Nat)) : lenN (a ++ b) = lenN a + lenN b := by simp [lenN, flat]
theorem flat_append (f : It → List Nat) (a b : List (It × Nat)) : flat f (a ++ b) = flat f a ++ flat f b := by simp [flat]
theorem flat_cons (f : It → List Nat) (x : It × Nat) (b : List (It × Nat)) : flat f (x :: b) = f x.1 ++ flat f b := by simp [flat]
theorem lenN_cons (x : It × Nat) (b : List (It × Nat)) : lenN (x :: b) = x.1.bs.length + lenN b := by simp [lenN, flat_cons]
theorem jmps_append (a b : List (It × Nat)) (p : Nat) : jmps (a ++ b) p = jmps a p ++ jmps b (p + lenN a) := by
  induction a generalizing p with
  | nil => simp [jmps, lenN, flat]
  | cons x a ih => rw [List.cons_append, jmps, jmps, ih, lenN_cons, List.append_assoc, Nat.add_assoc]
theorem labs_append (a b : List (It × Nat)) (p : Nat) : labs (a ++ b) p = labs a p ++ labs b (p + lenN a) := by
  induction a generalizing p with
  | nil => simp [labs, lenN, flat]
  | cons x a ih => rw [List.cons_append, labs, labs, ih, lenN_cons, List.append_assoc, Nat.add_assoc]
theorem lkp_labs (a : List (It × Nat)) (s : List Nat) (p : Nat) : lkp (labs a p) s = plcL a s p := by
  induction a generalizing p with
  | nil => rfl
  | cons x a ih =>
    rw [labs, plcL, ← ih]
    unfold isL lkp
    by_cases h : x.1.code < 0
    · rw [if_pos h, List.cons_append, List.nil_append, List.find?_cons]
      by_cases h2 : x.1.lab == s
      · simp [h, h2]
      · have h3 : (x.1.lab == s) = false := by simpa using h2
        simp only [h3]
        simp [h]
    · simp [h]
theorem tw_lkp (acc : List (It × Nat)) (x : It) (p : Nat) : tw acc x = (decide (x.code < 0) && (lkp (labs acc p) x.lab).isSome) := by
  rw [lkp_labs]
  unfold tw
  congr 1
  induction acc generalizing p with
  | nil => rfl
  | cons y r ih =>
    rw [List.any_cons, plcL, ih (p + y.1.bs.length)]
    by_cases h : isL y.1 x.lab = true
    · simp [h]
    · have : isL y.1 x.lab = false := by simpa using h
      simp [this]
theorem put2_len (c : List Nat) (q p : Nat) : (put2 c q p).length = c.length := by simp [put2]
theorem put2_mid (pre a b : List Nat) (h : a.length = 3) (p : Nat) : put2 (pre ++ (a ++ b)) pre.length p = pre ++ ([a.getD 0 0, p / 256 % 256, p % 256] ++ b) := by
  match a, h with
  | [x, y, z], _ =>
    unfold put2
    have e1 : ∀ (a b : List Nat) (i v : Nat), (a ++ b).set (a.length + i) v = a ++ b.set i v := fun a b i v => by
      rw [List.set_append, if_neg (by omega), Nat.add_sub_cancel_left]
    rw [e1, e1]; rfl
def outM (all : List (It × Nat)) (x : It) : List Nat := if x.tg = [] then x.bs else [x.bs.getD 0 0, min ((plcL all x.tg 0).getD 0) 1024 / 256 % 256, min ((plcL all x.tg 0).getD 0) 1024 % 256]
theorem pat_all (all : List (It × Nat)) : ∀ (l : List (It × Nat)) (pre : List Nat), (∀ x ∈ l, ItOK x.1) → patN (labs all 0) (jmps l pre.length) (pre ++ flat (·.bs) l) = match badN all l with
    | some k => .inl k
    | none => .inr (pre ++ flat (outM all) l)
  | [], pre, _ => rfl
  | x :: l, pre, h => by
    have hx := h x List.mem_cons_self
    have ih := fun pre => pat_all all l pre fun y hy => h y (List.mem_cons_of_mem _ hy)
    rw [jmps, badN, flat_cons, flat_cons]
    by_cases ht : x.1.tg = []
    · rw [if_pos ht, if_neg (by simp [ht]), List.nil_append, outM, if_pos ht]
      have := ih (pre ++ x.1.bs)
      rw [List.length_append] at this
      rw [← List.append_assoc, ← List.append_assoc, this]
    · rw [if_neg ht, List.cons_append, List.nil_append, patN, lkp_labs]
      cases hp : plcL all x.1.tg 0 with
      | none => simp only; rw [if_pos ⟨ht, trivial⟩]
      | some p =>
        simp only
        rw [if_neg (by simp)]
        have h3 := (hx.1 ht).1
        rw [put2_mid pre x.1.bs _ h3]
        have := ih (pre ++ [x.1.bs.getD 0 0, min p 1024 / 256 % 256, min p 1024 % 256])
        rw [List.length_append] at this
        rw [h3, ← List.append_assoc]
        simp only [List.length_cons, List.length_nil, Nat.zero_add] at this
        rw [this]
        simp only [outM, if_neg ht, hp, Option.getD_some, ← List.append_assoc]
theorem plcL_le (l : List (It × Nat)) (s : List Nat) : ∀ p q, plcL l s p = some q → q ≤ p + lenN l := by
  induction l with
  | nil => intro p q h; simp [plcL] at h
  | cons x r ih =>
    intro p q h
    rw [plcL] at h
    rw [lenN_cons]
    split at h
    · simp only [Option.some.injEq] at h; omega
    · have := ih _ _ h; omega
theorem outM_outB (all : List (It × Nat)) (h : lenN all ≤ 1024) (x : It) : outM all x = outB all x := by
  unfold outM outB
  have : (plcL all x.tg 0).getD 0 ≤ 1024 := by
    cases hp : plcL all x.tg 0 with
    | none => exact Nat.zero_le _
    | some q => have := plcL_le all x.tg 0 q hp; simp only [Option.getD_some]; omega
  rw [Nat.min_eq_left this]
theorem len_outM (all : List (It × Nat)) : ∀ (l : List (It × Nat)), (∀ x ∈ l, ItOK x.1) → (flat (outM all) l).length = lenN l
  | [], _ => rfl
  | x :: l, h => by
    have hx := h x List.mem_cons_self
    rw [flat_cons, lenN_cons, List.length_append, len_outM all l fun y hy => h y (List.mem_cons_of_mem _ hy)]
    unfold outM
    split
    · rfl
    · rename_i h3; rw [(hx.1 h3).1]; rfl
theorem len_outB (all : List (It × Nat)) : ∀ (l : List (It × Nat)), (∀ x ∈ l, ItOK x.1) → (flat (outB all) l).length = lenN l
  | [], _ => rfl
  | x :: l, h => by
    have hx := h x List.mem_cons_self
    rw [flat_cons, lenN_cons, List.length_append, len_outB all l fun y hy => h y (List.mem_cons_of_mem _ hy)]
    unfold outB
    split
    · rfl
    · rename_i h3; rw [(hx.1 h3).1]; rfl
theorem index_cons1 (b c : UInt8) (l : List UInt8) : Lib.index (b :: l) [c] = if b = c then 0 else if Lib.index l [c] = -1 then -1 else Lib.index l [c] + 1 := by
  rw [Lib.index]
  by_cases h : b = c
  · subst h; simp [List.isPrefixOf]
  · have hp : ([c] : List UInt8).isPrefixOf (b :: l) = false := by simp [List.isPrefixOf, Ne.symm h]
    rw [hp, if_neg (by simp), if_neg h]
    by_cases h2 : Lib.index l [c] = -1
    · rw [if_pos h2, if_pos (beq_iff_eq.2 h2)]
    · rw [if_neg h2, if_neg (fun e => h2 (beq_iff_eq.1 e))]
theorem splK (l : List UInt8) : ∃ h t, Lib.splitK [10] 0 (Lib.count l [10]) l = h :: t ∧ ∀ cur, spl10 cur (l.map (·.toNat)) = (cur ++ h.map (·.toNat)) :: t.map (·.map (·.toNat)) := by
  induction l with
  | nil => exact ⟨[], [], by rw [Lib.count_miss (by simp [Lib.index])]; rfl, fun cur => by simp [spl10]⟩
  | cons b l ih =>
    obtain ⟨h, t, e, hs⟩ := ih
    by_cases hb : b = 10
    · subst hb
      have hix : Lib.index (10 :: l) [10] = ((0 : Nat) : Int) := by rw [index_cons1]; simp
      have hm : ¬ (Lib.index (10 :: l) [10] == -1) = true := by rw [hix]; decide
      refine ⟨[], h :: t, ?_, fun cur => ?_⟩
      · rw [Lib.count_hit (by simp) hix, Nat.add_comm 1, Lib.splitK, if_neg hm, hix]
        simp only [Int.toNat_natCast, List.length_cons, List.length_nil, Nat.zero_add, List.drop_succ_cons, List.drop_zero, Nat.add_zero, List.take_zero]
        rw [e]
      · have e1 : (10 : UInt8).toNat = 10 := rfl
        rw [List.map_cons, spl10, e1, if_pos rfl, hs []]
        simp
    · have hne : ¬ b.toNat = 10 := fun h => hb (UInt8.toNat_inj.1 h)
      by_cases hm : Lib.index l [10] = -1
      · have hm2 : Lib.index (b :: l) [10] = -1 := by rw [index_cons1, if_neg hb, if_pos hm]
        have e2 : h = l ∧ t = [] := by
          rw [Lib.count_miss hm] at e
          simpa [Lib.splitK, eq_comm] using e
        obtain ⟨rfl, rfl⟩ := e2
        refine ⟨b :: h, [], by rw [Lib.count_miss hm2]; rfl, fun cur => ?_⟩
        rw [List.map_cons, spl10, if_neg hne, hs]
        simp
      · have hge := Lib.index_ge l [10]
        obtain ⟨j, hj⟩ : ∃ j : Nat, Lib.index l [10] = j := ⟨(Lib.index l [10]).toNat, by omega⟩
        have hj2 : Lib.index (b :: l) [10] = ((j + 1 : Nat) : Int) := by rw [index_cons1, if_neg hb, if_neg hm, hj]; omega
        rw [Lib.count_hit (by simp) hj, Nat.add_comm 1, Lib.splitK, if_neg (fun e => by have := beq_iff_eq.1 e; omega), hj] at e
        simp only [Int.toNat_natCast, Nat.add_zero, List.length_cons, List.length_nil, Nat.zero_add, List.cons.injEq] at e
        obtain ⟨e1, e2⟩ := e
        refine ⟨b :: h, t, ?_, fun cur => ?_⟩
        · rw [Lib.count_hit (by simp) hj2, Nat.add_comm 1, Lib.splitK, if_neg (fun e => by have := beq_iff_eq.1 e; omega), hj2]
          simp only [Int.toNat_natCast, Nat.add_zero, List.length_cons, List.length_nil, Nat.zero_add, List.take_succ_cons, List.drop_succ_cons]
          rw [e1, e2]
        · rw [List.map_cons, spl10, if_neg hne, hs]
          simp
theorem bys_split (s : ByteArray) : (Lib.splitB ⟨#[10]⟩ 0 (Lib.countB s ⟨#[10]⟩) s).map bys = spl10 [] (bys s) := by
  obtain ⟨h, t, e, hs⟩ := splK s.data.toList
  have := Lib.splitB_data ⟨#[10]⟩ 0 (Lib.countB s ⟨#[10]⟩) s
  have e2 : (Lib.splitB ⟨#[10]⟩ 0 (Lib.countB s ⟨#[10]⟩) s).map bys = ((Lib.splitB ⟨#[10]⟩ 0 (Lib.countB s ⟨#[10]⟩) s).map (·.data.toList)).map (·.map (·.toNat)) := by
    rw [List.map_map]; rfl
  rw [e2, this]
  have e3 : Lib.splitK [10] 0 (Lib.count s.data.toList [10]) s.data.toList = h :: t := e
  rw [show (⟨#[10]⟩ : ByteArray).data.toList = [10] from rfl]
  show (Lib.splitK [10] 0 (Lib.count s.data.toList [10]) s.data.toList).map _ = _
  rw [e3]
  unfold bys
  rw [hs []]
  simp
theorem cut_hash (l : List UInt8) : ((Lib.cut l [35]).1.map (·.toNat)) = (l.map (·.toNat)).takeWhile (· != 35) := by
  have key : ∀ l : List UInt8, (Lib.cut l [35]).1 = l.takeWhile (· != 35) := by
    intro l
    induction l with
    | nil => simp [Lib.cut, Lib.index]
    | cons b l ih =>
      unfold Lib.cut at ih ⊢
      rw [index_cons1]
      by_cases h : b = 35
      · subst h; simp
      · have e : (b :: l).takeWhile (· != 35) = b :: l.takeWhile (· != 35) := by rw [List.takeWhile_cons, if_pos (by simpa using h)]
        rw [if_neg h, e, ← ih]
        have hge := Lib.index_ge l [35]
        by_cases hm : Lib.index l [35] = -1
        · rw [if_pos hm, if_neg (by decide), if_neg (by omega)]
        · rw [if_neg hm, if_pos (by omega), if_pos (by omega)]
          have : (Lib.index l [35] + 1).toNat = (Lib.index l [35]).toNat + 1 := by omega
          rw [this]; rfl
  rw [key]
  induction l with
  | nil => rfl
  | cons b l ih =>
    rw [List.map_cons, List.takeWhile_cons, List.takeWhile_cons]
    by_cases h : b = 35
    · subst h; rfl
    · have h2 : ¬ b.toNat = 35 := fun e => h (UInt8.toNat_inj.1 e)
      rw [if_pos (by simpa using h), if_pos (by simpa using h2), List.map_cons, ih]
theorem fld_cut (cur l : List Nat) : fld cur (l.takeWhile (· != 35)) = fld cur l := by
  induction l generalizing cur with
  | nil => rfl
  | cons c l ih =>
    rw [List.takeWhile_cons]
    by_cases h : c = 35
    · rw [if_neg (by simp [h]), fld, fld, if_pos h]
    · rw [if_pos (by simpa using h), fld, fld, if_neg h, if_neg h, ih, ih]
theorem suff (l : List UInt8) : Lib.hasSuffix l [58] = decide ((l.map (·.toNat)).getLast? = some 58) ∧ (Lib.hasSuffix l [58] = true → (Lib.trimSuffix l [58]).map (·.toNat) = (l.map (·.toNat)).dropLast) := by
  have h1 : Lib.hasSuffix l [58] = decide ((l.map (·.toNat)).getLast? = some 58) := by
    unfold Lib.hasSuffix
    rw [Bool.eq_iff_iff, List.isSuffixOf_iff_suffix, decide_eq_true_iff, List.getLast?_map]
    constructor
    · rintro ⟨t, rfl⟩; simp
    · intro h
      rw [Option.map_eq_some_iff] at h
      obtain ⟨a, ha, hb⟩ := h
      have : a = 58 := UInt8.toNat_inj.1 hb
      subst this
      obtain ⟨ys, rfl⟩ := List.getLast?_eq_some_iff.1 ha
      exact ⟨ys, rfl⟩
  refine ⟨h1, fun h => ?_⟩
  unfold Lib.trimSuffix
  rw [if_pos h, List.dropLast_eq_take, List.map_take, List.length_map]
  rfl
def blank (r : Nat) : Bool := r == 32 || r == 9
theorem dec_hi (n b0 b1 b2 b3 : Nat) (h : 128 ≤ b0) : 128 ≤ (Lib.decodeN n b0 b1 b2 b3).1 ∧ ((Lib.decodeN n b0 b1 b2 b3).2 = 1 ∨ ((Lib.decodeN n b0 b1 b2 b3).2 = 2 ∧ 128 ≤ b1) ∨ ((Lib.decodeN n b0 b1 b2 b3).2 = 3 ∧ 128 ≤ b1 ∧ 128 ≤ b2) ∨ ((Lib.decodeN n b0 b1 b2 b3).2 = 4 ∧ 128 ≤ b1 ∧ 128 ≤ b2 ∧ 128 ≤ b3)) := by
  unfold Lib.decodeN
  repeat' split
  all_goals refine ⟨?_, ?_⟩
  all_goals first
    | (show 128 ≤ _; omega)
    | exact .inl rfl
    | exact .inr (.inl ⟨rfl, by omega⟩)
    | exact .inr (.inr (.inl ⟨rfl, by omega, by omega⟩))
    | exact .inr (.inr (.inr ⟨rfl, by omega, by omega, by omega⟩))
theorem bys_getD (s : ByteArray) (i : Nat) : (s.data.toList.getD i 0).toNat = (bys s).getD i 0 := by
  unfold bys
  rw [List.getD_eq_getElem?_getD, List.getD_eq_getElem?_getD, List.getElem?_map]
  cases s.data.toList[i]? <;> rfl
theorem bys_extract (s : ByteArray) (a b : Nat) : bys (s.extract a b) = ((bys s).drop a).take (b - a) := by
  unfold bys
  rw [Lib.extract_data, List.map_take, List.map_drop]
theorem fld_skip : ∀ (k : Nat) (l cur : List Nat), (∀ i, i < k → i < l.length ∧ l.getD i 0 ≠ 35 ∧ l.getD i 0 ≠ 32 ∧ l.getD i 0 ≠ 9) → fld cur l = fld (cur ++ l.take k) (l.drop k)
  | 0, l, cur, _ => by simp
  | k + 1, [], cur, h => by have := (h 0 (by omega)).1; simp at this
  | k + 1, c :: l, cur, h => by
    obtain ⟨_, h1, h2, h3⟩ := h 0 (by omega)
    simp only [List.getD_cons_zero] at h1 h2 h3
    rw [fld, if_neg h1, if_neg (by omega), fld_skip k l (cur ++ [c]) fun i hi => by
      have := h (i + 1) (by omega)
      simp only [List.length_cons, List.getD_cons_succ] at this
      exact ⟨by omega, this.2⟩]
    simp
def openP (s : ByteArray) (st : Option Nat) (pos : Nat) : List Nat := match st with
  | some a => ((bys s).drop a).take (pos - a)
  | none => []
theorem openP_grow (s : ByteArray) (a pos k : Nat) (h : a ≤ pos) : openP s (some a) pos ++ ((bys s).drop pos).take k = openP s (some a) (pos + k) := by
  have e : (bys s).drop pos = ((bys s).drop a).drop (pos - a) := by rw [List.drop_drop]; congr 1; omega
  show ((bys s).drop a).take (pos - a) ++ _ = ((bys s).drop a).take (pos + k - a)
  rw [e, show pos + k - a = (pos - a) + k by omega, List.take_add]
theorem clo_open (s : ByteArray) (a pos : Nat) (h : a < pos) (hp : pos ≤ s.size) : clo (openP s (some a) pos) = [openP s (some a) pos] := by
  unfold clo
  rw [if_neg]
  intro h0
  have := congrArg List.length h0
  unfold openP at this
  rw [List.length_take, List.length_drop, length_bys] at this
  simp at this
  omega
theorem flds_end (s : ByteArray) (pos : Nat) (st : Option Nat) (acc : List (Nat × Nat)) (hp : pos = s.size) (hst : ∀ a, st = some a → a < pos) : (Lib.closeSpans s (acc, st)).map (fun x => bys (s.extract x.1 x.2)) = acc.map (fun x => bys (s.extract x.1 x.2)) ++ fld (openP s st pos) ((bys s).drop pos) := by
  subst hp
  rw [List.drop_of_length_le (by rw [length_bys]; exact Nat.le_refl _), fld]
  cases st with
  | none => simp [Lib.closeSpans, openP, clo]
  | some a =>
    rw [clo_open s a _ (hst a rfl) (Nat.le_refl _)]
    simp only [Lib.closeSpans, List.map_append, List.map_cons, List.map_nil, bys_extract]
    rfl
theorem flds (s : ByteArray) (h35 : ∀ i, i < s.size → (bys s).getD i 0 ≠ 35) : ∀ (f pos : Nat) (st : Option Nat) (acc : List (Nat × Nat)), s.size ≤ pos + f → pos ≤ s.size → (∀ a, st = some a → a < pos) →
    (Lib.closeSpans s (Lib.spansFromP blank s f pos st acc)).map (fun x => bys (s.extract x.1 x.2)) = acc.map (fun x => bys (s.extract x.1 x.2)) ++ fld (openP s st pos) ((bys s).drop pos)
  | 0, pos, st, acc, h1, h2, h3 => flds_end s pos st acc (by omega) h3
  | f + 1, pos, st, acc, h1, h2, h3 => by
    by_cases hp : pos < s.size
    · have hlen : pos < (bys s).length := by rw [length_bys]; exact hp
      have hd : (bys s).drop pos = (bys s).getD pos 0 :: (bys s).drop (pos + 1) := by
        rw [List.getD_eq_getElem?_getD, List.getElem?_eq_getElem hlen]; exact List.drop_eq_getElem_cons hlen
      rw [Lib.spansFromP.eq_def]
      simp only [hp, if_true]
      rw [Lib.decode_N, bys_getD, bys_getD, bys_getD, bys_getD, ← Lib.size_eq]
      have hwn := Lib.decodeN_le_n' (s.size - pos) ((bys s).getD pos 0) ((bys s).getD (pos + 1) 0) ((bys s).getD (pos + 2) 0) ((bys s).getD (pos + 3) 0) (by omega)
      by_cases hb : (bys s).getD pos 0 < 128
      · rw [Lib.decodeN_ascii _ _ _ _ _ hb]
        simp only
        by_cases hbl : blank ((bys s).getD pos 0) = true
        · rw [if_pos hbl]
          have hbl2 : (bys s).getD pos 0 = 32 ∨ (bys s).getD pos 0 = 9 := by simpa [blank] using hbl
          rw [hd, fld, if_neg (h35 pos hp), if_pos hbl2]
          cases st with
          | none =>
            simp only
            rw [flds s h35 f (pos + 1) none acc (by omega) (by omega) (fun a h => by cases h)]
            simp [openP, clo]
          | some a =>
            simp only
            rw [flds s h35 f (pos + 1) none _ (by omega) (by omega) (fun a h => by cases h), clo_open s a pos (h3 a rfl) h2]
            simp only [List.map_append, List.map_cons, List.map_nil, bys_extract, List.append_assoc]
            rfl
        · rw [if_neg hbl]
          have hbl2 : ¬ ((bys s).getD pos 0 = 32 ∨ (bys s).getD pos 0 = 9) := by simpa [blank] using hbl
          rw [hd, fld, if_neg (h35 pos hp), if_neg hbl2]
          have e1 : ((bys s).drop pos).take 1 = [(bys s).getD pos 0] := by rw [hd]; rfl
          cases st with
          | none =>
            simp only
            rw [flds s h35 f (pos + 1) (some pos) acc (by omega) (by omega) (fun a h => by cases h; omega), ← openP_grow s pos pos 1 (Nat.le_refl _), e1]
            simp [openP]
          | some a =>
            simp only
            rw [flds s h35 f (pos + 1) (some a) acc (by omega) (by omega) (fun b h => by cases h; have := h3 a rfl; omega), ← openP_grow s a pos 1 (by have := h3 a rfl; omega), e1]
      · obtain ⟨hr, hk⟩ := dec_hi (s.size - pos) ((bys s).getD pos 0) ((bys s).getD (pos + 1) 0) ((bys s).getD (pos + 2) 0) ((bys s).getD (pos + 3) 0) (by omega)
        generalize Lib.decodeN (s.size - pos) ((bys s).getD pos 0) ((bys s).getD (pos + 1) 0) ((bys s).getD (pos + 2) 0) ((bys s).getD (pos + 3) 0) = rk at hr hk hwn ⊢
        obtain ⟨r, k⟩ := rk
        simp only at hr hk hwn ⊢
        have hk1 : 1 ≤ k := by omega
        have hbl : ¬ blank r = true := by simp [blank]; omega
        rw [if_neg hbl]
        have hall : ∀ i, i < k → i < ((bys s).drop pos).length ∧ ((bys s).drop pos).getD i 0 ≠ 35 ∧ ((bys s).drop pos).getD i 0 ≠ 32 ∧ ((bys s).drop pos).getD i 0 ≠ 9 := by
          intro i hi
          have e : ((bys s).drop pos).getD i 0 = (bys s).getD (pos + i) 0 := by
            rw [List.getD_eq_getElem?_getD, List.getD_eq_getElem?_getD, List.getElem?_drop]
          have : 128 ≤ (bys s).getD (pos + i) 0 := by
            have h4 : i = 0 ∨ i = 1 ∨ i = 2 ∨ i = 3 := by omega
            rcases h4 with rfl | rfl | rfl | rfl
            · rw [Nat.add_zero]; omega
            · omega
            · omega
            · omega
          rw [e, List.length_drop, length_bys]
          omega
        rw [fld_skip k _ _ hall, List.drop_drop]
        cases st with
        | none =>
          simp only
          rw [flds s h35 f (pos + k) (some pos) acc (by omega) (by omega) (fun a h => by cases h; omega), ← openP_grow s pos pos k (Nat.le_refl _)]
          simp [openP]
        | some a =>
          simp only
          rw [flds s h35 f (pos + k) (some a) acc (by omega) (by omega) (fun b h => by cases h; have := h3 a rfl; omega), ← openP_grow s a pos k (by have := h3 a rfl; omega)]
    · rw [Lib.spansFromP_end _ _ _ _ _ _ hp]
      exact flds_end s pos st acc (by omega) h3
theorem words_lib (s : ByteArray) : (Lib.goFieldsP blank ⟨(Lib.cut s.data.toList [35]).1.toArray⟩).map bys = wordsN (bys s) := by
  have hc : bys ⟨(Lib.cut s.data.toList [35]).1.toArray⟩ = (bys s).takeWhile (· != 35) := cut_hash s.data.toList
  have hg : ∀ t : ByteArray, (Lib.goFieldsP blank t).map bys = (Lib.closeSpans t (Lib.spansFromP blank t t.size 0 none [])).map (fun x => bys (t.extract x.1 x.2)) := fun t => by
    unfold Lib.goFieldsP Lib.spansOfP
    rw [List.map_map]; rfl
  rw [hg, flds _ (fun i hi => by
    rw [hc]
    rw [← length_bys, hc] at hi
    have := List.all_eq_true.1 (List.all_takeWhile (p := (· != 35)) (l := bys s)) _ (List.getElem_mem hi)
    rw [List.getD_eq_getElem?_getD, List.getElem?_eq_getElem hi]
    simpa using this) _ 0 none [] (by omega) (Nat.zero_le _) (fun a h => by cases h)]
  rw [hc]
  simp only [List.map_nil, List.nil_append, List.drop_zero, openP]
  exact fld_cut [] (bys s)
section
variable {P : Program} {w : World} {ρ : Operand → Value} {dst : Option Tmp} {ty : TypeId} {pos : String} {af : Array Edge} {g : Option (Nat × Bool)} {x y z : Operand} {T : TypeId}
theorem extract_bstr (s : ByteArray) (a b : Nat) : s.extract a b = bstr (((bys s).drop a).take (b - a)) := by rw [← bys_extract, bstr_bys]
theorem R.strMid {k k' : IntKind} {i j : Int} {s : ByteArray} (hT : P.underlying T = some .string) (hx : ρ x = .string s) (hy : ρ y = .int k i) (hz : ρ z = .int k' j) (h0 : 0 ≤ i) (h1 : i ≤ j) (h2 : j ≤ s.size) :
    (execOp ρ ⟨dst, .slice T x (some y) (some z) none, ty, pos, af, g⟩).run P w = .ok (.value (.string (bstr (((bys s).drop i.toNat).take (j.toNat - i.toNat))))) w := by
  have := run_slice_string (P := P) w T s k k' i j hT h0 h1 h2
  simp only [execOp, hx, hy, hz, Option.map_some, Option.map_none, run_sliceAt_string _ _ _ _ _ _ hT, this, Sem.run_bind, Sem.run_pure, Result.andThen_ok, extract_bstr]
theorem R.strTo {k : IntKind} {j : Int} {s : ByteArray} (hT : P.underlying T = some .string) (hx : ρ x = .string s) (hz : ρ z = .int k j) (h0 : 0 ≤ j) (h2 : j ≤ s.size) :
    (execOp ρ ⟨dst, .slice T x none (some z) none, ty, pos, af, g⟩).run P w = .ok (.value (.string (bstr ((bys s).take j.toNat)))) w := by
  have := run_slice_string_to_if (P := P) w T s k j hT
  rw [if_pos ⟨h0, h2⟩, extract_bstr, List.drop_zero, Nat.sub_zero] at this
  simp only [execOp, hx, hz, Option.map_some, Option.map_none, run_sliceAt_string _ _ _ _ _ _ hT, this, Sem.run_bind, Sem.run_pure, Result.andThen_ok]
theorem R.strFrom {k : IntKind} {i : Int} {s : ByteArray} (hT : P.underlying T = some .string) (hx : ρ x = .string s) (hz : ρ z = .int k i) (h0 : 0 ≤ i) (h2 : i ≤ s.size) :
    (execOp ρ ⟨dst, .slice T x (some z) none none, ty, pos, af, g⟩).run P w = .ok (.value (.string (bstr ((bys s).drop i.toNat)))) w := by
  have := run_slice_string_from_if (P := P) w T s k i hT
  rw [if_pos ⟨h0, h2⟩, extract_bstr, List.take_of_length_le (by rw [List.length_drop, length_bys]; omega)] at this
  simp only [execOp, hx, hz, Option.map_some, Option.map_none, run_sliceAt_string _ _ _ _ _ _ hT, this, Sem.run_bind, Sem.run_pure, Result.andThen_ok]
end
theorem take_snoc {α : Type} (d : α) (xs : List α) (i : Nat) (h : i < xs.length) : xs.take (i + 1) = xs.take i ++ [xs.getD i d] := by
  rw [List.take_succ_eq_append_getElem h, List.getD_eq_getElem?_getD, List.getElem?_eq_getElem h]; rfl
theorem drop_cons {α : Type} (d : α) (xs : List α) (i : Nat) (h : i < xs.length) : xs.drop i = xs.getD i d :: xs.drop (i + 1) := by
  rw [List.getD_eq_getElem?_getD, List.getElem?_eq_getElem h]; exact List.drop_eq_getElem_cons h
theorem okL_head {xs : List Nat} (h : xs.length < 1 ∨ 30 < xs.length ∨ ¬ (97 ≤ xs.getD 0 0 ∧ xs.getD 0 0 ≤ 122 ∨ 65 ≤ xs.getD 0 0 ∧ xs.getD 0 0 ≤ 90)) : okL xs = false := by
  unfold okL isLet
  rcases h with h | h | h
  · have : Nat.ble 1 xs.length = false := by rw [← Bool.not_eq_true, Nat.ble_eq]; omega
    rw [this]; rfl
  · have : Nat.ble xs.length 30 = false := by rw [← Bool.not_eq_true, Nat.ble_eq]; omega
    rw [this]; simp
  · rw [decide_eq_false h]; simp
theorem okL_bad {xs : List Nat} {i : Nat} (hi : i < xs.length) (h : ¬ ((97 ≤ xs.getD i 0 ∧ xs.getD i 0 ≤ 122 ∨ 65 ≤ xs.getD i 0 ∧ xs.getD i 0 ≤ 90) ∨ (48 ≤ xs.getD i 0 ∧ xs.getD i 0 ≤ 57) ∨ xs.getD i 0 = 95)) : okL xs = false := by
  have : xs.all labC = false := by
    rw [Bool.eq_false_iff]; intro ha
    have := List.all_eq_true.1 ha (xs.getD i 0) (by rw [List.getD_eq_getElem?_getD, List.getElem?_eq_getElem hi]; exact List.getElem_mem hi)
    exact h (of_decide_eq_true this)
  unfold okL
  rw [this]; simp
theorem okL_good {xs : List Nat} (h : ¬ (xs.length < 1 ∨ 30 < xs.length ∨ ¬ (97 ≤ xs.getD 0 0 ∧ xs.getD 0 0 ≤ 122 ∨ 65 ≤ xs.getD 0 0 ∧ xs.getD 0 0 ≤ 90))) (ha : xs.all labC = true) : okL xs = true := by
  have h1 : 1 ≤ xs.length ∧ xs.length ≤ 30 ∧ (97 ≤ xs.getD 0 0 ∧ xs.getD 0 0 ≤ 122 ∨ 65 ≤ xs.getD 0 0 ∧ xs.getD 0 0 ≤ 90) := by omega
  unfold okL isLet
  rw [ha, decide_eq_true h1.2.2, show Nat.ble 1 xs.length = true from by rw [Nat.ble_eq]; exact h1.1, show Nat.ble xs.length 30 = true from by rw [Nat.ble_eq]; exact h1.2.1]; rfl
theorem lab_step {xs : List Nat} {i : Nat} (hi : i < xs.length) (ha : (xs.take i).all labC = true) (h : (97 ≤ xs.getD i 0 ∧ xs.getD i 0 ≤ 122 ∨ 65 ≤ xs.getD i 0 ∧ xs.getD i 0 ≤ 90) ∨ (48 ≤ xs.getD i 0 ∧ xs.getD i 0 ≤ 57) ∨ xs.getD i 0 = 95) : (xs.take (i + 1)).all labC = true := by
  rw [take_snoc 0 xs i hi, List.all_append, ha]
  simp only [List.all_cons, List.all_nil, Bool.and_true, Bool.true_and]
  exact decide_eq_true h
theorem byt_take {xs : List Nat} (h : Byt xs) (k : Nat) : Byt (xs.take k) := fun b hb => h b (List.mem_of_mem_take hb)
theorem last_getD {xs : List Nat} (h : 0 < xs.length) : xs.getLast? = some (xs.getD (xs.length - 1) 0) := by
  rw [List.getLast?_eq_getElem?, List.getD_eq_getElem?_getD, List.getElem?_eq_getElem (by omega)]; rfl
theorem lbl_isLab (xs : List Nat) : (lblN xs).2 = isLab xs [] ∧ (isLab xs [] = true → (lblN xs).1 = xs.dropLast) := by
  unfold lblN isLab
  simp only [decide_true, Bool.true_and]
  by_cases h0 : 0 < xs.length
  · rw [last_getD h0]
    by_cases h : xs.length < 2 ∨ 31 < xs.length ∨ ¬ xs.getD (xs.length - 1) 0 = 58
    · rw [if_pos h]
      have hf : (decide (some (xs.getD (xs.length - 1) 0) = some 58) && okL xs.dropLast) = false := by
        by_cases h2 : xs.getD (xs.length - 1) 0 = 58
        · have : okL xs.dropLast = false := okL_head (by rw [List.length_dropLast]; omega)
          rw [this]; simp
        · have : ¬ some (xs.getD (xs.length - 1) 0) = some 58 := fun e => h2 (Option.some.inj e)
          rw [decide_eq_false this]; rfl
      rw [hf]
      exact ⟨rfl, fun h => by cases h⟩
    · rw [if_neg h]
      have h2 : xs.getD (xs.length - 1) 0 = 58 := by omega
      rw [h2, List.dropLast_eq_take]
      simp
  · have : xs = [] := by
      cases xs with
      | nil => rfl
      | cons a l => simp at h0
    subst this
    simp
theorem codeN_hit {xs : List Nat} {i : Nat} (hi : i < 28) (h : nameN i = xs) (hn : ∀ j, j < i → nameN j ≠ xs) : codeN xs = i := by
  unfold codeN
  have hl : namesL.length = 28 := rfl
  rw [List.findIdx_eq (by omega)]
  refine ⟨?_, fun j hj => ?_⟩
  · rw [← h]; unfold nameN; rw [List.getD_eq_getElem?_getD, List.getElem?_eq_getElem (by omega)]; simp
  · have := hn j hj
    unfold nameN at this
    rw [List.getD_eq_getElem?_getD, List.getElem?_eq_getElem (by omega)] at this
    simpa using this
theorem codeN_none {xs : List Nat} (hn : ∀ j, j < 28 → nameN j ≠ xs) : codeN xs = 28 := by
  unfold codeN
  have hl : namesL.length = 28 := rfl
  rw [← hl]
  refine List.findIdx_eq_length.2 fun x hx => ?_
  obtain ⟨j, hj, rfl⟩ := List.mem_iff_getElem.1 hx
  have := hn j (by omega)
  unfold nameN at this
  rw [List.getD_eq_getElem?_getD, List.getElem?_eq_getElem hj] at this
  simpa using this
theorem byt_name (j : Nat) : Byt (nameN j) := by
  by_cases h : j < 28
  · have : ∀ j, j < 28 → ∀ b ∈ nameN j, b < 256 := by decide
    exact this j h
  · unfold nameN; rw [List.getD_eq_getElem?_getD, List.getElem?_eq_none (by show 28 ≤ j; omega)]
    intro b hb; cases hb
theorem name_str {j : Nat} {s : ByteArray} : bstr (nameN j) = s ↔ nameN j = bys s := by
  constructor
  · rintro rfl; exact (bys_bstr (byt_name j)).symm
  · intro h; rw [h, bstr_bys]
theorem trim0_len (l : List Nat) : (trim0 l).length ≤ l.length ∧ (l ≠ [] → 0 < (trim0 l).length) ∧ (Byt l → Byt (trim0 l)) := by
  induction l with
  | nil => exact ⟨Nat.le_refl _, fun h => absurd rfl h, fun h => h⟩
  | cons c r ih =>
    rw [trim0]
    split
    · rename_i h
      exact ⟨by have := ih.1; simp only [List.length_cons]; omega, fun _ => ih.2.1 h.2, fun hb => ih.2.2 fun b hb2 => hb b (List.mem_cons_of_mem _ hb2)⟩
    · exact ⟨Nat.le_refl _, fun _ => by simp, fun h => h⟩
theorem trim0_drop {l : List Nat} : ∀ j, j < l.length → (∀ i, i < j → l.getD i 0 = 0) → trim0 l = trim0 (l.drop j) := by
  induction l with
  | nil => intro j h; simp at h
  | cons c r ih =>
    intro j h hz
    cases j with
    | zero => rfl
    | succ j =>
      have h0 : c = 0 := hz 0 (by omega)
      have h1 : r ≠ [] := by
        intro e; subst e; simp at h
      rw [trim0, if_pos ⟨h0, h1⟩, List.drop_succ_cons]
      exact ih j (by simpa using h) fun i hi => by have := hz (i + 1) (by omega); simpa using this
theorem trim0_stop {l : List Nat} (h : l.length = 1 ∨ l.getD 0 0 ≠ 0) : trim0 l = l := by
  cases l with
  | nil => rfl
  | cons c r =>
    rw [trim0, if_neg]
    rintro ⟨h1, h2⟩
    rcases h with h | h
    · simp only [List.length_cons] at h; exact h2 (List.eq_nil_of_length_eq_zero (by omega))
    · exact h h1
theorem psh_len (n : Nat) : 3 ≤ (pshN n).length ∧ (pshN n).length ≤ 34 ∧ Byt (pshN n) := by
  have h := trim0_len (toB 32 n)
  have h1 : (toB 32 n).length = 32 := length_toB 32 n
  have h2 : 0 < (trim0 (toB 32 n)).length := h.2.1 (by intro e; rw [e] at h1; simp at h1)
  have h3 := h.1
  unfold pshN
  simp only [List.length_cons]
  refine ⟨by omega, by omega, fun b hb => ?_⟩
  rcases List.mem_cons.1 hb with rfl | hb
  · decide
  rcases List.mem_cons.1 hb with rfl | hb
  · omega
  · exact h.2.2 toB_lt b hb
theorem ins_ok {c n : Nat} {b : List Nat} {x : It} (h : insM c n b = some x) : ItOK x ∧ ¬ x.code < 0 := by
  unfold insM at h
  split at h
  · cases h
  rename_i h1
  have hc : c < 28 := by omega
  split at h
  · obtain rfl := (Option.some.inj h).symm
    exact ⟨⟨fun h => absurd rfl h, fun h => by simp only at h; omega, fun _ => by simp, fun d hd => by simp at hd; omega, by simp⟩, by simp only; omega⟩
  split at h
  · split at h
    · obtain rfl := (Option.some.inj h).symm
      exact ⟨⟨fun h => ⟨rfl, by simp only; omega⟩, fun h => by simp only at h; omega, fun _ => by simp, fun d hd => by simp at hd; omega, by simp⟩, by simp only; omega⟩
    · cases h
  split at h
  · cases h
  rename_i m _
  split at h
  · obtain rfl := (Option.some.inj h).symm
    have hp := psh_len m
    exact ⟨⟨fun h => absurd rfl h, fun h => by simp only at h; omega, fun _ => by show 0 < (pshN m).length; omega, hp.2.2, hp.2.1⟩, by simp only; omega⟩
  split at h
  · cases h
  rename_i h5
  obtain rfl := (Option.some.inj h).symm
  have hm : m ≤ 255 := by have : mostN c ≤ 255 := by (unfold mostN; split <;> omega); 
                          omega
  exact ⟨⟨fun h => absurd rfl h, fun h => by simp only at h; omega, fun _ => by simp, fun d hd => by simp at hd; omega, by simp⟩, by simp only; omega⟩
theorem und_ok {ws : List (List Nat)} {x : It} (h : undN ws = some x) : ItOK x := by
  unfold undN at h
  split at h
  · obtain rfl := (Option.some.inj h).symm
    exact ⟨fun h => absurd rfl h, fun _ => ⟨rfl, rfl⟩, fun h => absurd (show (-1 : Int) < 0 by decide) h, fun b hb => by simp at hb, by simp⟩
  · exact (ins_ok h).1
theorem tok_big {a m l : Nat} (ha : a < 115792089237316195423570985008687907853269984665640564039457584007913129639936) (hm : m ≤ 255) (hl : l ≤ m) : (¬ dg a 1 = 0 ∨ ¬ dg a 2 = 0 ∨ ¬ dg a 3 = 0 ∨ m < dg a 0 ∨ dg a 0 < l) ↔ (m < a ∨ a < l) := by
  rw [dg0, dg1, dg2, dg3]
  omega
end Go.Proofs.YtlapmbkfmbkdoaaGreatDoor
end
section
namespace Go.Proofs.YtlapmbkfmbkdoaaGreatDoor
open Go Go.Fw Go.RowKit
attribute [local irreducible] Go.Oper.wp Go.Code.wp Go.wpList Go.Fw.WL Go.Calls
theorem letter_calls (c : Nat) (w0 : World) : Ret Tryz.prog 131 [.int .u8 ((c : Nat) : Int)] w0 [] (fun v s => v = .bool (decide (97 ≤ c ∧ c ≤ 122 ∨ 65 ≤ c ∧ c ≤ 90)) ∧ s = []) := by
 refine fn_start Tryz.func131 Y Tryz.ntmps131 Y [(0, .int .u8 ((c : Nat) : Int))] ⟨Y, trivial⟩ ?_
 intro Q a hP J hR hN
 have G := St.start w0
 refine wp_seq_k fun K1 hK1=> wp_region_lit <| av J Y Y fun a J=> s0 <| then_n (hK1 _ _ <| wp_seq_k fun K2 hK2=> wp_region_lit <| mv J Y Y fun a J=> sw J Y Y Y (R.geq (J.ev Y) (J.ev Y)) fun a J=> mv J Y Y fun a J=> J.splitD (t := 5) Y (fun h5 J=> ?_) (fun h5 J=> ?_))
 ·refine my J Y Y Y Y fun a J=> sv' J (wy J Y Y Y) Y Y (R.leq (J.ev Y) (J.ev Y)) fun a J=> pT J Y Y Y fun a J=> mv J Y Y fun a J=> J.splitD (t := 9) Y (fun h9 J=> ?_) (fun h9 J=> ?_)
  ·refine kz J Y Y Y Y Y Y fun a J=> kz J Y Y Y Y Y Y fun a J=> kz J Y Y Y Y Y Y fun a J=> ku J Y Y Y Y Y fun a J=> ku J Y Y Y Y Y fun a J=> kz J Y Y Y Y Y Y fun a J=> pT J Y Y Y fun a J=> av J Y Y fun a J=> s0 <| then_n (hK2 _ _ <| wp_ret (hR _ _ _ _ _ J (run_results Tryz.results131 (.t J Y (.nil))) ?_))
   exact ⟨_, [], Y, ⟨(congrArg Value.bool (by first | exact (decide_eq_true (by omega)).symm | exact (decide_eq_false (by omega)).symm | exact decide_eq_decide.2 (by omega))), Y⟩, G.none⟩
  refine my J Y Y Y Y fun a J=> sv' J (wy J Y Y Y) Y Y (R.geq (J.ev Y) (J.ev Y)) fun a J=> my J Y Y Y Y fun a J=> J.splitD (t := 12) Y (fun h12 J=> ?_) (fun h12 J=> ?_)
  ·refine my J Y Y Y Y fun a J=> sv' J (wy J Y Y Y) Y Y (R.leq (J.ev Y) (J.ev Y)) fun a J=> sv' J (wy J Y Y Y) Y Y (R.pickT (J.ev Y) (J.ev Y)) fun a J=> pF J Y Y Y fun a J=> av J Y Y fun a J=> s0 <| then_n (hK2 _ _ <| wp_ret (hR _ _ _ _ _ J (run_results Tryz.results131 (.t J Y (.nil))) ?_))
   exact ⟨_, [], Y, ⟨(congrArg Value.bool (by first | exact (decide_eq_true (by omega)).symm | exact (decide_eq_false (by omega)).symm | exact decide_eq_decide.2 (by omega))), Y⟩, G.none⟩
  refine kz J Y Y Y Y Y Y fun a J=> kz J Y Y Y Y Y Y fun a J=> sv' J (wy J Y Y Y) Y Y (R.pickF (J.ev Y) (J.ev Y)) fun a J=> pF J Y Y Y fun a J=> av J Y Y fun a J=> s0 <| then_n (hK2 _ _ <| wp_ret (hR _ _ _ _ _ J (run_results Tryz.results131 (.t J Y (.nil))) ?_))
  exact ⟨_, [], Y, ⟨(congrArg Value.bool (by first | exact (decide_eq_true (by omega)).symm | exact (decide_eq_false (by omega)).symm | exact decide_eq_decide.2 (by omega))), Y⟩, G.none⟩
 refine kz J Y Y Y Y Y Y fun a J=> kz J Y Y Y Y Y Y fun a J=> pF J Y Y Y fun a J=> mv J Y Y fun a J=> my J Y Y Y Y fun a J=> sv' J (wy J Y Y Y) Y Y (R.geq (J.ev Y) (J.ev Y)) fun a J=> my J Y Y Y Y fun a J=> J.splitD (t := 12) Y (fun h12 J=> ?_) (fun h12 J=> ?_)
 ·refine my J Y Y Y Y fun a J=> sv' J (wy J Y Y Y) Y Y (R.leq (J.ev Y) (J.ev Y)) fun a J=> sv' J (wy J Y Y Y) Y Y (R.pickT (J.ev Y) (J.ev Y)) fun a J=> pF J Y Y Y fun a J=> av J Y Y fun a J=> s0 <| then_n (hK2 _ _ <| wp_ret (hR _ _ _ _ _ J (run_results Tryz.results131 (.t J Y (.nil))) ?_))
  exact ⟨_, [], Y, ⟨(congrArg Value.bool (by first | exact (decide_eq_true (by omega)).symm | exact (decide_eq_false (by omega)).symm | exact decide_eq_decide.2 (by omega))), Y⟩, G.none⟩
 refine kz J Y Y Y Y Y Y fun a J=> kz J Y Y Y Y Y Y fun a J=> sv' J (wy J Y Y Y) Y Y (R.pickF (J.ev Y) (J.ev Y)) fun a J=> pF J Y Y Y fun a J=> av J Y Y fun a J=> s0 <| then_n (hK2 _ _ <| wp_ret (hR _ _ _ _ _ J (run_results Tryz.results131 (.t J Y (.nil))) ?_))
 exact ⟨_, [], Y, ⟨(congrArg Value.bool (by first | exact (decide_eq_true (by omega)).symm | exact (decide_eq_false (by omega)).symm | exact decide_eq_decide.2 (by omega))), Y⟩, G.none⟩
theorem digit_calls (c : Nat) (w0 : World) : Ret Tryz.prog 132 [.int .u8 ((c : Nat) : Int)] w0 [] (fun v s => v = .bool (decide (48 ≤ c ∧ c ≤ 57)) ∧ s = []) := by
 refine fn_start Tryz.func132 Y Tryz.ntmps132 Y [(0, .int .u8 ((c : Nat) : Int))] ⟨Y, trivial⟩ ?_
 intro Q a hP J hR hN
 have G := St.start w0
 refine wp_seq_k fun K1 hK1=> wp_region_lit <| av J Y Y fun a J=> s0 <| then_n (hK1 _ _ <| wp_seq_k fun K2 hK2=> wp_region_lit <| mv J Y Y fun a J=> sw J Y Y Y (R.geq (J.ev Y) (J.ev Y)) fun a J=> mv J Y Y fun a J=> J.splitD (t := 5) Y (fun h5 J=> ?_) (fun h5 J=> ?_))
 ·refine my J Y Y Y Y fun a J=> sv' J (wy J Y Y Y) Y Y (R.leq (J.ev Y) (J.ev Y)) fun a J=> pT J Y Y Y fun a J=> av J Y Y fun a J=> s0 <| then_n (hK2 _ _ <| wp_ret (hR _ _ _ _ _ J (run_results Tryz.results132 (.t J Y (.nil))) ?_))
  exact ⟨_, [], Y, ⟨(congrArg Value.bool (by first | exact (decide_eq_true (by omega)).symm | exact (decide_eq_false (by omega)).symm | exact decide_eq_decide.2 (by omega))), Y⟩, G.none⟩
 refine kz J Y Y Y Y Y Y fun a J=> kz J Y Y Y Y Y Y fun a J=> pF J Y Y Y fun a J=> av J Y Y fun a J=> s0 <| then_n (hK2 _ _ <| wp_ret (hR _ _ _ _ _ J (run_results Tryz.results132 (.t J Y (.nil))) ?_))
 exact ⟨_, [], Y, ⟨(congrArg Value.bool (by first | exact (decide_eq_true (by omega)).symm | exact (decide_eq_false (by omega)).symm | exact decide_eq_decide.2 (by omega))), Y⟩, G.none⟩
theorem named_calls (s : ByteArray) (w0 : World) : Ret Tryz.prog 104 [.string s] w0 [] (fun v q => v = .bool (okL (bys s)) ∧ q = []) := by
 refine fn_start Tryz.func104 Y Tryz.ntmps104 Y [(0, .string s)] ⟨Y, trivial⟩ ?_
 intro Q a hP J hR hN
 have G := St.start w0
 have hlen := length_bys s
 refine wp_seq_k fun K1 hK1=> wp_region_lit <| av J Y Y fun a J=> s0 <| then_n (hK1 _ _ <| wp_seq_k fun K2 hK2=> wp_seq_k fun K3 hK3=> ?_)
 have hK3' : ∀ a w, (Fr 42 [(0, .string s), (17, .bool (decide (s.size < 1 ∨ 30 < s.size ∨ ¬ (97 ≤ ((bys s).getD 0 0) ∧ ((bys s).getD 0 0) ≤ 122 ∨ 65 ≤ ((bys s).getD 0 0) ∧ ((bys s).getD 0 0) ≤ 90))))] a ∧ St w0 [] [] w) → K3 a w := by
  rintro a w ⟨J, G⟩
  refine hK3 _ _ ?_
  refine cD J Y (fun c0=> ?_) (fun c0=> ?_)
  ·have hpn : okL (bys s) = false := okL_head (by omega)
   refine wp_seq_k fun K4 hK4=> wp_region_lit <| av J Y Y fun a J=> s0 <| then_n (hK4 _ _ <| wp_ret (then_r (hR _ _ _ _ _ J (run_results Tryz.results104 (.t J Y (.nil))) ?_)))
   exact ⟨_, [], Y, ⟨by rw [hpn]; rfl, Y⟩, G.none⟩
  have hgood := c0
  refine wp_skip <| then_n (hK2 _ _ <| wp_seq_k fun K5 hK5=> wp_seq_k fun K6 hK6=> wp_region_lit <| av J Y Y fun a J=> s0 <| then_n (hK6 _ _ <| wp_block <| wp_loop_N (fun g a w=> ∃ (i : Nat), s.size - i = g ∧ Fr 42 [(0, .string s), (3, .int .i64 ((i : Nat) : Int))] a ∧ St w0 [] [] w ∧ (i ≤ s.size) ∧ (((bys s).take i).all labC = true)) (s.size - 0) ?_ ?_))
  ·exact ⟨0, Y, J.sub ⟨Y, Y, trivial⟩, G.sel [] Y Y, by omega, Y⟩
  rintro KL1 g a w ⟨i, hg1, J, G, hi, hal⟩ hKL1
  refine wp_seq_k fun K7 hK7=> wp_seq_k fun K8 hK8=> wp_region_lit <| mv J Y Y fun a J=> mv J Y Y fun a J=> sw J Y Y Y (R.lenS Tryz.underlying9 (J.ev Y)) fun a J=> lS J Y Y Y fun a J=> s0 <| then_n (hK8 _ _ <| cD J Y (fun c1=> ?_) (fun c1=> ?_))
  ·refine wp_skip <| then_n (hK7 _ _ <| wp_seq_k fun K9 hK9=> wp_block <| wp_seq_k fun K10 hK10=> ?_)
   have hK10' : ∀ a w, (Fr 42 [(0, .string s), (3, .int .i64 ((i : Nat) : Int)), (41, .bool (decide (¬ (97 ≤ ((bys s).getD i 0) ∧ ((bys s).getD i 0) ≤ 122 ∨ 65 ≤ ((bys s).getD i 0) ∧ ((bys s).getD i 0) ≤ 90) ∧ ¬ (48 ≤ ((bys s).getD i 0) ∧ ((bys s).getD i 0) ≤ 57) ∧ ¬ ((bys s).getD i 0) = 95)))] a ∧ St w0 [] [] w) → K10 a w := by
    rintro a w ⟨J, G⟩
    refine hK10 _ _ ?_
    refine cD J Y (fun c2=> ?_) (fun c2=> ?_)
    ·have hpn : okL (bys s) = false := okL_bad (i := i) (by omega) (by omega)
     refine wp_seq_k fun K11 hK11=> wp_region_lit <| av J Y Y fun a J=> s0 <| then_n (hK11 _ _ <| wp_ret (blk_r (then_r (then_r (blk_r (then_r (hR _ _ _ _ _ J (run_results Tryz.results104 (.t J Y (.nil))) ?_)))))))
     exact ⟨_, [], Y, ⟨by rw [hpn]; rfl, Y⟩, G.none⟩
    refine wp_skip <| blk_n <| then_n (hK9 _ _ <| wp_region_lit <| mv J Y Y fun a J=> aI J Y Y Y (by omega) fun a J=> av J Y Y fun a J=> s0 <| then_n (hKL1 (s.size - (i + 1)) _ _ ?_ ?_))
    ·omega
    exact ⟨i + 1, Y, J.sub ⟨Y, (congrArg (fun z => some (Value.int .i64 z)) (by omega)), trivial⟩, G.sel [] Y Y, by omega, lab_step (by omega) hal (by omega)⟩
   refine wp_region_lit <| mv J Y Y fun a J=> mv J Y Y fun a J=> sw J Y Y Y (R.as (u := .int .u8 ((((bys s).getD i 0) : Nat) : Int)) (R.chr Tryz.underlying9 (J.ev Y) (J.ev Y) (by omega) (by omega)) (Y)) fun a J=> so (wn Y) (O.call Y Y J ent131 (J.evs Y) G (letter_calls ((bys s).getD i 0) _) fun v s27 a w hR J G=> ?_)
   obtain ⟨rfl, rfl⟩ := hR
   refine sw J Y Y Y ((by first | exact R.notD (J.ev Y) | exact R.not (J.ev Y))) fun a J=> ?_
   refine mv J Y Y fun a J=> J.splitD (t := 29) Y (fun h29 J=> ?_) (fun h29 J=> ?_)
   ·refine my J Y Y Y Y fun a J=> my J Y Y Y Y fun a J=> sv' J (wy J Y Y Y) Y Y (R.as (u := .int .u8 ((((bys s).getD i 0) : Nat) : Int)) (R.chr Tryz.underlying9 (J.ev Y) (J.ev Y) (by omega) (by omega)) (Y)) fun a J=> so (wy J Y Y Y) (O.call Y Y J ent132 (J.evs Y) G (digit_calls ((bys s).getD i 0) _) fun v s33 a w hR J G=> ?_)
    obtain ⟨rfl, rfl⟩ := hR
    refine sv' J (wy J Y Y Y) Y Y ((by first | exact R.notD (J.ev Y) | exact R.not (J.ev Y))) fun a J=> ?_
    refine pT J Y Y Y fun a J=> mv J Y Y fun a J=> J.splitD (t := 36) Y (fun h36 J=> ?_) (fun h36 J=> ?_)
    ·refine my J Y Y Y Y fun a J=> my J Y Y Y Y fun a J=> sv' J (wy J Y Y Y) Y Y (R.as (u := .int .u8 ((((bys s).getD i 0) : Nat) : Int)) (R.chr Tryz.underlying9 (J.ev Y) (J.ev Y) (by omega) (by omega)) (Y)) fun a J=> sv' J (wy J Y Y Y) Y Y (R.neq (J.ev Y) (J.ev Y)) fun a J=> pT J Y Y Y fun a J=> s0 ?_
     exact then_n (hK10' _ _ ⟨J.sub ⟨Y, Y, (congrArg (fun z => some (Value.bool z)) (by first | exact (decide_eq_true (by omega)).symm | exact (decide_eq_false (by omega)).symm | exact decide_eq_decide.2 (by omega))), trivial⟩, G.sel [] Y Y⟩)
    refine kz J Y Y Y Y Y Y fun a J=> kz J Y Y Y Y Y Y fun a J=> kz J Y Y Y Y Y Y fun a J=> kz J Y Y Y Y Y Y fun a J=> pF J Y Y Y fun a J=> s0 ?_
    exact then_n (hK10' _ _ ⟨J.sub ⟨Y, Y, (congrArg (fun z => some (Value.bool z)) (by first | exact (decide_eq_true (by omega)).symm | exact (decide_eq_false (by omega)).symm | exact decide_eq_decide.2 (by omega))), trivial⟩, G.sel [] Y Y⟩)
   refine kz J Y Y Y Y Y Y fun a J=> kz J Y Y Y Y Y Y fun a J=> kz J Y Y Y Y Y Y fun a J=> kz J Y Y Y Y Y Y fun a J=> kz J Y Y Y Y Y Y fun a J=> pF J Y Y Y fun a J=> mv J Y Y fun a J=> kz J Y Y Y Y Y Y fun a J=> kz J Y Y Y Y Y Y fun a J=> kz J Y Y Y Y Y Y fun a J=> kz J Y Y Y Y Y Y fun a J=> pF J Y Y Y fun a J=> s0 ?_
   exact then_n (hK10' _ _ ⟨J.sub ⟨Y, Y, (congrArg (fun z => some (Value.bool z)) (by first | exact (decide_eq_true (by omega)).symm | exact (decide_eq_false (by omega)).symm | exact decide_eq_decide.2 (by omega))), trivial⟩, G.sel [] Y Y⟩)
  obtain rfl : i = s.size := by omega
  have htk : (bys s).take s.size = bys s := by rw [← hlen, List.take_length]
  rw [htk] at hal
  have hpn : okL (bys s) = true := okL_good (by omega) hal
  refine wp_exit (then_x (then_x (blk_hit <| then_n (hK5 _ _ <| wp_seq_k fun K12 hK12=> wp_region_lit <| av J Y Y fun a J=> s0 <| then_n (hK12 _ _ <| wp_ret (hR _ _ _ _ _ J (run_results Tryz.results104 (.t J Y (.nil))) ?_))))))
  exact ⟨_, [], Y, ⟨by rw [hpn]; rfl, Y⟩, G.none⟩
 refine wp_region_lit <| mv J Y Y fun a J=> sw J Y Y Y (R.lenS Tryz.underlying9 (J.ev Y)) fun a J=> lS J Y Y Y fun a J=> mv J Y Y fun a J=> J.splitD (t := 7) Y (fun h7 J=> ?_) (fun h7 J=> ?_)
 ·refine kz J Y Y Y Y Y Y fun a J=> kz J Y Y Y Y Y Y fun a J=> kz J Y Y Y Y Y Y fun a J=> pT J Y Y Y fun a J=> mv J Y Y fun a J=> kz J Y Y Y Y Y Y fun a J=> kz J Y Y Y Y Y Y fun a J=> kz J Y Y Y Y Y Y fun a J=> kz J Y Y Y Y Y Y fun a J=> pT J Y Y Y fun a J=> s0 ?_
  exact then_n (hK3' _ _ ⟨J.sub ⟨Y, (congrArg (fun z => some (Value.bool z)) (by first | exact (decide_eq_true (by omega)).symm | exact (decide_eq_false (by omega)).symm | exact decide_eq_decide.2 (by omega))), trivial⟩, G.sel [] Y Y⟩)
 refine my J Y Y Y Y fun a J=> sv' J (wy J Y Y Y) Y Y (R.lenS Tryz.underlying9 (J.ev Y)) fun a J=> sv' J (wy J Y Y Y) Y Y (R.gtr (J.ev Y) (J.ev Y)) fun a J=> pF J Y Y Y fun a J=> mv J Y Y fun a J=> J.splitD (t := 12) Y (fun h12 J=> ?_) (fun h12 J=> ?_)
 ·refine kz J Y Y Y Y Y Y fun a J=> kz J Y Y Y Y Y Y fun a J=> kz J Y Y Y Y Y Y fun a J=> kz J Y Y Y Y Y Y fun a J=> pT J Y Y Y fun a J=> s0 ?_
  exact then_n (hK3' _ _ ⟨J.sub ⟨Y, (congrArg (fun z => some (Value.bool z)) (by first | exact (decide_eq_true (by omega)).symm | exact (decide_eq_false (by omega)).symm | exact decide_eq_decide.2 (by omega))), trivial⟩, G.sel [] Y Y⟩)
 refine my J Y Y Y Y fun a J=> sv' J (wy J Y Y Y) Y Y (R.as (u := .int .u8 ((((bys s).getD 0 0) : Nat) : Int)) (R.chr Tryz.underlying9 (J.ev Y) (J.ev Y) (by omega) (by simp only [Int.toNat_zero]; omega)) (Y)) fun a J=> so (wy J Y Y Y) (O.call Y Y J ent131 (J.evs Y) G (letter_calls ((bys s).getD 0 0) _) fun v s15 a w hR J G=> ?_)
 obtain ⟨rfl, rfl⟩ := hR
 refine sv' J (wy J Y Y Y) Y Y ((by first | exact R.notD (J.ev Y) | exact R.not (J.ev Y))) fun a J=> ?_
 refine pF J Y Y Y fun a J=> s0 ?_
 exact then_n (hK3' _ _ ⟨J.sub ⟨Y, (congrArg (fun z => some (Value.bool z)) (by first | exact (decide_eq_true (by omega)).symm | exact (decide_eq_false (by omega)).symm | exact decide_eq_decide.2 (by omega))), trivial⟩, G.sel [] Y Y⟩)
theorem labelled_calls (s : ByteArray) (w0 : World) : Ret Tryz.prog 102 [.string s] w0 [] (fun v q => v = .tuple #[.string (bstr (lblN (bys s)).1), .bool (lblN (bys s)).2] ∧ q = []) := by
 refine fn_start Tryz.func102 Y Tryz.ntmps102 Y [(0, .string s)] ⟨Y, trivial⟩ ?_
 intro Q a hP J hR hN
 have G := St.start w0
 have hlen := length_bys s
 refine wp_seq_k fun K1 hK1=> wp_region_lit <| av J Y Y fun a J=> av J Y Y fun a J=> s0 <| then_n (hK1 _ _ <| wp_seq_k fun K2 hK2=> wp_seq_k fun K3 hK3=> ?_)
 have hK3' : ∀ a w, (Fr 29 [(0, .string s), (20, .bool (decide (s.size < 2 ∨ 31 < s.size ∨ ¬ ((bys s).getD (s.size - 1) 0) = 58)))] a ∧ St w0 [] [] w) → K3 a w := by
  rintro a w ⟨J, G⟩
  refine hK3 _ _ ?_
  refine cD J Y (fun c0=> ?_) (fun c0=> ?_)
  ·have hpn : lblN (bys s) = ([], false) := if_pos (by rw [hlen]; exact c0)
   refine wp_seq_k fun K4 hK4=> wp_region_lit <| av J Y Y fun a J=> av J Y Y fun a J=> s0 <| then_n (hK4 _ _ <| wp_ret (then_r (hR _ _ _ _ _ J (run_results Tryz.results102 (.t J Y (.t J Y (.nil)))) ?_)))
   exact ⟨_, [], Y, ⟨by rw [hpn]; rfl, Y⟩, G.none⟩
  have hpn : lblN (bys s) = (((bys s).take (s.size - 1)), okL ((bys s).take (s.size - 1))) := by (unfold lblN; rw [hlen, if_neg c0])
  refine wp_skip <| then_n (hK2 _ _ <| wp_seq_k fun K5 hK5=> wp_region_lit <| mv J Y Y fun a J=> mv J Y Y fun a J=> sw J Y Y Y (R.lenS Tryz.underlying9 (J.ev Y)) fun a J=> sw J Y Y Y (R.subI (J.ev Y) (J.ev Y) (by omega)) fun a J=> sw J Y Y Y (R.as (u := .string (bstr ((bys s).take (s.size - 1)))) (R.strTo Tryz.underlying9 (J.ev Y) (J.ev Y) (by omega) (by omega)) (congrArg (fun z : Nat=> Value.string (bstr ((bys s).take z))) (by omega))) fun a J=> av J Y Y fun a J=> s0 <| then_n (hK5 _ _ <| wp_seq_k fun K6 hK6=> wp_region_lit <| mv J Y Y fun a J=> mv J Y Y fun a J=> so (wn Y) (O.call Y Y J ent104 (J.evs Y) G (named_calls (bstr ((bys s).take (s.size - 1))) _) fun v s28 a w hR J G=> ?_)))
  obtain ⟨rfl, rfl⟩ := hR
  refine av J Y Y fun a J=> av J Y Y fun a J=> s0 <| then_n (hK6 _ _ <| wp_ret (hR _ _ _ _ _ J (run_results Tryz.results102 (.t J Y (.t J Y (.nil)))) ?_))
  exact ⟨_, [], Y, ⟨by rw [hpn, bys_bstr (byt_take (byt_bys s) _)]; rfl, Y⟩, G.none⟩
 refine wp_region_lit <| mv J Y Y fun a J=> sw J Y Y Y (R.lenS Tryz.underlying9 (J.ev Y)) fun a J=> lS J Y Y Y fun a J=> mv J Y Y fun a J=> J.splitD (t := 8) Y (fun h8 J=> ?_) (fun h8 J=> ?_)
 ·refine kz J Y Y Y Y Y Y fun a J=> kz J Y Y Y Y Y Y fun a J=> kz J Y Y Y Y Y Y fun a J=> pT J Y Y Y fun a J=> mv J Y Y fun a J=> kz J Y Y Y Y Y Y fun a J=> kz J Y Y Y Y Y Y fun a J=> kz J Y Y Y Y Y Y fun a J=> kz J Y Y Y Y Y Y fun a J=> kz J Y Y Y Y Y Y fun a J=> kz J Y Y Y Y Y Y fun a J=> pT J Y Y Y fun a J=> s0 ?_
  exact then_n (hK3' _ _ ⟨J.sub ⟨Y, (congrArg (fun z => some (Value.bool z)) (by first | exact (decide_eq_true (by omega)).symm | exact (decide_eq_false (by omega)).symm | exact decide_eq_decide.2 (by omega))), trivial⟩, G.sel [] Y Y⟩)
 refine my J Y Y Y Y fun a J=> sv' J (wy J Y Y Y) Y Y (R.lenS Tryz.underlying9 (J.ev Y)) fun a J=> sv' J (wy J Y Y Y) Y Y (R.gtr (J.ev Y) (J.ev Y)) fun a J=> pF J Y Y Y fun a J=> mv J Y Y fun a J=> J.splitD (t := 13) Y (fun h13 J=> ?_) (fun h13 J=> ?_)
 ·refine kz J Y Y Y Y Y Y fun a J=> kz J Y Y Y Y Y Y fun a J=> kz J Y Y Y Y Y Y fun a J=> kz J Y Y Y Y Y Y fun a J=> kz J Y Y Y Y Y Y fun a J=> kz J Y Y Y Y Y Y fun a J=> pT J Y Y Y fun a J=> s0 ?_
  exact then_n (hK3' _ _ ⟨J.sub ⟨Y, (congrArg (fun z => some (Value.bool z)) (by first | exact (decide_eq_true (by omega)).symm | exact (decide_eq_false (by omega)).symm | exact decide_eq_decide.2 (by omega))), trivial⟩, G.sel [] Y Y⟩)
 refine my J Y Y Y Y fun a J=> my J Y Y Y Y fun a J=> sv' J (wy J Y Y Y) Y Y (R.lenS Tryz.underlying9 (J.ev Y)) fun a J=> sv' J (wy J Y Y Y) Y Y (R.subI (J.ev Y) (J.ev Y) (by omega)) fun a J=> sv' J (wy J Y Y Y) Y Y (R.as (u := .int .u8 ((((bys s).getD (s.size - 1) 0) : Nat) : Int)) (R.chr Tryz.underlying9 (J.ev Y) (J.ev Y) (by omega) (by omega)) (congrArg (fun z : Nat=> Value.int .u8 (((bys s).getD z 0 : Nat) : Int)) (by omega))) fun a J=> sv' J (wy J Y Y Y) Y Y (R.neq (J.ev Y) (J.ev Y)) fun a J=> pF J Y Y Y fun a J=> s0 ?_
 exact then_n (hK3' _ _ ⟨J.sub ⟨Y, (congrArg (fun z => some (Value.bool z)) (by first | exact (decide_eq_true (by omega)).symm | exact (decide_eq_false (by omega)).symm | exact decide_eq_decide.2 (by omega))), trivial⟩, G.sel [] Y Y⟩)
theorem rcodeOf_calls (s : ByteArray) (w0 : World) : Ret Tryz.prog 103 [.string s] w0 [] (fun v q => v = .int .i64 (if codeN (bys s) < 28 then ((codeN (bys s) : Nat) : Int) else -1) ∧ q = []) := by
 refine fn_start Tryz.func103 Y Tryz.ntmps103 Y [(0, .string s)] ⟨Y, trivial⟩ ?_
 intro Q a hP J hR hN
 have G := St.start w0
 refine wp_seq_k fun K1 hK1=> wp_region_lit <| av J Y Y fun a J=> s0 <| then_n (hK1 _ _ <| wp_seq_k fun K2 hK2=> wp_seq_k fun K3 hK3=> wp_region_lit <| av J Y Y fun a J=> s0 <| then_n (hK3 _ _ <| wp_block <| wp_loop_N (fun g a w=> ∃ (i : Nat), 28 - i = g ∧ Fr 13 [(0, .string s), (3, .int .i64 ((i : Nat) : Int))] a ∧ St w0 [] [] w ∧ (i ≤ 28) ∧ (∀ j, j < i → nameN j ≠ bys s)) (28 - 0) ?_ ?_))
 ·exact ⟨0, Y, J.sub ⟨Y, Y, trivial⟩, G.sel [] Y Y, by omega, (fun j hj => absurd hj (Nat.not_lt_zero j))⟩
 rintro KL1 g a w ⟨i, hg1, J, G, hi, hno⟩ hKL1
 refine wp_seq_k fun K4 hK4=> wp_seq_k fun K5 hK5=> wp_region_lit <| mv J Y Y fun a J=> lS J Y Y Y fun a J=> s0 <| then_n (hK5 _ _ <| cD J Y (fun c1=> ?_) (fun c1=> ?_))
 ·refine wp_skip <| then_n (hK4 _ _ <| wp_seq_k fun K6 hK6=> wp_block <| wp_seq_k fun K7 hK7=> wp_region_lit <| mv J Y Y fun a J=> so (wn Y) (O.call Y Y J ent27 (J.evs Y) G (name_calls i _ (by omega)) fun v s9 a w hR J G=> ?_))
  obtain ⟨rfl, rfl⟩ := hR
  refine mv J Y Y fun a J=> sw J Y Y Y (R.as (u := .bool (decide (nameN i = bys s))) (R.eqlStr (J.ev Y) (J.ev Y)) (congrArg Value.bool (decide_eq_decide.2 name_str))) fun a J=> s0 <| then_n (hK7 _ _ <| cD J Y (fun c2=> ?_) (fun c2=> ?_))
  ·have hpn := codeN_hit (by omega) c2 hno
   refine wp_seq_k fun K8 hK8=> wp_region_lit <| mv J Y Y fun a J=> av J Y Y fun a J=> s0 <| then_n (hK8 _ _ <| wp_ret (blk_r (then_r (then_r (blk_r (then_r (hR _ _ _ _ _ J (run_results Tryz.results103 (.t J Y (.nil))) ?_)))))))
   exact ⟨_, [], Y, ⟨by rw [hpn]; first | rfl | (rw [if_pos (by omega)]; rfl), Y⟩, G.none⟩
  refine wp_skip <| blk_n <| then_n (hK6 _ _ <| wp_region_lit <| mv J Y Y fun a J=> aI J Y Y Y (by omega) fun a J=> av J Y Y fun a J=> s0 <| then_n (hKL1 (28 - (i + 1)) _ _ ?_ ?_))
  ·omega
  exact ⟨i + 1, Y, J.sub ⟨Y, (congrArg (fun z => some (Value.int .i64 z)) (by omega)), trivial⟩, G.sel [] Y Y, by omega, (fun j hj => by (by_cases h : j < i; exact hno j h; have : j = i := (by omega); rw [this]; exact c2))⟩
 obtain rfl : i = 28 := by omega
 have hpn := codeN_none hno
 refine wp_exit (then_x (then_x (blk_hit <| then_n (hK2 _ _ <| wp_seq_k fun K9 hK9=> wp_region_lit <| av J Y Y fun a J=> s0 <| then_n (hK9 _ _ <| wp_ret (hR _ _ _ _ _ J (run_results Tryz.results103 (.t J Y (.nil))) ?_))))))
 exact ⟨_, [], Y, ⟨by rw [hpn]; first | rfl | (rw [if_pos (by omega)]; rfl), Y⟩, G.none⟩
end Go.Proofs.YtlapmbkfmbkdoaaGreatDoor
end
section
namespace Go.Proofs.YtlapmbkfmbkdoaaGreatDoor
open Go Go.Fw Go.RowKit
attribute [local irreducible] Go.Oper.wp Go.Code.wp Go.wpList Go.Fw.WL Go.Calls
def curN (xs : List Nat) (k i : Nat) : List Nat := (xs.drop k).take (i - k)
theorem cur_self (xs : List Nat) (i : Nat) : curN xs i i = [] := by unfold curN; rw [Nat.sub_self]; rfl
theorem cur_snoc (xs : List Nat) (k i : Nat) (h : k ≤ i) (hi : i < xs.length) : curN xs k (i + 1) = curN xs k i ++ [xs.getD i 0] := by
  unfold curN
  rw [show i + 1 - k = (i - k) + 1 by omega, take_snoc 0 _ _ (by rw [List.length_drop]; omega)]
  congr 2
  rw [List.getD_eq_getElem?_getD, List.getD_eq_getElem?_getD, List.getElem?_drop]
  congr 2; omega
theorem cur_end (xs : List Nat) (k : Nat) : curN xs k xs.length = xs.drop k := by
  unfold curN; rw [List.take_of_length_le (by rw [List.length_drop]; exact Nat.le_refl _)]
theorem strs_snoc (l : List (List Nat)) (x : List Nat) : strs (l ++ [x]) = strs l ++ [.string (bstr x)] := by simp [strs]
theorem len_strs (l : List (List Nat)) : (strs l).length = l.length := by simp [strs]
def linesT (xs : List Nat) : List (List Nat) := spl10 [] xs
theorem spl_hit {xs : List Nat} {i : Nat} (k : Nat) (hi : i < xs.length) (h : xs.getD i 0 = 10) : spl10 (curN xs k i) (xs.drop i) = curN xs k i :: spl10 (curN xs (i + 1) (i + 1)) (xs.drop (i + 1)) := by
  rw [drop_cons 0 xs i hi, spl10, if_pos h, cur_self]
theorem spl_miss {xs : List Nat} {i k : Nat} (hk : k ≤ i) (hi : i < xs.length) (h : ¬ xs.getD i 0 = 10) : spl10 (curN xs k i) (xs.drop i) = spl10 (curN xs k (i + 1)) (xs.drop (i + 1)) := by
  rw [drop_cons 0 xs i hi, spl10, if_neg h, cur_snoc xs k i hk hi]
def SJ (xs : List Nat) (i k : Nat) (o : List (List Nat)) : Prop := k ≤ i ∧ o.length ≤ i ∧ linesT xs = o ++ spl10 (curN xs k i) (xs.drop i)
theorem SJ_0 (xs : List Nat) : SJ xs 0 0 [] := ⟨Nat.le_refl _, Nat.le_refl _, by rw [cur_self]; rfl⟩
theorem SJ_hit {xs : List Nat} {i k m : Nat} {o : List (List Nat)} (h : SJ xs i k o) (hm : xs.length = m) (hi : i < m) (hx : xs.getD i 0 = 10) : SJ xs (i + 1) (i + 1) (o ++ [curN xs k i]) := by
  refine ⟨Nat.le_refl _, ?_, ?_⟩
  · have := h.2.1; rw [List.length_append]; simp only [List.length_cons, List.length_nil]; omega
  · rw [h.2.2, spl_hit k (by omega) hx]; simp
theorem SJ_miss {xs : List Nat} {i k m : Nat} {o : List (List Nat)} (h : SJ xs i k o) (hm : xs.length = m) (hi : i < m) (hx : ¬ xs.getD i 0 = 10) : SJ xs (i + 1) k o := by
  refine ⟨by have := h.1; omega, by have := h.2.1; omega, ?_⟩
  rw [h.2.2, spl_miss h.1 (by omega) hx]
theorem SJ_end {xs : List Nat} {k m : Nat} {o : List (List Nat)} (h : SJ xs m k o) (hm : xs.length = m) : linesT xs = o ++ [xs.drop k] := by
  subst hm
  rw [h.2.2, List.drop_of_length_le (Nat.le_refl _), spl10, cur_end]
def WJ (xs : List Nat) (i k : Nat) (o : List (List Nat)) : Prop := o.length ≤ i ∧ (i ≤ xs.length → k ≤ i ∧ wordsN xs = o ++ fld (curN xs k i) (xs.drop i)) ∧ (¬ i ≤ xs.length → wordsN xs = o)
theorem WJ_0 (xs : List Nat) : WJ xs 0 0 [] := ⟨Nat.le_refl _, fun _ => ⟨Nat.le_refl _, by rw [cur_self]; rfl⟩, fun h => absurd (Nat.zero_le _) h⟩
theorem WJ_k {xs : List Nat} {i k m : Nat} {o : List (List Nat)} (h : WJ xs i k o) (hm : xs.length = m) (hi : i ≤ m) : k ≤ i := (h.2.1 (by omega)).1
theorem clo_cur {xs : List Nat} {i k m : Nat} (hm : xs.length = m) (hi : i ≤ m) : clo (curN xs k i) = if k < i then [curN xs k i] else [] := by
  unfold clo curN
  by_cases h : k < i
  · rw [if_pos h, if_neg]
    intro h0
    have := congrArg List.length h0
    rw [List.length_take, List.length_drop] at this
    simp at this
    omega
  · rw [if_neg h, if_pos]
    rw [show i - k = 0 by omega]; rfl
theorem len_clo (l : List Nat) : (clo l).length ≤ 1 := by unfold clo; split <;> simp
theorem WJ_stop {xs : List Nat} {i k m : Nat} {o : List (List Nat)} (h : WJ xs i k o) (hm : xs.length = m) (hi : i < m) (hx : xs.getD i 0 = 35) : wordsN xs = o ++ clo (curN xs k i) := by
  rw [(h.2.1 (by omega)).2, drop_cons 0 xs i (by omega), fld, if_pos hx]
theorem WJ_sep {xs : List Nat} {i k m : Nat} {o : List (List Nat)} (h : WJ xs i k o) (hm : xs.length = m) (hi : i ≤ m) (hx : i = m ∨ xs.getD i 0 = 32 ∨ xs.getD i 0 = 9) : WJ xs (i + 1) (i + 1) (o ++ clo (curN xs k i)) := by
  refine ⟨?_, fun h2 => ⟨Nat.le_refl _, ?_⟩, fun h2 => ?_⟩
  · have := h.1; have := len_clo (curN xs k i); rw [List.length_append]; omega
  · have hx2 : xs.getD i 0 = 32 ∨ xs.getD i 0 = 9 := by omega
    rw [(h.2.1 (by omega)).2, drop_cons 0 xs i (by omega), fld, if_neg (by omega), if_pos hx2, cur_self, List.append_assoc]
  · have : i = xs.length := by omega
    rw [(h.2.1 (by omega)).2, List.drop_of_length_le (by omega), fld]
theorem WJ_go {xs : List Nat} {i k m : Nat} {o : List (List Nat)} (h : WJ xs i k o) (hm : xs.length = m) (hi : i < m) (hx : ¬ (xs.getD i 0 = 32 ∨ xs.getD i 0 = 9 ∨ xs.getD i 0 = 35)) : WJ xs (i + 1) k o := by
  refine ⟨by have := h.1; omega, fun h2 => ⟨by have := (h.2.1 (by omega)).1; omega, ?_⟩, fun h2 => absurd hi (by omega)⟩
  rw [(h.2.1 (by omega)).2, drop_cons 0 xs i (by omega), fld, if_neg (by omega), if_neg (by omega), cur_snoc xs k i (h.2.1 (by omega)).1 (by omega)]
theorem WJ_end {xs : List Nat} {i k m : Nat} {o : List (List Nat)} (h : WJ xs i k o) (hm : xs.length = m) (hi : ¬ i ≤ m) : wordsN xs = o := h.2.2 (by omega)
theorem split_calls (s : ByteArray) (w0 : World) (hs : s.size ≤ 100000) : Ret Tryz.prog 53 [.string s] w0 [] (fun v q => ∃ A d o, v = .slice A o.length d ∧ OwnS q A o.length d (strs o) 9 1 ∧ (linesT (bys s) = o ∨ linesT (bys s) = o ++ [[]])) := by
 refine fn_start Tryz.func53 Y Tryz.ntmps53 Y [(0, .string s)] ⟨Y, trivial⟩ ?_
 intro Q a hP J hR hN
 have G := St.start w0
 have hlen := length_bys s
 refine wp_seq_k fun K1 hK1=> wp_region_lit <| av J Y Y fun a J=> s0 <| then_n (hK1 _ _ <| wp_seq_k fun K2 hK2=> wp_region_lit <| av J Y Y fun a J=> s0 <| then_n (hK2 _ _ <| wp_seq_k fun K3 hK3=> ?_))
 have G := G.cons0
 refine wp_region_lit <| av J Y Y fun a J=> s0 <| then_n (hK3 _ _ <| wp_seq_k fun K4 hK4=> wp_seq_k fun K5 hK5=> wp_region_lit <| av J Y Y fun a J=> s0 <| then_n (hK5 _ _ <| wp_block <| wp_loop_N (fun g a w=> ∃ (i : Nat) (k : Nat) (A : Option Addr) (d : Nat) (z : Seg) (o : List (List Nat)), s.size - i = g ∧ Fr 36 [(0, .string s), (3, .slice A o.length d), (4, .int .i64 ((k : Nat) : Int)), (5, .int .i64 ((i : Nat) : Int))] a ∧ St w0 [] [z] w ∧ (i ≤ s.size) ∧ (OwnS z A o.length d (strs o) 9 1) ∧ (SJ (bys s) i k o)) (s.size - 0) ?_ ?_))
 ·exact ⟨0, 0, none, 0, [], [], Y, J.sub ⟨Y, Y, Y, Y, trivial⟩, G.sel [0] Y Y, by omega, OwnS.nil 9 1, SJ_0 _⟩
 rintro KL1 g a w ⟨i, k, A, d, z, o, hg1, J, G, hi, hO, hJ⟩ hKL1
 have hJ1 := hJ.1; have hJ2 := hJ.2.1
 refine wp_seq_k fun K6 hK6=> wp_seq_k fun K7 hK7=> wp_region_lit <| mv J Y Y fun a J=> mv J Y Y fun a J=> sw J Y Y Y (R.lenS Tryz.underlying9 (J.ev Y)) fun a J=> lS J Y Y Y fun a J=> s0 <| then_n (hK7 _ _ <| cD J Y (fun c1=> ?_) (fun c1=> ?_))
 ·refine wp_skip <| then_n (hK6 _ _ <| wp_seq_k fun K8 hK8=> ?_)
  have hK8' : ∀ a w, (∃ (k2 : Nat) (A2 : Option Addr) (d2 : Nat) (z2 : Seg) (o2 : List (List Nat)), Fr 36 [(0, .string s), (3, .slice A2 o2.length d2), (4, .int .i64 ((k2 : Nat) : Int)), (5, .int .i64 ((i : Nat) : Int))] a ∧ St w0 [] [z2] w ∧ (OwnS z2 A2 o2.length d2 (strs o2) 9 1) ∧ (SJ (bys s) (i + 1) k2 o2)) → K8 a w := by
   rintro a w ⟨k2, A2, d2, z2, o2, J, G, hO, hJ⟩
   refine hK8 _ _ ?_
   refine wp_region_lit <| mv J Y Y fun a J=> aI J Y Y Y (by omega) fun a J=> av J Y Y fun a J=> s0 <| then_n (hKL1 (s.size - (i + 1)) _ _ ?_ ?_)
   ·omega
   exact ⟨i + 1, k2, A2, d2, z2, o2, Y, J.sub ⟨Y, Y, Y, (congrArg (fun z => some (Value.int .i64 z)) (by omega)), trivial⟩, G.sel [0] Y Y, by omega, hO, hJ⟩
  refine wp_block <| wp_seq_k fun K9 hK9=> wp_region_lit <| mv J Y Y fun a J=> mv J Y Y fun a J=> sw J Y Y Y (R.as (u := .int .u8 ((((bys s).getD i 0) : Nat) : Int)) (R.chr Tryz.underlying9 (J.ev Y) (J.ev Y) (by omega) (by omega)) (Y)) fun a J=> eL J Y Y Y fun a J=> s0 <| then_n (hK9 _ _ <| cD J Y (fun c2=> ?_) (fun c2=> ?_))
  ·refine wp_seq_k fun K10 hK10=> wp_region_lit <| mv J Y Y fun a J=> mv J Y Y fun a J=> mv J Y Y fun a J=> mv J Y Y fun a J=> sw J Y Y Y (R.as (u := .string (bstr (curN (bys s) k i))) (R.strMid Tryz.underlying9 (J.ev Y) (J.ev Y) (J.ev Y) (by omega) (by omega) (by omega)) (Y)) fun a J=> so (wn Y) (O.buildSlice (l := [_]) Y Y J Tryz.underlying108 inf9 Y Y (J.evp Y) (by decide) Y G fun b21 a w J G=> ?_)
   refine so (wn Y) (O.append Y Y J Tryz.underlying108 inf9 Y Y (by decide) (J.ev Y) (J.ev Y) G hO (fun _=> (.t .h)) (Rd.own0 G .h) (Y) (by simp [Value.oneCell']) (by unfold maxLen; omega) (by omega) fun A22 c22 s22 a w hO22 J G=> ?_)
   refine av J Y Y fun a J=> s0 <| then_n (hK10 _ _ <| wp_region_lit <| mv J Y Y fun a J=> aI J Y Y Y (by omega) fun a J=> av J Y Y fun a J=> s0 <| blk_n ?_)
   exact then_n (hK8' _ _ ⟨i + 1, A22, c22, s22, o ++ [curN (bys s) k i], J.sub ⟨Y, (by rw [List.length_append]; rfl), (congrArg (fun z => some (Value.int .i64 z)) (by omega)), Y, trivial⟩, G.sel [1] Y Y, (by rw [List.length_append, strs_snoc]; exact hO22), SJ_hit hJ hlen (by omega) (by omega)⟩)
  refine wp_skip <| blk_n ?_
  exact then_n (hK8' _ _ ⟨k, A, d, z, o, J.sub ⟨Y, Y, Y, Y, trivial⟩, G.sel [0] Y Y, hO, SJ_miss hJ hlen (by omega) (by omega)⟩)
 obtain rfl : i = s.size := by omega
 have hE := SJ_end hJ hlen
 refine wp_exit (then_x (then_x (blk_hit <| then_n (hK4 _ _ <| wp_seq_k fun K11 hK11=> wp_seq_k fun K12 hK12=> wp_region_lit <| mv J Y Y fun a J=> mv J Y Y fun a J=> sw J Y Y Y (R.lenS Tryz.underlying9 (J.ev Y)) fun a J=> lS J Y Y Y fun a J=> s0 <| then_n (hK12 _ _ <| cD J Y (fun c3=> ?_) (fun c3=> ?_))))))
 ·refine wp_region_lit <| mv J Y Y fun a J=> mv J Y Y fun a J=> mv J Y Y fun a J=> sw J Y Y Y (R.as (u := .string (bstr ((bys s).drop k))) (R.strFrom Tryz.underlying9 (J.ev Y) (J.ev Y) (by omega) (by omega)) (Y)) fun a J=> so (wn Y) (O.buildSlice (l := [_]) Y Y J Tryz.underlying108 inf9 Y Y (J.evp Y) (by decide) Y G fun b33 a w J G=> ?_)
  refine so (wn Y) (O.append Y Y J Tryz.underlying108 inf9 Y Y (by decide) (J.ev Y) (J.ev Y) G hO (fun _=> (.t .h)) (Rd.own0 G .h) (Y) (by simp [Value.oneCell']) (by unfold maxLen; omega) (by omega) fun A34 c34 s34 a w hO34 J G=> ?_)
  refine av J Y Y fun a J=> s0 <| then_n (hK11 _ _ <| wp_seq_k fun K13 hK13=> wp_region_lit <| mv J Y Y fun a J=> av J Y Y fun a J=> s0 <| then_n (hK13 _ _ <| wp_ret (hR _ _ _ _ _ J (run_results Tryz.results53 (.t J Y (.nil))) ?_)))
  exact ⟨_, s34, Y, ⟨A34, c34, o ++ [(bys s).drop k], by rw [List.length_append]; rfl, by rw [List.length_append, strs_snoc]; exact hO34, .inl hE⟩, G.one (.t .h)⟩
 refine wp_skip <| then_n (hK11 _ _ <| wp_seq_k fun K14 hK14=> wp_region_lit <| mv J Y Y fun a J=> av J Y Y fun a J=> s0 <| then_n (hK14 _ _ <| wp_ret (hR _ _ _ _ _ J (run_results Tryz.results53 (.t J Y (.nil))) ?_)))
 exact ⟨_, z, Y, ⟨A, d, o, Y, hO, .inr (by rw [hE, List.drop_of_length_le (by omega)])⟩, G.one .h⟩
set_option maxHeartbeats 1000000 in
theorem rwords_calls (s : ByteArray) (w0 : World) (hs : s.size ≤ 100000) : Ret Tryz.prog 54 [.string s] w0 [] (fun v q => ∃ A d, v = .slice A (wordsN (bys s)).length d ∧ OwnS q A (wordsN (bys s)).length d (strs (wordsN (bys s))) 9 1) := by
 refine fn_start Tryz.func54 Y Tryz.ntmps54 Y [(0, .string s)] ⟨Y, trivial⟩ ?_
 intro Q a hP J hR hN
 have G := St.start w0
 have hlen := length_bys s
 refine wp_seq_k fun K1 hK1=> wp_region_lit <| av J Y Y fun a J=> s0 <| then_n (hK1 _ _ <| wp_seq_k fun K2 hK2=> wp_region_lit <| av J Y Y fun a J=> s0 <| then_n (hK2 _ _ <| wp_seq_k fun K3 hK3=> ?_))
 have G := G.cons0
 refine wp_region_lit <| av J Y Y fun a J=> s0 <| then_n (hK3 _ _ <| wp_seq_k fun K4 hK4=> wp_seq_k fun K5 hK5=> wp_region_lit <| av J Y Y fun a J=> s0 <| then_n (hK5 _ _ <| wp_block <| wp_loop_N (fun g a w=> ∃ (i : Nat) (k : Nat) (A : Option Addr) (d : Nat) (z : Seg) (o : List (List Nat)), s.size + 1 - i = g ∧ Fr 58 [(0, .string s), (3, .slice A o.length d), (4, .int .i64 ((k : Nat) : Int)), (5, .int .i64 ((i : Nat) : Int))] a ∧ St w0 [] [z] w ∧ (i ≤ s.size + 1) ∧ (OwnS z A o.length d (strs o) 9 1) ∧ (WJ (bys s) i k o)) (s.size + 1 - 0) ?_ ?_))
 ·exact ⟨0, 0, none, 0, [], [], Y, J.sub ⟨Y, Y, Y, Y, trivial⟩, G.sel [0] Y Y, by omega, OwnS.nil 9 1, WJ_0 _⟩
 rintro KL1 g a w ⟨i, k, A, d, z, o, hg1, J, G, hi, hO, hJ⟩ hKL1
 have hJ2 := hJ.1
 refine wp_seq_k fun K6 hK6=> wp_seq_k fun K7 hK7=> wp_region_lit <| mv J Y Y fun a J=> mv J Y Y fun a J=> sw J Y Y Y (R.lenS Tryz.underlying9 (J.ev Y)) fun a J=> sw J Y Y Y (R.leq (J.ev Y) (J.ev Y)) fun a J=> s0 <| then_n (hK7 _ _ <| cD J Y (fun c1=> ?_) (fun c1=> ?_))
 ·have hJ1 := WJ_k hJ hlen (by omega)
  refine wp_skip <| then_n (hK6 _ _ <| wp_seq_k fun K8 hK8=> ?_)
  have hK8' : ∀ a w, (∃ (k3 : Nat) (A3 : Option Addr) (d3 : Nat) (z3 : Seg) (o3 : List (List Nat)), Fr 58 [(0, .string s), (3, .slice A3 o3.length d3), (4, .int .i64 ((k3 : Nat) : Int)), (5, .int .i64 ((i : Nat) : Int))] a ∧ St w0 [] [z3] w ∧ (OwnS z3 A3 o3.length d3 (strs o3) 9 1) ∧ (WJ (bys s) (i + 1) k3 o3)) → K8 a w := by
   rintro a w ⟨k3, A3, d3, z3, o3, J, G, hO, hJ⟩
   refine hK8 _ _ ?_
   refine wp_region_lit <| mv J Y Y fun a J=> aI J Y Y Y (by omega) fun a J=> av J Y Y fun a J=> s0 <| then_n (hKL1 (s.size + 1 - (i + 1)) _ _ ?_ ?_)
   ·omega
   exact ⟨i + 1, k3, A3, d3, z3, o3, Y, J.sub ⟨Y, Y, Y, (congrArg (fun z => some (Value.int .i64 z)) (by omega)), trivial⟩, G.sel [0] Y Y, by omega, hO, hJ⟩
  refine wp_block <| wp_seq_k fun K9 hK9=> ?_
  have hK9' : ∀ a w, (Fr 58 [(0, .string s), (3, .slice A o.length d), (4, .int .i64 ((k : Nat) : Int)), (5, .int .i64 ((i : Nat) : Int)), (33, .bool (decide (i = s.size ∨ ((bys s).getD i 0) = 32 ∨ ((bys s).getD i 0) = 9 ∨ ((bys s).getD i 0) = 35)))] a ∧ St w0 [] [z] w) → K9 a w := by
   rintro a w ⟨J, G⟩
   refine hK9 _ _ ?_
   refine cD J Y (fun c2=> ?_) (fun c2=> ?_)
   ·refine wp_seq_k fun K10 hK10=> ?_
    have hK10' : ∀ a w, (∃ (A2 : Option Addr) (d2 : Nat) (z2 : Seg) (o2 : List (List Nat)), Fr 58 [(0, .string s), (3, .slice A2 o2.length d2), (4, .int .i64 ((k : Nat) : Int)), (5, .int .i64 ((i : Nat) : Int))] a ∧ St w0 [] [z2] w ∧ (OwnS z2 A2 o2.length d2 (strs o2) 9 1) ∧ (o2 = o ++ clo (curN (bys s) k i))) → K10 a w := by
     rintro a w ⟨A2, d2, z2, o2, J, G, hO2, ho2⟩
     refine hK10 _ _ ?_
     refine wp_seq_k fun K11 hK11=> wp_region_lit <| mv J Y Y fun a J=> aI J Y Y Y (by omega) fun a J=> av J Y Y fun a J=> s0 <| then_n (hK11 _ _ <| wp_seq_k fun K12 hK12=> ?_)
     have hK12' : ∀ a w, (Fr 58 [(0, .string s), (3, .slice A2 o2.length d2), (4, .int .i64 (((i + 1) : Nat) : Int)), (5, .int .i64 ((i : Nat) : Int)), (55, .bool (decide (i < s.size ∧ ((bys s).getD i 0) = 35)))] a ∧ St w0 [] [z2] w) → K12 a w := by
      rintro a w ⟨J, G⟩
      refine hK12 _ _ ?_
      refine cD J Y (fun c4=> ?_) (fun c4=> ?_)
      ·have hE2 := WJ_stop hJ hlen (by omega) c4.2
       refine wp_seq_k fun K13 hK13=> wp_region_lit <| mv J Y Y fun a J=> av J Y Y fun a J=> s0 <| then_n (hK13 _ _ <| wp_ret (blk_r (then_r (then_r (blk_r (then_r (hR _ _ _ _ _ J (run_results Tryz.results54 (.t J Y (.nil))) ?_)))))))
       exact ⟨_, z2, Y, ⟨A2, d2, by rw [hE2, ← ho2]; rfl, by rw [hE2, ← ho2]; exact hO2⟩, G.one .h⟩
      refine wp_skip <| blk_n ?_
      exact then_n (hK8' _ _ ⟨i + 1, A2, d2, z2, o2, J.sub ⟨Y, Y, Y, Y, trivial⟩, G.sel [0] Y Y, hO2, (by rw [ho2]; exact WJ_sep hJ hlen (by omega) (by omega))⟩)
     refine wp_region_lit <| mv J Y Y fun a J=> mv J Y Y fun a J=> sw J Y Y Y (R.lenS Tryz.underlying9 (J.ev Y)) fun a J=> lS J Y Y Y fun a J=> mv J Y Y fun a J=> J.splitD (t := 50) Y (fun h50 J=> ?_) (fun h50 J=> ?_)
     ·refine my J Y Y Y Y fun a J=> my J Y Y Y Y fun a J=> sv' J (wy J Y Y Y) Y Y (R.as (u := .int .u8 ((((bys s).getD i 0) : Nat) : Int)) (R.chr Tryz.underlying9 (J.ev Y) (J.ev Y) (by omega) (by omega)) (Y)) fun a J=> sv' J (wy J Y Y Y) Y Y (R.eql (J.ev Y) (J.ev Y)) fun a J=> pT J Y Y Y fun a J=> s0 ?_
      exact then_n (hK12' _ _ ⟨J.sub ⟨Y, Y, (congrArg (fun z => some (Value.int .i64 z)) (by omega)), Y, (congrArg (fun z => some (Value.bool z)) (by first | exact (decide_eq_true (by omega)).symm | exact (decide_eq_false (by omega)).symm | exact decide_eq_decide.2 (by omega))), trivial⟩, G.sel [0] Y Y⟩)
     refine kz J Y Y Y Y Y Y fun a J=> kz J Y Y Y Y Y Y fun a J=> kz J Y Y Y Y Y Y fun a J=> kz J Y Y Y Y Y Y fun a J=> pF J Y Y Y fun a J=> s0 ?_
     exact then_n (hK12' _ _ ⟨J.sub ⟨Y, Y, (congrArg (fun z => some (Value.int .i64 z)) (by omega)), Y, (congrArg (fun z => some (Value.bool z)) (by first | exact (decide_eq_true (by omega)).symm | exact (decide_eq_false (by omega)).symm | exact decide_eq_decide.2 (by omega))), trivial⟩, G.sel [0] Y Y⟩)
    refine wp_seq_k fun K14 hK14=> wp_region_lit <| mv J Y Y fun a J=> mv J Y Y fun a J=> sw J Y Y Y (R.gtr (J.ev Y) (J.ev Y)) fun a J=> s0 <| then_n (hK14 _ _ <| cD J Y (fun c3=> ?_) (fun c3=> ?_))
    ·refine wp_region_lit <| mv J Y Y fun a J=> mv J Y Y fun a J=> mv J Y Y fun a J=> mv J Y Y fun a J=> sw J Y Y Y (R.as (u := .string (bstr (curN (bys s) k i))) (R.strMid Tryz.underlying9 (J.ev Y) (J.ev Y) (J.ev Y) (by omega) (by omega) (by omega)) (Y)) fun a J=> so (wn Y) (O.buildSlice (l := [_]) Y Y J Tryz.underlying108 inf9 Y Y (J.evp Y) (by decide) Y G fun b42 a w J G=> ?_)
     refine so (wn Y) (O.append Y Y J Tryz.underlying108 inf9 Y Y (by decide) (J.ev Y) (J.ev Y) G hO (fun _=> (.t .h)) (Rd.own0 G .h) (Y) (by simp [Value.oneCell']) (by unfold maxLen; omega) (by omega) fun A43 c43 s43 a w hO43 J G=> ?_)
     refine av J Y Y fun a J=> s0 ?_
     exact then_n (hK10' _ _ ⟨A43, c43, s43, o ++ clo (curN (bys s) k i), J.sub ⟨Y, (by rw [clo_cur hlen (by omega), if_pos (by omega), List.length_append]; rfl), Y, Y, trivial⟩, G.sel [1] Y Y, (by rw [clo_cur hlen (by omega), if_pos (by omega), List.length_append, strs_snoc]; exact hO43), Y⟩)
    refine wp_skip ?_
    exact then_n (hK10' _ _ ⟨A, d, z, o ++ clo (curN (bys s) k i), J.sub ⟨Y, (by rw [clo_cur hlen (by omega), if_neg (by omega), List.append_nil]; rfl), Y, Y, trivial⟩, G.sel [0] Y Y, (by rw [clo_cur hlen (by omega), if_neg (by omega), List.append_nil]; exact hO), Y⟩)
   refine wp_skip <| blk_n ?_
   exact then_n (hK8' _ _ ⟨k, A, d, z, o, J.sub ⟨Y, Y, Y, Y, trivial⟩, G.sel [0] Y Y, hO, WJ_go hJ hlen (by omega) (by omega)⟩)
  refine wp_region_lit <| mv J Y Y fun a J=> mv J Y Y fun a J=> sw J Y Y Y (R.lenS Tryz.underlying9 (J.ev Y)) fun a J=> eL J Y Y Y fun a J=> mv J Y Y fun a J=> J.splitD (t := 16) Y (fun h16 J=> ?_) (fun h16 J=> ?_)
  ·refine kz J Y Y Y Y Y Y fun a J=> kz J Y Y Y Y Y Y fun a J=> kz J Y Y Y Y Y Y fun a J=> kz J Y Y Y Y Y Y fun a J=> pT J Y Y Y fun a J=> mv J Y Y fun a J=> kz J Y Y Y Y Y Y fun a J=> kz J Y Y Y Y Y Y fun a J=> kz J Y Y Y Y Y Y fun a J=> kz J Y Y Y Y Y Y fun a J=> pT J Y Y Y fun a J=> mv J Y Y fun a J=> kz J Y Y Y Y Y Y fun a J=> kz J Y Y Y Y Y Y fun a J=> kz J Y Y Y Y Y Y fun a J=> kz J Y Y Y Y Y Y fun a J=> pT J Y Y Y fun a J=> s0 ?_
   exact then_n (hK9' _ _ ⟨J.sub ⟨Y, Y, Y, Y, (congrArg (fun z => some (Value.bool z)) (by first | exact (decide_eq_true (by omega)).symm | exact (decide_eq_false (by omega)).symm | exact decide_eq_decide.2 (by omega))), trivial⟩, G.sel [0] Y Y⟩)
  refine my J Y Y Y Y fun a J=> my J Y Y Y Y fun a J=> sv' J (wy J Y Y Y) Y Y (R.as (u := .int .u8 ((((bys s).getD i 0) : Nat) : Int)) (R.chr Tryz.underlying9 (J.ev Y) (J.ev Y) (by omega) (by omega)) (Y)) fun a J=> sv' J (wy J Y Y Y) Y Y (R.eql (J.ev Y) (J.ev Y)) fun a J=> pF J Y Y Y fun a J=> mv J Y Y fun a J=> J.splitD (t := 22) Y (fun h22 J=> ?_) (fun h22 J=> ?_)
  ·refine kz J Y Y Y Y Y Y fun a J=> kz J Y Y Y Y Y Y fun a J=> kz J Y Y Y Y Y Y fun a J=> kz J Y Y Y Y Y Y fun a J=> pT J Y Y Y fun a J=> mv J Y Y fun a J=> kz J Y Y Y Y Y Y fun a J=> kz J Y Y Y Y Y Y fun a J=> kz J Y Y Y Y Y Y fun a J=> kz J Y Y Y Y Y Y fun a J=> pT J Y Y Y fun a J=> s0 ?_
   exact then_n (hK9' _ _ ⟨J.sub ⟨Y, Y, Y, Y, (congrArg (fun z => some (Value.bool z)) (by first | exact (decide_eq_true (by omega)).symm | exact (decide_eq_false (by omega)).symm | exact decide_eq_decide.2 (by omega))), trivial⟩, G.sel [0] Y Y⟩)
  refine my J Y Y Y Y fun a J=> my J Y Y Y Y fun a J=> sv' J (wy J Y Y Y) Y Y (R.as (u := .int .u8 ((((bys s).getD i 0) : Nat) : Int)) (R.chr Tryz.underlying9 (J.ev Y) (J.ev Y) (by omega) (by omega)) (Y)) fun a J=> sv' J (wy J Y Y Y) Y Y (R.eql (J.ev Y) (J.ev Y)) fun a J=> pF J Y Y Y fun a J=> mv J Y Y fun a J=> J.splitD (t := 28) Y (fun h28 J=> ?_) (fun h28 J=> ?_)
  ·refine kz J Y Y Y Y Y Y fun a J=> kz J Y Y Y Y Y Y fun a J=> kz J Y Y Y Y Y Y fun a J=> kz J Y Y Y Y Y Y fun a J=> pT J Y Y Y fun a J=> s0 ?_
   exact then_n (hK9' _ _ ⟨J.sub ⟨Y, Y, Y, Y, (congrArg (fun z => some (Value.bool z)) (by first | exact (decide_eq_true (by omega)).symm | exact (decide_eq_false (by omega)).symm | exact decide_eq_decide.2 (by omega))), trivial⟩, G.sel [0] Y Y⟩)
  refine my J Y Y Y Y fun a J=> my J Y Y Y Y fun a J=> sv' J (wy J Y Y Y) Y Y (R.as (u := .int .u8 ((((bys s).getD i 0) : Nat) : Int)) (R.chr Tryz.underlying9 (J.ev Y) (J.ev Y) (by omega) (by omega)) (Y)) fun a J=> sv' J (wy J Y Y Y) Y Y (R.eql (J.ev Y) (J.ev Y)) fun a J=> pF J Y Y Y fun a J=> s0 ?_
  exact then_n (hK9' _ _ ⟨J.sub ⟨Y, Y, Y, Y, (congrArg (fun z => some (Value.bool z)) (by first | exact (decide_eq_true (by omega)).symm | exact (decide_eq_false (by omega)).symm | exact decide_eq_decide.2 (by omega))), trivial⟩, G.sel [0] Y Y⟩)
 have hE := WJ_end hJ hlen (by omega)
 refine wp_exit (then_x (then_x (blk_hit <| then_n (hK4 _ _ <| wp_seq_k fun K15 hK15=> wp_region_lit <| mv J Y Y fun a J=> av J Y Y fun a J=> s0 <| then_n (hK15 _ _ <| wp_ret (hR _ _ _ _ _ J (run_results Tryz.results54 (.t J Y (.nil))) ?_))))))
 exact ⟨_, z, Y, ⟨A, d, by rw [hE]; rfl, by rw [hE]; exact hO⟩, G.one .h⟩
end Go.Proofs.YtlapmbkfmbkdoaaGreatDoor
end
section
namespace Go.Proofs.YtlapmbkfmbkdoaaGreatDoor
open Go Go.Fw Go.RowKit
attribute [local irreducible] Go.Oper.wp Go.Code.wp Go.wpList Go.Fw.WL Go.Calls
def prsR (xs : List Nat) : Value := .tuple #[wv ((prs xs).getD 0), .bool (prs xs).isSome]
theorem sum_lt33' {x b : Nat} (hx : x < 256 ^ 32) (hb : b < 256 ^ 32) : x + b < 256 ^ 33 := by
  have : (256 : Nat) ^ 33 = 256 ^ 32 * 256 := by rw [← Nat.pow_succ]
  have h2 : 0 < (256 : Nat) ^ 32 := by decide
  omega
theorem small32 {b : Nat} (hb : b < 256) : b < 256 ^ 32 := Nat.lt_of_lt_of_le hb (by decide)
theorem mul64 {x : Nat} (hx : x < 256 ^ 32) : x * 10 < 256 ^ 64 := by
  have : (256 : Nat) ^ 64 = 256 ^ 32 * 256 ^ 32 := by rw [← Nat.pow_add]
  have h2 : 10 ≤ (256 : Nat) ^ 32 := by decide
  rw [this]
  exact Nat.lt_of_lt_of_le (Nat.mul_lt_mul_of_pos_right hx (by decide)) (Nat.mul_le_mul_left _ h2)
theorem named_l {xs : List Nat} (h : Byt xs) (w : World) : Ret Tryz.prog 104 [.string (bstr xs)] w [] (fun v q => v = .bool (okL xs) ∧ q = []) := by
  have := named_calls (bstr xs) w; rwa [bys_bstr h] at this
theorem labelled_l {xs : List Nat} (h : Byt xs) (w : World) : Ret Tryz.prog 102 [.string (bstr xs)] w [] (fun v q => v = .tuple #[.string (bstr (lblN xs).1), .bool (lblN xs).2] ∧ q = []) := by
  have := labelled_calls (bstr xs) w; rwa [bys_bstr h] at this
theorem rcodeOf_l {xs : List Nat} (h : Byt xs) (w : World) : Ret Tryz.prog 103 [.string (bstr xs)] w [] (fun v q => v = .int .i64 (if codeN xs < 28 then ((codeN xs : Nat) : Int) else -1) ∧ q = []) := by
  have := rcodeOf_calls (bstr xs) w; rwa [bys_bstr h] at this
set_option maxHeartbeats 1000000 in
theorem rread_calls (s : ByteArray) (w0 : World) : Ret Tryz.prog 105 [.string s] w0 [] (fun v q => v = prsR (bys s) ∧ q = []) := by
 refine fn_start Tryz.func105 Y Tryz.ntmps105 Y [(0, .string s)] ⟨Y, trivial⟩ ?_
 intro Q a hP J hR hN
 have G := St.start w0
 have hlen := length_bys s
 refine wp_seq_k fun K1 hK1=> wp_region_lit <| so (wn Y) (O.alloc Y Y J ze32 Y G fun b2 a w J G=> ?_)
 refine av J Y Y fun a J=> s0 <| then_n (hK1 _ _ <| wp_seq_k fun K2 hK2=> wp_seq_k fun K3 hK3=> ?_)
 have hK3' : ∀ a w, (Fr 66 [(0, .string s), (2, .pointer (some ⟨b2, 0, none⟩)), (25, .bool (decide (s.size < 1 ∨ 78 < s.size ∨ (1 < s.size ∧ ((bys s).getD 0 0) = 48))))] a ∧ St w0 [] [[(b2, Cel (wc 0) 32)]] w) → K3 a w := by
  rintro a w ⟨J, G⟩
  refine hK3 _ _ ?_
  refine cD J Y (fun hz=> ?_) (fun hz=> ?_)
  ·have hpn : prs (bys s) = none := bad_ref hlen (by omega)
   refine wp_seq_k fun K4 hK4=> wp_region_lit <| sw J Y Y Y (R.buildArr (l := [_, _, _, _]) Tryz.underlying32 ze32 sz30 (J.evp Y) Y) fun a J=> so (wn Y) (O.storeW sz32 (J.ev Y) (J.ev Y) (Y) Y (by simp [Value.oneCell']) G .h (Y) fun w G=> ?_)
   refine av J Y Y fun a J=> s0 <| then_n (hK4 _ _ <| wp_ret (then_r (hR _ _ _ _ _ J (run_results Tryz.results105 (.cw J Y agg32 G .h sz32 (Y) (.t J Y (.nil)))) ?_)))
   exact ⟨_, [], Y, ⟨by rw [prsR, hpn]; rfl, Y⟩, G.none⟩
  have hnz := hz
  refine wp_skip <| then_n (hK2 _ _ <| wp_seq_k fun K5 hK5=> wp_region_lit <| so (wn Y) (O.alloc Y Y J ze32 Y G fun b4 a w J G=> ?_))
  refine s0 <| then_n (hK5 _ _ <| wp_seq_k fun K6 hK6=> wp_seq_k fun K7 hK7=> wp_region_lit <| av J Y Y fun a J=> s0 <| then_n (hK7 _ _ <| wp_block <| wp_loop_N (fun g a w=> ∃ (i : Nat), s.size - i = g ∧ Fr 66 [(0, .string s), (2, .pointer (some ⟨b2, 0, none⟩)), (4, .pointer (some ⟨b4, 0, none⟩)), (5, .int .i64 ((i : Nat) : Int))] a ∧ St w0 [] [[(b4, Cel (wc (num ((bys s).take i))) 32)], [(b2, Cel (wc 0) 32)]] w ∧ (i ≤ s.size) ∧ (allD ((bys s).take i) = true) ∧ (num ((bys s).take i) < 115792089237316195423570985008687907853269984665640564039457584007913129639936)) (s.size - 0) ?_ ?_))
  ·exact ⟨0, Y, J.sub ⟨Y, Y, Y, Y, trivial⟩, G.sel [0, 1] Y (by rw [List.take_zero]; rfl), by omega, Y, by show num [] < _; decide⟩
  rintro KL1 g a w ⟨i, hg1, J, G, hi, hal, hnm⟩ hKL1
  refine wp_seq_k fun K8 hK8=> wp_seq_k fun K9 hK9=> wp_region_lit <| mv J Y Y fun a J=> mv J Y Y fun a J=> sw J Y Y Y (R.lenS Tryz.underlying9 (J.ev Y)) fun a J=> lS J Y Y Y fun a J=> s0 <| then_n (hK9 _ _ <| cD J Y (fun c2=> ?_) (fun c2=> ?_))
  ·refine wp_skip <| then_n (hK8 _ _ <| wp_seq_k fun K10 hK10=> wp_block <| wp_seq_k fun K11 hK11=> wp_seq_k fun K12 hK12=> wp_region_lit <| mv J Y Y fun a J=> mv J Y Y fun a J=> sw J Y Y Y (R.as (u := .int .u8 ((((bys s).getD i 0) : Nat) : Int)) (R.chr Tryz.underlying9 (J.ev Y) (J.ev Y) (by omega) (by omega)) (Y)) fun a J=> so (wn Y) (O.call Y Y J ent132 (J.evs Y) G (digit_calls ((bys s).getD i 0) _) fun v s36 a w hR J G=> ?_))
   obtain ⟨rfl, rfl⟩ := hR
   refine sw J Y Y Y ((by first | exact R.notD (J.ev Y) | exact R.not (J.ev Y))) fun a J=> ?_
   refine s0 <| then_n (hK12 _ _ <| cD J Y (fun c3=> ?_) (fun c3=> ?_))
   ·have hpn := prs_badD (allD_bad (bys s) i (by omega) (by omega))
    refine wp_seq_k fun K13 hK13=> wp_region_lit <| sw J Y Y Y (R.buildArr (l := [_, _, _, _]) Tryz.underlying32 ze32 sz30 (J.evp Y) Y) fun a J=> so (wn Y) (O.storeW sz32 (J.ev Y) (J.ev Y) (Y) Y (by simp [Value.oneCell']) G (.t (.t .h)) (Y) fun w G=> ?_)
    refine av J Y Y fun a J=> s0 <| then_n (hK13 _ _ <| wp_ret (then_r (blk_r (then_r (then_r (blk_r (then_r (hR _ _ _ _ _ J (run_results Tryz.results105 (.cw J Y agg32 G (.t (.t .h)) sz32 (Y) (.t J Y (.nil)))) ?_))))))))
    exact ⟨_, [], Y, ⟨by rw [prsR, hpn]; rfl, Y⟩, G.none⟩
   have hnj := num_take (bys s) i (by omega)
   have hbb := byt_bys s
   have hb9 : 48 ≤ ((bys s).getD i 0) ∧ ((bys s).getD i 0) ≤ 57 := by omega
   have hn32 : num ((bys s).take i) < 256 ^ 32 := by rw [M256]; exact hnm
   refine wp_skip <| then_n (hK11 _ _ <| wp_seq_k fun K14 hK14=> wp_region_lit <| sw J Y Y Y (R.loadW agg32 (J.ev Y) G (.t .h) sz32 (Y)) fun a J=> so (wn Y) (O.call Y Y J ent61 (J.evs Y) G (dig_calls (num ((bys s).take i)) w) fun v s40 a w hR J G=> ?_))
   obtain ⟨b40, rfl, rfl⟩ := hR
   refine sw J Y Y Y (R.buildArr (l := [_, _, _, _]) Tryz.underlying32 ze32 sz30 (J.evp Y) Y) fun a J=> so (wn Y) (O.call Y Y J ent61 (J.evs Y) G (dig_calls 10 w) fun v s42 a w hR J G=> ?_)
   obtain ⟨b42, rfl, rfl⟩ := hR
   refine so (wn Y) (O.call Y Y J ent99 (J.evs Y) G (timesB_calls (some ⟨b40, 0, none⟩) (some ⟨b42, 0, none⟩) 32 32 (num ((bys s).take i)) 10 w (Rd.own0 G (.t .h)) (Rd.own0 G .h) hn32 (by decide)) fun v s43 a w hR J G=> ?_)
   obtain ⟨b43, rfl, rfl⟩ := hR
   refine av J Y Y fun a J=> s0 <| then_n (hK14 _ _ <| wp_seq_k fun K15 hK15=> wp_seq_k fun K16 hK16=> wp_region_lit <| mv J Y Y fun a J=> so (wn Y) (O.call Y Y J ent96 (J.evs Y) G (wholly_calls (some ⟨b43, 0, none⟩) 64 64 (num ((bys s).take i) * 10) w (Rd.own0 G .h) (by decide) (mul64 hn32)) fun v s45 a w hR J G=> ?_))
   obtain ⟨rfl, rfl⟩ := hR
   refine sw J Y Y Y ((by first | exact R.notD (J.ev Y) | exact R.not (J.ev Y))) fun a J=> ?_
   refine s0 <| then_n (hK16 _ _ <| cD J Y (fun c4=> ?_) (fun c4=> ?_))
   ·have hpn := prs_big (Nat.le_trans (by rw [M256] at c4; omega) (num_take_le (bys s) (i + 1)))
    refine wp_seq_k fun K17 hK17=> wp_region_lit <| sw J Y Y Y (R.buildArr (l := [_, _, _, _]) Tryz.underlying32 ze32 sz30 (J.evp Y) Y) fun a J=> so (wn Y) (O.storeW sz32 (J.ev Y) (J.ev Y) (Y) Y (by simp [Value.oneCell']) G (.t (.t (.t (.t (.t (.t .h)))))) (Y) fun w G=> ?_)
    refine av J Y Y fun a J=> s0 <| then_n (hK17 _ _ <| wp_ret (then_r (blk_r (then_r (then_r (blk_r (then_r (hR _ _ _ _ _ J (run_results Tryz.results105 (.cw J Y agg32 G (.t (.t (.t (.t (.t (.t .h)))))) sz32 (Y) (.t J Y (.nil)))) ?_))))))))
    exact ⟨_, [], Y, ⟨by rw [prsR, hpn]; rfl, Y⟩, G.none⟩
   have hfit : num ((bys s).take i) * 10 < 256 ^ 32 := Classical.not_not.1 c4
   refine wp_skip <| then_n (hK15 _ _ <| wp_seq_k fun K18 hK18=> wp_drawS G [(0, 0), (1, 0), (2, 0), (3, 0), (4, 0), (5, 0), (6, 0), (7, 2), (8, 2), (9, 2), (10, 0)] mix (by kernel_rfl) (hP.then.block.then.then.block.then) fun w G=> ?_)
   have hD := G
   refine dm J Y Y Y fun a J=> dv J Y Y Y Y (fun w=> R.as (u := .slice (some ⟨b43, 32, none⟩) 32 32) (R.sliceLo (p := 32) Tryz.underlying61 (J.ev Y) (J.ev Y) (by decide) sz3) (Y)) fun a J=> dm J Y Y Y fun a J=> dm J Y Y Y fun a J=> dv J Y Y Y Y (fun w=> R.as (u := .int .u8 ((((bys s).getD i 0) : Nat) : Int)) (R.chr Tryz.underlying9 (J.ev Y) (J.ev Y) (by omega) (by omega)) (Y)) fun a J=> dv J Y Y Y Y (fun w=> R.as (u := .int .u8 ((((bys s).getD i 0) - 48 : Nat) : Int)) (R.sub (k := .u8) (p := ((((bys s).getD i 0) : Nat) : Int)) (q := 48) (J.ev Y) (J.ev Y)) (congrArg (fun z : Int=> Value.int .u8 z) (by rw [IntKind.wrap_u8']; omega))) fun a J=> dv J Y Y Y Y (fun w=> R.as (u := .int .i64 ((((bys s).getD i 0) - 48 : Nat) : Int)) (R.convI Tryz.underlying5 Tryz.underlying3 (J.ev Y) (by omega)) (congrArg (Value.int .i64) (by omega))) fun a J=> dl Y (wn Y) (O.call Y Y J ent60 (J.evs Y) G (rcount_calls (((bys s).getD i 0) - 48) w (by omega)) fun v s55 a w hR J G=> ⟨fun hD=> G.tail, ?_⟩)
   obtain ⟨rfl, rfl⟩ := hR
   have hD := G.tail
   refine dl Y (wn Y) (O.call Y Y J ent61 (J.evs Y) G (dig_calls (((bys s).getD i 0) - 48) w) fun v s56 a w hR J G=> ⟨fun hD=> G.tail.tail, ?_⟩)
   obtain ⟨b56, rfl, rfl⟩ := hR
   have hD := G.tail.tail
   refine dl Y (wn Y) (O.call Y Y J ent95 (J.evs Y) G (plus_calls (some ⟨b43, 32, none⟩) (some ⟨b56, 0, none⟩) 32 32 (num ((bys s).take i) * 10) (((bys s).getD i 0) - 48) w (rd_tail (n := 32) (j := 32) (Rd.own0 G (.t (.t (.t .h))))) (Rd.own0 G .h) hfit (small32 (by omega))) fun v s57 a w hR J G=> ⟨fun hD=> G.tail.tail.tail, ?_⟩)
   obtain ⟨b57, rfl, rfl⟩ := hR
   have hD := G.tail.tail.tail
   refine da J Y Y Y fun a J=> d0 <| then_n (hK18 _ _ <| wp_seq_k fun K19 hK19=> wp_seq_k fun K20 hK20=> wp_region_lit <| mv J Y Y fun a J=> so (wn Y) (O.call Y Y J ent96 (J.evs Y) G (wholly_calls (some ⟨b57, 0, none⟩) 33 33 (num ((bys s).take i) * 10 + (((bys s).getD i 0) - 48)) w (Rd.own0 G .h) (by decide) (sum_lt33' hfit (small32 (by omega)))) fun v s59 a w hR J G=> ?_))
   obtain ⟨rfl, rfl⟩ := hR
   refine sw J Y Y Y ((by first | exact R.notD (J.ev Y) | exact R.not (J.ev Y))) fun a J=> ?_
   refine s0 <| then_n (hK20 _ _ <| cD J Y (fun c5=> ?_) (fun c5=> ?_))
   ·have hpn := prs_big (Nat.le_trans (by rw [M256] at c5; omega) (num_take_le (bys s) (i + 1)))
    refine wp_seq_k fun K21 hK21=> wp_region_lit <| sw J Y Y Y (R.buildArr (l := [_, _, _, _]) Tryz.underlying32 ze32 sz30 (J.evp Y) Y) fun a J=> so (wn Y) (O.storeW sz32 (J.ev Y) (J.ev Y) (Y) Y (by simp [Value.oneCell']) G (.t (.t (.t (.t (.t (.t (.t (.t (.t (.t .h)))))))))) (Y) fun w G=> ?_)
    refine av J Y Y fun a J=> s0 <| then_n (hK21 _ _ <| wp_ret (then_r (blk_r (then_r (then_r (blk_r (then_r (hR _ _ _ _ _ J (run_results Tryz.results105 (.cw J Y agg32 G (.t (.t (.t (.t (.t (.t (.t (.t (.t (.t .h)))))))))) sz32 (Y) (.t J Y (.nil)))) ?_))))))))
    exact ⟨_, [], Y, ⟨by rw [prsR, hpn]; rfl, Y⟩, G.none⟩
   have hfit2 : num ((bys s).take i) * 10 + (((bys s).getD i 0) - 48) < 256 ^ 32 := Classical.not_not.1 c5
   have hfit3 := hfit2; rw [M256] at hfit3
   refine wp_skip <| then_n (hK19 _ _ <| wp_region_lit <| mv J Y Y fun a J=> sw J Y Y Y (R.as (u := .slice (some ⟨b57, 1, none⟩) 32 32) (R.sliceLo (p := 1) Tryz.underlying61 (J.ev Y) (J.ev Y) (by decide) sz3) (Y)) fun a J=> so (wn Y) (O.call Y Y J ent29 (J.evs Y) G (number32 (some ⟨b57, 1, none⟩) 32 (num ((bys s).take i) * 10 + (((bys s).getD i 0) - 48)) w (rd_tail (n := 32) (j := 1) (Rd.own0 G (.t .h)))) fun v s64 a w hR J G=> ?_))
   obtain ⟨rfl, rfl⟩ := hR
   refine so (wn Y) (O.storeW sz32 (J.ev Y) (J.ev Y) (Y) Y (by simp [Value.oneCell']) G (.t (.t (.t (.t (.t (.t (.t (.t (.t (.t .h)))))))))) (Y) fun w G=> ?_)
   refine s0 <| blk_n <| then_n (hK10 _ _ <| wp_region_lit <| mv J Y Y fun a J=> aI J Y Y Y (by omega) fun a J=> av J Y Y fun a J=> s0 <| then_n (hKL1 (s.size - (i + 1)) _ _ ?_ ?_))
   ·omega
   exact ⟨i + 1, Y, J.sub ⟨Y, Y, Y, (congrArg (fun z => some (Value.int .i64 z)) (by omega)), trivial⟩, G.sel [10, 11] Y (by rw [hnj, Nat.mod_eq_of_lt hfit2]; rfl), by omega, allD_take _ i (by omega) hal (by omega), by omega⟩
  obtain rfl : i = s.size := by omega
  have htk : (bys s).take s.size = bys s := by rw [← hlen, List.take_length]
  rw [htk] at G hal hnm
  have hpn := prs_good (by omega) hal hnm
  refine wp_exit (then_x (then_x (blk_hit <| then_n (hK6 _ _ <| wp_seq_k fun K22 hK22=> wp_region_lit <| sw J Y Y Y (R.loadW agg32 (J.ev Y) G .h sz32 (Y)) fun a J=> so (wn Y) (O.storeW sz32 (J.ev Y) (J.ev Y) (Y) Y (by simp [Value.oneCell']) G (.t .h) (Y) fun w G=> ?_)))))
  refine av J Y Y fun a J=> s0 <| then_n (hK22 _ _ <| wp_ret (hR _ _ _ _ _ J (run_results Tryz.results105 (.cw J Y agg32 G (.t .h) sz32 (Y) (.t J Y (.nil)))) ?_))
  exact ⟨_, [], Y, ⟨by rw [prsR, hpn]; rfl, Y⟩, G.none⟩
 refine wp_region_lit <| mv J Y Y fun a J=> sw J Y Y Y (R.lenS Tryz.underlying9 (J.ev Y)) fun a J=> lS J Y Y Y fun a J=> mv J Y Y fun a J=> J.splitD (t := 11) Y (fun h11 J=> ?_) (fun h11 J=> ?_)
 ·refine kz J Y Y Y Y Y Y fun a J=> kz J Y Y Y Y Y Y fun a J=> kz J Y Y Y Y Y Y fun a J=> pT J Y Y Y fun a J=> mv J Y Y fun a J=> kz J Y Y Y Y Y Y fun a J=> kz J Y Y Y Y Y Y fun a J=> kz J Y Y Y Y Y Y fun a J=> kz J Y Y Y Y Y Y fun a J=> ku J Y Y Y Y Y fun a J=> ku J Y Y Y Y Y fun a J=> ku J Y Y Y Y Y fun a J=> kz J Y Y Y Y Y Y fun a J=> pT J Y Y Y fun a J=> s0 ?_
  exact then_n (hK3' _ _ ⟨J.sub ⟨Y, Y, (congrArg (fun z => some (Value.bool z)) (by first | exact (decide_eq_true (by omega)).symm | exact (decide_eq_false (by omega)).symm | exact decide_eq_decide.2 (by omega))), trivial⟩, G.sel [0] Y Y⟩)
 refine my J Y Y Y Y fun a J=> sv' J (wy J Y Y Y) Y Y (R.lenS Tryz.underlying9 (J.ev Y)) fun a J=> sv' J (wy J Y Y Y) Y Y (R.gtr (J.ev Y) (J.ev Y)) fun a J=> pF J Y Y Y fun a J=> mv J Y Y fun a J=> J.splitD (t := 16) Y (fun h16 J=> ?_) (fun h16 J=> ?_)
 ·refine kz J Y Y Y Y Y Y fun a J=> kz J Y Y Y Y Y Y fun a J=> kz J Y Y Y Y Y Y fun a J=> kz J Y Y Y Y Y Y fun a J=> ku J Y Y Y Y Y fun a J=> ku J Y Y Y Y Y fun a J=> ku J Y Y Y Y Y fun a J=> kz J Y Y Y Y Y Y fun a J=> pT J Y Y Y fun a J=> s0 ?_
  exact then_n (hK3' _ _ ⟨J.sub ⟨Y, Y, (congrArg (fun z => some (Value.bool z)) (by first | exact (decide_eq_true (by omega)).symm | exact (decide_eq_false (by omega)).symm | exact decide_eq_decide.2 (by omega))), trivial⟩, G.sel [0] Y Y⟩)
 refine my J Y Y Y Y fun a J=> sv' J (wy J Y Y Y) Y Y (R.lenS Tryz.underlying9 (J.ev Y)) fun a J=> sv' J (wy J Y Y Y) Y Y (R.gtr (J.ev Y) (J.ev Y)) fun a J=> my J Y Y Y Y fun a J=> J.splitD (t := 20) Y (fun h20 J=> ?_) (fun h20 J=> ?_)
 ·refine my J Y Y Y Y fun a J=> sv' J (wy J Y Y Y) Y Y (R.as (u := .int .u8 ((((bys s).getD 0 0) : Nat) : Int)) (R.chr Tryz.underlying9 (J.ev Y) (J.ev Y) (by omega) (by simp only [Int.toNat_zero]; omega)) (Y)) fun a J=> sv' J (wy J Y Y Y) Y Y (R.eql (p := (((bys s).getD 0 0 : Nat) : Int)) (q := 48) (J.ev Y) (J.ev Y)) fun a J=> sv' J (wy J Y Y Y) Y Y (R.pickT (J.ev Y) (J.ev Y)) fun a J=> pF J Y Y Y fun a J=> s0 ?_
  exact then_n (hK3' _ _ ⟨J.sub ⟨Y, Y, (congrArg (fun z => some (Value.bool z)) (by first | exact (decide_eq_true (by omega)).symm | exact (decide_eq_false (by omega)).symm | exact decide_eq_decide.2 (by omega))), trivial⟩, G.sel [0] Y Y⟩)
 refine kz J Y Y Y Y Y Y fun a J=> kz J Y Y Y Y Y Y fun a J=> kz J Y Y Y Y Y Y fun a J=> sv' J (wy J Y Y Y) Y Y (R.pickF (J.ev Y) (J.ev Y)) fun a J=> pF J Y Y Y fun a J=> s0 ?_
 exact then_n (hK3' _ _ ⟨J.sub ⟨Y, Y, (congrArg (fun z => some (Value.bool z)) (by first | exact (decide_eq_true (by omega)).symm | exact (decide_eq_false (by omega)).symm | exact decide_eq_decide.2 (by omega))), trivial⟩, G.sel [0] Y Y⟩)
theorem rread_l {xs : List Nat} (h : Byt xs) (w : World) : Ret Tryz.prog 105 [.string (bstr xs)] w [] (fun v q => v = .tuple #[wv ((prs xs).getD 0), .bool (prs xs).isSome] ∧ q = []) := by
  have := rread_calls (bstr xs) w; rwa [bys_bstr h] at this
end Go.Proofs.YtlapmbkfmbkdoaaGreatDoor
end
section
namespace Go.Proofs.YtlapmbkfmbkdoaaGreatDoor
open Go Go.Fw Go.RowKit
attribute [local irreducible] Go.Oper.wp Go.Code.wp Go.wpList Go.Fw.WL Go.Calls
@[reducible] def lineB (lab tg : ByteArray) (code : Int) (A : Option Addr) (n d : Nat) : List Value := [.string lab, .int .i64 code, .slice A n d, .string tg]
def UndR (ws : List (List Nat)) (v : Value) (q : Seg) : Prop :=
  (undN ws = none ∧ q = [] ∧ ∃ lab tg code A n d, v = .tuple #[.agg (lineB lab tg code A n d).toArray, .bool false]) ∨
  (∃ x, undN ws = some x ∧ ∃ A d, v = .tuple #[.agg (lineB (bstr x.lab) (bstr x.tg) x.code A x.bs.length d).toArray, .bool true] ∧ OwnS q A x.bs.length d (byts x.bs) 5 1)
theorem und_bad {ws : List (List Nat)} {v : Value} {lab tg : ByteArray} {code : Int} {A : Option Addr} {n d : Nat} (h : undN ws = none) (hv : v = .tuple #[.agg (lineB lab tg code A n d).toArray, .bool false]) : UndR ws v [] := .inl ⟨h, rfl, _, _, _, _, _, _, hv⟩
theorem und_good {ws : List (List Nat)} {v : Value} {q : Seg} {x : It} {A : Option Addr} {d : Nat} (h : undN ws = some x) (hv : v = .tuple #[.agg (lineB (bstr x.lab) (bstr x.tg) x.code A x.bs.length d).toArray, .bool true]) (ho : OwnS q A x.bs.length d (byts x.bs) 5 1) : UndR ws v q := .inr ⟨x, h, A, d, hv, ho⟩
theorem und_good' {ws : List (List Nat)} {v : Value} {q : Seg} {lab bs tg : List Nat} {code : Int} {A : Option Addr} {n d : Nat} (h : undN ws = some ⟨lab, code, bs, tg⟩) (hv : v = .tuple #[.agg (lineB (bstr lab) (bstr tg) code A n d).toArray, .bool true]) (hn : bs.length = n) (ho : OwnS q A n d (byts bs) 5 1) : UndR ws v q := by
  subst hn; exact und_good h hv ho
theorem getD_byt {ws : List (List Nat)} (h : ∀ x ∈ ws, Byt x) (i : Nat) : Byt (ws.getD i []) := by
  rw [List.getD_eq_getElem?_getD]
  cases hx : ws[i]? with
  | none => intro b hb; cases hb
  | some x => exact h x (List.mem_of_getElem? hx)
theorem dsl_0 {l : List Nat} {j off : Nat} (h : j < l.length) (ho : off = 0) : ((ints l).drop j)[off]? = some (.int .i64 ((l.getD j 0 : Nat) : Int)) := by
  subst ho; simp [ints, h]
theorem dsl_i {l : List Nat} {j i off : Nat} (h : j + i < l.length) (ho : off = i) : ((ints l).drop j)[off]? = some (.int .i64 ((l.getD (j + i) 0 : Nat) : Int)) := by
  subst ho; simp [ints, h]
theorem slc_next {b j : Nat} (h : 1 < 32 - j) : Value.slice (if 32 - j = 1 then some ⟨b, j, none⟩ else (some ⟨b, j, none⟩ : Option Addr).map (·.add (1 * 1))) (32 - j - 1) (32 - j - 1) = .slice (some ⟨b, j + 1, none⟩) (32 - (j + 1)) (32 - (j + 1)) := by
  rw [if_neg (by omega), Nat.sub_sub]; rfl
theorem small_dg {m : Nat} (h : m ≤ 255) : dg m 0 % 256 = m := by rw [dg0]; omega
theorem und_lab {ws : List (List Nat)} {n : Nat} (hn : ws.length = n) (h1 : n = 1) (h2 : (lblN (ws.getD 0 [])).2 = true) : undN ws = some ⟨(lblN (ws.getD 0 [])).1, -1, [], []⟩ := by
  unfold undN; rw [if_pos ⟨by omega, h2⟩]
theorem und_ins {ws : List (List Nat)} {n : Nat} (hn : ws.length = n) (h : n = 1 → (lblN (ws.getD 0 [])).2 = false) : undN ws = insM (codeN (ws.getD 0 [])) n (ws.getD 1 []) := by
  unfold undN; rw [if_neg, hn]
  rintro ⟨h1, h2⟩
  rw [h (by omega)] at h2; cases h2
theorem ins_1 {c n : Nat} {b : List Nat} (h : 2 < n ∨ 28 ≤ c ∨ ¬ (hasP c ↔ n = 2)) : insM c n b = none := by unfold insM; rw [if_pos h]
theorem ins_2 {c n : Nat} {b : List Nat} (h : ¬ (2 < n ∨ 28 ≤ c ∨ ¬ (hasP c ↔ n = 2))) (h2 : ¬ hasP c) : insM c n b = some ⟨[], c, [c], []⟩ := by unfold insM; rw [if_neg h, if_pos h2]
theorem ins_3 {c n : Nat} {b : List Nat} (h : ¬ (2 < n ∨ 28 ≤ c ∨ ¬ (hasP c ↔ n = 2))) (h2 : hasP c) (h3 : c = 14 ∨ c = 15) : insM c n b = if okL b = true then some ⟨[], c, [c, 0, 0], b⟩ else none := by
  unfold insM; rw [if_neg h, if_neg (fun e => e h2), if_pos h3]
theorem ins_4 {c n : Nat} {b : List Nat} (h : ¬ (2 < n ∨ 28 ≤ c ∨ ¬ (hasP c ↔ n = 2))) (h2 : hasP c) (h3 : ¬ (c = 14 ∨ c = 15)) (h4 : (prs b).isSome = false) : insM c n b = none := by
  unfold insM; rw [if_neg h, if_neg (fun e => e h2), if_neg h3]
  cases hp : prs b with
  | none => rfl
  | some m => rw [hp] at h4; cases h4
theorem ins_5 {c n : Nat} {b : List Nat} (h : ¬ (2 < n ∨ 28 ≤ c ∨ ¬ (hasP c ↔ n = 2))) (h2 : hasP c) (h3 : ¬ (c = 14 ∨ c = 15)) (h4 : (prs b).isSome = true) (h5 : c = 2) : insM c n b = some ⟨[], c, pshN ((prs b).getD 0), []⟩ := by
  unfold insM; rw [if_neg h, if_neg (fun e => e h2), if_neg h3]
  cases hp : prs b with
  | none => rw [hp] at h4; cases h4
  | some m => simp only [if_pos h5]; rfl
theorem ins_6 {c n : Nat} {b : List Nat} (h : ¬ (2 < n ∨ 28 ≤ c ∨ ¬ (hasP c ↔ n = 2))) (h2 : hasP c) (h3 : ¬ (c = 14 ∨ c = 15)) (h4 : (prs b).isSome = true) (h5 : ¬ c = 2) : insM c n b = if mostN c < (prs b).getD 0 ∨ (prs b).getD 0 < leastN c then none else some ⟨[], c, [c, (prs b).getD 0], []⟩ := by
  unfold insM; rw [if_neg h, if_neg (fun e => e h2), if_neg h3]
  cases hp : prs b with
  | none => rw [hp] at h4; cases h4
  | some m => simp only [if_neg h5]; rfl
theorem prs_lt0 (b : List Nat) : (prs b).getD 0 < 115792089237316195423570985008687907853269984665640564039457584007913129639936 := by
  cases hp : prs b with
  | none => decide
  | some m => exact prs_lt hp
theorem most_le (c : Nat) : mostN c ≤ 255 ∧ leastN c ≤ mostN c := by unfold mostN leastN; (repeat' split) <;> omega
theorem rd_drop {w : World} {b j : Nat} {l : List Value} (h : Rd w (some ⟨b, 0, none⟩) l) : Rd w (some ⟨b, j, none⟩) (l.drop j) := by
  intro i u hu
  rw [List.getElem?_drop] at hu
  obtain ⟨a, ha, hc⟩ := h (j + i) u hu
  refine ⟨_, rfl, ?_⟩
  simp only [Option.some.injEq] at ha
  subst ha
  by_cases hi : i = 0 <;> by_cases hj : j = 0 <;> simp_all [Addr.add]
theorem strip_next {l : List Nat} {j : Nat} (hl : l.length = 32) (hj : j < 31) (hz : ∀ i, i < j → l.getD i 0 = 0) (h0 : l.getD j 0 = 0) : ∀ i, i < j + 1 → l.getD i 0 = 0 := by
  intro i hi
  by_cases h : i < j
  · exact hz i h
  · have : i = j := by omega
    rw [this]; exact h0
theorem strip_end {l : List Nat} {j : Nat} (hl : l.length = 32) (hj : j ≤ 31) (hz : ∀ i, i < j → l.getD i 0 = 0) (h : ¬ (1 < 32 - j ∧ l.getD j 0 = 0)) : trim0 l = l.drop j := by
  rw [trim0_drop j (by omega) hz, trim0_stop]
  rw [List.length_drop, List.getD_eq_getElem?_getD, List.getElem?_drop, Nat.add_zero, ← List.getD_eq_getElem?_getD]
  omega
theorem own_bsnoc {s : Seg} {A : Option Addr} {n c x : Nat} {l : List Nat} (h : OwnS s A n c (byts l ++ [.int .u8 ((x : Nat) : Int)]) 5 1) : OwnS s A n c (byts (l ++ [x])) 5 1 := by
  have : byts (l ++ [x]) = byts l ++ [.int .u8 ((x : Nat) : Int)] := by simp [byts]
  rwa [this]
theorem psh_snoc {c m i : Nat} {l : List Nat} (hi : i < l.length) : [c, m] ++ l.take (i + 1) = ([c, m] ++ l.take i) ++ [l.getD i 0] := by rw [take_snoc 0 l i hi]; simp
theorem drop_getD (l : List Nat) (j i : Nat) : (l.drop j).getD i 0 = l.getD (j + i) 0 := by rw [List.getD_eq_getElem?_getD, List.getElem?_drop, ← List.getD_eq_getElem?_getD]
theorem mem_getD {α : Type} {d : α} {l : List α} {i : Nat} (h : i < l.length) : l.getD i d ∈ l := by rw [List.getD_eq_getElem?_getD, List.getElem?_eq_getElem h]; exact List.getElem_mem h
set_option maxHeartbeats 4000000 in
theorem und_calls (A : Option Addr) (n e : Nat) (wl : List (List Nat)) (w0 : World) (hA : Rd w0 A (strs wl)) (hn : wl.length = n) (h1 : 1 ≤ n) (hnb : n ≤ 1000000) (hB : ∀ x ∈ wl, Byt x) : Ret Tryz.prog 55 [.slice A n e] w0 [] (fun v q => UndR wl v q) := by
 refine fn_start Tryz.func55 Y Tryz.ntmps55 Y [(0, .slice A n e)] ⟨Y, trivial⟩ ?_
 intro Q a hP J hR hN
 have G := St.start w0
 have hB0 := getD_byt hB 0; have hB1 := getD_byt hB 1; have hds : (toB 32 ((prs (wl.getD 1 [])).getD 0)).length = 32 := length_toB 32 _
 refine wp_seq_k fun K1 hK1=> wp_region_lit <| so (wn Y) (O.alloc Y Y J ze112 Y G fun b2 a w J G=> ?_)
 refine av J Y Y fun a J=> s0 <| then_n (hK1 _ _ <| wp_seq_k fun K2 hK2=> ?_)
 have hK2' : ∀ a w, (Fr 183 [(0, .slice A n e), (2, .pointer (some ⟨b2, 0, none⟩))] a ∧ St w0 [] [[(b2, Cel (lineB ⟨#[]⟩ ⟨#[]⟩ 0 none 0 0) 112)]] w ∧ (undN wl = insM (codeN (wl.getD 0 [])) n (wl.getD 1 []))) → K2 a w := by
  rintro a w ⟨J, G, hU⟩
  refine hK2 _ _ ?_
  refine wp_seq_k fun K3 hK3=> wp_seq_k fun K4 hK4=> wp_region_lit <| mv J Y Y fun a J=> sw J Y Y Y (R.len Tryz.underlying108 (J.ev Y)) fun a J=> sw J Y Y Y (R.gtr (J.ev Y) (J.ev Y)) fun a J=> s0 <| then_n (hK4 _ _ <| cD J Y (fun c3=> ?_) (fun c3=> ?_))
  ·refine wp_seq_k fun K5 hK5=> wp_region_lit <| sw J Y Y Y (R.buildStr (l := lineB ⟨#[]⟩ ⟨#[]⟩ 0 none 0 0) Tryz.underlying112 ze112 pl112 (J.evp Y) Y) fun a J=> so (wn Y) (O.storeW sz112 (J.ev Y) (J.ev Y) (Y) Y (by simp [Value.oneCell']) G .h (Y) fun w G=> ?_)
   refine av J Y Y fun a J=> s0 <| then_n (hK5 _ _ <| wp_ret (then_r (hR _ _ _ _ _ J (run_results Tryz.results55 (.cw J Y agg112 G .h sz112 (Y) (.t J Y (.nil)))) ?_)))
   exact ⟨_, [], Y, und_bad (hU.trans (ins_1 (.inl (by omega)))) Y, G.none⟩
  have hn2 : ¬ 2 < n := by omega
  refine wp_skip <| then_n (hK3 _ _ <| wp_seq_k fun K6 hK6=> wp_region_lit <| mv J Y Y fun a J=> sw J Y Y Y (R.indexO Tryz.underlying108 sz9 (J.ev Y) (Rd.ne hA (by rw [len_strs]; omega)) (J.ev Y) (by omega) (by omega)) fun a J=> sw J Y Y Y (R.loadO one9 (J.ev Y) (hA.old G) (strs_at (i := 0) (by omega) (by omega))) fun a J=> so (wn Y) (O.call Y Y J ent103 (J.evs Y) G (rcodeOf_l hB0 _) fun v s35 a w hR J G=> ?_))
  obtain ⟨rfl, rfl⟩ := hR
  refine av J Y Y fun a J=> s0 <| then_n (hK6 _ _ <| wp_seq_k fun K7 hK7=> wp_seq_k fun K8 hK8=> wp_region_lit <| mv J Y Y fun a J=> lS J Y Y Y fun a J=> s0 <| then_n (hK8 _ _ <| cD J Y (fun c4=> ?_) (fun c4=> ?_)))
  ·have hc28 : 28 ≤ codeN (wl.getD 0 []) := Nat.le_of_not_lt fun h => by (rw [if_pos h] at c4; omega)
   refine wp_seq_k fun K9 hK9=> wp_region_lit <| sw J Y Y Y (R.buildStr (l := lineB ⟨#[]⟩ ⟨#[]⟩ 0 none 0 0) Tryz.underlying112 ze112 pl112 (J.evp Y) Y) fun a J=> so (wn Y) (O.storeW sz112 (J.ev Y) (J.ev Y) (Y) Y (by simp [Value.oneCell']) G (.t .h) (Y) fun w G=> ?_)
   refine av J Y Y fun a J=> s0 <| then_n (hK9 _ _ <| wp_ret (then_r (hR _ _ _ _ _ J (run_results Tryz.results55 (.cw J Y agg112 G (.t .h) sz112 (Y) (.t J Y (.nil)))) ?_)))
   exact ⟨_, [], Y, und_bad (hU.trans (ins_1 (.inr (.inl hc28)))) Y, G.none⟩
  have hc28 : codeN (wl.getD 0 []) < 28 := by (by_cases h : codeN (wl.getD 0 []) < 28; exact h; rw [if_neg h] at c4; omega)
  rw [if_pos hc28] at J
  generalize codeN (wl.getD 0 []) = c at J hU hc28
  refine wp_skip <| then_n (hK7 _ _ <| wp_seq_k fun K10 hK10=> ?_)
  have hK10' : ∀ a w, (Fr 183 [(0, .slice A n e), (2, .pointer (some ⟨b2, 0, none⟩)), (6, .int .i64 ((c : Nat) : Int)), (7, .bool (decide (c = 2 ∨ c = 4 ∨ c = 5 ∨ c = 16 ∨ c = 14 ∨ c = 15)))] a ∧ St w0 [] [[(b2, Cel (lineB ⟨#[]⟩ ⟨#[]⟩ 0 none 0 0) 112)]] w) → K10 a w := by
   rintro a w ⟨J, G⟩
   refine hK10 _ _ ?_
   refine wp_seq_k fun K11 hK11=> wp_seq_k fun K12 hK12=> wp_region_lit <| mv J Y Y fun a J=> mv J Y Y fun a J=> sw J Y Y Y (R.len Tryz.underlying108 (J.ev Y)) fun a J=> sw J Y Y Y (R.as (u := .bool (decide (n = 2))) (R.eql (J.ev Y) (J.ev Y)) (congrArg Value.bool (decide_eq_decide.2 (by omega)))) fun a J=> sw J Y Y Y (R.as (u := .bool (decide (¬ ((c = 2 ∨ c = 4 ∨ c = 5 ∨ c = 16 ∨ c = 14 ∨ c = 15) ↔ n = 2)))) (R.neqB (J.ev Y) (J.ev Y) Tryz.underlying4) (congrArg Value.bool (decide_eq_decide.2 (by (by_cases h1 : (c = 2 ∨ c = 4 ∨ c = 5 ∨ c = 16 ∨ c = 14 ∨ c = 15) <;> by_cases h2 : n = 2 <;> simp [h1, h2]))))) fun a J=> s0 <| then_n (hK12 _ _ <| cD J Y (fun c5=> ?_) (fun c5=> ?_))
   ·refine wp_seq_k fun K13 hK13=> wp_region_lit <| sw J Y Y Y (R.buildStr (l := lineB ⟨#[]⟩ ⟨#[]⟩ 0 none 0 0) Tryz.underlying112 ze112 pl112 (J.evp Y) Y) fun a J=> so (wn Y) (O.storeW sz112 (J.ev Y) (J.ev Y) (Y) Y (by simp [Value.oneCell']) G .h (Y) fun w G=> ?_)
    refine av J Y Y fun a J=> s0 <| then_n (hK13 _ _ <| wp_ret (then_r (hR _ _ _ _ _ J (run_results Tryz.results55 (.cw J Y agg112 G .h sz112 (Y) (.t J Y (.nil)))) ?_)))
    exact ⟨_, [], Y, und_bad (hU.trans (ins_1 (.inr (.inr c5)))) Y, G.none⟩
   have hgd : ¬ (2 < n ∨ 28 ≤ c ∨ ¬ (hasP c ↔ n = 2)) := by unfold hasP; omega
   refine wp_skip <| then_n (hK11 _ _ <| wp_seq_k fun K14 hK14=> wp_region_lit <| mv J Y Y fun a J=> mv J Y Y fun a J=> sw J Y Y Y (R.as (u := .int .u8 ((c : Nat) : Int)) (R.convB (p := c) Tryz.underlying3 Tryz.underlying5 (J.ev Y)) (congrArg (fun z : Nat=> Value.int .u8 (z : Int)) (Nat.mod_eq_of_lt (by omega)))) fun a J=> so (wn Y) (O.buildSlice (l := byts [c]) Y Y J Tryz.underlying22 inf5 Y Y (J.evp Y) (by decide) Y G fun b70 a w J G=> ?_))
   refine sw J Y Y Y (R.buildStr (l := lineB ⟨#[]⟩ ⟨#[]⟩ ((c : Nat) : Int) (some ⟨b70, 0, none⟩) 1 1) Tryz.underlying112 ze112 pl112 (J.evp Y) Y) fun a J=> so (wn Y) (O.alloc Y Y J ze112 Y G fun b8 a w J G=> ?_)
   refine so (wn Y) (O.storeW sz112 (J.ev Y) (J.ev Y) (Y) Y (by simp [Value.oneCell']) G .h (Y) fun w G=> ?_)
   refine s0 <| then_n (hK14 _ _ <| wp_seq_k fun K15 hK15=> wp_seq_k fun K16 hK16=> wp_region_lit <| mv J Y Y fun a J=> ?_)
   refine sw J Y Y Y ((by first | exact R.notD (J.ev Y) | exact R.not (J.ev Y))) fun a J=> ?_
   refine s0 <| then_n (hK16 _ _ <| cD J Y (fun c6=> ?_) (fun c6=> ?_))
   ·refine wp_seq_k fun K17 hK17=> wp_region_lit <| sw J Y Y Y (R.loadW agg112 (J.ev Y) G .h sz112 (Y)) fun a J=> so (wn Y) (O.storeW sz112 (J.ev Y) (J.ev Y) (Y) Y (by simp [Value.oneCell']) G (.t (.t .h)) (Y) fun w G=> ?_)
    refine av J Y Y fun a J=> s0 <| then_n (hK17 _ _ <| wp_ret (then_r (hR _ _ _ _ _ J (run_results Tryz.results55 (.cw J Y agg112 G (.t (.t .h)) sz112 (Y) (.t J Y (.nil)))) ?_)))
    exact ⟨_, _, Y, und_good' (hU.trans (ins_2 hgd c6)) (Y) (Y) ((own_fullB b70 [c] (by simp))), G.one (.t .h)⟩
   have hp : hasP c := Classical.not_not.1 c6
   refine wp_skip <| then_n (hK15 _ _ <| wp_seq_k fun K18 hK18=> wp_seq_k fun K19 hK19=> ?_)
   have hK19' : ∀ a w, (Fr 183 [(0, .slice A n e), (2, .pointer (some ⟨b2, 0, none⟩)), (6, .int .i64 ((c : Nat) : Int)), (8, .pointer (some ⟨b8, 0, none⟩)), (80, .bool (decide (c = 14 ∨ c = 15)))] a ∧ St w0 [] [[(b8, Cel (lineB ⟨#[]⟩ ⟨#[]⟩ ((c : Nat) : Int) (some ⟨b70, 0, none⟩) 1 1) 112)], [(b70, Cel (byts [c]) 5)], [(b2, Cel (lineB ⟨#[]⟩ ⟨#[]⟩ 0 none 0 0) 112)]] w) → K19 a w := by
    rintro a w ⟨J, G⟩
    refine hK19 _ _ ?_
    refine cD J Y (fun c7=> ?_) (fun c7=> ?_)
    ·refine wp_seq_k fun K20 hK20=> wp_region_lit <| mv J Y Y fun a J=> sw J Y Y Y (R.indexO Tryz.underlying108 sz9 (J.ev Y) (Rd.ne hA (by rw [len_strs]; omega)) (J.ev Y) (by omega) (by omega)) fun a J=> sw J Y Y Y (R.loadO one9 (J.ev Y) (hA.old G) (strs_at (i := 1) (by omega) (by omega))) fun a J=> sw J Y Y Y (R.fieldAddr (k := 3) Tryz.underlying112 Y nz9 (J.ev Y) Y) fun a J=> ?_
     refine so (wn Y) (O.store sz9 (J.ev Y) (J.ev Y) Y Y G .h (Y) (by first | decide | omega | (show _ < 59; decide) | (show _ < 3; decide) | simp) fun w G=> ?_)
     refine s0 <| then_n (hK20 _ _ <| wp_seq_k fun K21 hK21=> wp_region_lit <| mv J Y Y fun a J=> sw J Y Y Y (R.as (u := .int .u8 ((c : Nat) : Int)) (R.convB (p := c) Tryz.underlying3 Tryz.underlying5 (J.ev Y)) (congrArg (fun z : Nat=> Value.int .u8 (z : Int)) (Nat.mod_eq_of_lt (by omega)))) fun a J=> so (wn Y) (O.buildSlice (l := byts [c, 0, 0]) Y Y J Tryz.underlying22 inf5 Y Y (J.evp Y) (by decide) Y G fun b87 a w J G=> ?_))
     refine sw J Y Y Y (R.fieldAddr (k := 2) Tryz.underlying112 Y nz22 (J.ev Y) Y) fun a J=> ?_
     refine so (wn Y) (O.store sz22 (J.ev Y) (J.ev Y) Y Y G (.t .h) (Y) (by first | decide | omega | (show _ < 59; decide) | (show _ < 3; decide) | simp) fun w G=> ?_)
     refine s0 <| then_n (hK21 _ _ <| wp_seq_k fun K22 hK22=> wp_drawG G (G.sel [0, 1] Y Y) [(0, 1), (1, 0), (2, 0), (3, 1), (4, 2), (5, 2), (6, 0)] mix (by kernel_rfl) (hP.then.then) fun w G hD=> ?_)
     refine ds J Y Y Y Y hD (fun w hD=> R.loadW agg112 (J.ev Y) hD (.t .h) sz112 (Y)) fun a J=> ?_
     refine dm J Y Y Y fun a J=> dv J Y Y Y Y (fun w=> R.indexO Tryz.underlying108 sz9 (J.ev Y) (Rd.ne hA (by rw [len_strs]; omega)) (J.ev Y) (by omega) (by omega)) fun a J=> ds J Y Y Y Y hD (fun w hD=> R.loadO one9 (J.ev Y) (hA.old hD) (strs_at (i := 1) (by omega) (by omega))) fun a J=> ?_
     refine dl Y (wn Y) (O.call Y Y J ent104 (J.evs Y) G (named_l hB1 _) fun v s93 a w hR J G=> ⟨fun hD=> G.sel [1, 2] Y Y, ?_⟩)
     obtain ⟨rfl, rfl⟩ := hR
     have hD := G.sel [1, 2] rfl rfl
     refine dl Y (wn Y) (O.storeW sz112 (J.ev Y) (J.ev Y) (Y) Y (by simp [Value.oneCell']) G (.t (.t (.t (.t .h)))) (Y) fun w G=> ⟨fun hD=> G.sel [1, 2] Y Y, ?_⟩)
     have hD := G.sel [1, 2] rfl rfl
     refine da J Y Y Y fun a J=> d0 <| then_n (hK22 _ _ <| wp_ret (then_r (hR _ _ _ _ _ J (run_results Tryz.results55 (.cw J Y agg112 G (.t (.t (.t (.t .h)))) sz112 (Y) (.t J Y (.nil)))) ?_)))
     by_cases hk : okL (wl.getD 1 []) = true
     ·exact ⟨_, _, Y, und_good' (hU.trans ((ins_3 hgd hp c7).trans (if_pos hk))) (by rw [hk]; rfl) Y (own_fullB b87 [c, 0, 0] (by simp)), G.one (.t .h)⟩
     exact ⟨_, [], Y, und_bad (hU.trans ((ins_3 hgd hp c7).trans (if_neg hk))) (by rw [Bool.eq_false_iff.2 hk]; rfl), G.none⟩
    refine wp_skip <| then_n (hK18 _ _ <| wp_seq_k fun K23 hK23=> wp_region_lit <| mv J Y Y fun a J=> sw J Y Y Y (R.indexO Tryz.underlying108 sz9 (J.ev Y) (Rd.ne hA (by rw [len_strs]; omega)) (J.ev Y) (by omega) (by omega)) fun a J=> sw J Y Y Y (R.loadO one9 (J.ev Y) (hA.old G) (strs_at (i := 1) (by omega) (by omega))) fun a J=> so (wn Y) (O.call Y Y J ent105 (J.evs Y) G (rread_l hB1 _) fun v s98 a w hR J G=> ?_))
    obtain ⟨rfl, rfl⟩ := hR
    refine mv J Y Y fun a J=> xv J Y Y Y fun a J=> xv J Y Y Y fun a J=> so (wn Y) (O.alloc Y Y J ze32 Y G fun b9 a w J G=> ?_)
    refine so (wn Y) (O.storeW sz32 (J.ev Y) (J.ev Y) (Y) Y (by simp [Value.oneCell']) G .h (Y) fun w G=> ?_)
    refine av J Y Y fun a J=> s0 <| then_n (hK23 _ _ <| wp_seq_k fun K24 hK24=> wp_seq_k fun K25 hK25=> wp_region_lit <| mv J Y Y fun a J=> sw J Y Y Y (R.as (u := .bool (decide ((prs (wl.getD 1 [])).isSome = false))) (R.not (J.ev Y)) (by cases (prs (wl.getD 1 [])).isSome <;> rfl)) fun a J=> s0 <| then_n (hK25 _ _ <| cD J Y (fun c8=> ?_) (fun c8=> ?_)))
    ·refine wp_seq_k fun K26 hK26=> wp_region_lit <| sw J Y Y Y (R.buildStr (l := lineB ⟨#[]⟩ ⟨#[]⟩ 0 none 0 0) Tryz.underlying112 ze112 pl112 (J.evp Y) Y) fun a J=> so (wn Y) (O.storeW sz112 (J.ev Y) (J.ev Y) (Y) Y (by simp [Value.oneCell']) G (.t (.t (.t (.t .h)))) (Y) fun w G=> ?_)
     refine av J Y Y fun a J=> s0 <| then_n (hK26 _ _ <| wp_ret (then_r (hR _ _ _ _ _ J (run_results Tryz.results55 (.cw J Y agg112 G (.t (.t (.t (.t .h)))) sz112 (Y) (.t J Y (.nil)))) ?_)))
     exact ⟨_, [], Y, und_bad (hU.trans (ins_4 hgd hp c7 c8)) Y, G.none⟩
    have hs : (prs (wl.getD 1 [])).isSome = true := by (cases h : (prs (wl.getD 1 [])).isSome with | false => exact absurd h c8 | true => rfl)
    refine wp_skip <| then_n (hK24 _ _ <| wp_seq_k fun K27 hK27=> wp_seq_k fun K28 hK28=> wp_region_lit <| mv J Y Y fun a J=> eL J Y Y Y fun a J=> s0 <| then_n (hK28 _ _ <| cD J Y (fun c9=> ?_) (fun c9=> ?_)))
    ·refine wp_seq_k fun K29 hK29=> wp_region_lit <| sw J Y Y Y (R.loadW agg32 (J.ev Y) G .h sz32 (Y)) fun a J=> so (wn Y) (O.call Y Y J ent61 (J.evs Y) G (dig_calls ((prs (wl.getD 1 [])).getD 0) w) fun v s107 a w hR J G=> ?_)
     obtain ⟨b107, rfl, rfl⟩ := hR
     refine av J Y Y fun a J=> s0 <| then_n (hK29 _ _ <| wp_seq_k fun K30 hK30=> wp_block <| wp_loop_N (fun g a w=> ∃ (j : Nat), 32 - j = g ∧ Fr 183 [(0, .slice A n e), (2, .pointer (some ⟨b2, 0, none⟩)), (6, .int .i64 ((c : Nat) : Int)), (8, .pointer (some ⟨b8, 0, none⟩)), (9, .pointer (some ⟨b9, 0, none⟩)), (11, .slice (some ⟨b107, j, none⟩) (32 - j) (32 - j))] a ∧ St w0 [] [[(b107, Cel (ints (toB 32 ((prs (wl.getD 1 [])).getD 0))) 3)], [(b8, Cel (lineB ⟨#[]⟩ ⟨#[]⟩ ((c : Nat) : Int) (some ⟨b70, 0, none⟩) 1 1) 112)], [(b70, Cel (byts [c]) 5)], [(b2, Cel (lineB ⟨#[]⟩ ⟨#[]⟩ 0 none 0 0) 112)]] w ∧ (j ≤ 31) ∧ (∀ i, i < j → (toB 32 ((prs (wl.getD 1 [])).getD 0)).getD i 0 = 0)) (32 - 0) ?_ ?_)
     ·exact ⟨0, Y, J.sub ⟨Y, Y, Y, Y, Y, Y, trivial⟩, G.sel [0, 3, 4, 5] Y Y, by omega, (fun i hi => absurd hi (Nat.not_lt_zero i))⟩
     rintro KL1 g a w ⟨j, hg1, J, G, hj, hz⟩ hKL1
     have hdj := toB_lt _ (mem_getD (d := 0) (l := (toB 32 ((prs (wl.getD 1 [])).getD 0))) (i := j) (by omega))
     refine wp_seq_k fun K31 hK31=> wp_seq_k fun K32 hK32=> ?_
     have hK32' : ∀ a w, (Fr 183 [(0, .slice A n e), (2, .pointer (some ⟨b2, 0, none⟩)), (6, .int .i64 ((c : Nat) : Int)), (8, .pointer (some ⟨b8, 0, none⟩)), (9, .pointer (some ⟨b9, 0, none⟩)), (11, .slice (some ⟨b107, j, none⟩) (32 - j) (32 - j)), (116, .bool (decide (1 < 32 - j ∧ (toB 32 ((prs (wl.getD 1 [])).getD 0)).getD j 0 = 0)))] a ∧ St w0 [] [[(b107, Cel (ints (toB 32 ((prs (wl.getD 1 [])).getD 0))) 3)], [(b8, Cel (lineB ⟨#[]⟩ ⟨#[]⟩ ((c : Nat) : Int) (some ⟨b70, 0, none⟩) 1 1) 112)], [(b70, Cel (byts [c]) 5)], [(b2, Cel (lineB ⟨#[]⟩ ⟨#[]⟩ 0 none 0 0) 112)]] w) → K32 a w := by
      rintro a w ⟨J, G⟩
      refine hK32 _ _ ?_
      refine cD J Y (fun d1=> ?_) (fun d1=> ?_)
      ·refine wp_skip <| then_n (hK31 _ _ <| wp_block <| wp_region_lit <| mv J Y Y fun a J=> sw J Y Y Y (R.as (u := .slice (some ⟨b107, j + 1, none⟩) (32 - (j + 1)) (32 - (j + 1))) (R.sliceLo (p := 1) Tryz.underlying61 (J.ev Y) (J.ev Y) (by omega) sz3) (slc_next (by omega))) fun a J=> av J Y Y fun a J=> s0 <| blk_n <| then_n (hKL1 (32 - (j + 1)) _ _ ?_ ?_))
       ·omega
       exact ⟨j + 1, Y, J.sub ⟨Y, Y, Y, Y, Y, Y, trivial⟩, G.sel [0, 1, 2, 3] Y Y, by omega, strip_next hds (by omega) hz d1.2⟩
      have hst := strip_end hds hj hz d1
      have hps : pshN ((prs (wl.getD 1 [])).getD 0) = [c, 32 - j] ++ (toB 32 ((prs (wl.getD 1 [])).getD 0)).drop j := by (unfold pshN; rw [hst, List.length_drop, hds, show c = 2 by omega]; rfl)
      refine wp_exit (then_x (then_x (blk_hit <| then_n (hK30 _ _ <| wp_seq_k fun K33 hK33=> wp_region_lit <| sw J Y Y Y (R.fieldAddr (k := 2) Tryz.underlying112 Y nz22 (J.ev Y) Y) fun a J=> sw J Y Y Y (R.load one22 (J.ev Y) G (.t .h) (Y)) fun a J=> mv J Y Y fun a J=> sw J Y Y Y (R.len Tryz.underlying61 (J.ev Y)) fun a J=> sw J Y Y Y (R.as (u := .int .u8 (((32 - j) : Nat) : Int)) (R.convB (p := 32 - j) Tryz.underlying3 Tryz.underlying5 (J.ev Y)) (congrArg (fun z : Nat=> Value.int .u8 (z : Int)) (Nat.mod_eq_of_lt (by omega)))) fun a J=> so (wn Y) (O.buildSlice (l := [_]) Y Y J Tryz.underlying22 inf5 Y Y (J.evp Y) (by decide) Y G fun b124 a w J G=> ?_)))))
      refine so (wn Y) (O.append Y Y J Tryz.underlying22 inf5 Y Y (by decide) (J.ev Y) (J.ev Y) G (own_fullB b70 [c] (by simp)) (fun _=> (.t (.t (.t .h)))) (Rd.own0 G .h) (Y) (by simp [Value.oneCell']) (by unfold maxLen; omega) (by omega) fun A125 c125 s125 a w hO125 J G=> ?_)
      refine sw J Y Y Y (R.fieldAddr (k := 2) Tryz.underlying112 Y nz22 (J.ev Y) Y) fun a J=> ?_
      refine so (wn Y) (O.store sz22 (J.ev Y) (J.ev Y) Y Y G (.t (.t .h)) (Y) (by first | decide | omega | (show _ < 59; decide) | (show _ < 3; decide) | simp) fun w G=> ?_)
      refine s0 <| then_n (hK33 _ _ <| wp_seq_k fun K34 hK34=> wp_seq_k fun K35 hK35=> wp_region_lit <| av J Y Y fun a J=> s0 <| then_n (hK35 _ _ <| wp_block <| wp_loop_N (fun g a w=> ∃ (i : Nat) (B : Option Addr) (d : Nat) (z : Seg), 32 - j - i = g ∧ Fr 183 [(0, .slice A n e), (2, .pointer (some ⟨b2, 0, none⟩)), (8, .pointer (some ⟨b8, 0, none⟩)), (11, .slice (some ⟨b107, j, none⟩) (32 - j) (32 - j)), (12, .int .i64 ((i : Nat) : Int))] a ∧ St w0 [] [z, [(b8, Cel (lineB ⟨#[]⟩ ⟨#[]⟩ ((c : Nat) : Int) B (2 + i) d) 112)], [(b107, Cel (ints (toB 32 ((prs (wl.getD 1 [])).getD 0))) 3)], [(b2, Cel (lineB ⟨#[]⟩ ⟨#[]⟩ 0 none 0 0) 112)]] w ∧ (i ≤ 32 - j) ∧ (OwnS z B (2 + i) d (byts ([c, 32 - j] ++ ((toB 32 ((prs (wl.getD 1 [])).getD 0)).drop j).take i)) 5 1)) (32 - j - 0) ?_ ?_))
      ·exact ⟨0, A125, c125, s125, Y, J.sub ⟨Y, Y, Y, Y, Y, trivial⟩, G.sel [3, 2, 1, 4] Y Y, by omega, own_bsnoc (l := [c]) hO125⟩
      rintro KL2 g a w ⟨i, B, d, z, hg2, J, G, hi, hO⟩ hKL2
      have hdi := fun h => toB_lt _ (mem_getD (d := 0) (l := (toB 32 ((prs (wl.getD 1 [])).getD 0))) (i := j + i) h)
      refine wp_seq_k fun K36 hK36=> wp_seq_k fun K37 hK37=> wp_region_lit <| mv J Y Y fun a J=> mv J Y Y fun a J=> sw J Y Y Y (R.len Tryz.underlying61 (J.ev Y)) fun a J=> lS J Y Y Y fun a J=> s0 <| then_n (hK37 _ _ <| cD J Y (fun d2=> ?_) (fun d2=> ?_))
      ·refine wp_skip <| then_n (hK36 _ _ <| wp_seq_k fun K38 hK38=> wp_block <| wp_draw2G G (G.sel [2] Y Y) [(0, 0), (2, 0), (3, 0), (4, 0), (5, 1), (6, 0)] [[(1, 2), (7, 2), (8, 2), (9, 0), (10, 2)], [(7, 2), (1, 2), (8, 2), (9, 0), (10, 2)]] mix (by kernel_rfl) (hP.then.then.block.then.then.block) fun w G hD=> ?_)
       refine dv J Y Y Y Y (fun w=> R.fieldAddr (k := 2) Tryz.underlying112 Y nz22 (J.ev Y) Y) fun a J=> dm J Y Y Y fun a J=> dm J Y Y Y fun a J=> dv J Y Y Y Y (fun w=> R.indexO Tryz.underlying61 sz3 (J.ev Y) ((rd_drop (j := j) (Rd.own0 G (.t (.t .h)))).ne (by rw [List.length_drop, length_ints]; omega)) (J.ev Y) (by omega) (by omega)) fun a J=> ds J Y Y Y Y hD (fun w hD=> R.loadO one3 (J.ev Y) (rd_drop (j := j) (Rd.own0 hD .h)) (dsl_i (j := j) (i := i) (by omega) (by omega))) fun a J=> ?_
       have hdi2 := hdi (by omega)
       refine dv J Y Y Y Y (fun w=> R.as (u := .int .u8 ((((toB 32 ((prs (wl.getD 1 [])).getD 0)).getD (j + i) 0) : Nat) : Int)) (R.convB (p := ((toB 32 ((prs (wl.getD 1 [])).getD 0)).getD (j + i) 0)) Tryz.underlying3 Tryz.underlying5 (J.ev Y)) (congrArg (fun z : Nat=> Value.int .u8 (z : Int)) (Nat.mod_eq_of_lt (by omega)))) fun a J=> d0 <| alts2 ?_ ?_
       ·refine dl Y (wn Y) (O.val J Y Y (R.load one22 (J.ev Y) G (.t .h) (Y)) fun a J=> ⟨id, ?_⟩)
        refine dl Y (wn Y) (O.buildSlice (l := [_]) Y Y J Tryz.underlying22 inf5 Y Y (J.evp Y) (by decide) Y G fun b140 a w J G=> ⟨fun hD=> G.sel [3] Y Y, ?_⟩)
        have hD := G.sel [3] rfl rfl
        refine dl Y (wn Y) (O.append Y Y J Tryz.underlying22 inf5 Y Y (by decide) (J.ev Y) (J.ev Y) G hO (fun _=> (.t .h)) (Rd.own0 G .h) (Y) (by simp [Value.oneCell']) (by unfold maxLen; omega) (by omega) fun A141 c141 s141 a w hO141 J G=> ⟨fun hD=> G.sel [3] Y Y, ?_⟩)
        have hD := G.sel [3] rfl rfl
        refine dv J Y Y Y Y (fun w=> R.fieldAddr (k := 2) Tryz.underlying112 Y nz22 (J.ev Y) Y) fun a J=> ?_
        refine dl Y (wn Y) (O.store sz22 (J.ev Y) (J.ev Y) Y Y G (.t (.t .h)) (Y) (by first | decide | omega | (show _ < 59; decide) | (show _ < 3; decide) | simp) fun w G=> ⟨fun hD=> G.sel [3] Y Y, ?_⟩)
        have hD := G.sel [3] rfl rfl
        refine d0 <| blk_n <| then_n (hK38 _ _ <| wp_region_lit <| mv J Y Y fun a J=> aI J Y Y Y (by omega) fun a J=> av J Y Y fun a J=> s0 <| then_n (hKL2 (32 - j - (i + 1)) _ _ ?_ ?_))
        ·omega
        exact ⟨i + 1, A141, c141, s141, Y, J.sub ⟨Y, Y, Y, Y, (congrArg (fun z => some (Value.int .i64 z)) (by omega)), trivial⟩, G.sel [1, 2, 3, 4] Y Y, by omega, (by rw [psh_snoc (by rw [List.length_drop]; omega), drop_getD]; exact own_bsnoc hO141)⟩
       refine dl Y (wn Y) (O.buildSlice (l := [_]) Y Y J Tryz.underlying22 inf5 Y Y (J.evp Y) (by decide) Y G fun b140 a w J G=> ⟨fun hD=> G.sel [3] Y Y, ?_⟩)
       have hD := G.sel [3] rfl rfl
       refine dl Y (wn Y) (O.val J Y Y (R.load one22 (J.ev Y) G (.t (.t .h)) (Y)) fun a J=> ⟨id, ?_⟩)
       refine dl Y (wn Y) (O.append Y Y J Tryz.underlying22 inf5 Y Y (by decide) (J.ev Y) (J.ev Y) G hO (fun _=> (.t .h)) (Rd.own0 G .h) (Y) (by simp [Value.oneCell']) (by unfold maxLen; omega) (by omega) fun A141 c141 s141 a w hO141 J G=> ⟨fun hD=> G.sel [3] Y Y, ?_⟩)
       have hD := G.sel [3] rfl rfl
       refine dv J Y Y Y Y (fun w=> R.fieldAddr (k := 2) Tryz.underlying112 Y nz22 (J.ev Y) Y) fun a J=> ?_
       refine dl Y (wn Y) (O.store sz22 (J.ev Y) (J.ev Y) Y Y G (.t (.t .h)) (Y) (by first | decide | omega | (show _ < 59; decide) | (show _ < 3; decide) | simp) fun w G=> ⟨fun hD=> G.sel [3] Y Y, ?_⟩)
       have hD := G.sel [3] rfl rfl
       refine d0 <| blk_n <| then_n (hK38 _ _ <| wp_region_lit <| mv J Y Y fun a J=> aI J Y Y Y (by omega) fun a J=> av J Y Y fun a J=> s0 <| then_n (hKL2 (32 - j - (i + 1)) _ _ ?_ ?_))
       ·omega
       exact ⟨i + 1, A141, c141, s141, Y, J.sub ⟨Y, Y, Y, Y, (congrArg (fun z => some (Value.int .i64 z)) (by omega)), trivial⟩, G.sel [1, 2, 3, 4] Y Y, by omega, (by rw [psh_snoc (by rw [List.length_drop]; omega), drop_getD]; exact own_bsnoc hO141)⟩
      obtain rfl : i = 32 - j := by omega
      have hfu : ((toB 32 ((prs (wl.getD 1 [])).getD 0)).drop j).take (32 - j) = (toB 32 ((prs (wl.getD 1 [])).getD 0)).drop j := List.take_of_length_le (by rw [List.length_drop]; omega)
      rw [hfu, ← hps] at hO
      have hln : (pshN ((prs (wl.getD 1 [])).getD 0)).length = 2 + (32 - j) := by (rw [hps, List.length_append, List.length_drop, hds]; rfl)
      refine wp_exit (then_x (then_x (blk_hit <| then_n (hK34 _ _ <| wp_seq_k fun K39 hK39=> wp_region_lit <| sw J Y Y Y (R.loadW agg112 (J.ev Y) G (.t .h) sz112 (Y)) fun a J=> so (wn Y) (O.storeW sz112 (J.ev Y) (J.ev Y) (Y) Y (by simp [Value.oneCell']) G (.t (.t (.t .h))) (Y) fun w G=> ?_)))))
      refine av J Y Y fun a J=> s0 <| then_n (hK39 _ _ <| wp_ret (then_r (hR _ _ _ _ _ J (run_results Tryz.results55 (.cw J Y agg112 G (.t (.t (.t .h))) sz112 (Y) (.t J Y (.nil)))) ?_)))
      exact ⟨_, _, Y, und_good' (hU.trans (ins_5 hgd hp c7 hs (by omega))) (Y) (hln) (hO), G.one .h⟩
     refine wp_region_lit <| mv J Y Y fun a J=> sw J Y Y Y (R.len Tryz.underlying61 (J.ev Y)) fun a J=> sw J Y Y Y (R.gtr (J.ev Y) (J.ev Y)) fun a J=> mv J Y Y fun a J=> J.splitD (t := 111) Y (fun h111 J=> ?_) (fun h111 J=> ?_)
     ·refine my J Y Y Y Y fun a J=> sv' J (wy J Y Y Y) Y Y (R.indexO Tryz.underlying61 sz3 (J.ev Y) ((rd_drop (j := j) (Rd.own0 G .h)).ne (by rw [List.length_drop, length_ints]; omega)) (J.ev Y) (by omega) (by omega)) fun a J=> sv' J (wy J Y Y Y) Y Y (R.loadO one3 (J.ev Y) (rd_drop (j := j) (Rd.own0 G .h)) (dsl_0 (j := j) (by omega) (by omega))) fun a J=> sv' J (wy J Y Y Y) Y Y (R.eql (J.ev Y) (J.ev Y)) fun a J=> pT J Y Y Y fun a J=> s0 ?_
      exact then_n (hK32' _ _ ⟨J.sub ⟨Y, Y, Y, Y, Y, Y, (congrArg (fun z => some (Value.bool z)) (by first | exact (decide_eq_true (by omega)).symm | exact (decide_eq_false (by omega)).symm | exact decide_eq_decide.2 (by omega))), trivial⟩, G.sel [0, 1, 2, 3] Y Y⟩)
     refine kz J Y Y Y Y Y Y fun a J=> kz J Y Y Y Y Y Y fun a J=> kz J Y Y Y Y Y Y fun a J=> kz J Y Y Y Y Y Y fun a J=> pF J Y Y Y fun a J=> s0 ?_
     exact then_n (hK32' _ _ ⟨J.sub ⟨Y, Y, Y, Y, Y, Y, (congrArg (fun z => some (Value.bool z)) (by first | exact (decide_eq_true (by omega)).symm | exact (decide_eq_false (by omega)).symm | exact decide_eq_decide.2 (by omega))), trivial⟩, G.sel [0, 1, 2, 3] Y Y⟩)
    refine wp_skip <| then_n (hK27 _ _ <| wp_seq_k fun K40 hK40=> wp_region_lit <| av J Y Y fun a J=> s0 <| then_n (hK40 _ _ <| wp_seq_k fun K41 hK41=> wp_region_lit <| av J Y Y fun a J=> s0 <| then_n (hK41 _ _ <| wp_seq_k fun K42 hK42=> ?_)))
    have hK42' : ∀ a w, (Fr 183 [(0, .slice A n e), (2, .pointer (some ⟨b2, 0, none⟩)), (6, .int .i64 ((c : Nat) : Int)), (8, .pointer (some ⟨b8, 0, none⟩)), (9, .pointer (some ⟨b9, 0, none⟩)), (13, .int .u64 ((mostN c : Nat) : Int)), (14, .int .u64 0)] a ∧ St w0 [] [[(b9, Cel (wc ((prs (wl.getD 1 [])).getD 0)) 32)], [(b8, Cel (lineB ⟨#[]⟩ ⟨#[]⟩ ((c : Nat) : Int) (some ⟨b70, 0, none⟩) 1 1) 112)], [(b70, Cel (byts [c]) 5)], [(b2, Cel (lineB ⟨#[]⟩ ⟨#[]⟩ 0 none 0 0) 112)]] w) → K42 a w := by
     rintro a w ⟨J, G⟩
     refine hK42 _ _ ?_
     refine wp_seq_k fun K43 hK43=> ?_
     have hK43' : ∀ a w, (Fr 183 [(0, .slice A n e), (2, .pointer (some ⟨b2, 0, none⟩)), (6, .int .i64 ((c : Nat) : Int)), (8, .pointer (some ⟨b8, 0, none⟩)), (9, .pointer (some ⟨b9, 0, none⟩)), (13, .int .u64 ((mostN c : Nat) : Int)), (14, .int .u64 ((leastN c : Nat) : Int))] a ∧ St w0 [] [[(b9, Cel (wc ((prs (wl.getD 1 [])).getD 0)) 32)], [(b8, Cel (lineB ⟨#[]⟩ ⟨#[]⟩ ((c : Nat) : Int) (some ⟨b70, 0, none⟩) 1 1) 112)], [(b70, Cel (byts [c]) 5)], [(b2, Cel (lineB ⟨#[]⟩ ⟨#[]⟩ 0 none 0 0) 112)]] w) → K43 a w := by
      rintro a w ⟨J, G⟩
      refine hK43 _ _ ?_
      refine wp_seq_k fun K44 hK44=> wp_seq_k fun K45 hK45=> ?_
      have hK45' : ∀ a w, (Fr 183 [(0, .slice A n e), (2, .pointer (some ⟨b2, 0, none⟩)), (6, .int .i64 ((c : Nat) : Int)), (8, .pointer (some ⟨b8, 0, none⟩)), (9, .pointer (some ⟨b9, 0, none⟩)), (172, .bool (decide (mostN c < ((prs (wl.getD 1 [])).getD 0) ∨ ((prs (wl.getD 1 [])).getD 0) < leastN c)))] a ∧ St w0 [] [[(b9, Cel (wc ((prs (wl.getD 1 [])).getD 0)) 32)], [(b8, Cel (lineB ⟨#[]⟩ ⟨#[]⟩ ((c : Nat) : Int) (some ⟨b70, 0, none⟩) 1 1) 112)], [(b70, Cel (byts [c]) 5)], [(b2, Cel (lineB ⟨#[]⟩ ⟨#[]⟩ 0 none 0 0) 112)]] w) → K45 a w := by
       rintro a w ⟨J, G⟩
       refine hK45 _ _ ?_
       refine cD J Y (fun d5=> ?_) (fun d5=> ?_)
       ·refine wp_seq_k fun K46 hK46=> wp_region_lit <| sw J Y Y Y (R.buildStr (l := lineB ⟨#[]⟩ ⟨#[]⟩ 0 none 0 0) Tryz.underlying112 ze112 pl112 (J.evp Y) Y) fun a J=> so (wn Y) (O.storeW sz112 (J.ev Y) (J.ev Y) (Y) Y (by simp [Value.oneCell']) G (.t (.t (.t .h))) (Y) fun w G=> ?_)
        refine av J Y Y fun a J=> s0 <| then_n (hK46 _ _ <| wp_ret (then_r (hR _ _ _ _ _ J (run_results Tryz.results55 (.cw J Y agg112 G (.t (.t (.t .h))) sz112 (Y) (.t J Y (.nil)))) ?_)))
        exact ⟨_, [], Y, und_bad (hU.trans ((ins_6 hgd hp c7 hs (by omega)).trans (if_pos d5))) Y, G.none⟩
       refine wp_skip <| then_n (hK44 _ _ <| wp_seq_k fun K47 hK47=> wp_region_lit <| sw J Y Y Y (R.fieldAddr (k := 2) Tryz.underlying112 Y nz22 (J.ev Y) Y) fun a J=> sw J Y Y Y (R.load one22 (J.ev Y) G (.t .h) (Y)) fun a J=> sw J Y Y Y (R.indexA Tryz.underlying32 sz30 (J.ev Y) (J.ev Y) (by omega) (by omega)) fun a J=> sw J Y Y Y (R.load one30 (J.ev Y) G .h (Y)) fun a J=> ?_)
       have hml := most_le c
       refine sw J Y Y Y (R.as (u := .int .u8 ((((prs (wl.getD 1 [])).getD 0) : Nat) : Int)) (R.convB (p := dg ((prs (wl.getD 1 [])).getD 0) 0) Tryz.underlying30 Tryz.underlying5 (J.ev Y)) (congrArg (fun z : Nat=> Value.int .u8 (z : Int)) (small_dg (by omega)))) fun a J=> so (wn Y) (O.buildSlice (l := [_]) Y Y J Tryz.underlying22 inf5 Y Y (J.evp Y) (by decide) Y G fun b179 a w J G=> ?_)
       refine so (wn Y) (O.append Y Y J Tryz.underlying22 inf5 Y Y (by decide) (J.ev Y) (J.ev Y) G (own_fullB b70 [c] (by simp)) (fun _=> (.t (.t (.t .h)))) (Rd.own0 G .h) (Y) (by simp [Value.oneCell']) (by unfold maxLen; omega) (by omega) fun A180 c180 s180 a w hO180 J G=> ?_)
       refine sw J Y Y Y (R.fieldAddr (k := 2) Tryz.underlying112 Y nz22 (J.ev Y) Y) fun a J=> ?_
       refine so (wn Y) (O.store sz22 (J.ev Y) (J.ev Y) Y Y G (.t (.t .h)) (Y) (by first | decide | omega | (show _ < 59; decide) | (show _ < 3; decide) | simp) fun w G=> ?_)
       refine s0 <| then_n (hK47 _ _ <| wp_seq_k fun K48 hK48=> wp_region_lit <| sw J Y Y Y (R.loadW agg112 (J.ev Y) G (.t (.t .h)) sz112 (Y)) fun a J=> so (wn Y) (O.storeW sz112 (J.ev Y) (J.ev Y) (Y) Y (by simp [Value.oneCell']) G (.t (.t (.t (.t .h)))) (Y) fun w G=> ?_))
       refine av J Y Y fun a J=> s0 <| then_n (hK48 _ _ <| wp_ret (hR _ _ _ _ _ J (run_results Tryz.results55 (.cw J Y agg112 G (.t (.t (.t (.t .h)))) sz112 (Y) (.t J Y (.nil)))) ?_))
       exact ⟨_, _, Y, und_good' (hU.trans ((ins_6 hgd hp c7 hs (by omega)).trans (if_neg d5))) (Y) (Y) (own_bsnoc (l := [c]) hO180), G.one (.t (.t (.t .h)))⟩
      refine wp_region_lit <| sw J Y Y Y (R.indexA Tryz.underlying32 sz30 (J.ev Y) (J.ev Y) (by omega) (by omega)) fun a J=> sw J Y Y Y (R.load one30 (J.ev Y) G .h (Y)) fun a J=> ?_
      have htb := tok_big (prs_lt0 (wl.getD 1 [])) (most_le c).1 (most_le c).2
      refine sw J Y Y Y (R.neq (J.ev Y) (J.ev Y)) fun a J=> mv J Y Y fun a J=> J.splitD (t := 151) Y (fun h151 J=> ?_) (fun h151 J=> ?_)
      ·refine kz J Y Y Y Y Y Y fun a J=> kz J Y Y Y Y Y Y fun a J=> kz J Y Y Y Y Y Y fun a J=> pT J Y Y Y fun a J=> mv J Y Y fun a J=> kz J Y Y Y Y Y Y fun a J=> kz J Y Y Y Y Y Y fun a J=> kz J Y Y Y Y Y Y fun a J=> pT J Y Y Y fun a J=> mv J Y Y fun a J=> kz J Y Y Y Y Y Y fun a J=> kz J Y Y Y Y Y Y fun a J=> kz J Y Y Y Y Y Y fun a J=> kz J Y Y Y Y Y Y fun a J=> pT J Y Y Y fun a J=> mv J Y Y fun a J=> kz J Y Y Y Y Y Y fun a J=> kz J Y Y Y Y Y Y fun a J=> kz J Y Y Y Y Y Y fun a J=> kz J Y Y Y Y Y Y fun a J=> pT J Y Y Y fun a J=> s0 ?_
       exact then_n (hK45' _ _ ⟨J.sub ⟨Y, Y, Y, Y, Y, (congrArg (fun z => some (Value.bool z)) (by first | exact (decide_eq_true (by omega)).symm | exact (decide_eq_false (by omega)).symm | exact decide_eq_decide.2 (by omega))), trivial⟩, G.sel [0, 1, 2, 3] Y Y⟩)
      refine sv' J (wy J Y Y Y) Y Y (R.indexA Tryz.underlying32 sz30 (J.ev Y) (J.ev Y) (by omega) (by omega)) fun a J=> sv' J (wy J Y Y Y) Y Y (R.load one30 (J.ev Y) G .h (Y)) fun a J=> sv' J (wy J Y Y Y) Y Y (R.neq (J.ev Y) (J.ev Y)) fun a J=> pF J Y Y Y fun a J=> mv J Y Y fun a J=> J.splitD (t := 156) Y (fun h156 J=> ?_) (fun h156 J=> ?_)
      ·refine kz J Y Y Y Y Y Y fun a J=> kz J Y Y Y Y Y Y fun a J=> kz J Y Y Y Y Y Y fun a J=> pT J Y Y Y fun a J=> mv J Y Y fun a J=> kz J Y Y Y Y Y Y fun a J=> kz J Y Y Y Y Y Y fun a J=> kz J Y Y Y Y Y Y fun a J=> kz J Y Y Y Y Y Y fun a J=> pT J Y Y Y fun a J=> mv J Y Y fun a J=> kz J Y Y Y Y Y Y fun a J=> kz J Y Y Y Y Y Y fun a J=> kz J Y Y Y Y Y Y fun a J=> kz J Y Y Y Y Y Y fun a J=> pT J Y Y Y fun a J=> s0 ?_
       exact then_n (hK45' _ _ ⟨J.sub ⟨Y, Y, Y, Y, Y, (congrArg (fun z => some (Value.bool z)) (by first | exact (decide_eq_true (by omega)).symm | exact (decide_eq_false (by omega)).symm | exact decide_eq_decide.2 (by omega))), trivial⟩, G.sel [0, 1, 2, 3] Y Y⟩)
      refine sv' J (wy J Y Y Y) Y Y (R.indexA Tryz.underlying32 sz30 (J.ev Y) (J.ev Y) (by omega) (by omega)) fun a J=> sv' J (wy J Y Y Y) Y Y (R.load one30 (J.ev Y) G .h (Y)) fun a J=> sv' J (wy J Y Y Y) Y Y (R.neq (J.ev Y) (J.ev Y)) fun a J=> pF J Y Y Y fun a J=> mv J Y Y fun a J=> J.splitD (t := 161) Y (fun h161 J=> ?_) (fun h161 J=> ?_)
      ·refine kz J Y Y Y Y Y Y fun a J=> kz J Y Y Y Y Y Y fun a J=> kz J Y Y Y Y Y Y fun a J=> kz J Y Y Y Y Y Y fun a J=> pT J Y Y Y fun a J=> mv J Y Y fun a J=> kz J Y Y Y Y Y Y fun a J=> kz J Y Y Y Y Y Y fun a J=> kz J Y Y Y Y Y Y fun a J=> kz J Y Y Y Y Y Y fun a J=> pT J Y Y Y fun a J=> s0 ?_
       exact then_n (hK45' _ _ ⟨J.sub ⟨Y, Y, Y, Y, Y, (congrArg (fun z => some (Value.bool z)) (by first | exact (decide_eq_true (by omega)).symm | exact (decide_eq_false (by omega)).symm | exact decide_eq_decide.2 (by omega))), trivial⟩, G.sel [0, 1, 2, 3] Y Y⟩)
      refine sv' J (wy J Y Y Y) Y Y (R.indexA Tryz.underlying32 sz30 (J.ev Y) (J.ev Y) (by omega) (by omega)) fun a J=> sv' J (wy J Y Y Y) Y Y (R.load one30 (J.ev Y) G .h (Y)) fun a J=> my J Y Y Y Y fun a J=> sv' J (wy J Y Y Y) Y Y (R.gtr (J.ev Y) (J.ev Y)) fun a J=> pF J Y Y Y fun a J=> mv J Y Y fun a J=> J.splitD (t := 167) Y (fun h167 J=> ?_) (fun h167 J=> ?_)
      ·refine kz J Y Y Y Y Y Y fun a J=> kz J Y Y Y Y Y Y fun a J=> kz J Y Y Y Y Y Y fun a J=> kz J Y Y Y Y Y Y fun a J=> pT J Y Y Y fun a J=> s0 ?_
       exact then_n (hK45' _ _ ⟨J.sub ⟨Y, Y, Y, Y, Y, (congrArg (fun z => some (Value.bool z)) (by first | exact (decide_eq_true (by omega)).symm | exact (decide_eq_false (by omega)).symm | exact decide_eq_decide.2 (by omega))), trivial⟩, G.sel [0, 1, 2, 3] Y Y⟩)
      refine sv' J (wy J Y Y Y) Y Y (R.indexA Tryz.underlying32 sz30 (J.ev Y) (J.ev Y) (by omega) (by omega)) fun a J=> sv' J (wy J Y Y Y) Y Y (R.load one30 (J.ev Y) G .h (Y)) fun a J=> my J Y Y Y Y fun a J=> sv' J (wy J Y Y Y) Y Y (R.lss (J.ev Y) (J.ev Y)) fun a J=> pF J Y Y Y fun a J=> s0 ?_
      exact then_n (hK45' _ _ ⟨J.sub ⟨Y, Y, Y, Y, Y, (congrArg (fun z => some (Value.bool z)) (by first | exact (decide_eq_true (by omega)).symm | exact (decide_eq_false (by omega)).symm | exact decide_eq_decide.2 (by omega))), trivial⟩, G.sel [0, 1, 2, 3] Y Y⟩)
     refine wp_seq_k fun K49 hK49=> wp_region_lit <| mv J Y Y fun a J=> eL J Y Y Y fun a J=> s0 <| then_n (hK49 _ _ <| cD J Y (fun d4=> ?_) (fun d4=> ?_))
     ·refine wp_region_lit <| av J Y Y fun a J=> s0 ?_
      exact then_n (hK43' _ _ ⟨J.sub ⟨Y, Y, Y, Y, Y, Y, (by rw [leastN, if_pos (by omega)]; rfl), trivial⟩, G.sel [0, 1, 2, 3] Y Y⟩)
     refine wp_skip ?_
     exact then_n (hK43' _ _ ⟨J.sub ⟨Y, Y, Y, Y, Y, Y, (by rw [leastN, if_neg (by omega)]; rfl), trivial⟩, G.sel [0, 1, 2, 3] Y Y⟩)
    refine wp_seq_k fun K50 hK50=> wp_region_lit <| mv J Y Y fun a J=> eL J Y Y Y fun a J=> s0 <| then_n (hK50 _ _ <| cD J Y (fun d3=> ?_) (fun d3=> ?_))
    ·refine wp_region_lit <| av J Y Y fun a J=> s0 ?_
     exact then_n (hK42' _ _ ⟨J.sub ⟨Y, Y, Y, Y, Y, (by rw [mostN, if_pos (by omega)]; rfl), Y, trivial⟩, G.sel [0, 2, 3, 4] Y Y⟩)
    refine wp_skip ?_
    exact then_n (hK42' _ _ ⟨J.sub ⟨Y, Y, Y, Y, Y, (by rw [mostN, if_neg (by omega)]; rfl), Y, trivial⟩, G.sel [0, 2, 3, 4] Y Y⟩)
   refine wp_region_lit <| mv J Y Y fun a J=> eL J Y Y Y fun a J=> mv J Y Y fun a J=> J.splitD (t := 77) Y (fun h77 J=> ?_) (fun h77 J=> ?_)
   ·refine kz J Y Y Y Y Y Y fun a J=> kz J Y Y Y Y Y Y fun a J=> pT J Y Y Y fun a J=> s0 ?_
    exact then_n (hK19' _ _ ⟨J.sub ⟨Y, Y, Y, Y, (congrArg (fun z => some (Value.bool z)) (by first | exact (decide_eq_true (by omega)).symm | exact (decide_eq_false (by omega)).symm | exact decide_eq_decide.2 (by omega))), trivial⟩, G.sel [0, 1, 2] Y Y⟩)
   refine my J Y Y Y Y fun a J=> sv' J (wy J Y Y Y) Y Y (R.eql (J.ev Y) (J.ev Y)) fun a J=> pF J Y Y Y fun a J=> s0 ?_
   exact then_n (hK19' _ _ ⟨J.sub ⟨Y, Y, Y, Y, (congrArg (fun z => some (Value.bool z)) (by first | exact (decide_eq_true (by omega)).symm | exact (decide_eq_false (by omega)).symm | exact decide_eq_decide.2 (by omega))), trivial⟩, G.sel [0, 1, 2] Y Y⟩)
  refine wp_region_lit <| mv J Y Y fun a J=> eL J Y Y Y fun a J=> mv J Y Y fun a J=> J.splitD (t := 41) Y (fun h41 J=> ?_) (fun h41 J=> ?_)
  ·refine kz J Y Y Y Y Y Y fun a J=> kz J Y Y Y Y Y Y fun a J=> pT J Y Y Y fun a J=> mv J Y Y fun a J=> kz J Y Y Y Y Y Y fun a J=> kz J Y Y Y Y Y Y fun a J=> pT J Y Y Y fun a J=> mv J Y Y fun a J=> kz J Y Y Y Y Y Y fun a J=> kz J Y Y Y Y Y Y fun a J=> pT J Y Y Y fun a J=> mv J Y Y fun a J=> kz J Y Y Y Y Y Y fun a J=> kz J Y Y Y Y Y Y fun a J=> pT J Y Y Y fun a J=> mv J Y Y fun a J=> kz J Y Y Y Y Y Y fun a J=> kz J Y Y Y Y Y Y fun a J=> pT J Y Y Y fun a J=> av J Y Y fun a J=> s0 ?_
   exact then_n (hK10' _ _ ⟨J.sub ⟨Y, Y, Y, (congrArg (fun z => some (Value.bool z)) (by first | exact (decide_eq_true (by omega)).symm | exact (decide_eq_false (by omega)).symm | exact decide_eq_decide.2 (by omega))), trivial⟩, G.sel [1] Y Y⟩)
  refine my J Y Y Y Y fun a J=> sv' J (wy J Y Y Y) Y Y (R.eql (J.ev Y) (J.ev Y)) fun a J=> pF J Y Y Y fun a J=> mv J Y Y fun a J=> J.splitD (t := 45) Y (fun h45 J=> ?_) (fun h45 J=> ?_)
  ·refine kz J Y Y Y Y Y Y fun a J=> kz J Y Y Y Y Y Y fun a J=> pT J Y Y Y fun a J=> mv J Y Y fun a J=> kz J Y Y Y Y Y Y fun a J=> kz J Y Y Y Y Y Y fun a J=> pT J Y Y Y fun a J=> mv J Y Y fun a J=> kz J Y Y Y Y Y Y fun a J=> kz J Y Y Y Y Y Y fun a J=> pT J Y Y Y fun a J=> mv J Y Y fun a J=> kz J Y Y Y Y Y Y fun a J=> kz J Y Y Y Y Y Y fun a J=> pT J Y Y Y fun a J=> av J Y Y fun a J=> s0 ?_
   exact then_n (hK10' _ _ ⟨J.sub ⟨Y, Y, Y, (congrArg (fun z => some (Value.bool z)) (by first | exact (decide_eq_true (by omega)).symm | exact (decide_eq_false (by omega)).symm | exact decide_eq_decide.2 (by omega))), trivial⟩, G.sel [1] Y Y⟩)
  refine my J Y Y Y Y fun a J=> sv' J (wy J Y Y Y) Y Y (R.eql (J.ev Y) (J.ev Y)) fun a J=> pF J Y Y Y fun a J=> mv J Y Y fun a J=> J.splitD (t := 49) Y (fun h49 J=> ?_) (fun h49 J=> ?_)
  ·refine kz J Y Y Y Y Y Y fun a J=> kz J Y Y Y Y Y Y fun a J=> pT J Y Y Y fun a J=> mv J Y Y fun a J=> kz J Y Y Y Y Y Y fun a J=> kz J Y Y Y Y Y Y fun a J=> pT J Y Y Y fun a J=> mv J Y Y fun a J=> kz J Y Y Y Y Y Y fun a J=> kz J Y Y Y Y Y Y fun a J=> pT J Y Y Y fun a J=> av J Y Y fun a J=> s0 ?_
   exact then_n (hK10' _ _ ⟨J.sub ⟨Y, Y, Y, (congrArg (fun z => some (Value.bool z)) (by first | exact (decide_eq_true (by omega)).symm | exact (decide_eq_false (by omega)).symm | exact decide_eq_decide.2 (by omega))), trivial⟩, G.sel [1] Y Y⟩)
  refine my J Y Y Y Y fun a J=> sv' J (wy J Y Y Y) Y Y (R.eql (J.ev Y) (J.ev Y)) fun a J=> pF J Y Y Y fun a J=> mv J Y Y fun a J=> J.splitD (t := 53) Y (fun h53 J=> ?_) (fun h53 J=> ?_)
  ·refine kz J Y Y Y Y Y Y fun a J=> kz J Y Y Y Y Y Y fun a J=> pT J Y Y Y fun a J=> mv J Y Y fun a J=> kz J Y Y Y Y Y Y fun a J=> kz J Y Y Y Y Y Y fun a J=> pT J Y Y Y fun a J=> av J Y Y fun a J=> s0 ?_
   exact then_n (hK10' _ _ ⟨J.sub ⟨Y, Y, Y, (congrArg (fun z => some (Value.bool z)) (by first | exact (decide_eq_true (by omega)).symm | exact (decide_eq_false (by omega)).symm | exact decide_eq_decide.2 (by omega))), trivial⟩, G.sel [1] Y Y⟩)
  refine my J Y Y Y Y fun a J=> sv' J (wy J Y Y Y) Y Y (R.eql (J.ev Y) (J.ev Y)) fun a J=> pF J Y Y Y fun a J=> mv J Y Y fun a J=> J.splitD (t := 57) Y (fun h57 J=> ?_) (fun h57 J=> ?_)
  ·refine kz J Y Y Y Y Y Y fun a J=> kz J Y Y Y Y Y Y fun a J=> pT J Y Y Y fun a J=> av J Y Y fun a J=> s0 ?_
   exact then_n (hK10' _ _ ⟨J.sub ⟨Y, Y, Y, (congrArg (fun z => some (Value.bool z)) (by first | exact (decide_eq_true (by omega)).symm | exact (decide_eq_false (by omega)).symm | exact decide_eq_decide.2 (by omega))), trivial⟩, G.sel [1] Y Y⟩)
  refine my J Y Y Y Y fun a J=> sv' J (wy J Y Y Y) Y Y (R.eql (J.ev Y) (J.ev Y)) fun a J=> pF J Y Y Y fun a J=> av J Y Y fun a J=> s0 ?_
  exact then_n (hK10' _ _ ⟨J.sub ⟨Y, Y, Y, (congrArg (fun z => some (Value.bool z)) (by first | exact (decide_eq_true (by omega)).symm | exact (decide_eq_false (by omega)).symm | exact decide_eq_decide.2 (by omega))), trivial⟩, G.sel [1] Y Y⟩)
 refine wp_seq_k fun K51 hK51=> wp_region_lit <| mv J Y Y fun a J=> sw J Y Y Y (R.len Tryz.underlying108 (J.ev Y)) fun a J=> eL J Y Y Y fun a J=> s0 <| then_n (hK51 _ _ <| cD J Y (fun c1=> ?_) (fun c1=> ?_))
 ·refine wp_seq_k fun K52 hK52=> wp_region_lit <| mv J Y Y fun a J=> sw J Y Y Y (R.indexO Tryz.underlying108 sz9 (J.ev Y) (Rd.ne hA (by rw [len_strs]; omega)) (J.ev Y) (by omega) (by omega)) fun a J=> sw J Y Y Y (R.loadO one9 (J.ev Y) (hA.old G) (strs_at (i := 0) (by omega) (by omega))) fun a J=> so (wn Y) (O.call Y Y J ent102 (J.evs Y) G (labelled_l hB0 _) fun v s22 a w hR J G=> ?_)
  obtain ⟨rfl, rfl⟩ := hR
  refine mv J Y Y fun a J=> xv J Y Y Y fun a J=> xv J Y Y Y fun a J=> av J Y Y fun a J=> av J Y Y fun a J=> s0 <| then_n (hK52 _ _ <| wp_seq_k fun K53 hK53=> wp_region_lit <| mv J Y Y fun a J=> s0 <| then_n (hK53 _ _ <| cS J Y (fun c2=> ?_) (fun c2=> ?_)))
  ·refine wp_seq_k fun K54 hK54=> wp_region_lit <| mv J Y Y fun a J=> sw J Y Y Y (R.buildStr (l := lineB (bstr (lblN (wl.getD 0 [])).1) ⟨#[]⟩ (-1) none 0 0) Tryz.underlying112 ze112 pl112 (J.evp Y) Y) fun a J=> so (wn Y) (O.storeW sz112 (J.ev Y) (J.ev Y) (Y) Y (by simp [Value.oneCell']) G (.t .h) (Y) fun w G=> ?_)
   refine av J Y Y fun a J=> s0 <| then_n (hK54 _ _ <| wp_ret (then_r (hR _ _ _ _ _ J (run_results Tryz.results55 (.cw J Y agg112 G (.t .h) sz112 (Y) (.t J Y (.nil)))) ?_)))
   exact ⟨_, [], Y, und_good' (und_lab hn (by omega) c2) Y Y (OwnS.nil 5 1), G.none⟩
  refine wp_skip ?_
  exact then_n (hK2' _ _ ⟨J.sub ⟨Y, Y, trivial⟩, G.sel [1] Y Y, und_ins hn (fun _ => c2)⟩)
 refine wp_skip ?_
 exact then_n (hK2' _ _ ⟨J.sub ⟨Y, Y, trivial⟩, G.sel [0] Y Y, und_ins hn (fun h => absurd h (by omega))⟩)
end Go.Proofs.YtlapmbkfmbkdoaaGreatDoor
end
section
namespace Go.Proofs.YtlapmbkfmbkdoaaGreatDoor
open Go Go.Fw Go.RowKit
attribute [local irreducible] Go.Oper.wp Go.Code.wp Go.wpList Go.Fw.WL Go.Calls
theorem add_add (a : Addr) (k j : Nat) : (a.add k).add j = a.add (k + j) := by
  unfold Addr.add
  by_cases hj0 : j = 0
  · subst hj0; simp
  · by_cases hk0 : k = 0
    · subst hk0; simp
    · simp [hj0, hk0, Nat.add_assoc]
theorem R.fieldAddrO {P : Program} {w : World} {ρ : Operand → Value} {dst : Option Tmp} {ty : TypeId} {pos : String} {af : Array Edge} {g : Option (Nat × Bool)} {x : Operand} {T : TypeId} {A : Option Addr} {fs : Array Field} {i k m : Nat} {f : Field} (hT : P.underlying T = some (.struct fs)) (hf : fs[i]? = some f) (hs : nzT P f.type = true) (hx : ρ x = .pointer (A.map (·.add k))) (hA : A ≠ none) (hk : f.offset = m) :
    (execOp ρ ⟨dst, .fieldAddr T x i, ty, pos, af, g⟩).run P w = .ok (.value (.pointer (A.map (·.add (k + m))))) w := by
  subst hk
  cases A with
  | none => exact absurd rfl hA
  | some a =>
    unfold nzT at hs
    cases hi : P.info? f.type with
    | none => rw [hi] at hs; simp at hs
    | some inf =>
      rw [hi] at hs
      have hne : ¬ inf.size = 0 := fun e => by simp [e] at hs
      have hsz : (sizeOf f.type).run P w = .ok inf.size w := by simp [sizeOf, typeInfo, hi, Sem.run_bind, Result.andThen_ok]
      simp only [execOp, hx, Option.map_some, Instr.fieldAt, run_underlying hT, hf, Instr.sureAddr, fieldPlace, hsz, hne, add_add, if_false, Sem.run_bind, Sem.run_pure, Result.andThen_ok]
structure Pit where
  it : It
  no : Nat
  A : Option Addr
  d : Nat
  sg : Seg
def pd : Pit := ⟨⟨[], 0, [], []⟩, 0, none, 0, []⟩
def flS (l : List Pit) : Seg := (l.map (·.sg)).flatten
def accOf (ps : List Pit) : List (It × Nat) := ps.map fun p => (p.it, p.no)
def saidC (ps : List Pit) : List Value := ps.flatMap fun p => lineB (bstr p.it.lab) (bstr p.it.tg) p.it.code p.A p.it.bs.length p.d
def nosL (ps : List Pit) : List Nat := ps.map (·.no)
def PitOK (p : Pit) : Prop := ItOK p.it ∧ Byt p.it.lab ∧ Byt p.it.tg ∧ OwnS p.sg p.A p.it.bs.length p.d (byts p.it.bs) 5 1
def PoolP (ps : List Pit) : Prop := ∀ p ∈ ps, PitOK p
theorem pool_nil : PoolP [] := fun p h => by cases h
theorem pool_snoc {ps : List Pit} {p : Pit} (h : PoolP ps) (hp : PitOK p) : PoolP (ps ++ [p]) := by
  intro x hx
  rcases List.mem_append.1 hx with h1 | h1
  · exact h x h1
  · rw [List.mem_singleton.1 h1]; exact hp
theorem pool_at {ps : List Pit} (h : PoolP ps) {i : Nat} (hi : i < ps.length) : PitOK (ps.getD i pd) := h _ (mem_getD hi)
theorem said_snoc (ps : List Pit) (p : Pit) : saidC (ps ++ [p]) = saidC ps ++ lineB (bstr p.it.lab) (bstr p.it.tg) p.it.code p.A p.it.bs.length p.d := by simp [saidC]
theorem nos_snoc (ps : List Pit) (p : Pit) : nosL (ps ++ [p]) = nosL ps ++ [p.no] := by simp [nosL]
theorem acc_snoc (ps : List Pit) (p : Pit) : accOf (ps ++ [p]) = accOf ps ++ [(p.it, p.no)] := by simp [accOf]
theorem len_acc (ps : List Pit) : (accOf ps).length = ps.length := by simp [accOf]
theorem len_nos (ps : List Pit) : (nosL ps).length = ps.length := by simp [nosL]
theorem len_said (ps : List Pit) : (saidC ps).length = ps.length * 4 := by
  induction ps with
  | nil => rfl
  | cons p r ih => simp only [saidC, List.flatMap_cons, List.length_append, List.length_cons, List.length_nil] at ih ⊢; rw [ih]; omega
theorem said_at {ps : List Pit} {i k off : Nat} (h : i < ps.length) (ho : off = i * 4 + k) (hk : k < 4) : (saidC ps)[off]? = (lineB (bstr (ps.getD i pd).it.lab) (bstr (ps.getD i pd).it.tg) (ps.getD i pd).it.code (ps.getD i pd).A (ps.getD i pd).it.bs.length (ps.getD i pd).d)[k]? := by
  subst ho
  induction ps generalizing i with
  | nil => simp at h
  | cons p r ih =>
    cases i with
    | zero =>
      simp only [saidC, List.flatMap_cons, Nat.zero_mul, Nat.zero_add, List.getD_cons_zero]
      exact List.getElem?_append_left (by simpa using hk)
    | succ i =>
      have := ih (i := i) (by simpa using h)
      simp only [List.getD_cons_succ]
      rw [← this]
      simp only [saidC, List.flatMap_cons]
      rw [List.getElem?_append_right (by simp only [List.length_cons, List.length_nil]; omega)]
      congr 1
      simp only [List.length_cons, List.length_nil]; omega
theorem said_lab {ps : List Pit} {i off : Nat} (h : i < ps.length) (ho : off = i * 4 + 0) : (saidC ps)[off]? = some (.string (bstr (ps.getD i pd).it.lab)) := said_at h ho (by decide)
theorem said_code {ps : List Pit} {i off : Nat} (h : i < ps.length) (ho : off = i * 4 + 1) : (saidC ps)[off]? = some (.int .i64 (ps.getD i pd).it.code) := said_at h ho (by decide)
theorem said_bs {ps : List Pit} {i off : Nat} (h : i < ps.length) (ho : off = i * 4 + 2) : (saidC ps)[off]? = some (.slice (ps.getD i pd).A (ps.getD i pd).it.bs.length (ps.getD i pd).d) := said_at h ho (by decide)
theorem said_to {ps : List Pit} {i off : Nat} (h : i < ps.length) (ho : off = i * 4 + 3) : (saidC ps)[off]? = some (.string (bstr (ps.getD i pd).it.tg)) := said_at h ho (by decide)
theorem acc_at {ps : List Pit} {i : Nat} (h : i < ps.length) : (accOf ps)[i]? = some ((ps.getD i pd).it, (ps.getD i pd).no) := by simp [accOf, h]
theorem acc_drop {ps : List Pit} {i : Nat} (h : i < ps.length) : (accOf ps).drop i = ((ps.getD i pd).it, (ps.getD i pd).no) :: (accOf ps).drop (i + 1) := by
  rw [List.drop_eq_getElem_cons (by rw [len_acc]; exact h)]
  congr 1
  have := acc_at h
  rw [List.getElem?_eq_getElem (by rw [len_acc]; exact h)] at this
  exact Option.some.inj this
theorem acc_take {ps : List Pit} {i : Nat} (h : i < ps.length) : (accOf ps).take (i + 1) = (accOf ps).take i ++ [((ps.getD i pd).it, (ps.getD i pd).no)] := by
  rw [List.take_add_one, acc_at h]; rfl
theorem len_take_le {ps : List Pit} (hP : PoolP ps) : ∀ i, i ≤ ps.length → lenN ((accOf ps).take i) ≤ 34 * i
  | 0, _ => by simp [lenN, flat]
  | i + 1, h => by
    have ih := len_take_le hP i (by omega)
    have h2 := (pool_at hP (i := i) (by omega)).1.2.2.2.2
    rw [acc_take (by omega), lenN_append, lenN_cons]
    show lenN _ + ((ps.getD i pd).it.bs.length + lenN []) ≤ _
    have : lenN [] = 0 := rfl
    omega
theorem len_take_succ {ps : List Pit} {i : Nat} (h : i < ps.length) : lenN ((accOf ps).take (i + 1)) = lenN ((accOf ps).take i) + (ps.getD i pd).it.bs.length := by
  rw [acc_take h, lenN_append, lenN_cons]; rfl
theorem str_eq {xs ys : List Nat} (hx : Byt xs) (hy : Byt ys) : bstr xs = bstr ys ↔ xs = ys := ⟨bstr_inj hx hy, fun h => by rw [h]⟩
theorem str_nil {xs : List Nat} : bstr xs = ⟨#[]⟩ ↔ xs = [] := by
  constructor
  · intro h; have := congrArg ByteArray.size h; rw [size_bstr] at this; exact List.eq_nil_of_length_eq_zero this
  · rintro rfl; rfl
def plcV (o : Option Nat) : Int := match o with
  | none => -1
  | some p => p
theorem plcV_neg {o : Option Nat} : plcV o < 0 ↔ o = none := by
  cases o with
  | none => simp [plcV]
  | some p => simp only [plcV, reduceCtorEq, iff_false]; omega
theorem plc_hit {ps : List Pit} {i : Nat} {s : List Nat} (h : i < ps.length) (hc : (ps.getD i pd).it.code < 0 ∧ (ps.getD i pd).it.lab = s) (q : Nat) : plcL ((accOf ps).drop i) s q = some q := by
  have h2 : isL (ps.getD i pd).it s = true := by simp only [isL, Bool.and_eq_true, decide_eq_true_eq, beq_iff_eq]; exact hc
  rw [acc_drop h, plcL, if_pos h2]
theorem plc_miss {ps : List Pit} {i : Nat} {s : List Nat} (h : i < ps.length) (hc : ¬ ((ps.getD i pd).it.code < 0 ∧ (ps.getD i pd).it.lab = s)) : plcL ((accOf ps).drop i) s (lenN ((accOf ps).take i)) = plcL ((accOf ps).drop (i + 1)) s (lenN ((accOf ps).take (i + 1))) := by
  rw [acc_drop h, plcL, if_neg, len_take_succ h]
  intro h2
  simp only [isL, Bool.and_eq_true, decide_eq_true_eq, beq_iff_eq] at h2
  exact hc h2
theorem plc_end {ps : List Pit} {i : Nat} {s : List Nat} (h : ps.length ≤ i) (q : Nat) : plcL ((accOf ps).drop i) s q = none := by
  rw [List.drop_of_length_le (by rw [len_acc]; exact h)]; rfl
theorem pool_rd {ps : List Pit} {w0 w : World} {ks : List Nat} {bs : List Seg} (hP : PoolP ps) (hS : St w0 ks bs w) (hs : HasS bs (flS ps)) {i : Nat} (hi : i < ps.length) : Rd w (ps.getD i pd).A (byts (ps.getD i pd).it.bs) := by
  have h1 := hS.own1 hs
  have hO := (pool_at hP hi).2.2.2
  have hm : ∀ p ∈ (ps.getD i pd).sg, p ∈ flS ps := fun p hp => List.mem_flatten.2 ⟨_, List.mem_map.2 ⟨_, mem_getD hi, rfl⟩, hp⟩
  obtain ⟨a1, a2, a3⟩ := hO
  rcases a3 with ⟨e1, e2, _⟩ | ⟨g, rest, e1, e2, _, _⟩
  · rw [e1]
    have : byts (ps.getD i pd).it.bs = [] := List.eq_nil_of_length_eq_zero (by rw [a1]; omega)
    rw [this]; exact Rd.nil _ _
  · rw [e1]
    intro j v hj
    refine ⟨_, rfl, ?_⟩
    have hb := h1.1 (g, Cel (byts (ps.getD i pd).it.bs ++ rest) 5) (hm _ (by rw [e2]; simp))
    have hlt := (List.getElem?_eq_some_iff.1 hj).1
    rw [addr_add, cell_Cel hb, Nat.zero_add, List.getElem?_append_left hlt]
    exact hj
set_option maxHeartbeats 1000000 in
theorem placeOf_calls (A : Option Addr) (e : Nat) (ps : List Pit) (s : List Nat) (w0 : World) (hA : Rd w0 A (saidC ps)) (hPo : PoolP ps) (hs : Byt s) (hn : ps.length ≤ 100000) : Ret Tryz.prog 56 [.slice A ps.length e, .string (bstr s)] w0 [] (fun v q => v = .int .i64 (plcV (plcL (accOf ps) s 0)) ∧ q = []) := by
 refine fn_start Tryz.func56 Y Tryz.ntmps56 Y [(0, .slice A ps.length e), (1, .string (bstr s))] ⟨Y, Y, trivial⟩ ?_
 intro Q a hP J hR hN
 have G := St.start w0
 refine wp_seq_k fun K1 hK1=> wp_region_lit <| av J Y Y fun a J=> s0 <| then_n (hK1 _ _ <| wp_seq_k fun K2 hK2=> wp_region_lit <| av J Y Y fun a J=> s0 <| then_n (hK2 _ _ <| wp_seq_k fun K3 hK3=> wp_seq_k fun K4 hK4=> wp_region_lit <| av J Y Y fun a J=> s0 <| then_n (hK4 _ _ <| wp_block <| wp_loop_N (fun g a w=> ∃ (i : Nat), ps.length - i = g ∧ Fr 37 [(0, .slice A ps.length e), (1, .string (bstr s)), (5, .int .i64 ((lenN ((accOf ps).take i) : Nat) : Int)), (6, .int .i64 ((i : Nat) : Int))] a ∧ St w0 [] [] w ∧ (i ≤ ps.length) ∧ (plcL (accOf ps) s 0 = plcL ((accOf ps).drop i) s (lenN ((accOf ps).take i)))) (ps.length - 0) ?_ ?_)))
 ·exact ⟨0, Y, J.sub ⟨Y, Y, Y, Y, trivial⟩, G.sel [] Y Y, by omega, by rfl⟩
 rintro KL1 g a w ⟨i, hg1, J, G, hi, hpl⟩ hKL1
 have hle := len_take_le hPo i hi
 refine wp_seq_k fun K5 hK5=> wp_seq_k fun K6 hK6=> wp_region_lit <| mv J Y Y fun a J=> mv J Y Y fun a J=> sw J Y Y Y (R.len Tryz.underlying110 (J.ev Y)) fun a J=> lS J Y Y Y fun a J=> s0 <| then_n (hK6 _ _ <| cD J Y (fun c1=> ?_) (fun c1=> ?_))
 ·have hbl := (pool_at hPo (i := i) (by omega)).1.2.2.2.2
  refine wp_skip <| then_n (hK5 _ _ <| wp_seq_k fun K7 hK7=> wp_block <| wp_seq_k fun K8 hK8=> wp_seq_k fun K9 hK9=> ?_)
  have hK9' : ∀ a w, (Fr 37 [(0, .slice A ps.length e), (1, .string (bstr s)), (5, .int .i64 ((lenN ((accOf ps).take i) : Nat) : Int)), (6, .int .i64 ((i : Nat) : Int)), (27, .bool (decide ((ps.getD i pd).it.code < 0 ∧ (ps.getD i pd).it.lab = s)))] a ∧ St w0 [] [] w) → K9 a w := by
   rintro a w ⟨J, G⟩
   refine hK9 _ _ ?_
   refine cD J Y (fun c2=> ?_) (fun c2=> ?_)
   ·refine wp_seq_k fun K10 hK10=> wp_region_lit <| mv J Y Y fun a J=> av J Y Y fun a J=> s0 <| then_n (hK10 _ _ <| wp_ret (then_r (blk_r (then_r (then_r (blk_r (then_r (hR _ _ _ _ _ J (run_results Tryz.results56 (.t J Y (.nil))) ?_))))))))
    exact ⟨_, [], Y, ⟨by rw [hpl, plc_hit (by omega) c2]; rfl, Y⟩, G.none⟩
   refine wp_skip <| then_n (hK8 _ _ <| wp_region_lit <| mv J Y Y fun a J=> mv J Y Y fun a J=> mv J Y Y fun a J=> sw J Y Y Y (R.indexO Tryz.underlying110 sz112 (J.ev Y) ((hA.old G).ne (by rw [len_said]; omega)) (J.ev Y) (by omega) (by omega)) fun a J=> sw J Y Y Y (R.fieldAddrO (m := 2) Tryz.underlying112 Y nz22 (J.ev Y) ((hA.old G).ne (by rw [len_said]; omega)) Y) fun a J=> sw J Y Y Y (R.loadO one22 (J.ev Y) (hA.old G) (said_bs (i := i) (by omega) (by omega))) fun a J=> sw J Y Y Y (R.len Tryz.underlying22 (J.ev Y)) fun a J=> aI J Y Y Y (by omega) fun a J=> av J Y Y fun a J=> s0 <| blk_n <| then_n (hK7 _ _ <| wp_region_lit <| mv J Y Y fun a J=> aI J Y Y Y (by omega) fun a J=> av J Y Y fun a J=> s0 <| then_n (hKL1 (ps.length - (i + 1)) _ _ ?_ ?_)))
   ·omega
   exact ⟨i + 1, Y, J.sub ⟨Y, Y, (congrArg (fun z => some (Value.int .i64 z)) (by rw [len_take_succ (by omega)]; omega)), (congrArg (fun z => some (Value.int .i64 z)) (by omega)), trivial⟩, G.sel [] Y Y, by omega, hpl.trans (plc_miss (by omega) c2)⟩
  refine wp_region_lit <| mv J Y Y fun a J=> mv J Y Y fun a J=> sw J Y Y Y (R.indexO Tryz.underlying110 sz112 (J.ev Y) ((hA.old G).ne (by rw [len_said]; omega)) (J.ev Y) (by omega) (by omega)) fun a J=> sw J Y Y Y (R.fieldAddrO (m := 1) Tryz.underlying112 Y nz3 (J.ev Y) ((hA.old G).ne (by rw [len_said]; omega)) Y) fun a J=> sw J Y Y Y (R.loadO one3 (J.ev Y) (hA.old G) (said_code (i := i) (by omega) (by omega))) fun a J=> lS J Y Y Y fun a J=> mv J Y Y fun a J=> J.splitD (t := 19) Y (fun h19 J=> ?_) (fun h19 J=> ?_)
  ·refine my J Y Y Y Y fun a J=> my J Y Y Y Y fun a J=> sv' J (wy J Y Y Y) Y Y (R.indexO Tryz.underlying110 sz112 (J.ev Y) ((hA.old G).ne (by rw [len_said]; omega)) (J.ev Y) (by omega) (by omega)) fun a J=> sv' J (wy J Y Y Y) Y Y (R.fieldAddrO (m := 0) Tryz.underlying112 Y nz9 (J.ev Y) ((hA.old G).ne (by rw [len_said]; omega)) Y) fun a J=> sv' J (wy J Y Y Y) Y Y (R.loadO one9 (J.ev Y) (hA.old G) (said_lab (i := i) (by omega) (by omega))) fun a J=> my J Y Y Y Y fun a J=> sv' J (wy J Y Y Y) Y Y (R.as (u := .bool (decide ((ps.getD i pd).it.lab = s))) (R.eqlStr (J.ev Y) (J.ev Y)) (congrArg Value.bool (decide_eq_decide.2 (str_eq (pool_at hPo (by omega)).2.1 hs)))) fun a J=> pT J Y Y Y fun a J=> s0 ?_
   exact then_n (hK9' _ _ ⟨J.sub ⟨Y, Y, Y, Y, (congrArg (fun z => some (Value.bool z)) (decide_eq_decide.2 ⟨fun h => ⟨by omega, h⟩, fun h => h.2⟩)), trivial⟩, G.sel [] Y Y⟩)
  refine kz J Y Y Y Y Y Y fun a J=> kz J Y Y Y Y Y Y fun a J=> kz J Y Y Y Y Y Y fun a J=> kz J Y Y Y Y Y Y fun a J=> kz J Y Y Y Y Y Y fun a J=> kz J Y Y Y Y Y Y fun a J=> kz J Y Y Y Y Y Y fun a J=> pF J Y Y Y fun a J=> s0 ?_
  exact then_n (hK9' _ _ ⟨J.sub ⟨Y, Y, Y, Y, (congrArg (fun z => some (Value.bool z)) (decide_eq_false (fun h => absurd h.1 (by omega))).symm), trivial⟩, G.sel [] Y Y⟩)
 refine wp_exit (then_x (then_x (blk_hit <| then_n (hK3 _ _ <| wp_seq_k fun K11 hK11=> wp_region_lit <| av J Y Y fun a J=> s0 <| then_n (hK11 _ _ <| wp_ret (hR _ _ _ _ _ J (run_results Tryz.results56 (.t J Y (.nil))) ?_))))))
 exact ⟨_, [], Y, ⟨by rw [hpl, plc_end (by omega)]; rfl, Y⟩, G.none⟩
end Go.Proofs.YtlapmbkfmbkdoaaGreatDoor
end
section
namespace Go.Proofs.YtlapmbkfmbkdoaaGreatDoor
open Go Go.Fw Go.RowKit
attribute [local irreducible] Go.Oper.wp Go.Code.wp Go.wpList Go.Fw.WL Go.Calls
theorem words_len (cur l : List Nat) : (fld cur l).length ≤ l.length + 1 := by
  induction l generalizing cur with
  | nil => rw [fld]; exact len_clo cur
  | cons c l ih =>
    rw [fld]
    have h1 := len_clo cur
    have h2 := ih []
    have h3 := ih (cur ++ [c])
    simp only [List.length_cons]
    split
    · omega
    split
    · rw [List.length_append]; omega
    · omega
theorem clo_byt {cur : List Nat} (h : Byt cur) : ∀ x ∈ clo cur, Byt x := by
  unfold clo; split
  · intro x hx; cases hx
  · intro x hx; rw [List.mem_singleton.1 hx]; exact h
theorem byt_snoc {xs : List Nat} {c : Nat} (h : Byt xs) (hc : c < 256) : Byt (xs ++ [c]) := by
  intro b hb
  rcases List.mem_append.1 hb with h1 | h1
  · exact h b h1
  · rw [List.mem_singleton.1 h1]; exact hc
theorem byt_nil : Byt [] := fun b hb => by cases hb
theorem words_byt (l : List Nat) : ∀ (cur : List Nat), Byt cur → Byt l → ∀ x ∈ fld cur l, Byt x := by
  induction l with
  | nil => intro cur h _; rw [fld]; exact clo_byt h
  | cons c l ih =>
    intro cur h hl
    have hc := hl c List.mem_cons_self
    have hl2 : Byt l := fun b hb => hl b (List.mem_cons_of_mem _ hb)
    rw [fld]
    split
    · exact clo_byt h
    split
    · intro x hx
      rcases List.mem_append.1 hx with h1 | h1
      · exact clo_byt h x h1
      · exact ih [] byt_nil hl2 x h1
    · exact ih _ (byt_snoc h hc) hl2
theorem lines_byt (l : List Nat) : ∀ (cur : List Nat), Byt cur → Byt l → ∀ x ∈ spl10 cur l, Byt x ∧ x.length ≤ cur.length + l.length := by
  induction l with
  | nil => intro cur h _ x hx; rw [spl10] at hx; rw [List.mem_singleton.1 hx]; exact ⟨h, by simp⟩
  | cons c l ih =>
    intro cur h hl
    have hc := hl c List.mem_cons_self
    have hl2 : Byt l := fun b hb => hl b (List.mem_cons_of_mem _ hb)
    rw [spl10]
    split
    · intro x hx
      rcases List.mem_cons.1 hx with rfl | h1
      · exact ⟨h, by simp⟩
      · have := ih [] byt_nil hl2 x h1
        exact ⟨this.1, by have := this.2; simp only [List.length_nil, List.length_cons] at *; omega⟩
    · intro x hx
      have := ih _ (byt_snoc h hc) hl2 x hx
      exact ⟨this.1, by have := this.2; simp only [List.length_append, List.length_nil, List.length_cons] at *; omega⟩
theorem lines_count (cur l : List Nat) : (spl10 cur l).length ≤ l.length + 1 := by
  induction l generalizing cur with
  | nil => simp [spl10]
  | cons c l ih =>
    rw [spl10]
    have h1 := ih []
    have h2 := ih (cur ++ [c])
    split <;> simp only [List.length_cons] <;> omega
theorem say_skip {l : List Nat} {r : List (List Nat)} {i : Nat} {acc : List (It × Nat)} (h : wordsN l = []) : sayN (l :: r) i acc = sayN r (i + 1) acc := by rw [sayN, if_pos h]
theorem say_bad1 {l : List Nat} {r : List (List Nat)} {i : Nat} {acc : List (It × Nat)} (h : wordsN l ≠ []) (h2 : undN (wordsN l) = none) : sayN (l :: r) i acc = .inl (i + 1) := by
  rw [sayN, if_neg h, h2]
theorem say_bad2 {l : List Nat} {r : List (List Nat)} {i : Nat} {acc : List (It × Nat)} {x : It} (h : wordsN l ≠ []) (h2 : undN (wordsN l) = some x) (h3 : tw acc x = true) : sayN (l :: r) i acc = .inl (i + 1) := by
  rw [sayN, if_neg h, h2]; simp only; rw [if_pos h3]
theorem say_go {l : List Nat} {r : List (List Nat)} {i : Nat} {acc : List (It × Nat)} {x : It} (h : wordsN l ≠ []) (h2 : undN (wordsN l) = some x) (h3 : tw acc x = false) : sayN (l :: r) i acc = sayN r (i + 1) (acc ++ [(x, i + 1)]) := by
  rw [sayN, if_neg h, h2]; simp only; rw [if_neg (by rw [h3]; simp)]
theorem say_snoc (o : List (List Nat)) : ∀ i acc, sayN (o ++ [[]]) i acc = sayN o i acc := by
  induction o with
  | nil => intro i acc; rfl
  | cons l r ih =>
    intro i acc
    rw [List.cons_append, sayN, sayN]
    simp only [ih]
def asmN (xs : List Nat) : List Nat × Nat × Int :=
  if 65536 < xs.length then ([], 0, 107) else match sayN (linesT xs) 0 [] with
  | .inl k => ([], k, 107)
  | .inr acc => match badN acc acc with
    | some k => ([], k, 107)
    | none => if chkN (flat (outB acc) acc) then (flat (outB acc) acc, 0, 0) else ([], 0, 100)
def AsmR (xs : List Nat) (v : Value) (q : Seg) : Prop := ∃ A d, v = .tuple #[.slice A (asmN xs).1.length d, .int .i64 ((asmN xs).2.1 : Nat), .int .i64 (asmN xs).2.2] ∧ OwnS q A (asmN xs).1.length d (byts (asmN xs).1) 5 1
theorem asm_r {xs c : List Nat} {k : Nat} {e : Int} {v : Value} {q : Seg} {A : Option Addr} {n d : Nat} (h : asmN xs = (c, k, e)) (hn : c.length = n) (hv : v = .tuple #[.slice A n d, .int .i64 (k : Nat), .int .i64 e]) (ho : OwnS q A n d (byts c) 5 1) : AsmR xs v q := by
  subst hn; exact ⟨A, d, by rw [h]; exact hv, by rw [h]; exact ho⟩
theorem asm_long {xs : List Nat} (h : 65536 < xs.length) : asmN xs = ([], 0, 107) := by unfold asmN; rw [if_pos h]
theorem asm_l {xs : List Nat} {o : List (List Nat)} {k : Nat} (h : ¬ 65536 < xs.length) (hL : linesT xs = o ∨ linesT xs = o ++ [[]]) (hk : sayN o 0 [] = .inl k) : asmN xs = ([], k, 107) := by
  unfold asmN
  have : sayN (linesT xs) 0 [] = .inl k := by
    rcases hL with e | e
    · rw [e]; exact hk
    · rw [e, say_snoc]; exact hk
  rw [if_neg h, this]
theorem asm_i {xs : List Nat} {o : List (List Nat)} {acc : List (It × Nat)} (h : ¬ 65536 < xs.length) (hL : linesT xs = o ∨ linesT xs = o ++ [[]]) (hk : sayN o 0 [] = .inr acc) : asmN xs = match badN acc acc with
    | some k => ([], k, 107)
    | none => if chkN (flat (outB acc) acc) then (flat (outB acc) acc, 0, 0) else ([], 0, 100) := by
  unfold asmN
  have : sayN (linesT xs) 0 [] = .inr acc := by
    rcases hL with e | e
    · rw [e]; exact hk
    · rw [e, say_snoc]; exact hk
  rw [if_neg h, this]
theorem lab_byt {xs : List Nat} (h : Byt xs) : Byt (lblN xs).1 := by
  unfold lblN; split
  · exact byt_nil
  · exact byt_take h _
theorem und_byt {ws : List (List Nat)} {x : It} (h : undN ws = some x) (hB : ∀ y ∈ ws, Byt y) : Byt x.lab ∧ Byt x.tg := by
  unfold undN at h
  split at h
  · obtain rfl := (Option.some.inj h).symm
    exact ⟨lab_byt (getD_byt hB 0), byt_nil⟩
  · unfold insM at h
    split at h
    · cases h
    split at h
    · obtain rfl := (Option.some.inj h).symm; exact ⟨byt_nil, byt_nil⟩
    split at h
    · split at h
      · obtain rfl := (Option.some.inj h).symm; exact ⟨byt_nil, getD_byt hB 1⟩
      · cases h
    split at h
    · cases h
    split at h
    · obtain rfl := (Option.some.inj h).symm; exact ⟨byt_nil, byt_nil⟩
    split at h
    · cases h
    · obtain rfl := (Option.some.inj h).symm; exact ⟨byt_nil, byt_nil⟩
def UndU (ws : List (List Nat)) (v : Value) (q : Seg) : Prop := ∃ lab tg code A n d ok, v = .tuple #[.agg (lineB lab tg code A n d).toArray, .bool ok] ∧
  (ok = true → ∃ x, undN ws = some x ∧ lab = bstr x.lab ∧ tg = bstr x.tg ∧ code = x.code ∧ n = x.bs.length ∧ OwnS q A n d (byts x.bs) 5 1) ∧ (ok = false → undN ws = none)
theorem UndR.u {ws : List (List Nat)} {v : Value} {q : Seg} (h : UndR ws v q) : UndU ws v q := by
  rcases h with ⟨h1, _, lab, tg, code, A, n, d, hv⟩ | ⟨x, h1, A, d, hv, ho⟩
  · exact ⟨lab, tg, code, A, n, d, false, hv, (fun h => by cases h), fun _ => h1⟩
  · exact ⟨_, _, _, A, _, d, true, hv, (fun _ => ⟨x, h1, rfl, rfl, rfl, rfl, ho⟩), (fun h => by cases h)⟩
def dupB (ps : List Pit) (lab : ByteArray) (k : Nat) : Bool := (ps.take k).any fun p => decide (p.it.code < 0) && decide (bstr p.it.lab = lab)
theorem dup_succ {ps : List Pit} {lab : ByteArray} {k : Nat} (h : k < ps.length) : dupB ps lab (k + 1) = (dupB ps lab k || (decide ((ps.getD k pd).it.code < 0) && decide (bstr (ps.getD k pd).it.lab = lab))) := by
  unfold dupB; rw [take_snoc pd ps k h, List.any_append]; simp
theorem dup_mono {ps : List Pit} {lab : ByteArray} {k : Nat} (h : dupB ps lab k = true) : dupB ps lab ps.length = true := by
  unfold dupB at *
  rw [List.any_eq_true] at *
  obtain ⟨p, hp, h2⟩ := h
  exact ⟨p, by rw [List.take_length]; exact List.mem_of_mem_take hp, h2⟩
def okN (ps : List Pit) (lab : ByteArray) (code : Int) (ok1 : Bool) (k : Nat) : Bool := ok1 && !(decide (code < 0) && dupB ps lab k)
theorem ok_0 (ps : List Pit) (lab : ByteArray) (code : Int) (ok1 : Bool) : ok1 = okN ps lab code ok1 0 := by simp [okN, dupB]
theorem ok_hit {ps : List Pit} {lab : ByteArray} {code : Int} {ok1 : Bool} {k : Nat} (h : k < ps.length) (hc : code < 0) (h2 : (ps.getD k pd).it.code < 0 ∧ bstr (ps.getD k pd).it.lab = lab) : false = okN ps lab code ok1 (k + 1) := by
  unfold okN
  rw [dup_succ h, decide_eq_true h2.1, decide_eq_true h2.2, decide_eq_true hc]; simp
theorem ok_miss {ps : List Pit} {lab : ByteArray} {code : Int} {ok ok1 : Bool} {k : Nat} (h : k < ps.length) (h2 : ¬ ((ps.getD k pd).it.code < 0 ∧ bstr (ps.getD k pd).it.lab = lab)) (hk : ok = okN ps lab code ok1 k) : ok = okN ps lab code ok1 (k + 1) := by
  unfold okN at *
  have : (decide ((ps.getD k pd).it.code < 0) && decide (bstr (ps.getD k pd).it.lab = lab)) = false := by
    rw [← Bool.decide_and, decide_eq_false h2]
  rw [dup_succ h, this, Bool.or_false]; exact hk
theorem ok_end {ps : List Pit} {lab : ByteArray} {code : Int} {ok ok1 : Bool} {k : Nat} (h : k ≤ ps.length) (h2 : ¬ (ok = true ∧ code < 0 ∧ k < ps.length)) (hk : ok = okN ps lab code ok1 k) : ok = okN ps lab code ok1 ps.length := by
  by_cases hl : k = ps.length
  · rw [hl] at hk; exact hk
  by_cases hc : code < 0
  · have ho : ok = false := by
      cases ok with
      | false => rfl
      | true => exact absurd ⟨rfl, hc, by omega⟩ h2
    rw [ho] at hk ⊢
    unfold okN at hk ⊢
    rw [decide_eq_true hc] at hk ⊢
    cases ok1 with
    | false => rfl
    | true =>
      have : dupB ps lab k = true := by simpa using hk
      rw [dup_mono this]; rfl
  · unfold okN at hk ⊢
    rw [decide_eq_false hc] at hk ⊢
    simpa using hk
theorem tw_dup {ps : List Pit} {x : It} (hP : PoolP ps) (hx : Byt x.lab) : tw (accOf ps) x = (decide (x.code < 0) && dupB ps (bstr x.lab) ps.length) := by
  unfold tw dupB accOf
  rw [List.take_length, List.any_map]
  congr 1
  rw [Bool.eq_iff_iff, List.any_eq_true, List.any_eq_true]
  constructor
  · rintro ⟨p, hp, h⟩
    refine ⟨p, hp, ?_⟩
    simp only [Function.comp, isL, Bool.and_eq_true, decide_eq_true_eq, beq_iff_eq] at h ⊢
    exact ⟨h.1, by rw [h.2]⟩
  · rintro ⟨p, hp, h⟩
    refine ⟨p, hp, ?_⟩
    simp only [Function.comp, isL, Bool.and_eq_true, decide_eq_true_eq, beq_iff_eq] at h ⊢
    exact ⟨h.1, bstr_inj (hP p hp).2.1 hx h.2⟩
section
variable {ps : List Pit} {l : List Nat} {r : List (List Nat)} {i : Nat} {lab tg : ByteArray} {code : Int} {n d : Nat} {A : Option Addr} {q : Seg} {ok1 : Bool}
theorem say_fault (hP : PoolP ps) (hl : Byt l) (hw : wordsN l ≠ []) (hUt : ok1 = true → ∃ x, undN (wordsN l) = some x ∧ lab = bstr x.lab ∧ tg = bstr x.tg ∧ code = x.code ∧ n = x.bs.length ∧ OwnS q A n d (byts x.bs) 5 1) (hUf : ok1 = false → undN (wordsN l) = none)
    (h : false = okN ps lab code ok1 ps.length) : sayN (l :: r) i (accOf ps) = .inl (i + 1) := by
  cases ok1 with
  | false => exact say_bad1 hw (hUf rfl)
  | true =>
    obtain ⟨x, hx, rfl, _, rfl, _⟩ := hUt rfl
    refine say_bad2 hw hx ?_
    rw [tw_dup hP (und_byt hx (words_byt l [] byt_nil hl)).1]
    unfold okN at h
    simpa using h.symm
theorem say_good (hP : PoolP ps) (hl : Byt l) (hw : wordsN l ≠ []) (hUt : ok1 = true → ∃ x, undN (wordsN l) = some x ∧ lab = bstr x.lab ∧ tg = bstr x.tg ∧ code = x.code ∧ n = x.bs.length ∧ OwnS q A n d (byts x.bs) 5 1)
    (h : true = okN ps lab code ok1 ps.length) : ∃ x, lab = bstr x.lab ∧ tg = bstr x.tg ∧ code = x.code ∧ n = x.bs.length ∧ PitOK ⟨x, i + 1, A, d, q⟩ ∧ sayN (l :: r) i (accOf ps) = sayN r (i + 1) (accOf ps ++ [(x, i + 1)]) := by
  have h1 : ok1 = true := by
    cases ok1 with
    | true => rfl
    | false => simp [okN] at h
  obtain ⟨x, hx, h2, h3, h4, h5, h6⟩ := hUt h1
  have hb := und_byt hx (words_byt l [] byt_nil hl)
  refine ⟨x, h2, h3, h4, h5, ⟨und_ok hx, hb.1, hb.2, by rw [← h5]; exact h6⟩, say_go hw hx ?_⟩
  rw [tw_dup hP hb.1, ← h2, ← h4]
  unfold okN at h
  rw [h1] at h
  generalize (decide (code < 0) && dupB ps lab ps.length) = b at h ⊢
  cases b with
  | false => rfl
  | true => cases h
end
theorem bad_skip {all : List (It × Nat)} {ps : List Pit} {j : Nat} (h : j < ps.length) (h2 : ¬ (¬ (ps.getD j pd).it.tg = [] ∧ plcL all (ps.getD j pd).it.tg 0 = none)) : badN all ((accOf ps).drop j) = badN all ((accOf ps).drop (j + 1)) := by
  rw [acc_drop h, badN, if_neg h2]
theorem bad_hit {all : List (It × Nat)} {ps : List Pit} {j : Nat} (h : j < ps.length) (h2 : ¬ (ps.getD j pd).it.tg = [] ∧ plcL all (ps.getD j pd).it.tg 0 = none) : badN all ((accOf ps).drop j) = some (ps.getD j pd).no := by
  rw [acc_drop h, badN, if_pos h2]
theorem bad_end {all : List (It × Nat)} {ps : List Pit} {j : Nat} (h : ps.length ≤ j) : badN all ((accOf ps).drop j) = none := by
  rw [List.drop_of_length_le (by rw [len_acc]; exact h)]; rfl
theorem bad_some {all : List (It × Nat)} : ∀ {l : List (It × Nat)} {x : It × Nat}, badN all l = none → x ∈ l → ¬ x.1.tg = [] → ∃ p, plcL all x.1.tg 0 = some p
  | y :: l, x, h, hx, ht => by
    rw [badN] at h
    split at h
    · cases h
    rename_i hn
    rcases List.mem_cons.1 hx with rfl | hx
    · cases hp : plcL all x.1.tg 0 with
      | none => exact absurd ⟨ht, hp⟩ hn
      | some p => exact ⟨p, rfl⟩
    · exact bad_some h hx ht
theorem acc_mem {ps : List Pit} {j : Nat} (h : j < ps.length) : ((ps.getD j pd).it, (ps.getD j pd).no) ∈ accOf ps := List.mem_of_getElem? (acc_at h)
def OB (ps : List Pit) (j : Nat) : List Nat := flat (outB (accOf ps)) ((accOf ps).take j)
theorem OB_succ {ps : List Pit} {j : Nat} (h : j < ps.length) : OB ps (j + 1) = OB ps j ++ outB (accOf ps) (ps.getD j pd).it := by
  unfold OB; rw [acc_take h, flat_append]; simp [flat]
theorem OB_all (ps : List Pit) : OB ps ps.length = flat (outB (accOf ps)) (accOf ps) := by
  unfold OB; rw [List.take_of_length_le (by rw [len_acc]; exact Nat.le_refl _)]
theorem OB_len {ps : List Pit} (j : Nat) : (OB ps j).length ≤ (OB ps ps.length).length := by
  have : OB ps ps.length = OB ps j ++ flat (outB (accOf ps)) ((accOf ps).drop j) := by
    rw [OB_all]; unfold OB; rw [← flat_append, List.take_append_drop]
  rw [this, List.length_append]; omega
theorem chk_big {xs : List Nat} (h : 1024 < xs.length) : chkN xs = false := by
  cases hc : chkN xs with
  | false => rfl
  | true => have := chk_len2 hc; omega
theorem asm_chk {ps : List Pit} {j : Nat} (hj : j ≤ ps.length) (h : ¬ (j < ps.length ∧ (OB ps j).length ≤ 1024)) : chkN (OB ps j) = chkN (OB ps ps.length) ∧ (chkN (OB ps j) = true → OB ps j = OB ps ps.length) := by
  by_cases he : j = ps.length
  · rw [he]; exact ⟨rfl, fun _ => rfl⟩
  · have h1 : 1024 < (OB ps j).length := by omega
    have h2 := OB_len (ps := ps) j
    have h3 := chk_big h1
    exact ⟨by rw [h3, chk_big (by omega)], fun h => by rw [h3] at h; cases h⟩
theorem out_byt {all : List (It × Nat)} {x : It} (h : ItOK x) : Byt (outB all x) := by
  unfold outB; split
  · exact h.2.2.2.1
  · intro b hb
    simp only [List.mem_cons, List.not_mem_nil, or_false] at hb
    rcases hb with rfl | rfl | rfl
    · exact byt_getD h.2.2.2.1 0
    · exact Nat.mod_lt _ (by decide)
    · exact Nat.mod_lt _ (by decide)
theorem OB_byt {ps : List Pit} (hP : PoolP ps) (j : Nat) : Byt (OB ps j) := by
  intro b hb
  unfold OB flat at hb
  obtain ⟨x, hx, hb⟩ := List.mem_flatMap.1 hb
  obtain ⟨p, hp, rfl⟩ := List.mem_map.1 (List.mem_of_mem_take hx)
  exact out_byt (hP p hp).1 b hb
theorem out_len {all : List (It × Nat)} {x : It} (h : ItOK x) : (outB all x).length ≤ 34 := by
  unfold outB; split
  · exact h.2.2.2.2
  · simp
theorem out_no {all : List (It × Nat)} {x : It} (h : x.tg = []) : outB all x = x.bs := by unfold outB; rw [if_pos h]
theorem out_to {all : List (It × Nat)} {x : It} {p : Nat} (h : ¬ x.tg = []) (hp : plcL all x.tg 0 = some p) : outB all x = [x.bs.getD 0 0, p / 256 % 256, p % 256] := by unfold outB; rw [if_neg h, hp]; rfl
theorem rwords_l {l : List Nat} (hl : Byt l) (h : l.length ≤ 100000) (w : World) : Ret Tryz.prog 54 [.string (bstr l)] w [] (fun v q => ∃ A d, v = .slice A (wordsN l).length d ∧ OwnS q A (wordsN l).length d (strs (wordsN l)) 9 1) := by
  have := rwords_calls (bstr l) w (by rw [size_bstr]; exact h); rwa [bys_bstr hl] at this
end Go.Proofs.YtlapmbkfmbkdoaaGreatDoor
end
