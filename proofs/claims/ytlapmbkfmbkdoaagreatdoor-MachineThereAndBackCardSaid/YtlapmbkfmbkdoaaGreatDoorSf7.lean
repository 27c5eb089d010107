/- Part 7 of what the row MachineThereAndBack needs, with no condition beyond each lemma's own. -/
import Derived.Test.YtlapmbkfmbkdoaaGreatDoorSf6
section
namespace Go.Proofs.YtlapmbkfmbkdoaaGreatDoor
open Go Go.Fw Go.RowKit
def LAB (q : Nat) : List Nat := 76 :: decS q
def opB (xs : List Nat) (p : Nat) : List Nat := (xs.drop (p + 2)).take (sizeN xs p - 2)
def newB (xs : List Nat) (p : Nat) : List Nat :=
  if cAt xs p = 2 then pshN (numB (opB xs p)) else if cAt xs p = 4 ∨ cAt xs p = 5 ∨ cAt xs p = 16 then [cAt xs p, cAt xs (p + 1)]
  else if cAt xs p = 14 ∨ cAt xs p = 15 then [cAt xs p, 0, 0] else [cAt xs p]
def itP (xs : List Nat) (p : Nat) : It := ⟨[], ((cAt xs p : Nat) : Int), newB xs p, if cAt xs p = 14 ∨ cAt xs p = 15 then LAB (targetN xs p) else []⟩
def labI (p : Nat) : It := ⟨LAB p, -1, [], []⟩
def itsP (xs l : List Nat) (p : Nat) : List It := (if goN xs l p then [labI p] else []) ++ [itP xs p]
def linP (xs l : List Nat) (p : Nat) : List (List Nat) := (if goN xs l p then [LAB p ++ [58]] else []) ++ [nameN (cAt xs p) ++ operL xs p]
theorem decS_ch (n : Nat) : ∀ c ∈ decS n, 48 ≤ c ∧ c ≤ 57 := by
  intro c hc
  unfold decS at hc
  obtain ⟨d, hd, rfl⟩ := List.mem_map.1 hc
  have : d < 10 := by
    have hd2 := List.mem_reverse.1 hd
    unfold dec at hd2
    split at hd2
    · rw [List.mem_singleton.1 hd2]; decide
    · have key : ∀ n : Nat, ∀ d ∈ dd n, d < 10 := by
        intro n
        induction n using Nat.strongRecOn with
        | _ n ih =>
          intro d hd
          by_cases h0 : n = 0
          · subst h0; rw [dd_0] at hd; cases hd
          · rw [dd_pos h0] at hd
            rcases List.mem_cons.1 hd with rfl | hd
            · omega
            · exact ih (n / 10) (by omega) d hd
      exact key n d hd2
  omega
theorem decS_ne (n : Nat) : decS n ≠ [] := by
  by_cases h : n = 0
  · subst h; rw [decS_0]; simp
  · rw [decS_pos h, ddS_step h]; simp
theorem prs_dec {n : Nat} (h : n < 115792089237316195423570985008687907853269984665640564039457584007913129639936) : prs (decS n) = some n := prs_txt h
theorem decS_inj {m n : Nat} (hm : m < 1000000) (hn : n < 1000000) (h : decS m = decS n) : m = n := by
  have h1 := prs_dec (n := m) (by omega)
  have h2 := prs_dec (n := n) (by omega)
  rw [h, h2] at h1
  exact (Option.some.inj h1).symm
theorem LAB_inj {m n : Nat} (hm : m < 1000000) (hn : n < 1000000) (h : LAB m = LAB n) : m = n := decS_inj hm hn (by unfold LAB at h; exact (List.cons.inj h).2)
theorem dd_len : ∀ (k n : Nat), n < 10 ^ k → (dd n).length ≤ k
  | 0, n, h => by have : n = 0 := by omega
                  subst this; rw [dd_0]; exact Nat.zero_le _
  | k + 1, n, h => by
    by_cases h0 : n = 0
    · subst h0; rw [dd_0]; exact Nat.zero_le _
    · rw [dd_pos h0, List.length_cons]
      have := dd_len k (n / 10) (by rw [Nat.pow_succ] at h; omega)
      omega
theorem decS_len {n : Nat} (h : n < 1000000) : (decS n).length ≤ 6 := by
  unfold decS
  rw [List.length_map, List.length_reverse]
  unfold dec
  split
  · simp
  · exact dd_len 6 n h
theorem name_ch (c : Nat) : ∀ d ∈ nameN c, 97 ≤ d ∧ d ≤ 122 := by
  by_cases h : c < 28
  · have : ∀ c, c < 28 → ∀ d ∈ nameN c, 97 ≤ d ∧ d ≤ 122 := by decide
    exact this c h
  · unfold nameN; rw [List.getD_eq_getElem?_getD, List.getElem?_eq_none (by show 28 ≤ c; omega)]
    intro d hd; cases hd
theorem name_ne {c : Nat} (h : c < 28) : nameN c ≠ [] := by
  have : ∀ c, c < 28 → nameN c ≠ [] := by decide
  exact this c h
theorem name_code {c : Nat} (h : c < 28) : codeN (nameN c) = c := by
  have : ∀ c, c < 28 → codeN (nameN c) = c := by decide
  exact this c h
def opW (xs : List Nat) (p : Nat) : List (List Nat) :=
  if cAt xs p = 2 then [decS (numB (opB xs p))] else if cAt xs p = 4 ∨ cAt xs p = 5 ∨ cAt xs p = 16 then [decS (cAt xs (p + 1))] else if cAt xs p = 14 ∨ cAt xs p = 15 then [LAB (targetN xs p)] else []
theorem oper_w (xs : List Nat) (p : Nat) : (operL xs p = [] ∧ opW xs p = []) ∨ ∃ s, operL xs p = 32 :: s ∧ opW xs p = [s] ∧ s ≠ [] ∧ ∀ d ∈ s, 48 ≤ d ∧ d ≤ 90 := by
  unfold operL opW opB LAB
  split
  · exact .inr ⟨_, rfl, rfl, decS_ne _, fun d hd => by have := decS_ch _ d hd; omega⟩
  split
  · exact .inr ⟨_, rfl, rfl, decS_ne _, fun d hd => by have := decS_ch _ d hd; omega⟩
  split
  · refine .inr ⟨_, rfl, rfl, by simp, fun d hd => ?_⟩
    rcases List.mem_cons.1 hd with rfl | hd
    · decide
    · have := decS_ch _ d hd; omega
  · exact .inl ⟨rfl, rfl⟩
theorem fld_word : ∀ (w cur r : List Nat), (∀ d ∈ w, d ≠ 35 ∧ d ≠ 32 ∧ d ≠ 9) → fld cur (w ++ r) = fld (cur ++ w) r
  | [], cur, r, _ => by simp
  | c :: w, cur, r, h => by
    obtain ⟨h1, h2, h3⟩ := h c List.mem_cons_self
    rw [List.cons_append, fld, if_neg h1, if_neg (by omega), fld_word w _ r fun d hd => h d (List.mem_cons_of_mem _ hd)]
    simp
theorem words_1 {w : List Nat} (hw : w ≠ []) (h : ∀ d ∈ w, d ≠ 35 ∧ d ≠ 32 ∧ d ≠ 9) : wordsN w = [w] := by
  have := fld_word w [] [] h
  rw [List.append_nil, List.nil_append] at this
  unfold wordsN; rw [this, fld]; unfold clo; rw [if_neg hw]
theorem words_2 {w s : List Nat} (hw : w ≠ []) (h : ∀ d ∈ w, d ≠ 35 ∧ d ≠ 32 ∧ d ≠ 9) (hs : s ≠ []) (h2 : ∀ d ∈ s, d ≠ 35 ∧ d ≠ 32 ∧ d ≠ 9) : wordsN (w ++ 32 :: s) = [w, s] := by
  unfold wordsN
  rw [fld_word w [] _ h, List.nil_append, fld, if_neg (by decide), if_pos (.inl rfl)]
  have := words_1 hs h2
  unfold wordsN at this
  rw [this]; unfold clo; rw [if_neg hw]; rfl
theorem words_lab (p : Nat) : wordsN (LAB p ++ [58]) = [LAB p ++ [58]] := by
  refine words_1 (by simp [LAB]) fun d hd => ?_
  rcases List.mem_append.1 hd with hd | hd
  · unfold LAB at hd
    rcases List.mem_cons.1 hd with rfl | hd
    · decide
    · have := decS_ch _ d hd; omega
  · rw [List.mem_singleton.1 hd]; decide
theorem words_ins (xs : List Nat) (p : Nat) (hc : cAt xs p < 28) : wordsN (nameN (cAt xs p) ++ operL xs p) = nameN (cAt xs p) :: opW xs p := by
  have hn : ∀ d ∈ nameN (cAt xs p), d ≠ 35 ∧ d ≠ 32 ∧ d ≠ 9 := fun d hd => by have := name_ch _ d hd; omega
  rcases oper_w xs p with ⟨h1, h2⟩ | ⟨s, h1, h2, h3, h4⟩
  · rw [h1, h2, List.append_nil]; exact words_1 (name_ne hc) hn
  · rw [h1, h2]; exact words_2 (name_ne hc) hn h3 fun d hd => by have := h4 d hd; omega
theorem okL_LAB {p : Nat} (h : p < 1000000) : okL (LAB p) = true := by
  refine okL_good ?_ ?_
  · have := decS_len h
    unfold LAB
    simp only [List.length_cons, List.getD_cons_zero]; omega
  · rw [List.all_eq_true]
    intro d hd
    unfold LAB at hd
    unfold labC
    rcases List.mem_cons.1 hd with rfl | hd
    · decide
    · have := decS_ch _ d hd; exact decide_eq_true (by omega)
theorem lbl_LAB {p : Nat} (h : p < 1000000) : lblN (LAB p ++ [58]) = (LAB p, true) := by
  have hl := decS_len h
  have h0 : 0 < (decS p).length := List.length_pos_iff.2 (decS_ne p)
  have e1 : (LAB p ++ [58]).length = (LAB p).length + 1 := by simp
  have e2 : (LAB p).length = (decS p).length + 1 := by simp [LAB]
  have e3 : (LAB p ++ [58]).getD ((LAB p ++ [58]).length - 1) 0 = 58 := by
    rw [e1, Nat.add_sub_cancel, List.getD_eq_getElem?_getD, List.getElem?_append_right (Nat.le_refl _), Nat.sub_self]; rfl
  have e4 : (LAB p ++ [58]).take ((LAB p ++ [58]).length - 1) = LAB p := by rw [e1, Nat.add_sub_cancel, List.take_left]
  unfold lblN
  rw [if_neg (by rw [e3]; omega), e4, okL_LAB h]
theorem und_LAB {p : Nat} (h : p < 1000000) : undN [LAB p ++ [58]] = some (labI p) := by
  unfold undN
  rw [if_pos ⟨rfl, by rw [List.getD_cons_zero, lbl_LAB h]⟩, List.getD_cons_zero, lbl_LAB h]; rfl
theorem lbl_name {c : Nat} (h : c < 28) : (lblN (nameN c)).2 = false := by
  have : ∀ c, c < 28 → (lblN (nameN c)).2 = false := by decide
  exact this c h
theorem size_facts {xs : List Nat} {p : Nat} (hs : sizeN xs p ≠ 0) : p < xs.length ∧ cAt xs p < 28 ∧ p + sizeN xs p ≤ xs.length ∧
    ((cAt xs p = 2 ∧ 1 ≤ cAt xs (p + 1) ∧ cAt xs (p + 1) ≤ 32 ∧ sizeN xs p = 2 + cAt xs (p + 1)) ∨
     ((cAt xs p = 4 ∨ cAt xs p = 5 ∨ cAt xs p = 16) ∧ sizeN xs p = 2 ∧ (cAt xs p ≠ 16 → cAt xs (p + 1) ≤ 15) ∧ (cAt xs p = 5 → 1 ≤ cAt xs (p + 1))) ∨
     ((cAt xs p = 14 ∨ cAt xs p = 15) ∧ sizeN xs p = 3) ∨
     (cAt xs p ≠ 2 ∧ ¬ (cAt xs p = 4 ∨ cAt xs p = 5 ∨ cAt xs p = 16) ∧ ¬ (cAt xs p = 14 ∨ cAt xs p = 15) ∧ sizeN xs p = 1)) := by
  have hle := sizeN_le xs p
  unfold sizeN at hs hle ⊢
  split at hs
  · exact absurd rfl hs
  rename_i h1
  rw [if_neg h1] at hle ⊢
  refine ⟨by omega, by omega, by omega, ?_⟩
  split at hs
  · rename_i h2
    rw [if_pos h2]
    split at hs
    · exact absurd rfl hs
    rename_i h3
    split at hs
    · exact absurd rfl hs
    rename_i h4
    rw [if_neg h3, if_neg h4]
    exact .inl ⟨h2, by omega, by omega, rfl⟩
  rename_i h2
  rw [if_neg h2]
  split at hs
  · rename_i h3
    rw [if_pos h3]
    split at hs
    · exact absurd rfl hs
    rename_i h4
    split at hs
    · exact absurd rfl hs
    rename_i h5
    rw [if_neg h4, if_neg h5]
    exact .inr (.inl ⟨h3, rfl, by omega, by omega⟩)
  rename_i h3
  rw [if_neg h3]
  split at hs
  · rename_i h4
    rw [if_pos h4]
    split at hs
    · exact absurd rfl hs
    rename_i h5
    rw [if_neg h5]
    exact .inr (.inr (.inl ⟨h4, rfl⟩))
  rename_i h4
  rw [if_neg h4]
  exact .inr (.inr (.inr ⟨h2, h3, h4, rfl⟩))
theorem opB_len {xs : List Nat} {p : Nat} (hs : sizeN xs p ≠ 0) (hc : cAt xs p = 2) : (opB xs p).length = cAt xs (p + 1) := by
  obtain ⟨_, _, h1, h2⟩ := size_facts hs
  unfold opB
  rw [List.length_take, List.length_drop]
  omega
theorem opB_byt {xs : List Nat} (h : Byt xs) (p : Nat) : Byt (opB xs p) := byt_take (byt_drop h _) _
theorem opB_lt {xs : List Nat} {p : Nat} (hB : Byt xs) (hs : sizeN xs p ≠ 0) (hc : cAt xs p = 2) : numB (opB xs p) < 115792089237316195423570985008687907853269984665640564039457584007913129639936 := by
  have := size_facts hs
  exact numB_lt32 (by rw [opB_len hs hc]; omega) (opB_byt hB p)
theorem und_ins2 {xs : List Nat} {p : Nat} (hB : Byt xs) (hl : xs.length ≤ 1024) (hs : sizeN xs p ≠ 0) : undN (nameN (cAt xs p) :: opW xs p) = some (itP xs p) := by
  obtain ⟨h1, h2, h3, h4⟩ := size_facts hs
  have hb := cAt_lt hB (p + 1)
  rw [und_ins rfl (fun _ => by rw [List.getD_cons_zero]; exact lbl_name h2)]
  rw [List.getD_cons_zero, name_code h2]
  unfold itP newB opW
  rcases h4 with ⟨hc, ha, hd, he⟩ | ⟨hc, he, ha, hd⟩ | ⟨hc, he⟩ | ⟨ha, hd, he, hf⟩
  · rw [if_pos hc, if_pos hc, if_neg (by omega)]
    have hg : ¬ (2 < [nameN (cAt xs p), decS (numB (opB xs p))].length ∨ 28 ≤ cAt xs p ∨ ¬ (hasP (cAt xs p) ↔ [nameN (cAt xs p), decS (numB (opB xs p))].length = 2)) := fun h => by
      rcases h with h | h | h
      · simp at h
      · omega
      · exact h ⟨fun _ => rfl, fun _ => by unfold hasP; omega⟩
    have hp := prs_dec (opB_lt hB hs hc)
    rw [ins_5 hg (.inl hc) (by omega) (by show (prs (decS _)).isSome = true; rw [hp]; rfl) hc]
    show some (It.mk [] _ (pshN ((prs (decS (numB (opB xs p)))).getD 0)) []) = _
    rw [hp]; rfl
  · rw [if_neg (by omega), if_pos hc, if_neg (by omega), if_pos hc, if_neg (by omega)]
    have hg : ¬ (2 < [nameN (cAt xs p), decS (cAt xs (p + 1))].length ∨ 28 ≤ cAt xs p ∨ ¬ (hasP (cAt xs p) ↔ [nameN (cAt xs p), decS (cAt xs (p + 1))].length = 2)) := fun h => by
      rcases h with h | h | h
      · simp at h
      · omega
      · exact h ⟨fun _ => rfl, fun _ => by unfold hasP; omega⟩
    have hp := prs_dec (n := cAt xs (p + 1)) (by omega)
    have hmo := most_c (cAt xs p)
    have hle := least_c (cAt xs p)
    rw [ins_6 hg (by unfold hasP; omega) (by omega) (by show (prs (decS _)).isSome = true; rw [hp]; rfl) (by omega)]
    show (if mostN _ < (prs (decS (cAt xs (p + 1)))).getD 0 ∨ (prs (decS (cAt xs (p + 1)))).getD 0 < leastN _ then none else some (It.mk [] _ [cAt xs p, (prs (decS (cAt xs (p + 1)))).getD 0] [])) = _
    rw [hp, Option.getD_some, if_neg (by omega)]
  · rw [if_neg (by omega), if_neg (by omega), if_pos hc, if_neg (by omega), if_neg (by omega), if_pos hc, if_pos hc]
    have hg : ¬ (2 < [nameN (cAt xs p), LAB (targetN xs p)].length ∨ 28 ≤ cAt xs p ∨ ¬ (hasP (cAt xs p) ↔ [nameN (cAt xs p), LAB (targetN xs p)].length = 2)) := fun h => by
      rcases h with h | h | h
      · simp at h
      · omega
      · exact h ⟨fun _ => rfl, fun _ => by unfold hasP; omega⟩
    have ht : targetN xs p < 1000000 := by
      have := cAt_lt hB (p + 2)
      unfold targetN; omega
    rw [ins_3 hg (by unfold hasP; omega) hc]
    show (if okL (LAB (targetN xs p)) = true then _ else _) = _
    rw [if_pos (okL_LAB ht)]; rfl
  · rw [if_neg ha, if_neg hd, if_neg he, if_neg ha, if_neg hd, if_neg he, if_neg he]
    have hg : ¬ (2 < [nameN (cAt xs p)].length ∨ 28 ≤ cAt xs p ∨ ¬ (hasP (cAt xs p) ↔ [nameN (cAt xs p)].length = 2)) := fun h => by
      rcases h with h | h | h
      · simp at h
      · omega
      · exact h ⟨fun hp => absurd hp (by unfold hasP; omega), fun e => by simp at e⟩
    exact ins_2 hg (by unfold hasP; omega)
theorem spl_line : ∀ (a cur r : List Nat), (∀ c ∈ a, c ≠ 10) → spl10 cur (a ++ 10 :: r) = (cur ++ a) :: spl10 [] r
  | [], cur, r, _ => by rw [List.nil_append, spl10, if_pos rfl, List.append_nil]
  | c :: a, cur, r, h => by
    rw [List.cons_append, spl10, if_neg (h c List.mem_cons_self), spl_line a _ r fun d hd => h d (List.mem_cons_of_mem _ hd)]
    simp
theorem ins_no10 (xs : List Nat) (p : Nat) : ∀ c ∈ nameN (cAt xs p) ++ operL xs p, c ≠ 10 := by
  intro c hc
  rcases List.mem_append.1 hc with h | h
  · have := name_ch _ c h; omega
  · rcases oper_w xs p with ⟨h1, _⟩ | ⟨s, h1, _, _, h4⟩
    · rw [h1] at h; cases h
    · rw [h1] at h
      rcases List.mem_cons.1 h with rfl | h
      · decide
      · have := h4 c h; omega
theorem lab_no10 (p : Nat) : ∀ c ∈ LAB p ++ [58], c ≠ 10 := by
  intro c hc
  rcases List.mem_append.1 hc with h | h
  · unfold LAB at h
    rcases List.mem_cons.1 h with rfl | h
    · decide
    · have := decS_ch _ c h; omega
  · rw [List.mem_singleton.1 h]; decide
theorem text_lines (xs l : List Nat) : ∀ t : List Nat, linesT (linesN xs l t) = t.flatMap (linP xs l) ++ [[]]
  | [] => rfl
  | p :: t => by
    have ih := text_lines xs l t
    unfold linesT at ih ⊢
    rw [linesN, lineN, List.flatMap_cons, linP]
    have e : (nameN (cAt xs p) ++ (operL xs p ++ [10])) ++ linesN xs l t = (nameN (cAt xs p) ++ operL xs p) ++ 10 :: linesN xs l t := by simp
    rw [List.append_assoc, e]
    unfold labN
    split
    · have e2 : 76 :: (decS p ++ [58, 10]) ++ (nameN (cAt xs p) ++ operL xs p ++ 10 :: linesN xs l t) = (LAB p ++ [58]) ++ 10 :: (nameN (cAt xs p) ++ operL xs p ++ 10 :: linesN xs l t) := by simp [LAB]
      rw [e2, spl_line _ _ _ (lab_no10 p), spl_line _ _ _ (ins_no10 xs p), ih]
      simp
    · rw [List.nil_append, spl_line _ _ _ (ins_no10 xs p), ih]
      simp
def numI : Nat → List It → List (It × Nat)
  | _, [] => []
  | i, x :: r => (x, i + 1) :: numI (i + 1) r
theorem numI_append (a b : List It) (i : Nat) : numI i (a ++ b) = numI i a ++ numI (i + a.length) b := by
  induction a generalizing i with
  | nil => rfl
  | cons x a ih => rw [List.cons_append, numI, numI, ih, List.cons_append, List.length_cons]; congr 3; omega
def labsI (l : List It) : List (List Nat) := (l.filter fun x => decide (x.code < 0)).map (·.lab)
theorem labsI_append (a b : List It) : labsI (a ++ b) = labsI a ++ labsI b := by simp [labsI]
theorem tw_not {acc : List (It × Nat)} {x : It} (h : x.code < 0 → x.lab ∉ labsI (acc.map (·.1))) : tw acc x = false := by
  by_cases hc : x.code < 0
  · cases ht : tw acc x with
    | false => rfl
    | true =>
      exfalso
      refine h hc ?_
      unfold tw at ht
      rw [decide_eq_true hc, Bool.true_and, List.any_eq_true] at ht
      obtain ⟨y, hy, h2⟩ := ht
      simp only [isL, Bool.and_eq_true, decide_eq_true_eq, beq_iff_eq] at h2
      unfold labsI
      rw [← h2.2]
      exact List.mem_map_of_mem (List.mem_filter.2 ⟨List.mem_map_of_mem hy, decide_eq_true h2.1⟩)
  · exact tw_ins hc
theorem say_items : ∀ (ls : List (List Nat × It)) (i : Nat) (acc : List (It × Nat)) (R : List (List Nat)), (∀ p ∈ ls, wordsN p.1 ≠ [] ∧ undN (wordsN p.1) = some p.2) → (labsI (acc.map (·.1) ++ ls.map (·.2))).Nodup →
    sayN (ls.map (·.1) ++ R) i acc = sayN R (i + ls.length) (acc ++ numI i (ls.map (·.2)))
  | [], i, acc, R, _, _ => by simp [numI]
  | p :: ls, i, acc, R, h, hn => by
    obtain ⟨h1, h2⟩ := h p List.mem_cons_self
    have ht : tw acc p.2 = false := tw_not fun hc hm => by
      rw [labsI_append] at hn
      have h3 := (List.nodup_append.1 hn).2.2 _ hm p.2.lab ?_
      · exact h3 rfl
      · unfold labsI
        exact List.mem_map_of_mem (List.mem_filter.2 ⟨by simp, decide_eq_true hc⟩)
    rw [List.map_cons, List.cons_append, say_go h1 h2 ht, say_items ls (i + 1) _ R (fun q hq => h q (List.mem_cons_of_mem _ hq)) (by simpa using hn)]
    rw [List.map_cons, numI, List.length_cons, List.append_assoc]
    congr 1; omega
def phi (xs : List Nat) : List Nat → Nat → Nat
  | [], _ => 0
  | p :: r, q => if p = q then 0 else (newB xs p).length + phi xs r q
theorem phi_pre (xs : List Nat) (q : Nat) (post : List Nat) : ∀ pre : List Nat, q ∉ pre → phi xs (pre ++ q :: post) q = (pre.flatMap (newB xs)).length
  | [], _ => by rw [List.nil_append, phi, if_pos rfl]; rfl
  | p :: pre, h => by
    rw [List.cons_append, phi, if_neg (fun (e : p = q) => h (e ▸ List.mem_cons_self)), phi_pre xs q post pre fun hm => h (List.mem_cons_of_mem _ hm), List.flatMap_cons, List.length_append]
theorem phi_out (xs : List Nat) (q : Nat) : ∀ l : List Nat, q ∉ l → phi xs l q = (l.flatMap (newB xs)).length
  | [], _ => rfl
  | p :: l, h => by
    rw [phi, if_neg (fun (e : p = q) => h (e ▸ List.mem_cons_self)), phi_out xs q l fun hm => h (List.mem_cons_of_mem _ hm), List.flatMap_cons, List.length_append]
theorem chain_at {xs : List Nat} : ∀ (t : List Nat) (p0 q : Nat), plcs xs p0 = some t → q ∈ t → ∃ pre post, t = pre ++ q :: post ∧ plcs xs q = some (q :: post) ∧ p0 ≤ q ∧ (∀ x ∈ pre, x < q) ∧ ∀ x ∈ post, q < x
  | [], p0, q, _, h => by cases h
  | a :: t, p0, q, h, hm => by
    have hp : p0 < xs.length := by
      apply Nat.lt_of_not_le; intro hle; rw [plcs_end hle] at h; cases h
    obtain ⟨r', hs, e, hr⟩ := plcs_cons hp h
    injection e with e1 e2
    subst e1; subst e2
    have hge : ∀ x ∈ t, a + sizeN xs a ≤ x := fun x hx => by
      obtain ⟨_, _, _, _, h3, _⟩ := chain_at t _ x hr hx
      exact h3
    rcases List.mem_cons.1 hm with rfl | hm
    · exact ⟨[], t, rfl, h, Nat.le_refl _, (fun x hx => nomatch hx), fun x hx => by have := hge x hx; omega⟩
    · obtain ⟨pre, post, h1, h2, h3, h4, h5⟩ := chain_at t _ q hr hm
      refine ⟨a :: pre, post, by rw [h1]; rfl, h2, by omega, fun x hx => ?_, h5⟩
      rcases List.mem_cons.1 hx with rfl | hx
      · omega
      · exact h4 x hx
structure Prg (xs l : List Nat) : Prop where
  byt : Byt xs
  len : xs.length ≤ 1024
  one : 1 ≤ xs.length
  pl : placesN xs = some l
  jmp : ∀ p ∈ l, (cAt xs p = 14 ∨ cAt xs p = 15) → targetN xs p ∈ l
section
variable {xs l : List Nat}
theorem Prg.plcs (h : Prg xs l) : plcs xs 0 = some l := h.pl
theorem Prg.at' (h : Prg xs l) {q : Nat} (hq : q ∈ l) : ∃ pre post, l = pre ++ q :: post ∧ Go.Fw.plcs xs q = some (q :: post) ∧ q ∉ pre ∧ (∀ x ∈ pre, x < q) ∧ ∀ x ∈ post, q < x := by
  obtain ⟨pre, post, h1, h2, _, h4, h5⟩ := chain_at l 0 q h.plcs hq
  exact ⟨pre, post, h1, h2, fun hm => by have := h4 q hm; omega, h4, h5⟩
theorem Prg.mem (h : Prg xs l) {q : Nat} (hq : q ∈ l) : q < xs.length ∧ sizeN xs q ≠ 0 := places_mem h.pl q hq
theorem Prg.small (h : Prg xs l) {q : Nat} (hq : q ∈ l) : q < 1000000 := by have := (h.mem hq).1; have := h.len; omega
theorem Prg.nodup (h : Prg xs l) : l.Nodup := by
  have key : ∀ (t : List Nat) (p0 : Nat), Go.Fw.plcs xs p0 = some t → t.Nodup := by
    intro t
    induction t with
    | nil => intro p0 _; exact List.nodup_nil
    | cons a t ih =>
      intro p0 hp
      have hlt : p0 < xs.length := by
        apply Nat.lt_of_not_le; intro hle; rw [plcs_end hle] at hp; cases hp
      obtain ⟨r', hs, e, hr⟩ := plcs_cons hlt hp
      injection e with e1 e2
      subst e1; subst e2
      rw [List.nodup_cons]
      refine ⟨fun hm => ?_, ih _ hr⟩
      obtain ⟨_, _, _, _, h3, _⟩ := chain_at t _ a hr hm
      omega
  exact key l 0 h.plcs
theorem Prg.next (h : Prg xs l) {q : Nat} (hq : q ∈ l) : (q + sizeN xs q ∈ l ∨ q + sizeN xs q = xs.length) ∧ phi xs l (q + sizeN xs q) = phi xs l q + (newB xs q).length := by
  obtain ⟨pre, post, h1, h2, h3, h4, h5⟩ := h.at' hq
  have hm := h.mem hq
  have hle := sizeN_le xs q
  rw [plcs_next hm.1 hm.2] at h2
  obtain ⟨t, ht, e⟩ := Option.map_eq_some_iff.1 h2
  injection e with _ e
  subst e
  have hq2 : phi xs l q = (pre.flatMap (newB xs)).length := by rw [h1]; exact phi_pre xs q t pre h3
  by_cases hend : xs.length ≤ q + sizeN xs q
  · rw [plcs_end hend] at ht
    injection ht with ht
    subst ht
    have he : q + sizeN xs q = xs.length := by omega
    refine ⟨.inr he, ?_⟩
    have hno : q + sizeN xs q ∉ l := fun hm2 => by have := (h.mem hm2).1; omega
    rw [phi_out xs _ l hno, hq2, h1]
    simp
  · obtain ⟨r', _, e, _⟩ := plcs_cons (by omega) ht
    subst e
    have hmem : q + sizeN xs q ∈ l := by rw [h1]; simp
    refine ⟨.inl hmem, ?_⟩
    have e2 : l = (pre ++ [q]) ++ (q + sizeN xs q) :: r' := by rw [h1]; simp
    have hno : q + sizeN xs q ∉ pre ++ [q] := by
      intro hm2
      rcases List.mem_append.1 hm2 with h6 | h6
      · have := h4 _ h6; omega
      · have := List.mem_singleton.1 h6; omega
    rw [hq2, e2, phi_pre xs _ r' _ hno]
    simp
theorem Prg.first (h : Prg xs l) : ∃ r, l = 0 :: r := by
  obtain ⟨r', _, e, _⟩ := plcs_cons (by have := h.one; omega) h.plcs
  exact ⟨r', e⟩
end
theorem plc_items {xs l0 : List Nat} {q : Nat} (hq : goN xs l0 q = true) (hqs : q < 1000000) : ∀ (t : List Nat) (i p : Nat), q ∈ t → (∀ x ∈ t, x < 1000000) → plcL (numI i (t.flatMap (itsP xs l0))) (LAB q) p = some (p + phi xs t q)
  | [], i, p, h, _ => by cases h
  | a :: t, i, p, h, hs => by
    have hi : isL (itP xs a) (LAB q) = false := by
      unfold isL itP; rw [decide_eq_false (by simp only; omega)]; rfl
    rw [List.flatMap_cons, numI_append, phi]
    have ht := fun (hm : q ∈ t) i p => plc_items hq hqs t i p hm fun x hx => hs x (List.mem_cons_of_mem _ hx)
    by_cases hg : goN xs l0 a = true
    · have e : itsP xs l0 a = [labI a, itP xs a] := by unfold itsP; rw [if_pos hg]; rfl
      rw [e]
      simp only [List.cons_append, List.nil_append, numI]
      rw [plcL]
      by_cases ha : a = q
      · subst ha
        rw [if_pos (by simp [isL, labI]), if_pos rfl, Nat.add_zero]
      · have hl : isL (labI a) (LAB q) = false := by
          unfold isL labI
          simp only [Bool.and_eq_false_iff]
          refine .inr ?_
          rw [beq_eq_false_iff_ne]
          exact fun e => ha (LAB_inj (hs a List.mem_cons_self) hqs e)
        have hm : q ∈ t := (List.mem_cons.1 h).resolve_left fun e => ha e.symm
        rw [if_neg (by rw [hl]; simp), plcL, if_neg (by rw [hi]; simp), ht hm, if_neg ha]
        congr 1
        show p + 0 + (newB xs a).length + _ = _
        omega
    · have e : itsP xs l0 a = [itP xs a] := by unfold itsP; rw [if_neg hg]; rfl
      rw [e]
      simp only [List.nil_append, numI, List.cons_append]
      have ha : ¬ a = q := fun e => hg (e ▸ hq)
      have hm : q ∈ t := (List.mem_cons.1 h).resolve_left fun e => ha e.symm
      rw [plcL, if_neg (by rw [hi]; simp), ht hm, if_neg ha]
      congr 1
      show p + (newB xs a).length + _ = _
      omega
def outI (xs l : List Nat) (p : Nat) : List Nat := if cAt xs p = 14 ∨ cAt xs p = 15 then [cAt xs p, phi xs l (targetN xs p) / 256 % 256, phi xs l (targetN xs p) % 256] else newB xs p
theorem outI_len (xs l : List Nat) (p : Nat) : (outI xs l p).length = (newB xs p).length := by
  unfold outI
  split
  · rename_i h; unfold newB; rw [if_neg (by omega), if_neg (by omega), if_pos h]; rfl
  · rfl
theorem flatO_len (xs l t : List Nat) : (t.flatMap (outI xs l)).length = (t.flatMap (newB xs)).length := by
  induction t with
  | nil => rfl
  | cons p t ih => rw [List.flatMap_cons, List.flatMap_cons, List.length_append, List.length_append, ih, outI_len]
def newP (xs l : List Nat) : List Nat := l.flatMap (outI xs l)
theorem go_of {xs l : List Nat} {p : Nat} (hp : p ∈ l) (hj : cAt xs p = 14 ∨ cAt xs p = 15) : goN xs l (targetN xs p) = true := by
  unfold goN
  rw [List.any_eq_true]
  exact ⟨p, hp, by rw [isJump_of hj]; simp⟩
def pairP (xs l : List Nat) (p : Nat) : List (List Nat × It) := (if goN xs l p then [(LAB p ++ [58], labI p)] else []) ++ [(nameN (cAt xs p) ++ operL xs p, itP xs p)]
theorem pair_fst (xs l t : List Nat) : (t.flatMap (pairP xs l)).map (·.1) = t.flatMap (linP xs l) := by
  rw [List.map_flatMap]
  congr 1
  funext p
  unfold pairP linP
  split <;> rfl
theorem pair_snd (xs l t : List Nat) : (t.flatMap (pairP xs l)).map (·.2) = t.flatMap (itsP xs l) := by
  rw [List.map_flatMap]
  congr 1
  funext p
  unfold pairP itsP
  split <;> rfl
theorem lab_mem {xs l : List Nat} : ∀ (t : List Nat) (s : List Nat), s ∈ labsI (t.flatMap (itsP xs l)) → ∃ p ∈ t, s = LAB p
  | [], s, h => by cases h
  | a :: t, s, h => by
    rw [List.flatMap_cons, labsI_append] at h
    rcases List.mem_append.1 h with h | h
    · refine ⟨a, List.mem_cons_self, ?_⟩
      unfold itsP at h
      by_cases hg : goN xs l a = true
      · rw [if_pos hg] at h
        simp [labsI, labI, itP] at h
        exact h
      · rw [if_neg hg] at h
        simp [labsI, itP] at h
    · obtain ⟨p, hp, e⟩ := lab_mem t s h
      exact ⟨p, List.mem_cons_of_mem _ hp, e⟩
theorem labs_nodup {xs l : List Nat} : ∀ (t : List Nat), t.Nodup → (∀ x ∈ t, x < 1000000) → (labsI (t.flatMap (itsP xs l))).Nodup
  | [], _, _ => List.nodup_nil
  | a :: t, h, hs => by
    rw [List.flatMap_cons, labsI_append]
    have h2 := List.nodup_cons.1 h
    have ih := labs_nodup (xs := xs) (l := l) t h2.2 fun x hx => hs x (List.mem_cons_of_mem _ hx)
    have key : labsI (itsP xs l a) = [] ∨ labsI (itsP xs l a) = [LAB a] := by
      unfold itsP
      split
      · right; simp [labsI, labI, itP]
      · left; simp [labsI, itP]
    rcases key with e | e
    · rw [e]; exact ih
    · rw [e, List.singleton_append, List.nodup_cons]
      refine ⟨fun hm => ?_, ih⟩
      obtain ⟨p, hp, e2⟩ := lab_mem t _ hm
      have := LAB_inj (hs a List.mem_cons_self) (hs p (List.mem_cons_of_mem _ hp)) e2
      exact h2.1 (this ▸ hp)
theorem und_pair {xs l : List Nat} (h : Prg xs l) : ∀ t : List Nat, (∀ x ∈ t, x ∈ l) → ∀ q ∈ t.flatMap (pairP xs l), wordsN q.1 ≠ [] ∧ undN (wordsN q.1) = some q.2 := by
  intro t ht q hq
  obtain ⟨p, hp, hq⟩ := List.mem_flatMap.1 hq
  have hp := ht p hp
  unfold pairP at hq
  have hm := h.mem hp
  rcases List.mem_append.1 hq with hq | hq
  · split at hq
    · rw [List.mem_singleton.1 hq]
      simp only
      rw [words_lab]
      exact ⟨by simp, und_LAB (h.small hp)⟩
    · cases hq
  · rw [List.mem_singleton.1 hq]
    simp only
    rw [words_ins xs p (size_facts hm.2).2.1]
    exact ⟨by simp, und_ins2 h.byt h.len hm.2⟩
theorem text_eq {xs l : List Nat} (h : Prg xs l) : textN xs = linesN xs l l := by
  unfold textN; rw [h.pl]
theorem say_prg {xs l : List Nat} (h : Prg xs l) : sayN (linesT (textN xs)) 0 [] = .inr (numI 0 (l.flatMap (itsP xs l))) := by
  rw [text_eq h, text_lines, say_snoc, ← pair_fst]
  have := say_items (l.flatMap (pairP xs l)) 0 [] [] (und_pair h l fun _ hx => hx) (by
    rw [List.map_nil, List.nil_append, pair_snd]
    exact labs_nodup l h.nodup fun x hx => h.small hx)
  rw [List.append_nil] at this
  rw [this, pair_snd, List.nil_append]
  rfl
theorem plc_prg {xs l : List Nat} (h : Prg xs l) {p : Nat} (hp : p ∈ l) (hj : cAt xs p = 14 ∨ cAt xs p = 15) : plcL (numI 0 (l.flatMap (itsP xs l))) (LAB (targetN xs p)) 0 = some (phi xs l (targetN xs p)) := by
  have hq := h.jmp p hp hj
  have := plc_items (go_of hp hj) (h.small hq) l 0 0 hq fun x hx => h.small hx
  rwa [Nat.zero_add] at this
theorem it_mem {xs l : List Nat} {x : It} (hx : x ∈ l.flatMap (itsP xs l)) : x.tg = [] ∨ ∃ p ∈ l, x = itP xs p := by
  obtain ⟨p, hp, hx⟩ := List.mem_flatMap.1 hx
  unfold itsP at hx
  rcases List.mem_append.1 hx with hx | hx
  · split at hx
    · rw [List.mem_singleton.1 hx]; exact .inl rfl
    · cases hx
  · exact .inr ⟨p, hp, List.mem_singleton.1 hx⟩
theorem numI_mem : ∀ {a : List It} {i : Nat} {x : It × Nat}, x ∈ numI i a → x.1 ∈ a
  | [], _, _, h => by cases h
  | y :: a, i, x, h => by
    rw [numI] at h
    rcases List.mem_cons.1 h with rfl | h
    · exact List.mem_cons_self
    · exact List.mem_cons_of_mem _ (numI_mem h)
theorem bad_none {all : List (It × Nat)} : ∀ r : List (It × Nat), (∀ x ∈ r, x.1.tg = [] ∨ plcL all x.1.tg 0 ≠ none) → badN all r = none
  | [], _ => rfl
  | x :: r, h => by
    have h1 := h x List.mem_cons_self
    rw [badN, if_neg (fun hh => h1.elim hh.1 fun h2 => h2 hh.2)]
    exact bad_none r fun y hy => h y (List.mem_cons_of_mem _ hy)
theorem bad_prg {xs l : List Nat} (h : Prg xs l) : badN (numI 0 (l.flatMap (itsP xs l))) (numI 0 (l.flatMap (itsP xs l))) = none := by
  refine bad_none _ fun x hx => ?_
  rcases it_mem (numI_mem hx) with e | ⟨p, hp, e⟩
  · exact .inl e
  · rw [e]
    unfold itP
    simp only
    by_cases hj : cAt xs p = 14 ∨ cAt xs p = 15
    · rw [if_pos hj, plc_prg h hp hj]; exact .inr (by simp)
    · rw [if_neg hj]; exact .inl rfl
theorem flat_num (f : It → List Nat) : ∀ (a : List It) (i : Nat), flat f (numI i a) = a.flatMap f
  | [], _ => rfl
  | x :: a, i => by
    have ih := flat_num f a (i + 1)
    unfold flat at ih ⊢
    rw [numI, List.flatMap_cons, ih, List.flatMap_cons]
theorem out_prg {xs l : List Nat} (h : Prg xs l) : ∀ t : List Nat, (∀ x ∈ t, x ∈ l) → (t.flatMap (itsP xs l)).flatMap (outB (numI 0 (l.flatMap (itsP xs l)))) = t.flatMap (outI xs l)
  | [], _ => rfl
  | p :: t, ht => by
    rw [List.flatMap_cons, List.flatMap_append, out_prg h t fun x hx => ht x (List.mem_cons_of_mem _ hx), List.flatMap_cons]
    congr 1
    have hp := ht p List.mem_cons_self
    have e1 : outB (numI 0 (l.flatMap (itsP xs l))) (labI p) = [] := rfl
    have e2 : outB (numI 0 (l.flatMap (itsP xs l))) (itP xs p) = outI xs l p := by
      unfold outB outI itP
      simp only
      by_cases hj : cAt xs p = 14 ∨ cAt xs p = 15
      · rw [if_pos hj, if_pos hj, plc_prg h hp hj, if_neg (by simp [LAB])]
        unfold newB
        rw [if_neg (by omega), if_neg (by omega), if_pos hj]
        rfl
      · rw [if_neg hj, if_neg hj, if_pos rfl]
    unfold itsP
    split
    · simp only [List.cons_append, List.nil_append, List.flatMap_cons, List.flatMap_nil, List.append_nil]
      unfold itsP at e1 e2
      rw [e1, e2]; rfl
    · simp only [List.nil_append, List.flatMap_cons, List.flatMap_nil, List.append_nil]
      unfold itsP at e2
      rw [e2]
theorem toB_cons0 {k n : Nat} (h : n < 256 ^ k) : toB (k + 1) n = 0 :: toB k n := by rw [toB_succ, Nat.div_eq_of_lt h]
theorem trim_toB {n : Nat} : ∀ (j k : Nat), n < 256 ^ k → 1 ≤ k → trim0 (toB (j + k) n) = trim0 (toB k n)
  | 0, k, _, _ => by rw [Nat.zero_add]
  | j + 1, k, h, hk => by
    have e : j + 1 + k = (j + k) + 1 := by omega
    have hne : toB (j + k) n ≠ [] := fun e => by
      have := length_toB (j + k) n
      rw [e] at this; simp at this; omega
    rw [e, toB_cons0 (Nat.lt_of_lt_of_le h (Nat.pow_le_pow_right (by decide) (by omega))), trim0, if_pos ⟨rfl, hne⟩, trim_toB j k h hk]
theorem trim_num {ds : List Nat} (h1 : 1 ≤ ds.length) (h2 : ds.length ≤ 32) (hB : Byt ds) : trim0 (toB 32 (numB ds)) = trim0 ds := by
  have := trim_toB (32 - ds.length) ds.length (numB_lt ds hB) h1
  rw [show 32 - ds.length + ds.length = 32 by omega, toB_numB ds hB] at this
  exact this
theorem numB_cons0 (r : List Nat) : numB (0 :: r) = numB r := by simp [numB]
theorem numB_trim : ∀ l : List Nat, numB (trim0 l) = numB l
  | [] => rfl
  | c :: r => by
    rw [trim0]
    split
    · rename_i h; rw [numB_trim r, h.1, numB_cons0]
    · rfl
theorem new_push {xs : List Nat} {p : Nat} (hB : Byt xs) (hs : sizeN xs p ≠ 0) (hc : cAt xs p = 2) : newB xs p = 2 :: (trim0 (opB xs p)).length :: trim0 (opB xs p) := by
  have := size_facts hs
  have hl := opB_len hs hc
  unfold newB
  rw [if_pos hc]; unfold pshN
  rw [trim_num (by omega) (by omega) (opB_byt hB p)]
theorem new_le {xs : List Nat} {p : Nat} (hB : Byt xs) (hs : sizeN xs p ≠ 0) : 1 ≤ (newB xs p).length ∧ (newB xs p).length ≤ sizeN xs p := by
  obtain ⟨h1, h2, h3, h4⟩ := size_facts hs
  by_cases hc : cAt xs p = 2
  · rw [new_push hB hs hc]
    have := (trim0_len (opB xs p)).1
    have hl := opB_len hs hc
    simp only [List.length_cons]; omega
  · unfold newB
    rw [if_neg hc]
    split
    · simp only [List.length_cons, List.length_nil]; omega
    split
    · simp only [List.length_cons, List.length_nil]; omega
    · simp only [List.length_cons, List.length_nil]; omega
theorem flat_le {xs : List Nat} (hB : Byt xs) : ∀ (t : List Nat) (p0 : Nat), plcs xs p0 = some t → p0 ≤ xs.length → p0 + (t.flatMap (newB xs)).length ≤ xs.length
  | [], p0, _, h => by simpa using h
  | a :: t, p0, h, hle => by
    have hp : p0 < xs.length := by
      apply Nat.lt_of_not_le; intro hge; rw [plcs_end hge] at h; cases h
    obtain ⟨r', hs, e, hr⟩ := plcs_cons hp h
    injection e with e1 e2
    subst e1; subst e2
    have := (sizeN_le xs a).resolve_left hs
    have ih := flat_le hB t _ hr (by omega)
    have := new_le hB hs
    rw [List.flatMap_cons, List.length_append]; omega
section
variable {xs l : List Nat}
theorem Prg.len_new (h : Prg xs l) : (newP xs l).length = phi xs l xs.length ∧ (newP xs l).length ≤ xs.length := by
  have hno : xs.length ∉ l := fun hm => by have := (h.mem hm).1; omega
  have e := flatO_len xs l l
  refine ⟨?_, ?_⟩
  · rw [phi_out xs _ l hno]; exact e
  · unfold newP; rw [e]
    have := flat_le h.byt l 0 h.plcs (by omega)
    omega
theorem Prg.new_at (h : Prg xs l) {p : Nat} (hp : p ∈ l) : ∃ A B, newP xs l = A ++ (outI xs l p ++ B) ∧ A.length = phi xs l p := by
  obtain ⟨pre, post, h1, _, h3, _, _⟩ := h.at' hp
  refine ⟨pre.flatMap (outI xs l), post.flatMap (outI xs l), ?_, ?_⟩
  · unfold newP
    rw [show l.flatMap (outI xs l) = (pre ++ p :: post).flatMap (outI xs l) from congrArg (fun t => List.flatMap (outI xs l) t) h1]
    rw [List.flatMap_append, List.flatMap_cons]
  · have e : phi xs l p = phi xs (pre ++ p :: post) p := congrArg (fun t => phi xs t p) h1
    rw [flatO_len, e, phi_pre xs p post pre h3]
theorem Prg.phi_le (h : Prg xs l) {p : Nat} (hp : p ∈ l) : phi xs l p + (newB xs p).length ≤ (newP xs l).length := by
  obtain ⟨A, B, h1, h2⟩ := h.new_at hp
  rw [h1, List.length_append, List.length_append, outI_len, h2]; omega
theorem Prg.c_new (h : Prg xs l) {p i : Nat} (hp : p ∈ l) (hi : i < (newB xs p).length) : cAt (newP xs l) (phi xs l p + i) = (outI xs l p).getD i 0 := by
  obtain ⟨A, B, h1, h2⟩ := h.new_at hp
  have hi2 : i < (outI xs l p).length := by rw [outI_len]; exact hi
  unfold cAt
  rw [h1, ← h2, List.getD_eq_getElem?_getD, List.getElem?_append_right (by omega), Nat.add_sub_cancel_left, List.getElem?_append_left hi2, ← List.getD_eq_getElem?_getD]
theorem Prg.c0 (h : Prg xs l) {p : Nat} (hp : p ∈ l) : cAt (newP xs l) (phi xs l p) = cAt xs p := by
  have hm := h.mem hp
  have := h.c_new hp (i := 0) (by have := new_le h.byt hm.2; omega)
  rw [Nat.add_zero] at this
  rw [this]
  unfold outI
  split
  · rfl
  · by_cases hc : cAt xs p = 2
    · rw [new_push h.byt hm.2 hc, hc]; rfl
    · unfold newB; rw [if_neg hc]
      split
      · rfl
      · first | rfl | (split <;> rfl)
theorem Prg.c1 (h : Prg xs l) {p : Nat} (hp : p ∈ l) (hc : cAt xs p = 4 ∨ cAt xs p = 5 ∨ cAt xs p = 16) : cAt (newP xs l) (phi xs l p + 1) = cAt xs (p + 1) ∧ (newB xs p).length = 2 := by
  have e : newB xs p = [cAt xs p, cAt xs (p + 1)] := by unfold newB; rw [if_neg (by omega), if_pos hc]
  refine ⟨?_, by rw [e]; rfl⟩
  rw [h.c_new hp (by rw [e]; exact Nat.lt_succ_self 1)]
  unfold outI
  rw [if_neg (by omega), e]; rfl
theorem Prg.jump (h : Prg xs l) {p : Nat} (hp : p ∈ l) (hc : cAt xs p = 14 ∨ cAt xs p = 15) : targetN (newP xs l) (phi xs l p) = phi xs l (targetN xs p) ∧ (newB xs p).length = 3 := by
  have e : newB xs p = [cAt xs p, 0, 0] := by unfold newB; rw [if_neg (by omega), if_neg (by omega), if_pos hc]
  have hl : (newB xs p).length = 3 := by rw [e]; rfl
  refine ⟨?_, hl⟩
  have ht := h.jmp p hp hc
  have h1 := h.phi_le ht
  have h2 := h.len_new.2
  have h3 := h.len
  unfold targetN at h1 ⊢
  rw [h.c_new hp (by omega), h.c_new hp (by omega)]
  unfold outI
  rw [if_pos hc]
  simp only [List.getD_cons_succ, List.getD_cons_zero]
  unfold targetN
  omega
theorem Prg.push (h : Prg xs l) {p : Nat} (hp : p ∈ l) (hc : cAt xs p = 2) : cAt (newP xs l) (phi xs l p + 1) = (trim0 (opB xs p)).length ∧ (newB xs p).length = 2 + (trim0 (opB xs p)).length ∧ ((newP xs l).drop (phi xs l p + 2)).take (trim0 (opB xs p)).length = trim0 (opB xs p) := by
  have hm := h.mem hp
  have e := new_push h.byt hm.2 hc
  have hl : (newB xs p).length = 2 + (trim0 (opB xs p)).length := by rw [e]; simp only [List.length_cons]; omega
  refine ⟨?_, hl, ?_⟩
  · rw [h.c_new hp (by omega)]
    unfold outI
    rw [if_neg (by omega), e]; rfl
  · obtain ⟨A, B, h1, h2⟩ := h.new_at hp
    have eo : outI xs l p = newB xs p := by unfold outI; rw [if_neg (by omega)]
    rw [h1, eo, e, ← h2, ← List.drop_drop, List.drop_left]
    show List.take _ (trim0 (opB xs p) ++ B) = _
    rw [List.take_left]
theorem Prg.size_new (h : Prg xs l) {p : Nat} (hp : p ∈ l) : sizeN (newP xs l) (phi xs l p) = (newB xs p).length := by
  have hm := h.mem hp
  obtain ⟨f1, f2, f3, f4⟩ := size_facts hm.2
  have h0 := h.c0 hp
  have hle := h.phi_le hp
  have h1 := new_le h.byt hm.2
  unfold sizeN
  rw [if_neg (by omega)]
  rcases f4 with ⟨hc, ha, hd, he⟩ | ⟨hc, he, ha, hd⟩ | ⟨hc, he⟩ | ⟨ha, hd, he, hf⟩
  · obtain ⟨g1, g2, _⟩ := h.push hp hc
    have hl := opB_len hm.2 hc
    have ht := trim0_len (opB xs p)
    have ht2 := ht.2.1 (fun e => by rw [e] at hl; simp at hl; omega)
    rw [if_pos (by omega), if_neg (by omega), if_neg (by omega), g1, g2]
  · obtain ⟨g1, g2⟩ := h.c1 hp hc
    rw [if_neg (by omega), if_pos (by omega), if_neg (by omega), if_neg (by omega), g2]
  · obtain ⟨_, g2⟩ := h.jump hp hc
    rw [if_neg (by omega), if_neg (by omega), if_pos (by omega), if_neg (by omega), g2]
  · have e : newB xs p = [cAt xs p] := by unfold newB; rw [if_neg ha, if_neg hd, if_neg he]
    rw [if_neg (by omega), if_neg (by omega), if_neg (by omega), e]; rfl
theorem Prg.plcs_new (h : Prg xs l) : ∀ (t pre : List Nat), l = pre ++ t → Go.Fw.plcs (newP xs l) (pre.flatMap (newB xs)).length = some (t.map (phi xs l))
  | [], pre, e => by
    rw [List.append_nil] at e
    subst e
    exact plcs_end (by unfold newP; rw [flatO_len]; exact Nat.le_refl _)
  | p :: t, pre, e => by
    have hp : p ∈ l := by rw [e]; simp
    have hno : p ∉ pre := fun hm => by
      have := h.nodup
      rw [e] at this
      exact (List.nodup_append.1 this).2.2 _ hm _ List.mem_cons_self rfl
    have e1 : phi xs l p = (pre.flatMap (newB xs)).length := by
      have e2 : phi xs l p = phi xs (pre ++ p :: t) p := congrArg (fun t => phi xs t p) e
      rw [e2, phi_pre xs p t pre hno]
    have hs := h.size_new hp
    have hle := h.phi_le hp
    have h1 := new_le h.byt (h.mem hp).2
    rw [← e1, plcs_next (by omega) (by omega), hs]
    have ih := h.plcs_new t (pre ++ [p]) (by rw [e]; simp)
    rw [List.flatMap_append, List.length_append, ← e1] at ih
    simp only [List.flatMap_cons, List.flatMap_nil, List.append_nil] at ih
    rw [ih]; rfl
theorem Prg.chk_new (h : Prg xs l) : chkN (newP xs l) = true := by
  have hp : placesN (newP xs l) = some (l.map (phi xs l)) := h.plcs_new l [] rfl
  obtain ⟨r, e⟩ := h.first
  have h0 : 0 ∈ l := by rw [e]; exact List.mem_cons_self
  have h1 := h.phi_le h0
  have h2 := new_le h.byt (h.mem h0).2
  have h3 := h.len_new.2
  have h4 := h.len
  unfold chkN
  rw [hp]
  simp only [Bool.and_eq_true, decide_eq_true_eq]
  refine ⟨⟨by omega, by omega⟩, ?_⟩
  rw [List.all_eq_true]
  intro q hq
  obtain ⟨p, hp, rfl⟩ := List.mem_map.1 hq
  by_cases hj : cAt xs p = 14 ∨ cAt xs p = 15
  · rw [(h.jump hp hj).1]
    rw [Bool.or_eq_true]
    exact .inr (List.contains_iff_mem.2 (List.mem_map_of_mem (h.jmp p hp hj)))
  · have : isJump (newP xs l) (phi xs l p) = false := by
      unfold isJump
      rw [h.c0 hp]
      simp only [Bool.or_eq_false_iff, beq_eq_false_iff_ne]
      omega
    rw [this]; rfl
end
theorem prg_of {xs : List Nat} (hB : Byt xs) (hc : chkN xs = true) : ∃ l, Prg xs l := by
  unfold chkN at hc
  cases hl : placesN xs with
  | none => rw [hl] at hc; simp at hc
  | some l =>
    rw [hl] at hc
    simp only [Bool.and_eq_true, decide_eq_true_eq] at hc
    refine ⟨l, hB, hc.1.2, hc.1.1, hl, fun p hp hj => ?_⟩
    have := List.all_eq_true.1 hc.2 p hp
    rw [isJump_of hj] at this
    exact List.contains_iff_mem.1 (by simpa using this)
def mapO (f : Nat → Nat) : Out → Out
  | .more stk left p asks => .more stk left (f p) asks
  | .fin v left asks => .fin v left asks
  | .err e asks => .err e asks
theorem do_b {cl : Cl} {xs : List Nat} {rep : Nat → Nat × Int} {c b b' p left : Nat} {st : List Nat} {v : Nat → Nat} {asks : List Fw.Ask} (hb : c = 4 ∨ c = 5 ∨ c = 16 → b = b') : doN cl xs rep c b p left st v asks = doN cl xs rep c b' p left st v asks := by
  by_cases h : c = 4 ∨ c = 5 ∨ c = 16
  · rw [hb h]
  · have e : toldN cl c b left = toldN cl c b' left := by unfold toldN; simp only [show ¬ c = 16 by omega, if_false]
    unfold doN
    rw [e]
    simp only [show ¬ c = 4 by omega, show ¬ c = 5 by omega, if_false]
theorem do_new {cl : Cl} {xs ys : List Nat} {rep : Nat → Nat × Int} {c b p q left : Nat} {st : List Nat} {v : Nat → Nat} {asks : List Fw.Ask} {f : Nat → Nat} (hp : c = 2 → numB ((ys.drop (q + 2)).take (sizeN ys q - 2)) = numB ((xs.drop (p + 2)).take (sizeN xs p - 2))) (hn : q + sizeN ys q = f (p + sizeN xs p)) (hj : c = 14 ∨ c = 15 → targetN ys q = f (targetN xs p)) :
    doN cl ys rep c b q left st v asks = mapO f (doN cl xs rep c b p left st v asks) := by
  unfold doN
  rw [hn]
  by_cases h : c = 0
  · rw [if_pos h, if_pos h]; rfl
  rw [if_neg h, if_neg h]
  by_cases h : c = 1
  · rw [if_pos h, if_pos h]; rfl
  rw [if_neg h, if_neg h]
  by_cases h : c = 2
  · rw [if_pos h, if_pos h, hp h]; rfl
  rw [if_neg h, if_neg h]
  by_cases h : c = 3
  · rw [if_pos h, if_pos h]; rfl
  rw [if_neg h, if_neg h]
  by_cases h : c = 4
  · rw [if_pos h, if_pos h]; rfl
  rw [if_neg h, if_neg h]
  by_cases h : c = 5
  · rw [if_pos h, if_pos h]; rfl
  rw [if_neg h, if_neg h]
  by_cases h : c ≤ 12
  · rw [if_pos h, if_pos h]; cases arithN c (v 0) (v 1) <;> rfl
  rw [if_neg h, if_neg h]
  by_cases h : c = 13
  · rw [if_pos h, if_pos h]; rfl
  rw [if_neg h, if_neg h]
  by_cases h : c = 14
  · rw [if_pos h, if_pos h, hj (.inl h)]; rfl
  rw [if_neg h, if_neg h]
  by_cases h : c = 15
  · rw [if_pos h, if_pos h, hj (.inr h)]
    by_cases h0 : v 0 ≠ 0
    · rw [if_pos h0, if_pos h0]; rfl
    · rw [if_neg h0, if_neg h0]; rfl
  rw [if_neg h, if_neg h]
  by_cases h : c ≤ 23
  · rw [if_pos h, if_pos h]; rfl
  rw [if_neg h, if_neg h]
  cases askN c v with
  | none => rfl
  | some a =>
    simp only
    by_cases h0 : (rep asks.length).2 ≠ 0
    · rw [if_pos h0, if_pos h0]; rfl
    · rw [if_neg h0, if_neg h0]; rfl
theorem do_place {cl : Cl} {xs : List Nat} {rep : Nat → Nat × Int} {c b p left : Nat} {st : List Nat} {v : Nat → Nat} {asks : List Fw.Ask} {s2 : List Nat} {l2 p2 : Nat} {a2 : List Fw.Ask} (h : doN cl xs rep c b p left st v asks = .more s2 l2 p2 a2) : p2 = p + sizeN xs p ∨ ((c = 14 ∨ c = 15) ∧ p2 = targetN xs p) := by
  unfold doN at h
  by_cases hc : c = 0
  · rw [if_pos hc] at h
    cases h
  rw [if_neg hc] at h
  by_cases hc : c = 1
  · rw [if_pos hc] at h
    cases h
  rw [if_neg hc] at h
  by_cases hc : c = 2
  · rw [if_pos hc] at h
    injection h with _ _ h _; exact .inl h.symm
  rw [if_neg hc] at h
  by_cases hc : c = 3
  · rw [if_pos hc] at h
    injection h with _ _ h _; exact .inl h.symm
  rw [if_neg hc] at h
  by_cases hc : c = 4
  · rw [if_pos hc] at h
    injection h with _ _ h _; exact .inl h.symm
  rw [if_neg hc] at h
  by_cases hc : c = 5
  · rw [if_pos hc] at h
    injection h with _ _ h _; exact .inl h.symm
  rw [if_neg hc] at h
  by_cases hc : c ≤ 12
  · rw [if_pos hc] at h
    cases ha : arithN c (v 0) (v 1) with
    | none => rw [ha] at h; cases h
    | some r => rw [ha] at h; injection h with _ _ h _; exact .inl h.symm
  rw [if_neg hc] at h
  by_cases hc : c = 13
  · rw [if_pos hc] at h
    injection h with _ _ h _; exact .inl h.symm
  rw [if_neg hc] at h
  by_cases hc : c = 14
  · rw [if_pos hc] at h
    injection h with _ _ h _; exact .inr ⟨.inl hc, h.symm⟩
  rw [if_neg hc] at h
  by_cases hc : c = 15
  · rw [if_pos hc] at h
    injection h with _ _ h _
    by_cases h0 : v 0 ≠ 0
    · rw [if_pos h0] at h; exact .inr ⟨.inr hc, h.symm⟩
    · rw [if_neg h0] at h; exact .inl h.symm
  rw [if_neg hc] at h
  by_cases hc : c ≤ 23
  · rw [if_pos hc] at h
    injection h with _ _ h _; exact .inl h.symm
  rw [if_neg hc] at h
  cases ha : askN c v with
  | none => rw [ha] at h; cases h
  | some a =>
    rw [ha] at h
    simp only at h
    by_cases h0 : (rep asks.length).2 ≠ 0
    · rw [if_pos h0] at h; cases h
    · rw [if_neg h0] at h; injection h with _ _ h _; exact .inl h.symm
section
variable {xs l : List Nat}
theorem Prg.stp_new (h : Prg xs l) {cl : Cl} {rep : Nat → Nat × Int} {stk : List Nat} {left p : Nat} {asks : List Fw.Ask} (hp : p ∈ l ∨ p = xs.length) :
    stp cl (newP xs l) rep stk left (phi xs l p) asks = mapO (phi xs l) (stp cl xs rep stk left p asks) ∧ ∀ s2 l2 p2 a2, stp cl xs rep stk left p asks = .more s2 l2 p2 a2 → p2 ∈ l ∨ p2 = xs.length := by
  rcases hp with hp | hp
  · have hm := h.mem hp
    have hle := h.phi_le hp
    have h1 := new_le h.byt hm.2
    have h0 := h.c0 hp
    unfold stp
    rw [if_neg (show ¬ (newP xs l).length ≤ phi xs l p by omega), if_neg (show ¬ xs.length ≤ p by omega), h0]
    by_cases g1 : left < priceN (cAt xs p)
    · rw [if_pos g1, if_pos g1]
      exact ⟨rfl, fun _ _ _ _ e => by cases e⟩
    rw [if_neg g1, if_neg g1]
    have ec : (if cAt xs p = 4 ∨ cAt xs p = 5 then cAt (newP xs l) (phi xs l p + 1) + 1 else takesN (cAt xs p)) = (if cAt xs p = 4 ∨ cAt xs p = 5 then cAt xs (p + 1) + 1 else takesN (cAt xs p)) := by
      by_cases hc : cAt xs p = 4 ∨ cAt xs p = 5
      · rw [if_pos hc, if_pos hc, (h.c1 hp (by omega)).1]
      · rw [if_neg hc, if_neg hc]
    rw [ec]
    by_cases g2 : stk.length < (if cAt xs p = 4 ∨ cAt xs p = 5 then cAt xs (p + 1) + 1 else takesN (cAt xs p)) ∨ 64 < stk.length - takesN (cAt xs p) + laysN (cAt xs p)
    · rw [if_pos g2, if_pos g2]
      exact ⟨rfl, fun _ _ _ _ e => by cases e⟩
    rw [if_neg g2, if_neg g2]
    refine ⟨?_, fun s2 l2 p2 a2 e => ?_⟩
    · rw [do_b (b' := cAt xs (p + 1)) fun hc => (h.c1 hp hc).1]
      refine do_new (fun hc => ?_) ?_ fun hc => (h.jump hp hc).1
      · obtain ⟨_, g4, g5⟩ := h.push hp hc
        rw [h.size_new hp, g4, Nat.add_sub_cancel_left, g5, numB_trim]; rfl
      · rw [h.size_new hp, (h.next hp).2]
    · rcases do_place e with e | ⟨hj, e⟩
      · rw [e]; exact (h.next hp).1
      · rw [e]; exact .inl (h.jmp p hp hj)
  · subst hp
    have := h.len_new.1
    unfold stp
    rw [if_pos (by omega), if_pos (Nat.le_refl _)]
    exact ⟨rfl, fun _ _ _ _ e => by cases e⟩
theorem Prg.run_new (h : Prg xs l) {cl : Cl} {rep : Nat → Nat × Int} : ∀ (f : Nat) (stk : List Nat) (left p : Nat) (asks : List Fw.Ask), (p ∈ l ∨ p = xs.length) → Fw.runN cl (newP xs l) rep f stk left (phi xs l p) asks = Fw.runN cl xs rep f stk left p asks
  | 0, _, _, _, _, _ => rfl
  | f + 1, stk, left, p, asks, hp => by
    obtain ⟨h1, h2⟩ := h.stp_new (cl := cl) (rep := rep) (stk := stk) (left := left) (asks := asks) hp
    rw [Fw.runN, Fw.runN, h1]
    cases hs : stp cl xs rep stk left p asks with
    | more s2 l2 p2 a2 => exact h.run_new f s2 l2 p2 a2 (h2 _ _ _ _ hs)
    | fin _ _ _ => rfl
    | err _ _ => rfl
theorem Prg.play_new (h : Prg xs l) (hc : chkN xs = true) (cl : Cl) (rep : Nat → Nat × Int) : playN cl (newP xs l) rep = playN cl xs rep := by
  obtain ⟨r, e⟩ := h.first
  have h0 : phi xs l 0 = 0 := by
    have : phi xs l 0 = phi xs (0 :: r) 0 := congrArg (fun t => phi xs t 0) e
    rw [this, phi, if_pos rfl]
  have hr := h.run_new (cl := cl) (rep := rep) (cl.gas.toNat + 1) [] cl.gas.toNat 0 [] (.inl (by rw [e]; exact List.mem_cons_self))
  rw [h0] at hr
  unfold playN
  rw [h.chk_new, hc, hr]
def shP (xs : List Nat) (p : Nat) : Bool := !(cAt xs p == 2 && (decide (3 < sizeN xs p) && cAt xs (p + 2) == 0))
theorem cut1 {p : Nat} (h : p + 1 ≤ xs.length) : (xs.drop p).take 1 = [cAt xs p] := by
  rw [drop_cons 0 xs p (by omega)]; rfl
theorem cut2 {p : Nat} (h : p + 2 ≤ xs.length) : (xs.drop p).take 2 = [cAt xs p, cAt xs (p + 1)] := by
  rw [drop_cons 0 xs p (by omega), drop_cons 0 xs (p + 1) (by omega)]; rfl
theorem cut3 {p : Nat} (h : p + 3 ≤ xs.length) : (xs.drop p).take 3 = [cAt xs p, cAt xs (p + 1), cAt xs (p + 2)] := by
  rw [drop_cons 0 xs p (by omega), drop_cons 0 xs (p + 1) (by omega), drop_cons 0 xs (p + 1 + 1) (by omega)]; rfl
theorem cutp {p m : Nat} (h : p + 2 ≤ xs.length) : (xs.drop p).take (2 + m) = cAt xs p :: cAt xs (p + 1) :: (xs.drop (p + 2)).take m := by
  rw [drop_cons 0 xs p (by omega), drop_cons 0 xs (p + 1) (by omega), show 2 + m = m + 1 + 1 by omega]; rfl
theorem Prg.new_short (h : Prg xs l) {p : Nat} (hp : p ∈ l) (hs : shP xs p = true) : (newB xs p).length = sizeN xs p ∧ (¬ (cAt xs p = 14 ∨ cAt xs p = 15) → newB xs p = (xs.drop p).take (sizeN xs p)) := by
  have hm := h.mem hp
  obtain ⟨f1, f2, f3, f4⟩ := size_facts hm.2
  rcases f4 with ⟨hc, ha, hd, he⟩ | ⟨hc, he, ha, hd⟩ | ⟨hc, he⟩ | ⟨ha, hd, he, hf⟩
  · have hl := opB_len hm.2 hc
    have e0 : (opB xs p).getD 0 0 = cAt xs (p + 2) := by
      unfold opB cAt
      rw [List.getD_eq_getElem?_getD, List.getElem?_take_of_lt (by omega), List.getElem?_drop, ← List.getD_eq_getElem?_getD]
    have et : trim0 (opB xs p) = opB xs p := by
      refine trim0_stop ?_
      unfold shP at hs
      by_cases h1 : 3 < sizeN xs p
      · refine .inr fun e => ?_
        rw [hc, decide_eq_true h1, ← e0, e] at hs
        simp at hs
      · exact .inl (by omega)
    rw [new_push h.byt hm.2 hc, et]
    refine ⟨by simp only [List.length_cons]; omega, fun _ => ?_⟩
    rw [he, cutp (by omega), hc, hl]
    unfold opB
    rw [he, Nat.add_sub_cancel_left]
  · have e : newB xs p = [cAt xs p, cAt xs (p + 1)] := by unfold newB; rw [if_neg (by omega), if_pos hc]
    rw [e, he, cut2 (by omega)]
    exact ⟨rfl, fun _ => rfl⟩
  · refine ⟨?_, fun hn => absurd hc hn⟩
    unfold newB
    rw [if_neg (by omega), if_neg (by omega), if_pos hc, he]; rfl
  · have e : newB xs p = [cAt xs p] := by unfold newB; rw [if_neg ha, if_neg hd, if_neg he]
    rw [e, hf, cut1 (by omega)]
    exact ⟨rfl, fun _ => rfl⟩
theorem phi_id : ∀ (t : List Nat) (p0 q : Nat), plcs xs p0 = some t → (∀ p ∈ t, (newB xs p).length = sizeN xs p) → q ∈ t → p0 + phi xs t q = q
  | [], _, _, _, _, h => by cases h
  | a :: t, p0, q, h, hs, hq => by
    have hp : p0 < xs.length := by
      apply Nat.lt_of_not_le; intro hge; rw [plcs_end hge] at h; cases h
    obtain ⟨r', hz, e, hr⟩ := plcs_cons hp h
    injection e with e1 e2
    subst e1; subst e2
    rw [phi]
    by_cases hx : a = q
    · rw [if_pos hx, hx]; rfl
    · rw [if_neg hx, hs a List.mem_cons_self]
      have := phi_id t _ q hr (fun p hp => hs p (List.mem_cons_of_mem _ hp)) ((List.mem_cons.1 hq).resolve_left fun e => hx e.symm)
      omega
theorem flat_id {g : Nat → List Nat} : ∀ (t : List Nat) (p0 : Nat), plcs xs p0 = some t → (∀ p ∈ t, g p = (xs.drop p).take (sizeN xs p)) → t.flatMap g = xs.drop p0
  | [], p0, h, _ => by
    have : xs.length ≤ p0 := by
      apply Nat.le_of_not_lt; intro hlt
      obtain ⟨r', _, e, _⟩ := plcs_cons hlt h
      cases e
    rw [List.drop_of_length_le this]; rfl
  | a :: t, p0, h, hs => by
    have hp : p0 < xs.length := by
      apply Nat.lt_of_not_le; intro hge; rw [plcs_end hge] at h; cases h
    obtain ⟨r', hz, e, hr⟩ := plcs_cons hp h
    injection e with e1 e2
    subst e1; subst e2
    rw [List.flatMap_cons, hs a List.mem_cons_self, flat_id t _ hr fun p hp => hs p (List.mem_cons_of_mem _ hp)]
    rw [← List.drop_drop, List.take_append_drop]
theorem Prg.short_eq (h : Prg xs l) (hs : l.all (shP xs) = true) : newP xs l = xs := by
  have hs := List.all_eq_true.1 hs
  have key := flat_id (xs := xs) (g := outI xs l) l 0 h.plcs fun p hp => ?_
  · exact key
  · have h1 := h.new_short hp (hs p hp)
    unfold outI
    by_cases hj : cAt xs p = 14 ∨ cAt xs p = 15
    · rw [if_pos hj]
      have hz : sizeN xs p = 3 := by have := (h.jump hp hj).2; omega
      have hm := h.mem hp
      have hle := (sizeN_le xs p).resolve_left hm.2
      have hid := phi_id l 0 (targetN xs p) h.plcs (fun q hq => (h.new_short hq (hs q hq)).1) (h.jmp p hp hj)
      rw [Nat.zero_add] at hid
      rw [hid, hz, cut3 (by omega)]
      have b1 := cAt_lt h.byt (p + 1)
      have b2 := cAt_lt h.byt (p + 2)
      unfold targetN
      rw [show (cAt xs (p + 1) * 256 + cAt xs (p + 2)) / 256 % 256 = cAt xs (p + 1) by omega, show (cAt xs (p + 1) * 256 + cAt xs (p + 2)) % 256 = cAt xs (p + 2) by omega]
    · rw [if_neg hj]; exact h1.2 hj
theorem Prg.byt_new (h : Prg xs l) : Byt (newP xs l) := by
  intro b hb
  obtain ⟨p, hp, hb⟩ := List.mem_flatMap.1 hb
  have hm := h.mem hp
  have b0 := cAt_lt h.byt p
  have b1 := cAt_lt h.byt (p + 1)
  unfold outI at hb
  split at hb
  · simp only [List.mem_cons, List.not_mem_nil, or_false] at hb; omega
  · by_cases hc : cAt xs p = 2
    · rw [new_push h.byt hm.2 hc] at hb
      have ht := trim0_len (opB xs p)
      have hl := opB_len hm.2 hc
      have := size_facts hm.2
      rcases List.mem_cons.1 hb with rfl | hb
      · decide
      rcases List.mem_cons.1 hb with rfl | hb
      · omega
      · exact ht.2.2 (opB_byt h.byt p) b hb
    · unfold newB at hb
      rw [if_neg hc] at hb
      split at hb
      · simp only [List.mem_cons, List.not_mem_nil, or_false] at hb; omega
      · rw [List.mem_singleton.1 hb]; exact b0
theorem lines_b : ∀ t : List Nat, Byt (linesN xs l t)
  | [] => fun b hb => by cases hb
  | p :: t => by
    intro b hb
    rw [linesN] at hb
    rcases List.mem_append.1 hb with hb | hb
    · unfold lineN at hb
      rcases List.mem_append.1 hb with hb | hb
      · unfold labN at hb
        split at hb
        · rcases List.mem_cons.1 hb with rfl | hb
          · decide
          rcases List.mem_append.1 hb with hb | hb
          · have := decS_ch _ b hb; omega
          · simp only [List.mem_cons, List.not_mem_nil, or_false] at hb; omega
        · cases hb
      rcases List.mem_append.1 hb with hb | hb
      · have := name_ch _ b hb; omega
      rcases List.mem_append.1 hb with hb | hb
      · rcases oper_w xs p with ⟨h1, _⟩ | ⟨s, h1, _, _, h4⟩
        · rw [h1] at hb; cases hb
        · rw [h1] at hb
          rcases List.mem_cons.1 hb with rfl | hb
          · decide
          · have := h4 b hb; omega
      · rw [List.mem_singleton.1 hb]; decide
    · exact lines_b t b hb
theorem line_len (hB : Byt xs) {p : Nat} (hs : sizeN xs p ≠ 0) (hp : p < 1000000) : (lineN xs l p).length ≤ 64 * sizeN xs p := by
  obtain ⟨f1, f2, f3, f4⟩ := size_facts hs
  have h1 : (labN xs l p).length ≤ 9 := by
    unfold labN
    split
    · have := decS_len hp
      simp only [List.length_cons, List.length_append, List.length_nil]; omega
    · exact Nat.zero_le _
  have h2 := len_name (cAt xs p)
  have h3 : (operL xs p).length ≤ (if cAt xs p = 2 then 79 else 8) := by
    have b1 := cAt_lt hB (p + 1)
    have b2 := cAt_lt hB (p + 2)
    unfold operL
    split
    · rename_i hc
      have := len_decS (opB_lt hB hs hc)
      unfold opB at this
      rw [List.length_cons]; omega
    split
    · have := decS_len (n := cAt xs (p + 1)) (by omega)
      rw [List.length_cons]; omega
    split
    · have := decS_len (n := targetN xs p) (by unfold targetN; omega)
      simp only [List.length_cons]; omega
    · exact Nat.zero_le _
  unfold lineN
  simp only [List.length_append, List.length_cons, List.length_nil]
  split at h3 <;> omega
theorem lines_len (hB : Byt xs) (hx : xs.length ≤ 1024) : ∀ (t : List Nat) (p0 : Nat), plcs xs p0 = some t → p0 ≤ xs.length → (linesN xs l t).length + 64 * p0 ≤ 64 * xs.length
  | [], p0, _, h => by simp only [linesN, List.length_nil]; omega
  | a :: t, p0, h, hle => by
    have hp : p0 < xs.length := by
      apply Nat.lt_of_not_le; intro hge; rw [plcs_end hge] at h; cases h
    obtain ⟨r', hs, e, hr⟩ := plcs_cons hp h
    injection e with e1 e2
    subst e1; subst e2
    have := (sizeN_le xs a).resolve_left hs
    have ih := lines_len hB hx t _ hr (by omega)
    have h2 := line_len (l := l) hB hs (by omega)
    rw [linesN, List.length_append]; omega
theorem Prg.asm (h : Prg xs l) : asmN (textN xs) = (newP xs l, 0, 0) := by
  have hl : ¬ 65536 < (textN xs).length := by
    rw [text_eq h]
    have := lines_len (l := l) h.byt h.len l 0 h.plcs (by omega)
    have := h.len
    omega
  have e : flat (outB (numI 0 (l.flatMap (itsP xs l)))) (numI 0 (l.flatMap (itsP xs l))) = newP xs l := by
    rw [flat_num, out_prg h l fun _ hx => hx]; rfl
  unfold asmN
  rw [if_neg hl, say_prg h]
  simp only
  rw [bad_prg h]
  simp only
  rw [e, if_pos h.chk_new]
theorem Prg.byt_text (h : Prg xs l) : Byt (textN xs) := by rw [text_eq h]; exact lines_b l
end
def backN (xs : List Nat) : List Nat := (asmN (tS xs)).1
theorem back_1 {xs : List Nat} (hB : Byt xs) (hc : chkN xs = true) : asmN (tS xs) = (backN xs, 0, 0) ∧ (backN xs).length ≤ xs.length ∧ Byt (tS xs) ∧ Byt (backN xs) ∧ chkN (backN xs) = true := by
  obtain ⟨l, h⟩ := prg_of hB hc
  have e : tS xs = textN xs := by unfold tS; rw [if_pos hc]
  have e2 : backN xs = newP xs l := by unfold backN; rw [e, h.asm]
  rw [e2, e]
  exact ⟨h.asm, h.len_new.2, h.byt_text, h.byt_new, h.chk_new⟩
theorem back_play {xs : List Nat} (hB : Byt xs) (hc : chkN xs = true) (cl : Cl) (rep : Nat → Nat × Int) : playN cl (backN xs) rep = playN cl xs rep := by
  obtain ⟨l, h⟩ := prg_of hB hc
  have e : tS xs = textN xs := by unfold tS; rw [if_pos hc]
  have e2 : backN xs = newP xs l := by unfold backN; rw [e, h.asm]
  rw [e2]; exact h.play_new hc cl rep
def shortN (xs : List Nat) : Bool := match placesN xs with
  | none => false
  | some l => l.all (shP xs)
theorem back_short {xs : List Nat} (hB : Byt xs) (hc : chkN xs = true) (hs : shortN xs = true) : backN xs = xs := by
  obtain ⟨l, h⟩ := prg_of hB hc
  have e : tS xs = textN xs := by unfold tS; rw [if_pos hc]
  have e2 : backN xs = newP xs l := by unfold backN; rw [e, h.asm]
  unfold shortN at hs
  rw [h.pl] at hs
  rw [e2]; exact h.short_eq hs
end Go.Proofs.YtlapmbkfmbkdoaaGreatDoor
end
section
namespace Go.Proofs.YtlapmbkfmbkdoaaGreatDoor
open Go Go.Fw Go.RowKit
attribute [local irreducible] Go.Oper.wp Go.Code.wp Go.wpList Go.Fw.WL Go.Calls
def shL : Option (List Nat) → List Nat → Bool
  | none, _ => false
  | some l, xs => l.all (shP xs)
theorem sh_end {xs : List Nat} {p : Nat} (h : xs.length ≤ p) : shL (plcs xs p) xs = true := by rw [plcs_end h]; rfl
theorem sh_bad {xs : List Nat} {p : Nat} (h : p < xs.length) (hs : sizeN xs p = 0) : shL (plcs xs p) xs = false := by rw [plcs_bad h hs]; rfl
theorem sh_hit {xs : List Nat} {p : Nat} (h : p < xs.length) (h0 : sizeN xs p ≠ 0) (hs : (cAt xs p = 2 ∧ 3 < sizeN xs p) ∧ cAt xs (p + 2) = 0) : shL (plcs xs p) xs = false := by
  rw [plcs_next h h0]
  cases plcs xs (p + sizeN xs p) with
  | none => rfl
  | some r =>
    have : shP xs p = false := by unfold shP; rw [hs.1.1, decide_eq_true hs.1.2, hs.2]; rfl
    simp [shL, this]
theorem sh_next {xs : List Nat} {p : Nat} (h : p < xs.length) (h0 : sizeN xs p ≠ 0) (hs : ¬ ((cAt xs p = 2 ∧ 3 < sizeN xs p) ∧ cAt xs (p + 2) = 0)) : shL (plcs xs (p + sizeN xs p)) xs = shL (plcs xs p) xs := by
  rw [plcs_next h h0]
  cases plcs xs (p + sizeN xs p) with
  | none => rfl
  | some r =>
    have : shP xs p = true := by
      unfold shP
      simp only [Bool.not_eq_true', Bool.and_eq_false_iff, beq_eq_false_iff_ne, decide_eq_false_iff_not]
      omega
    simp [shL, this]
theorem sh_0 (xs : List Nat) : shL (plcs xs 0) xs = shortN xs := by
  have e : plcs xs 0 = placesN xs := rfl
  unfold shortN; rw [e]
  cases placesN xs <;> rfl
theorem short_calls (A : Option Addr) (n c : Nat) (xs : List Nat) (w0 : World) (hA : Rd w0 A (byts xs)) (hn : xs.length = n) (hnc : n ≤ c) (hc : c ≤ 9223372036854775807) (hB : Byt xs) (hb : n ≤ 140737488351232) : Ret Tryz.prog 21 [.slice A n c] w0 [] (fun v s => v = .bool (shortN xs) ∧ s = []) := by
 refine fn_start Tryz.func21 Y Tryz.ntmps21 Y [(0, .slice A n c)] ⟨Y, trivial⟩ ?_
 intro Q a hP J hR hN
 have G := St.start w0
 refine wp_seq_k fun K1 hK1=> wp_region_lit <| av J Y Y fun a J=> s0 <| then_n (hK1 _ _ <| wp_seq_k fun K2 hK2=> wp_region_lit <| av J Y Y fun a J=> s0 <| then_n (hK2 _ _ <| wp_seq_k fun K3 hK3=> wp_block <| wp_loop_N (fun g a w=> ∃ (i : Nat), n - i = g ∧ Fr 34 [(0, .slice A n c), (3, .int .i64 ((i : Nat) : Int))] a ∧ St w0 [] [] w ∧ (i ≤ n) ∧ (shL (plcs xs i) xs = shortN xs)) (n - 0) ?_ ?_))
 ·exact ⟨0, Y, J.sub ⟨Y, Y, trivial⟩, G.sel [] Y Y, by omega, sh_0 xs⟩
 rintro KL1 g a w ⟨i, hg1, J, G, hi, hp⟩ hKL1
 refine wp_seq_k fun K4 hK4=> wp_seq_k fun K5 hK5=> wp_region_lit <| mv J Y Y fun a J=> mv J Y Y fun a J=> sw J Y Y Y (R.len Tryz.underlying22 (J.ev Y)) fun a J=> lS J Y Y Y fun a J=> s0 <| then_n (hK5 _ _ <| cD J Y (fun c1=> ?_) (fun c1=> ?_))
 ·have hsz := sizeN_le xs i
  refine wp_skip <| then_n (hK4 _ _ <| wp_block <| wp_seq_k fun K6 hK6=> wp_region_lit <| mv J Y Y fun a J=> mv J Y Y fun a J=> so (wn Y) (O.call Y Y J ent40 (J.evs Y) G (rsize_calls A n c xs (i) w (hA.old G) hn hnc hc hB (by omega)) fun v s11 a w hR J G=> ?_))
  obtain ⟨rfl, rfl⟩ := hR
  refine av J Y Y fun a J=> s0 <| then_n (hK6 _ _ <| wp_seq_k fun K7 hK7=> wp_seq_k fun K8 hK8=> wp_region_lit <| mv J Y Y fun a J=> eL J Y Y Y fun a J=> s0 <| then_n (hK8 _ _ <| cD J Y (fun c2=> ?_) (fun c2=> ?_)))
  ·refine wp_seq_k fun K9 hK9=> wp_region_lit <| av J Y Y fun a J=> s0 <| then_n (hK9 _ _ <| wp_ret (then_r (blk_r (then_r (blk_r (then_r (hR _ _ _ _ _ J (run_results Tryz.results21 (.t J Y (.nil))) ?_)))))))
   exact ⟨_, [], Y, ⟨congrArg Value.bool ((show false = _ from by rw [← hp]; exact (sh_bad (by omega) (by omega)).symm)), Y⟩, G.none⟩
  have hs2 : sizeN xs i ≠ 0 := by omega
  have hle := hsz.resolve_left hs2
  have hsp := fun hc2 : cAt xs i = 2 => sz_push hs2 hc2
  refine wp_skip <| then_n (hK7 _ _ <| wp_seq_k fun K10 hK10=> wp_seq_k fun K11 hK11=> ?_)
  have hK11' : ∀ a w, (Fr 34 [(0, .slice A n c), (3, .int .i64 ((i : Nat) : Int)), (4, .int .i64 ((sizeN xs i : Nat) : Int)), (30, .bool (decide ((cAt xs i = 2 ∧ 3 < sizeN xs i) ∧ cAt xs (i + 2) = 0)))] a ∧ St w0 [] [] w) → K11 a w := by
   rintro a w ⟨J, G⟩
   refine hK11 _ _ ?_
   refine cD J Y (fun c3=> ?_) (fun c3=> ?_)
   ·refine wp_seq_k fun K12 hK12=> wp_region_lit <| av J Y Y fun a J=> s0 <| then_n (hK12 _ _ <| wp_ret (then_r (blk_r (then_r (blk_r (then_r (hR _ _ _ _ _ J (run_results Tryz.results21 (.t J Y (.nil))) ?_)))))))
    exact ⟨_, [], Y, ⟨congrArg Value.bool ((show false = _ from by rw [← hp]; exact (sh_hit (by omega) hs2 c3).symm)), Y⟩, G.none⟩
   refine wp_skip <| then_n (hK10 _ _ <| wp_region_lit <| mv J Y Y fun a J=> mv J Y Y fun a J=> aI J Y Y Y (by omega) fun a J=> av J Y Y fun a J=> s0 <| blk_n <| then_n (hKL1 (n - (i + sizeN xs i)) _ _ ?_ ?_))
   ·omega
   exact ⟨i + sizeN xs i, Y, J.sub ⟨Y, (congrArg (fun z => some (Value.int .i64 z)) (by omega)), trivial⟩, G.sel [] Y Y, by omega, (sh_next (by omega) (by omega) c3).trans hp⟩
  refine wp_region_lit <| mv J Y Y fun a J=> mv J Y Y fun a J=> sw J Y Y Y (R.indexO Tryz.underlying22 sz5 (J.ev Y) (Rd.ne hA (by rw [length_byts]; omega)) (J.ev Y) (by omega) (by omega)) fun a J=> sw J Y Y Y (R.loadO one5 (J.ev Y) (hA.old G) (cb_at (i := i) (by omega) (by omega))) fun a J=> eL J Y Y Y fun a J=> mv J Y Y fun a J=> J.splitD (t := 19) Y (fun h19 J=> ?_) (fun h19 J=> ?_)
  ·refine my J Y Y Y Y fun a J=> sv' J (wy J Y Y Y) Y Y (R.gtr (J.ev Y) (J.ev Y)) fun a J=> pT J Y Y Y fun a J=> mv J Y Y fun a J=> J.splitD (t := 23) Y (fun h23 J=> ?_) (fun h23 J=> ?_)
   ·refine my J Y Y Y Y fun a J=> my J Y Y Y Y fun a J=> sv' J (wy J Y Y Y) Y Y (R.addI (J.ev Y) (J.ev Y) (by omega)) fun a J=> sv' J (wy J Y Y Y) Y Y (R.indexO Tryz.underlying22 sz5 (J.ev Y) (Rd.ne hA (by rw [length_byts]; omega)) (J.ev Y) (by omega) (by omega)) fun a J=> sv' J (wy J Y Y Y) Y Y (R.loadO one5 (J.ev Y) (hA.old G) (cb_at (i := i + 2) (by omega) (by omega))) fun a J=> sv' J (wy J Y Y Y) Y Y (R.eql (J.ev Y) (J.ev Y)) fun a J=> pT J Y Y Y fun a J=> s0 ?_
    exact then_n (hK11' _ _ ⟨J.sub ⟨Y, Y, Y, (congrArg (fun z => some (Value.bool z)) (by first | exact (decide_eq_true (by omega)).symm | exact (decide_eq_false (by omega)).symm | exact decide_eq_decide.2 (by omega))), trivial⟩, G.sel [] Y Y⟩)
   refine kz J Y Y Y Y Y Y fun a J=> kz J Y Y Y Y Y Y fun a J=> kz J Y Y Y Y Y Y fun a J=> kz J Y Y Y Y Y Y fun a J=> kz J Y Y Y Y Y Y fun a J=> kz J Y Y Y Y Y Y fun a J=> pF J Y Y Y fun a J=> s0 ?_
   exact then_n (hK11' _ _ ⟨J.sub ⟨Y, Y, Y, (congrArg (fun z => some (Value.bool z)) (by first | exact (decide_eq_true (by omega)).symm | exact (decide_eq_false (by omega)).symm | exact decide_eq_decide.2 (by omega))), trivial⟩, G.sel [] Y Y⟩)
  refine kz J Y Y Y Y Y Y fun a J=> kz J Y Y Y Y Y Y fun a J=> pF J Y Y Y fun a J=> mv J Y Y fun a J=> kz J Y Y Y Y Y Y fun a J=> kz J Y Y Y Y Y Y fun a J=> kz J Y Y Y Y Y Y fun a J=> kz J Y Y Y Y Y Y fun a J=> kz J Y Y Y Y Y Y fun a J=> kz J Y Y Y Y Y Y fun a J=> pF J Y Y Y fun a J=> s0 ?_
  exact then_n (hK11' _ _ ⟨J.sub ⟨Y, Y, Y, (congrArg (fun z => some (Value.bool z)) (by first | exact (decide_eq_true (by omega)).symm | exact (decide_eq_false (by omega)).symm | exact decide_eq_decide.2 (by omega))), trivial⟩, G.sel [] Y Y⟩)
 refine wp_exit (then_x (then_x (blk_hit <| then_n (hK3 _ _ <| wp_seq_k fun K13 hK13=> wp_region_lit <| av J Y Y fun a J=> s0 <| then_n (hK13 _ _ <| wp_ret (hR _ _ _ _ _ J (run_results Tryz.results21 (.t J Y (.nil))) ?_))))))
 exact ⟨_, [], Y, ⟨congrArg Value.bool ((show true = _ from by rw [← hp]; exact (sh_end (by omega)).symm)), Y⟩, G.none⟩
end Go.Proofs.YtlapmbkfmbkdoaaGreatDoor
end
section
namespace Go.Proofs.YtlapmbkfmbkdoaaGreatDoor
open Go Go.Fw Go.RowKit
attribute [local irreducible] Go.Oper.wp Go.Code.wp Go.wpList Go.Fw.WL Go.Calls
def backF (F : Fx) (A : Option Addr) (d : Nat) : Fx := { F with cA := A, cc := d, code := backN F.code }
theorem back_in {F : Fx} {w : World} (hp : PlayIn F w) (hc : chkN F.code = true) {A : Option Addr} {d : Nat} (hd : (backN F.code).length ≤ d) (hd2 : d ≤ 9223372036854775807) (hR : Rd w A (byts (backN F.code))) : PlayIn (backF F A d) w :=
  play_in2 hp (back_1 hp.ok.byt hc).2.2.2.1 hd hd2 hR (by have := (back_1 hp.ok.byt hc).2.1; have := hp.b1; omega)
theorem playB (F : Fx) (A : Option Addr) (d : Nat) (w0 : World) (hp : PlayIn F w0) (hc : chkN F.code = true) (hd : (backN F.code).length ≤ d) (hd2 : d ≤ 9223372036854775807) (hR : Rd w0 A (byts (backN F.code))) : Ret Tryz.prog 22 [.agg (plays (backF F A d)).toArray, .slice none 0 0] w0 [] (RunR (playN F.cl F.code F.rep)) := by
  have := play0 (backF F A d) w0 (back_in hp hc hd hd2 hR)
  rw [← back_play hp.ok.byt hc F.cl F.rep]; exact this
theorem masm_back (xs : List Nat) (w0 : World) (hB : Byt xs) (hc : chkN xs = true) (hMx : MaxW w0) : Ret Tryz.prog 18 [.string (bstr (tS xs))] w0 [] (fun v q => ∃ A d, v = .tuple #[.slice A (backN xs).length d, .int .i64 0, .int .i64 0] ∧ OwnS q A (backN xs).length d (byts (backN xs)) 5 1) := by
  have h := masm_calls (bstr (tS xs)) w0 hMx
  obtain ⟨h1, _, h3, _⟩ := back_1 hB hc
  unfold AsmR at h
  rw [bys_bstr h3, h1] at h
  exact h
theorem short_dec (A : Option Addr) (n c : Nat) (xs : List Nat) (w0 : World) (hA : Rd w0 A (byts xs)) (hn : xs.length = n) (hnc : n ≤ c) (hc : c ≤ 9223372036854775807) (hB : Byt xs) (hb : n ≤ 140737488351232) : Ret Tryz.prog 21 [.slice A n c] w0 [] (fun v s => v = .bool (decide (shortN xs = true)) ∧ s = []) := by
  have := short_calls A n c xs w0 hA hn hnc hc hB hb
  rwa [show shortN xs = decide (shortN xs = true) by simp] at this
theorem same_back (A B : Option Addr) (c d : Nat) (xs ys : List Nat) (w0 : World) (he : ys = xs) (hA : Rd w0 A (byts ys)) (hB : Rd w0 B (byts xs)) : Ret Tryz.prog 19 [.slice A ys.length c, .slice B xs.length d] w0 [] (fun v s => v = .bool true ∧ s = []) := by
  subst he; exact sameBytes_eq A B _ c d _ w0 hA hB rfl
set_option maxHeartbeats 4000000 in
theorem machineThereAndBack_calls (F : Fx) (w0 : World) (hp : PlayIn F w0) (ht : TabW w0) (hMx : MaxW w0) : Ret Tryz.prog 7 [.agg (plays F).toArray] w0 [] (fun v s => v = .bool true ∧ s = []) := by
 refine fn_start Tryz.func7 Y Tryz.ntmps7 Y [(0, .agg (plays F).toArray)] ⟨Y, trivial⟩ ?_
 intro Q a hP J hR hN
 have G := St.start w0
 refine wp_seq_k fun K1 hK1=> wp_region_lit <| so (wn Y) (O.box Y Y J (J.ev Y) Y G fun b1 a w J G=> ?_)
 refine av J Y Y fun a J=> s0 <| then_n (hK1 _ _ <| wp_seq_k fun K2 hK2=> wp_seq_k fun K3 hK3=> wp_region_lit <| sw J Y Y Y (R.fieldAddr (k := 0) Tryz.underlying38 Y nz22 (J.ev Y) Y) fun a J=> sw J Y Y Y (R.load one22 (J.ev Y) G .h (Y)) fun a J=> so (wn Y) (O.call Y Y J ent15 (J.evs Y) G (rcheck_calls F.cA F.code.length F.cc F.code w (hp.code.old G) Y hp.ok.cap hp.ok.cap2 hp.ok.byt) fun v s18 a w hR J G=> ?_))
 obtain ⟨rfl, rfl⟩ := hR
 refine sw J Y Y Y (R.as (u := .bool (decide (chkN F.code = false))) (R.neq (p := if chkN F.code then 0 else 100) (q := 0) (J.ev Y) (J.ev Y)) (chk_dec)) fun a J=> s0 <| then_n (hK3 _ _ <| cD J Y (fun c1=> ?_) (fun c1=> ?_))
 ·have hE : tE F.code = 100 := by (unfold tE; rw [c1]; rfl)
  refine wp_seq_k fun K4 hK4=> wp_region_lit <| so (wn Y) (O.buildSlice (l := []) Y Y J Tryz.underlying22 inf5 Y Y (J.evp Y) (by decide) Y G fun b21 a w J G=> ?_)
  refine sw J Y Y Y (R.fieldAddr (k := 0) Tryz.underlying38 Y nz22 (J.ev Y) Y) fun a J=> sw J Y Y Y (R.load one22 (J.ev Y) G (.t (.t .h)) (Y)) fun a J=> so (wn Y) (O.appendO Y Y J Tryz.underlying22 inf5 Y Y (by decide) (J.ev Y) (J.ev Y) G (own_nil5 b21) (fun _=> .h) (hp.code.old G) (by rw [length_byts, Nat.mul_one]) (byts_one _) (by unfold maxLen; have := hp.b1; omega) (by have := hp.b1; omega) fun A24 c24 s24 a w hO24 J G=> ?_)
  rw [Nat.zero_add] at J hO24; rw [show byts [] = [] from rfl, List.nil_append] at hO24
  refine so (wn Y) (O.call Y Y J ent9 (J.evs Y) G (mtext_calls A24 F.code.length c24 F.code w (hO24.rd G .h) Y hO24.2.1 hO24.cap hp.ok.byt (ht.old G)) fun v s25 a w hR J G=> ?_)
  obtain ⟨rfl, rfl⟩ := hR
  refine mv J Y Y fun a J=> xv J Y Y Y fun a J=> xv J Y Y Y fun a J=> av J Y Y fun a J=> av J Y Y fun a J=> s0 <| then_n (hK4 _ _ <| wp_seq_k fun K5 hK5=> wp_region_lit <| mv J Y Y fun a J=> sw J Y Y Y (R.as (u := .bool true) (R.eql (p := tE F.code) (q := 100) (J.ev Y) (J.ev Y)) (congrArg Value.bool (decide_eq_true (hE)))) fun a J=> mv J Y Y fun a J=> so (wy J Y Y Y) (O.call Y Y J ent10 (J.evs Y) G (alive_calls w) fun v s31 a w hR J G=> ?_))
  obtain ⟨rfl, rfl⟩ := hR
  refine pT J Y Y Y fun a J=> av J Y Y fun a J=> s0 <| then_n (hK5 _ _ <| wp_ret (then_r (hR _ _ _ _ _ J (run_results Tryz.results7 (.t J Y (.nil))) ?_)))
  exact ⟨_, [], Y, ⟨Y, Y⟩, G.none⟩
 have hc : chkN F.code = true := by (cases h : chkN F.code; exact absurd h c1; rfl)
 have hE : tE F.code = 0 := by (unfold tE; rw [hc]; rfl)
 have hbl := (back_1 hp.ok.byt hc).2.1
 refine wp_skip <| then_n (hK2 _ _ <| wp_seq_k fun K6 hK6=> wp_region_lit <| so (wn Y) (O.buildSlice (l := []) Y Y J Tryz.underlying22 inf5 Y Y (J.evp Y) (by decide) Y G fun b34 a w J G=> ?_))
 refine sw J Y Y Y (R.fieldAddr (k := 0) Tryz.underlying38 Y nz22 (J.ev Y) Y) fun a J=> sw J Y Y Y (R.load one22 (J.ev Y) G (.t (.t .h)) (Y)) fun a J=> so (wn Y) (O.appendO Y Y J Tryz.underlying22 inf5 Y Y (by decide) (J.ev Y) (J.ev Y) G (own_nil5 b34) (fun _=> .h) (hp.code.old G) (by rw [length_byts, Nat.mul_one]) (byts_one _) (by unfold maxLen; have := hp.b1; omega) (by have := hp.b1; omega) fun A37 c37 s37 a w hO37 J G=> ?_)
 rw [Nat.zero_add] at J hO37; rw [show byts [] = [] from rfl, List.nil_append] at hO37
 refine so (wn Y) (O.call Y Y J ent9 (J.evs Y) G (mtext_calls A37 F.code.length c37 F.code w (hO37.rd G .h) Y hO37.2.1 hO37.cap hp.ok.byt (ht.old G)) fun v s38 a w hR J G=> ?_)
 obtain ⟨rfl, rfl⟩ := hR
 refine mv J Y Y fun a J=> xv J Y Y Y fun a J=> xv J Y Y Y fun a J=> av J Y Y fun a J=> av J Y Y fun a J=> s0 <| then_n (hK6 _ _ <| wp_seq_k fun K7 hK7=> wp_seq_k fun K8 hK8=> wp_region_lit <| mv J Y Y fun a J=> sw J Y Y Y (R.as (u := .bool false) (R.neq (p := tE F.code) (q := 0) (J.ev Y) (J.ev Y)) (congrArg Value.bool (decide_eq_false (fun h=> h hE)))) fun a J=> s0 <| then_n (hK8 _ _ <| cF J Y <| wp_skip <| then_n (hK7 _ _ <| wp_seq_k fun K9 hK9=> wp_region_lit <| mv J Y Y fun a J=> so (wn Y) (O.call Y Y J ent18 (J.evs Y) G (masm_back F.code w hp.ok.byt hc (hMx.old G)) fun v s45 a w hR J G=> ?_))))
 obtain ⟨A45, d45, rfl, hO45⟩ := hR
 refine mv J Y Y fun a J=> xv J Y Y Y fun a J=> xv J Y Y Y fun a J=> xv J Y Y Y fun a J=> av J Y Y fun a J=> av J Y Y fun a J=> av J Y Y fun a J=> s0 <| then_n (hK9 _ _ <| wp_seq_k fun K10 hK10=> wp_seq_k fun K11 hK11=> wp_region_lit <| mv J Y Y fun a J=> sw J Y Y Y (R.as (u := .bool false) (R.neq (p := 0) (q := 0) (J.ev Y) (J.ev Y)) (congrArg Value.bool (decide_eq_false (fun h=> h Y)))) fun a J=> mv J Y Y fun a J=> my J Y Y Y Y fun a J=> sv' J (wy J Y Y Y) Y Y (R.as (u := .bool false) (R.neq (p := 0) (q := 0) (J.ev Y) (J.ev Y)) (congrArg Value.bool (decide_eq_false (fun h=> h Y)))) fun a J=> pF J Y Y Y fun a J=> mv J Y Y fun a J=> my J Y Y Y Y fun a J=> sv' J (wy J Y Y Y) Y Y (R.len Tryz.underlying22 (J.ev Y)) fun a J=> sv' J (wy J Y Y Y) Y Y (R.fieldAddr (k := 0) Tryz.underlying38 Y nz22 (J.ev Y) Y) fun a J=> sv' J (wy J Y Y Y) Y Y (R.load one22 (J.ev Y) G (.t (.t (.t (.t .h)))) (Y)) fun a J=> sv' J (wy J Y Y Y) Y Y (R.len Tryz.underlying22 (J.ev Y)) fun a J=> ?_)
 refine sv' J (wy J Y Y Y) Y Y (R.as (u := .bool false) (R.gtr (p := (((backN F.code).length : Nat) : Int)) (q := ((F.code.length : Nat) : Int)) (J.ev Y) (J.ev Y)) (congrArg Value.bool (decide_eq_false (by omega)))) fun a J=> pF J Y Y Y fun a J=> s0 <| then_n (hK11 _ _ <| cF J Y <| wp_skip <| then_n (hK10 _ _ <| wp_seq_k fun K12 hK12=> wp_seq_k fun K13 hK13=> wp_region_lit <| sw J Y Y Y (R.fieldAddr (k := 0) Tryz.underlying38 Y nz22 (J.ev Y) Y) fun a J=> sw J Y Y Y (R.load one22 (J.ev Y) G (.t (.t (.t (.t .h)))) (Y)) fun a J=> so (wn Y) (O.call Y Y J ent21 (J.evs Y) G (short_dec F.cA F.code.length F.cc F.code w (hp.code.old G) Y hp.ok.cap hp.ok.cap2 hp.ok.byt hp.b1) fun v s65 a w hR J G=> ?_)))
 obtain ⟨rfl, rfl⟩ := hR
 refine mv J Y Y fun a J=> J.splitD (t := 66) Y (fun h66 J=> ?_) (fun h66 J=> ?_)
 ·refine my J Y Y Y Y fun a J=> sv' J (wy J Y Y Y) Y Y (R.fieldAddr (k := 0) Tryz.underlying38 Y nz22 (J.ev Y) Y) fun a J=> sv' J (wy J Y Y Y) Y Y (R.load one22 (J.ev Y) G (.t (.t (.t (.t (.t .h))))) (Y)) fun a J=> so (wy J Y Y Y) (O.call Y Y J ent19 (J.evs Y) G (same_back A45 F.cA d45 F.cc F.code (backN F.code) w (back_short hp.ok.byt hc h66) (hO45.rd G (.t .h)) (hp.code.old G)) fun v s70 a w hR J G=> ?_)
  obtain ⟨rfl, rfl⟩ := hR
  refine sv' J (wy J Y Y Y) Y Y (R.as (u := .bool false) (R.not (J.ev Y)) (Y)) fun a J=> pT J Y Y Y fun a J=> s0 <| then_n (hK13 _ _ <| cF J Y <| wp_skip <| then_n (hK12 _ _ <| wp_seq_k fun K14 hK14=> wp_region_lit <| sw J Y Y Y (R.loadW agg38 (J.ev Y) G (.t (.t (.t (.t (.t (.t .h)))))) sz38 (Y)) fun a J=> so (wn Y) (O.call Y Y J ent22 (J.evs Y) G (play0 F w (hp.old G)) fun v s75 a w hR J G=> ?_)))
  obtain ⟨A75, c75, rfl, hO75⟩ := hR
  refine mv J Y Y fun a J=> xv J Y Y Y fun a J=> xv J Y Y Y fun a J=> xv J Y Y Y fun a J=> so (wn Y) (O.alloc Y Y J ze45 Y G fun b10 a w J G=> ?_)
  refine so (wn Y) (O.storeW sz45 (J.ev Y) (J.ev Y) (Y) Y (by simp [Value.oneCell']) G .h (Y) fun w G=> ?_)
  refine av J Y Y fun a J=> av J Y Y fun a J=> s0 <| then_n (hK14 _ _ <| wp_seq_k fun K15 hK15=> wp_region_lit <| mv J Y Y fun a J=> sw J Y Y Y (R.fieldAddr (k := 1) Tryz.underlying38 Y nz35 (J.ev Y) Y) fun a J=> sw J Y Y Y (R.loadA (cs := [_, _, _, _, _, _, _, _, _, _, _, _, _, _, _, _, _, _, _, _, _, _, _, _, _, _, _, _, _, _, _, _, _, _, _, _, _, _, _, _, _, _, _, _, _, _, _, _]) agg35 (J.ev Y) G (.t (.t (.t (.t (.t (.t (.t (.t .h)))))))) sz35 Y (getAt Y)) fun a J=> sw J Y Y Y (R.fieldAddr (k := 49) Tryz.underlying38 Y nz36 (J.ev Y) Y) fun a J=> sw J Y Y Y (R.load one36 (J.ev Y) G (.t (.t (.t (.t (.t (.t (.t (.t .h)))))))) (Y)) fun a J=> sw J Y Y Y (R.buildStr (l := plays (backF F A45 d45)) Tryz.underlying38 ze38 pl38 (J.evp Y) (by kernel_rfl)) fun a J=> so (wn Y) (O.call Y Y J ent22 (J.evs Y) G (playB F A45 d45 w (hp.old G) hc hO45.2.1 hO45.cap (hO45.rd G (.t (.t (.t (.t .h)))))) fun v s86 a w hR J G=> ?_))
  obtain ⟨A86, c86, rfl, hO86⟩ := hR
  refine mv J Y Y fun a J=> xv J Y Y Y fun a J=> xv J Y Y Y fun a J=> xv J Y Y Y fun a J=> so (wn Y) (O.alloc Y Y J ze45 Y G fun b13 a w J G=> ?_)
  refine so (wn Y) (O.storeW sz45 (J.ev Y) (J.ev Y) (Y) Y (by simp [Value.oneCell']) G .h (Y) fun w G=> ?_)
  refine av J Y Y fun a J=> av J Y Y fun a J=> s0 <| then_n (hK15 _ _ <| wp_seq_k fun K16 hK16=> wp_region_lit <| sw J Y Y Y (R.loadW agg45 (J.ev Y) G (.t (.t .h)) sz45 (Y)) fun a J=> sw J Y Y Y (R.loadW agg45 (J.ev Y) G .h sz45 (Y)) fun a J=> sw J Y Y Y (R.as (u := .bool true) (R.eqlAgg (J.ev Y) (J.ev Y) (ran_eq _ _) eg45) (Y)) fun a J=> mv J Y Y fun a J=> my J Y Y Y Y fun a J=> my J Y Y Y Y fun a J=> sv' J (wy J Y Y Y) Y Y (R.as (u := .bool true) (R.eql (p := (playN F.cl F.code F.rep).e) (q := (playN F.cl F.code F.rep).e) (J.ev Y) (J.ev Y)) (congrArg Value.bool (decide_eq_true (Y)))) fun a J=> pT J Y Y Y fun a J=> mv J Y Y fun a J=> my J Y Y Y Y fun a J=> my J Y Y Y Y fun a J=> so (wy J Y Y Y) (O.call Y Y J ent23 (J.evs Y) G (sameAsks_calls A75 A86 c75 c86 (playN F.cl F.code F.rep).asks w (hO75.rd G (.t (.t (.t .h)))) (hO86.rd G (.t .h)) (Nat.le_trans hO75.2.1 hO75.cap)) fun v s101 a w hR J G=> ?_))
  obtain ⟨rfl, rfl⟩ := hR
  refine pT J Y Y Y fun a J=> av J Y Y fun a J=> s0 <| then_n (hK16 _ _ <| wp_ret (hR _ _ _ _ _ J (run_results Tryz.results7 (.t J Y (.nil))) ?_))
  exact ⟨_, [], Y, ⟨Y, Y⟩, G.none⟩
 refine kz J Y Y Y Y Y Y fun a J=> kz J Y Y Y Y Y Y fun a J=> kz J Y Y Y Y Y Y fun a J=> kz J Y Y Y Y Y Y fun a J=> kz J Y Y Y Y Y Y fun a J=> pF J Y Y Y fun a J=> s0 <| then_n (hK13 _ _ <| cF J Y <| wp_skip <| then_n (hK12 _ _ <| wp_seq_k fun K17 hK17=> wp_region_lit <| sw J Y Y Y (R.loadW agg38 (J.ev Y) G (.t (.t (.t (.t (.t .h))))) sz38 (Y)) fun a J=> so (wn Y) (O.call Y Y J ent22 (J.evs Y) G (play0 F w (hp.old G)) fun v s75 a w hR J G=> ?_)))
 obtain ⟨A75, c75, rfl, hO75⟩ := hR
 refine mv J Y Y fun a J=> xv J Y Y Y fun a J=> xv J Y Y Y fun a J=> xv J Y Y Y fun a J=> so (wn Y) (O.alloc Y Y J ze45 Y G fun b10 a w J G=> ?_)
 refine so (wn Y) (O.storeW sz45 (J.ev Y) (J.ev Y) (Y) Y (by simp [Value.oneCell']) G .h (Y) fun w G=> ?_)
 refine av J Y Y fun a J=> av J Y Y fun a J=> s0 <| then_n (hK17 _ _ <| wp_seq_k fun K18 hK18=> wp_region_lit <| mv J Y Y fun a J=> sw J Y Y Y (R.fieldAddr (k := 1) Tryz.underlying38 Y nz35 (J.ev Y) Y) fun a J=> sw J Y Y Y (R.loadA (cs := [_, _, _, _, _, _, _, _, _, _, _, _, _, _, _, _, _, _, _, _, _, _, _, _, _, _, _, _, _, _, _, _, _, _, _, _, _, _, _, _, _, _, _, _, _, _, _, _]) agg35 (J.ev Y) G (.t (.t (.t (.t (.t (.t (.t .h))))))) sz35 Y (getAt Y)) fun a J=> sw J Y Y Y (R.fieldAddr (k := 49) Tryz.underlying38 Y nz36 (J.ev Y) Y) fun a J=> sw J Y Y Y (R.load one36 (J.ev Y) G (.t (.t (.t (.t (.t (.t (.t .h))))))) (Y)) fun a J=> sw J Y Y Y (R.buildStr (l := plays (backF F A45 d45)) Tryz.underlying38 ze38 pl38 (J.evp Y) (by kernel_rfl)) fun a J=> so (wn Y) (O.call Y Y J ent22 (J.evs Y) G (playB F A45 d45 w (hp.old G) hc hO45.2.1 hO45.cap (hO45.rd G (.t (.t (.t .h))))) fun v s86 a w hR J G=> ?_))
 obtain ⟨A86, c86, rfl, hO86⟩ := hR
 refine mv J Y Y fun a J=> xv J Y Y Y fun a J=> xv J Y Y Y fun a J=> xv J Y Y Y fun a J=> so (wn Y) (O.alloc Y Y J ze45 Y G fun b13 a w J G=> ?_)
 refine so (wn Y) (O.storeW sz45 (J.ev Y) (J.ev Y) (Y) Y (by simp [Value.oneCell']) G .h (Y) fun w G=> ?_)
 refine av J Y Y fun a J=> av J Y Y fun a J=> s0 <| then_n (hK18 _ _ <| wp_seq_k fun K19 hK19=> wp_region_lit <| sw J Y Y Y (R.loadW agg45 (J.ev Y) G (.t (.t .h)) sz45 (Y)) fun a J=> sw J Y Y Y (R.loadW agg45 (J.ev Y) G .h sz45 (Y)) fun a J=> sw J Y Y Y (R.as (u := .bool true) (R.eqlAgg (J.ev Y) (J.ev Y) (ran_eq _ _) eg45) (Y)) fun a J=> mv J Y Y fun a J=> my J Y Y Y Y fun a J=> my J Y Y Y Y fun a J=> sv' J (wy J Y Y Y) Y Y (R.as (u := .bool true) (R.eql (p := (playN F.cl F.code F.rep).e) (q := (playN F.cl F.code F.rep).e) (J.ev Y) (J.ev Y)) (congrArg Value.bool (decide_eq_true (Y)))) fun a J=> pT J Y Y Y fun a J=> mv J Y Y fun a J=> my J Y Y Y Y fun a J=> my J Y Y Y Y fun a J=> so (wy J Y Y Y) (O.call Y Y J ent23 (J.evs Y) G (sameAsks_calls A75 A86 c75 c86 (playN F.cl F.code F.rep).asks w (hO75.rd G (.t (.t (.t .h)))) (hO86.rd G (.t .h)) (Nat.le_trans hO75.2.1 hO75.cap)) fun v s101 a w hR J G=> ?_))
 obtain ⟨rfl, rfl⟩ := hR
 refine pT J Y Y Y fun a J=> av J Y Y fun a J=> s0 <| then_n (hK19 _ _ <| wp_ret (hR _ _ _ _ _ J (run_results Tryz.results7 (.t J Y (.nil))) ?_))
 exact ⟨_, [], Y, ⟨Y, Y⟩, G.none⟩
theorem pow_back {W : World} (h : laidMet Tryz.prog Rows.machineThereAndBackRow.laid W) : TabW W := by
  obtain ⟨ps, ⟨_, _, _, _, _, _, _, _, _, _, ⟨_, _, _, _, _, _, _, _, _, _, ⟨g, t, cs, fuel, p, q, hg, ht, hvar, hd, _, _⟩, _⟩, _⟩, _⟩ := h
  obtain ⟨g0, e0⟩ := pow_global
  obtain rfl := Option.some.inj (e0.symm.trans hg)
  obtain rfl := Option.some.inj ((show (Tryz.prog.globals[g0]?).map (·.type) = some 194 by
    rw [show g0 = 2 from Option.some.inj (e0.symm.trans (by kernel_rfl))]; kernel_rfl).symm.trans ht)
  unfold TabW Lib.TabIs
  rw [hvar, ← Lib.cells_of_tab (k := .u64) (zs := Lib.pow10Tab) Tryz.underlying194 Tryz.underlying30 (by kernel_rfl) (by kernel_rfl) hd]
end Go.Proofs.YtlapmbkfmbkdoaaGreatDoor
end
