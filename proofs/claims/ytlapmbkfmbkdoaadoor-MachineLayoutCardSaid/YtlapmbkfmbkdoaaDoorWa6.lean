/- Part 6 of what the row MachineLayout needs, with no condition beyond each lemma's own. -/
import Derived.Test.YtlapmbkfmbkdoaaDoorWa5
section
namespace Go.Proofs.YtlapmbkfmbkdoaaDoor
open Go Go.Fw Go.RowKit
attribute [local irreducible] Go.Oper.wp Go.Code.wp Go.wpList Go.Fw.WL Go.Calls
theorem bstr_app (xs ys : List Nat) : bstr xs ++ bstr ys = bstr (xs ++ ys) := by
  apply ByteArray.ext
  simp [bstr]
theorem R.addS {P : Program} {w : World} {ρ : Operand → Value} {dst : Option Tmp} {ty : TypeId} {pos : String} {af : Array Edge} {g : Option (Nat × Bool)} {x y : Operand} {T T' : TypeId} {s t : ByteArray} (hx : ρ x = .string s) (hy : ρ y = .string t) (h : s.size + t.size ≤ 9223372036854775807) :
    (execOp ρ ⟨dst, .binOp .add T x y T', ty, pos, af, g⟩).run P w = .ok (.value (.string (s ++ t))) w := by
  have h2 : ¬ (((s.size + t.size : Nat) : Int) > IntKind.i64.max) := by
    have : IntKind.i64.max = 9223372036854775807 := rfl
    omega
  have hv : (Op.stringOp .add s t).run P w = .ok (.string (s ++ t)) w := by
    unfold Op.stringOp
    simp only [if_neg h2, Sem.run_pure]
  simp [execOp, hx, hy, eqGuard, binOp, hv, Sem.run_bind]
theorem R.catS {P : Program} {w : World} {ρ : Operand → Value} {dst : Option Tmp} {ty : TypeId} {pos : String} {af : Array Edge} {g : Option (Nat × Bool)} {x y : Operand} {T T' : TypeId} {xs ys : List Nat} (hx : ρ x = .string (bstr xs)) (hy : ρ y = .string (bstr ys)) (h : xs.length + ys.length ≤ 9223372036854775807) :
    (execOp ρ ⟨dst, .binOp .add T x y T', ty, pos, af, g⟩).run P w = .ok (.value (.string (bstr (xs ++ ys)))) w := by
  rw [← bstr_app]
  exact R.addS hx hy (by rw [size_bstr, size_bstr]; exact h)
def padF (c : Nat) : List Nat := if c = 10 then [10, 32, 35] else [c]
def padN (xs : List Nat) : List Nat := [9, 32, 35, 32] ++ xs.flatMap padF
def cntN (xs : List Nat) : Nat := 1 + xs.count 10
theorem pad_snoc (xs : List Nat) (c : Nat) : padN (xs ++ [c]) = padN xs ++ padF c := by simp [padN]
theorem cnt_snoc (xs : List Nat) (c : Nat) : cntN (xs ++ [c]) = cntN xs + (if c = 10 then 1 else 0) := by
  unfold cntN
  rw [List.count_append, List.count_singleton]
  by_cases h : c = 10
  · simp [h]; omega
  · simp [h]
theorem padF_len (c : Nat) : (padF c).length ≤ 3 := by unfold padF; split <;> simp
theorem pad_len (xs : List Nat) : (padN xs).length ≤ 4 + 3 * xs.length := by
  unfold padN
  rw [List.length_append]
  have : (xs.flatMap padF).length ≤ 3 * xs.length := by
    induction xs with
    | nil => simp
    | cons c xs ih => have := padF_len c; rw [List.flatMap_cons, List.length_append, List.length_cons]; omega
  simp only [List.length_cons, List.length_nil]
  omega
theorem cnt_le (xs : List Nat) : cntN xs ≤ 1 + xs.length := by unfold cntN; have := List.count_le_length (a := 10) (l := xs); omega
theorem pad_byt {xs : List Nat} (h : Byt xs) : Byt (padN xs) := by
  intro b hb
  unfold padN at hb
  rcases List.mem_append.1 hb with h1 | h1
  · have : ∀ b ∈ [9, 32, 35, 32], b < 256 := by decide
    exact this b h1
  · obtain ⟨c, hc, hb⟩ := List.mem_flatMap.1 h1
    unfold padF at hb
    split at hb
    · have : ∀ b ∈ [10, 32, 35], b < 256 := by decide
      exact this b hb
    · rw [List.mem_singleton.1 hb]; exact h c hc
def Rmk (cur : List Nat) : Prop := ∃ pre post, cur = pre ++ 35 :: post ∧ ∀ c ∈ pre, c = 32 ∨ c = 9
theorem rmk_words {cur : List Nat} (h : Rmk cur) : wordsN cur = [] := by
  obtain ⟨pre, post, rfl, hp⟩ := h
  unfold wordsN
  induction pre with
  | nil => rw [List.nil_append, fld, if_pos rfl]; rfl
  | cons c pre ih =>
    have hc := hp c List.mem_cons_self
    rw [List.cons_append, fld, if_neg (by omega), if_pos hc, show clo [] = [] from rfl, List.nil_append]
    exact ih fun d hd => hp d (List.mem_cons_of_mem _ hd)
theorem rmk_snoc {cur : List Nat} (c : Nat) (h : Rmk cur) : Rmk (cur ++ [c]) := by
  obtain ⟨pre, post, rfl, hp⟩ := h
  exact ⟨pre, post ++ [c], by simp, hp⟩
theorem pad_spl (ys : List Nat) : ∀ (xs cur : List Nat), Rmk cur → ∃ P, spl10 cur (xs.flatMap padF ++ 10 :: ys) = P ++ linesT ys ∧ P.length = 1 + xs.count 10 ∧ ∀ l ∈ P, wordsN l = []
  | [], cur, h => ⟨[cur], by rw [List.flatMap_nil, List.nil_append, spl10, if_pos rfl]; rfl, rfl, fun l hl => by rw [List.mem_singleton.1 hl]; exact rmk_words h⟩
  | c :: xs, cur, h => by
    rw [List.flatMap_cons]
    by_cases hc : c = 10
    · obtain ⟨P, h1, h2, h3⟩ := pad_spl ys xs [32, 35] ⟨[32], [], rfl, fun d hd => by simp at hd; omega⟩
      refine ⟨cur :: P, ?_, ?_, ?_⟩
      · rw [padF, if_pos hc]
        show spl10 cur (10 :: 32 :: 35 :: (xs.flatMap padF ++ 10 :: ys)) = _
        rw [spl10, if_pos rfl, spl10, if_neg (by decide), spl10, if_neg (by decide)]
        show cur :: spl10 [32, 35] _ = _
        rw [h1]; rfl
      · rw [List.length_cons, h2, hc, List.count_cons_self]; omega
      · intro l hl
        rcases List.mem_cons.1 hl with rfl | hl
        · exact rmk_words h
        · exact h3 l hl
    · obtain ⟨P, h1, h2, h3⟩ := pad_spl ys xs (cur ++ [c]) (rmk_snoc c h)
      refine ⟨P, ?_, ?_, h3⟩
      · rw [padF, if_neg hc]
        show spl10 cur (c :: (xs.flatMap padF ++ 10 :: ys)) = _
        rw [spl10, if_neg hc, h1]
      · rw [h2, List.count_cons_of_ne hc]
theorem pad_lines (xs ys : List Nat) : ∃ P, linesT (padN xs ++ [10] ++ ys) = P ++ linesT ys ∧ P.length = cntN xs ∧ ∀ l ∈ P, wordsN l = [] := by
  obtain ⟨P, h1, h2, h3⟩ := pad_spl ys xs [9, 32, 35, 32] ⟨[9, 32], [32], rfl, fun d hd => by simp at hd; omega⟩
  refine ⟨P, ?_, h2, h3⟩
  unfold linesT padN
  rw [List.append_assoc, List.append_assoc]
  show spl10 [] (9 :: 32 :: 35 :: 32 :: (xs.flatMap padF ++ (10 :: ys))) = _
  rw [spl10, if_neg (by decide), spl10, if_neg (by decide), spl10, if_neg (by decide), spl10, if_neg (by decide)]
  exact h1
theorem say_skips : ∀ (P L : List (List Nat)) (i : Nat) (acc : List (It × Nat)), (∀ l ∈ P, wordsN l = []) → sayN (P ++ L) i acc = sayN L (i + P.length) acc
  | [], L, i, acc, _ => rfl
  | l :: P, L, i, acc, h => by
    rw [List.cons_append, say_skip (h l List.mem_cons_self), say_skips P L (i + 1) acc fun x hx => h x (List.mem_cons_of_mem _ hx), List.length_cons]
    congr 1; omega
def shA (k : Nat) (acc : List (It × Nat)) : List (It × Nat) := acc.map fun x => (x.1, x.2 + k)
def shR (k : Nat) : Nat ⊕ List (It × Nat) → Nat ⊕ List (It × Nat)
  | .inl n => .inl (n + k)
  | .inr a => .inr (shA k a)
theorem tw_sh (k : Nat) (acc : List (It × Nat)) (x : It) : tw (shA k acc) x = tw acc x := by
  unfold tw shA; rw [List.any_map]; rfl
theorem say_sh (k : Nat) : ∀ (L : List (List Nat)) (i : Nat) (acc : List (It × Nat)), sayN L (i + k) (shA k acc) = shR k (sayN L i acc)
  | [], i, acc => rfl
  | l :: L, i, acc => by
    by_cases hw : wordsN l = []
    · rw [say_skip hw, say_skip hw, ← say_sh k L (i + 1) acc]; congr 1; omega
    · cases hu : undN (wordsN l) with
      | none => rw [say_bad1 hw hu, say_bad1 hw hu]; show _ = Sum.inl (i + 1 + k); congr 1; omega
      | some x =>
        by_cases ht : tw acc x = true
        · rw [say_bad2 hw hu (by rw [tw_sh]; exact ht), say_bad2 hw hu ht]; show _ = Sum.inl (i + 1 + k); congr 1; omega
        · have ht2 : tw acc x = false := by simpa using ht
          rw [say_go hw hu (by rw [tw_sh]; exact ht2), say_go hw hu ht2, ← say_sh k L (i + 1)]
          have e : shA k (acc ++ [(x, i + 1)]) = shA k acc ++ [(x, i + k + 1)] := by unfold shA; rw [List.map_append]; simp; omega
          rw [e]; congr 1; omega
theorem plc_sh (k : Nat) (s : List Nat) : ∀ (l : List (It × Nat)) (p : Nat), plcL (shA k l) s p = plcL l s p
  | [], _ => rfl
  | x :: l, p => by
    show plcL ((x.1, x.2 + k) :: shA k l) s p = _
    rw [plcL, plcL, plc_sh k s l]
theorem bad_sh (k : Nat) (all : List (It × Nat)) : ∀ (l : List (It × Nat)), badN (shA k all) (shA k l) = (badN all l).map (· + k)
  | [] => rfl
  | x :: l => by
    show badN (shA k all) ((x.1, x.2 + k) :: shA k l) = _
    rw [badN, badN, plc_sh, bad_sh k all l]
    split <;> rfl
theorem flat_sh (k : Nat) (all l : List (It × Nat)) : flat (outB (shA k all)) (shA k l) = flat (outB all) l := by
  have e : outB (shA k all) = outB all := by
    funext x; unfold outB; rw [plc_sh]
  rw [e]; unfold flat shA; rw [List.flatMap_map]
def NumOK (b : Nat) (acc : List (It × Nat)) : Prop := ∀ x ∈ acc, 1 ≤ x.2 ∧ x.2 ≤ b
theorem say_num : ∀ (L : List (List Nat)) (i : Nat) (acc : List (It × Nat)), NumOK i acc → match sayN L i acc with
    | .inl k => 1 ≤ k ∧ k ≤ i + L.length
    | .inr a => NumOK (i + L.length) a
  | [], i, acc, h => h
  | l :: L, i, acc, h => by
    have hm : ∀ {acc : List (It × Nat)}, NumOK (i + 1) acc → match sayN L (i + 1) acc with
      | .inl k => 1 ≤ k ∧ k ≤ i + (l :: L).length
      | .inr a => NumOK (i + (l :: L).length) a := fun {acc} h => by
      have := say_num L (i + 1) acc h
      rw [List.length_cons, show i + (L.length + 1) = i + 1 + L.length by omega]
      exact this
    have h1 : NumOK (i + 1) acc := fun x hx => ⟨(h x hx).1, by have := (h x hx).2; omega⟩
    by_cases hw : wordsN l = []
    · rw [say_skip hw]; exact hm h1
    · cases hu : undN (wordsN l) with
      | none => rw [say_bad1 hw hu]; simp only [List.length_cons]; omega
      | some x =>
        by_cases ht : tw acc x = true
        · rw [say_bad2 hw hu ht]; simp only [List.length_cons]; omega
        · have ht2 : tw acc x = false := by simpa using ht
          rw [say_go hw hu ht2]
          refine hm fun y hy => ?_
          rcases List.mem_append.1 hy with h2 | h2
          · exact h1 y h2
          · rw [List.mem_singleton.1 h2]; simp only; omega
theorem bad_num {all : List (It × Nat)} {b k : Nat} : ∀ {l : List (It × Nat)}, NumOK b l → badN all l = some k → 1 ≤ k ∧ k ≤ b
  | [], _, h => by cases h
  | x :: l, hn, h => by
    rw [badN] at h
    split at h
    · obtain rfl := Option.some.inj h; exact hn x List.mem_cons_self
    · exact bad_num (fun y hy => hn y (List.mem_cons_of_mem _ hy)) h
theorem lay_law (xs ys : List Nat) (hx : xs.length ≤ 4000) (hy : ys.length ≤ 4000) : asmN (padN xs ++ [10] ++ ys) = ((asmN ys).1, (if 0 < (asmN ys).2.1 then (asmN ys).2.1 + cntN xs else 0), (asmN ys).2.2) ∧ (asmN ys).2.1 ≤ 4001 := by
  have hl := pad_len xs
  obtain ⟨P, h1, h2, h3⟩ := pad_lines xs ys
  have hn := say_num (linesT ys) 0 [] (fun x hx => by cases hx)
  have hc := lines_count [] ys
  have hs := say_sh (cntN xs) (linesT ys) 0 []
  have e0 : shA (cntN xs) [] = [] := rfl
  unfold asmN
  rw [if_neg (by simp only [List.length_append, List.length_cons, List.length_nil]; omega), if_neg (by omega), h1, say_skips P (linesT ys) 0 [] h3, h2]
  rw [e0] at hs
  rw [hs]
  rw [show spl10 [] ys = linesT ys from rfl] at hc
  cases hk : sayN (linesT ys) 0 [] with
  | inl k =>
    rw [hk] at hn
    simp only [shR]
    refine ⟨?_, by omega⟩
    rw [if_pos (by omega)]
  | inr a =>
    rw [hk] at hn
    simp only [shR, bad_sh, flat_sh]
    cases hb : badN a a with
    | some k =>
      have := bad_num hn hb
      simp only [Option.map_some]
      refine ⟨?_, by omega⟩
      rw [if_pos (by omega)]
    | none =>
      simp only [Option.map_none]
      split
      · exact ⟨rfl, Nat.zero_le _⟩
      · exact ⟨rfl, Nat.zero_le _⟩
theorem masm_l {zs : List Nat} (h : Byt zs) (w : World) (hM : MaxW w) : Ret Tryd.prog 5 [.string (bstr zs)] w [] (fun v q => AsmR zs v q) := by
  have := masm_calls (bstr zs) w hM; rwa [bys_bstr h] at this
def LayR (xs ys : List Nat) (v : Value) (q : Seg) : Prop := ∃ A d, v = .tuple #[.slice A (asmN ys).1.length d, .int .i64 ((if 0 < (asmN ys).2.1 then (asmN ys).2.1 + cntN xs else 0 : Nat) : Int), .int .i64 (asmN ys).2.2] ∧ OwnS q A (asmN ys).1.length d (byts (asmN ys).1) 5 1
theorem asm_lay {xs ys : List Nat} {v : Value} {q : Seg} (hx : xs.length ≤ 4000) (hy : ys.length ≤ 4000) (h : AsmR (padN xs ++ [10] ++ ys) v q) : LayR xs ys v q := by
  obtain ⟨A, d, hv, ho⟩ := h
  rw [(lay_law xs ys hx hy).1] at hv ho
  exact ⟨A, d, hv, ho⟩
theorem take_one (xs : List Nat) (i : Nat) (h : i < xs.length) : (xs.drop i).take 1 = [xs.getD i 0] := by rw [drop_cons 0 xs i h]; rfl
theorem byt_all {xs ys : List Nat} (hx : Byt xs) (hy : Byt ys) : Byt (padN xs ++ [10] ++ ys) := by
  intro b hb
  rcases List.mem_append.1 hb with h | h
  · rcases List.mem_append.1 h with h | h
    · exact pad_byt hx b h
    · rw [List.mem_singleton.1 h]; decide
  · exact hy b h
set_option maxHeartbeats 2000000 in
theorem layout_l (ys xs : List Nat) (w0 : World) (hMx : MaxW w0) (hBx : Byt xs) (hBy : Byt ys) : Ret Tryd.prog 3 [.string (bstr ys), .string (bstr xs)] w0 [] (fun v q => v = .bool true ∧ q = []) := by
 refine fn_start Tryd.func3 Y Tryd.ntmps3 Y [(0, .string (bstr ys)), (1, .string (bstr xs))] ⟨Y, Y, trivial⟩ ?_
 intro Q a hP J hR hN
 have G := St.start w0
 have hzx := size_bstr xs; have hzy := size_bstr ys
 refine wp_seq_k fun K1 hK1=> wp_region_lit <| av J Y Y fun a J=> s0 <| then_n (hK1 _ _ <| wp_seq_k fun K2 hK2=> wp_seq_k fun K3 hK3=> ?_)
 have hK3' : ∀ a w, (Fr 80 [(0, .string (bstr ys)), (1, .string (bstr xs)), (21, .bool (decide (4000 < ys.length ∨ 4000 < xs.length)))] a ∧ St w0 [] [] w) → K3 a w := by
  rintro a w ⟨J, G⟩
  refine hK3 _ _ ?_
  refine cD J Y (fun c0=> ?_) (fun c0=> ?_)
  ·refine wp_seq_k fun K4 hK4=> wp_region_lit <| so (wn Y) (O.call Y Y J ent4 (J.evs Y) G (alive_calls _) fun v s22 a w hR J G=> ?_)
   obtain ⟨rfl, rfl⟩ := hR
   refine av J Y Y fun a J=> s0 <| then_n (hK4 _ _ <| wp_ret (then_r (hR _ _ _ _ _ J (run_results Tryd.results3 (.t J Y (.nil))) ?_)))
   exact ⟨_, [], Y, ⟨Y, Y⟩, G.none⟩
  have hx4 : xs.length ≤ 4000 := by omega
  have hy4 : ys.length ≤ 4000 := by omega
  have hll := (lay_law xs ys hx4 hy4).2; have hpx := pad_len xs; have hcx := cnt_le xs
  refine wp_skip <| then_n (hK2 _ _ <| wp_seq_k fun K5 hK5=> wp_region_lit <| mv J Y Y fun a J=> so (wn Y) (O.call Y Y J ent5 (J.evs Y) G (masm_l hBy w (hMx.old G)) fun v s25 a w hR J G=> ?_))
  obtain ⟨A25, d25, rfl, hO25⟩ := hR
  refine mv J Y Y fun a J=> xv J Y Y Y fun a J=> xv J Y Y Y fun a J=> xv J Y Y Y fun a J=> av J Y Y fun a J=> av J Y Y fun a J=> av J Y Y fun a J=> s0 <| then_n (hK5 _ _ <| wp_seq_k fun K6 hK6=> wp_region_lit <| av J Y Y fun a J=> s0 <| then_n (hK6 _ _ <| wp_seq_k fun K7 hK7=> wp_region_lit <| av J Y Y fun a J=> s0 <| then_n (hK7 _ _ <| wp_seq_k fun K8 hK8=> wp_seq_k fun K9 hK9=> wp_region_lit <| av J Y Y fun a J=> s0 ?_)))
  refine then_n (hK9 _ _ <| wp_block <| wp_loop_N (fun g a w=> ∃ (i : Nat), xs.length - i = g ∧ Fr 80 [(0, .string (bstr ys)), (1, .string (bstr xs)), (5, .slice A25 (asmN ys).1.length d25), (6, .int .i64 (((asmN ys).2.1 : Nat) : Int)), (7, .int .i64 (asmN ys).2.2), (8, .string (bstr (padN (xs.take i)))), (9, .int .i64 ((cntN (xs.take i) : Nat) : Int)), (10, .int .i64 ((i : Nat) : Int))] a ∧ St w0 [] [s25] w ∧ (i ≤ xs.length)) (xs.length - 0) ?_ ?_)
  ·exact ⟨0, Y, J.sub ⟨Y, Y, Y, Y, Y, Y, Y, Y, trivial⟩, G.sel [0] Y Y, by omega⟩
  rintro KL1 g a w ⟨i, hg1, J, G, hi⟩ hKL1
  have hpl := pad_len (xs.take i); have hcl := cnt_le (xs.take i); rw [List.length_take] at hpl hcl
  refine wp_seq_k fun K10 hK10=> wp_seq_k fun K11 hK11=> wp_region_lit <| mv J Y Y fun a J=> mv J Y Y fun a J=> sw J Y Y Y (R.lenS Tryd.underlying9 (J.ev Y)) fun a J=> lS J Y Y Y fun a J=> s0 <| then_n (hK11 _ _ <| cD J Y (fun c1=> ?_) (fun c1=> ?_))
  ·have hsn := take_snoc 0 xs i (by omega); have hps := pad_snoc (xs.take i) (xs.getD i 0); have hcs := cnt_snoc (xs.take i) (xs.getD i 0); rw [← hsn] at hps hcs
   refine wp_skip <| then_n (hK10 _ _ <| wp_seq_k fun K12 hK12=> ?_)
   have hK12' : ∀ a w, (Fr 80 [(0, .string (bstr ys)), (1, .string (bstr xs)), (5, .slice A25 (asmN ys).1.length d25), (6, .int .i64 (((asmN ys).2.1 : Nat) : Int)), (7, .int .i64 (asmN ys).2.2), (8, .string (bstr (padN (xs.take (i + 1))))), (9, .int .i64 ((cntN (xs.take (i + 1)) : Nat) : Int)), (10, .int .i64 ((i : Nat) : Int))] a ∧ St w0 [] [s25] w) → K12 a w := by
    rintro a w ⟨J, G⟩
    refine hK12 _ _ ?_
    refine wp_region_lit <| mv J Y Y fun a J=> aI J Y Y Y (by omega) fun a J=> av J Y Y fun a J=> s0 <| then_n (hKL1 (xs.length - (i + 1)) _ _ ?_ ?_)
    ·omega
    exact ⟨i + 1, Y, J.sub ⟨Y, Y, Y, Y, Y, Y, Y, (congrArg (fun z => some (Value.int .i64 z)) (by omega)), trivial⟩, G.sel [0] Y Y, by omega⟩
   refine wp_block <| wp_seq_k fun K13 hK13=> wp_region_lit <| mv J Y Y fun a J=> mv J Y Y fun a J=> sw J Y Y Y (R.as (u := .int .u8 (((xs.getD i 0) : Nat) : Int)) (R.chr Tryd.underlying9 (J.ev Y) (J.ev Y) (by omega) (by omega)) (by rw [bys_bstr hBx]; rfl)) fun a J=> eL J Y Y Y fun a J=> s0 <| then_n (hK13 _ _ <| cD J Y (fun c2=> ?_) (fun c2=> ?_))
   ·refine wp_seq_k fun K14 hK14=> wp_region_lit <| mv J Y Y fun a J=> aI J Y Y Y (by omega) fun a J=> av J Y Y fun a J=> s0 <| then_n (hK14 _ _ <| wp_region_lit <| mv J Y Y fun a J=> sw J Y Y Y (R.catS (xs := padN (xs.take i)) (ys := [10, 32, 35]) (J.ev Y) (J.ev Y) (by simp only [List.length_cons, List.length_nil]; omega)) fun a J=> av J Y Y fun a J=> s0 <| blk_n ?_)
    exact then_n (hK12' _ _ ⟨J.sub ⟨Y, Y, Y, Y, Y, (by rw [hps, padF, if_pos (by omega)]; rfl), (congrArg (fun z => some (Value.int .i64 z)) (by rw [hcs, if_pos (by omega)]; omega)), Y, trivial⟩, G.sel [0] Y Y⟩)
   refine wp_region_lit <| mv J Y Y fun a J=> mv J Y Y fun a J=> mv J Y Y fun a J=> mv J Y Y fun a J=> aI J Y Y Y (by omega) fun a J=> sw J Y Y Y (R.as (u := .string (bstr [(xs.getD i 0)])) (R.strMid Tryd.underlying9 (J.ev Y) (J.ev Y) (J.ev Y) (by omega) (by omega) (by omega)) (congrArg (fun z=> Value.string (bstr z)) (by rw [bys_bstr hBx, show ((i : Int) + 1).toNat - (i : Int).toNat = 1 by omega, Int.toNat_natCast]; exact take_one xs i (by omega)))) fun a J=> sw J Y Y Y (R.catS (xs := padN (xs.take i)) (ys := [(xs.getD i 0)]) (J.ev Y) (J.ev Y) (by simp only [List.length_cons, List.length_nil]; omega)) fun a J=> av J Y Y fun a J=> s0 <| blk_n ?_
   exact then_n (hK12' _ _ ⟨J.sub ⟨Y, Y, Y, Y, Y, (by rw [hps, padF, if_neg (by omega)]; rfl), (congrArg (fun z => some (Value.int .i64 z)) (by rw [hcs, if_neg (by omega)]; omega)), Y, trivial⟩, G.sel [0] Y Y⟩)
  obtain rfl : i = xs.length := by omega
  rw [List.take_length] at J
  refine wp_exit (then_x (then_x (blk_hit <| then_n (hK8 _ _ <| wp_seq_k fun K15 hK15=> wp_region_lit <| mv J Y Y fun a J=> sw J Y Y Y (R.catS (xs := padN xs) (ys := [10]) (J.ev Y) (J.ev Y) (by simp only [List.length_cons, List.length_nil]; omega)) fun a J=> mv J Y Y fun a J=> sw J Y Y Y (R.catS (xs := padN xs ++ [10]) (ys := ys) (J.ev Y) (J.ev Y) (by simp only [List.length_append, List.length_cons, List.length_nil]; omega)) fun a J=> so (wn Y) (O.call Y Y J ent5 (J.evs Y) G ((masm_l (byt_all hBx hBy) w (hMx.old G)).mono fun _ _ h=> asm_lay hx4 hy4 h) fun v s55 a w hR J G=> ?_)))))
  obtain ⟨A55, d55, rfl, hO55⟩ := hR
  refine mv J Y Y fun a J=> xv J Y Y Y fun a J=> xv J Y Y Y fun a J=> xv J Y Y Y fun a J=> av J Y Y fun a J=> av J Y Y fun a J=> av J Y Y fun a J=> s0 <| then_n (hK15 _ _ <| wp_seq_k fun K16 hK16=> wp_seq_k fun K17 hK17=> wp_region_lit <| mv J Y Y fun a J=> mv J Y Y fun a J=> sw J Y Y Y (R.as (u := .bool false) (R.neq (J.ev Y) (J.ev Y)) (congrArg Value.bool (decide_eq_false (fun h=> h Y)))) fun a J=> mv J Y Y fun a J=> my J Y Y Y Y fun a J=> my J Y Y Y Y fun a J=> so (wy J Y Y Y) (O.call Y Y J ent6 (J.evs Y) G (sameBytes_eq A25 A55 (asmN ys).1.length d25 d55 (asmN ys).1 w (hO25.rd G (.t .h)) (hO55.rd G .h) Y) fun v s65 a w hR J G=> ?_))
  obtain ⟨rfl, rfl⟩ := hR
  refine sv' J (wy J Y Y Y) Y Y (R.as (u := .bool false) (R.not (J.ev Y)) (Y)) fun a J=> pF J Y Y Y fun a J=> s0 <| then_n (hK17 _ _ <| cF J Y <| wp_skip <| then_n (hK16 _ _ <| wp_seq_k fun K18 hK18=> wp_seq_k fun K19 hK19=> wp_region_lit <| mv J Y Y fun a J=> sw J Y Y Y (R.gtr (J.ev Y) (J.ev Y)) fun a J=> s0 <| then_n (hK19 _ _ <| cD J Y (fun c3=> ?_) (fun c3=> ?_))))
  ·rw [if_pos (by omega)] at J
   refine wp_seq_k fun K20 hK20=> wp_region_lit <| mv J Y Y fun a J=> mv J Y Y fun a J=> mv J Y Y fun a J=> aI J Y Y Y (by omega) fun a J=> sw J Y Y Y (R.as (u := .bool true) (R.eql (J.ev Y) (J.ev Y)) (congrArg Value.bool (decide_eq_true (by omega)))) fun a J=> av J Y Y fun a J=> s0 <| then_n (hK20 _ _ <| wp_ret (then_r (hR _ _ _ _ _ J (run_results Tryd.results3 (.t J Y (.nil))) ?_)))
   exact ⟨_, [], Y, ⟨Y, Y⟩, G.none⟩
  rw [if_neg (by omega)] at J
  refine wp_skip <| then_n (hK18 _ _ <| wp_seq_k fun K21 hK21=> wp_region_lit <| mv J Y Y fun a J=> sw J Y Y Y (R.as (u := .bool true) (R.eql (J.ev Y) (J.ev Y)) (congrArg Value.bool (decide_eq_true (by omega)))) fun a J=> mv J Y Y fun a J=> so (wy J Y Y Y) (O.call Y Y J ent4 (J.evs Y) G (alive_calls _) fun v s78 a w hR J G=> ?_))
  obtain ⟨rfl, rfl⟩ := hR
  refine pT J Y Y Y fun a J=> av J Y Y fun a J=> s0 <| then_n (hK21 _ _ <| wp_ret (hR _ _ _ _ _ J (run_results Tryd.results3 (.t J Y (.nil))) ?_))
  exact ⟨_, [], Y, ⟨Y, Y⟩, G.none⟩
 refine wp_region_lit <| mv J Y Y fun a J=> sw J Y Y Y (R.lenS Tryd.underlying9 (J.ev Y)) fun a J=> sw J Y Y Y (R.gtr (J.ev Y) (J.ev Y)) fun a J=> mv J Y Y fun a J=> J.splitD (t := 17) Y (fun h17 J=> ?_) (fun h17 J=> ?_)
 ·refine kz J Y Y Y Y Y Y fun a J=> kz J Y Y Y Y Y Y fun a J=> kz J Y Y Y Y Y Y fun a J=> pT J Y Y Y fun a J=> s0 ?_
  exact then_n (hK3' _ _ ⟨J.sub ⟨Y, Y, (congrArg (fun z => some (Value.bool z)) (by first | exact (decide_eq_true (by omega)).symm | exact (decide_eq_false (by omega)).symm | exact decide_eq_decide.2 (by omega))), trivial⟩, G.sel [] Y Y⟩)
 refine my J Y Y Y Y fun a J=> sv' J (wy J Y Y Y) Y Y (R.lenS Tryd.underlying9 (J.ev Y)) fun a J=> sv' J (wy J Y Y Y) Y Y (R.gtr (J.ev Y) (J.ev Y)) fun a J=> pF J Y Y Y fun a J=> s0 ?_
 exact then_n (hK3' _ _ ⟨J.sub ⟨Y, Y, (congrArg (fun z => some (Value.bool z)) (by first | exact (decide_eq_true (by omega)).symm | exact (decide_eq_false (by omega)).symm | exact decide_eq_decide.2 (by omega))), trivial⟩, G.sel [] Y Y⟩)
theorem machineLayout_calls (s r : ByteArray) (w0 : World) (hMx : MaxW w0) : Ret Tryd.prog 3 [.string s, .string r] w0 [] (fun v q => v = .bool true ∧ q = []) := by
  have := layout_l (bys s) (bys r) w0 hMx (byt_bys r) (byt_bys s)
  rwa [bstr_bys, bstr_bys] at this
end Go.Proofs.YtlapmbkfmbkdoaaDoor
end
