/- Part 7 of what the row MachineKeeps needs, with no condition beyond each lemma's own. -/
import Derived.Test.YtlapmbkfmbkdoaaGreatDoorSb6
section
namespace Go.Proofs.YtlapmbkfmbkdoaaGreatDoor
open Go Go.Fw Go.RowKit
attribute [local irreducible] Go.Oper.wp Go.Code.wp Go.wpList Go.Fw.WL Go.Calls
theorem goes_dec (A : Option Addr) (n c : Nat) (xs : List Nat) (B : Option Addr) (d : Nat) (l : List Nat) (p : Nat) (w0 : World) (hA : Rd w0 A (byts xs)) (hn : xs.length = n) (hnc : n ≤ c) (hc : c ≤ 9223372036854775807) (hB : Byt xs) (hn2 : n ≤ 1024) (hL : Rd w0 B (ints l)) (hld : l.length ≤ 1000000) (hpl : ∀ q ∈ l, q < xs.length ∧ sizeN xs q ≠ 0) : Ret Tryz.prog 25 [.slice A n c, .slice B l.length d, .int .i64 ((p : Nat) : Int)] w0 [] (fun v s => v = .bool (decide (goN xs l p = true)) ∧ s = []) := by
  have := goes_calls A n c xs B d l p w0 hA hn hnc hc hB hn2 hL hld hpl
  rwa [show goN xs l p = decide (goN xs l p = true) by simp] at this
theorem lab_T {xs l : List Nat} {p : Nat} (h : goN xs l p = true) : labN xs l p = 76 :: (decS p ++ [58, 10]) := if_pos h
theorem lab_F {xs l : List Nat} {p : Nat} (h : ¬ goN xs l p = true) : labN xs l p = [] := if_neg h
theorem op_2 {xs : List Nat} {p : Nat} (h : cAt xs p = 2) : operL xs p = 32 :: decS (numB ((xs.drop (p + 2)).take (sizeN xs p - 2))) := if_pos h
theorem op_4 {xs : List Nat} {p : Nat} (h : cAt xs p = 4 ∨ cAt xs p = 5 ∨ cAt xs p = 16) : operL xs p = 32 :: decS (cAt xs (p + 1)) := by unfold operL; rw [if_neg (by omega), if_pos h]
theorem op_j {xs : List Nat} {p : Nat} (h : cAt xs p = 14 ∨ cAt xs p = 15) : operL xs p = 32 :: 76 :: decS (targetN xs p) := by unfold operL; rw [if_neg (by omega), if_neg (by omega), if_pos h]
theorem op_n {xs : List Nat} {p : Nat} (h : ¬ (cAt xs p = 2 ∨ (cAt xs p = 4 ∨ cAt xs p = 5 ∨ cAt xs p = 16) ∨ (cAt xs p = 14 ∨ cAt xs p = 15))) : operL xs p = [] := by unfold operL; rw [if_neg (by omega), if_neg (by omega), if_neg (by omega)]
theorem line_next {xs l o : List Nat} {i : Nat} (h : o = linesN xs l (l.take i)) (hi : i < l.length) : o ++ labN xs l (l.getD i 0) ++ nameN (cAt xs (l.getD i 0)) ++ operL xs (l.getD i 0) ++ [10] = linesN xs l (l.take (i + 1)) := by
  have hg : l.getD i 0 = l[i] := by rw [List.getD_eq_getElem?_getD, List.getElem?_eq_getElem hi]; rfl
  rw [take_snoc l i hi, lines_snoc, ← h, ← hg]
  unfold lineN
  simp only [List.append_assoc]
theorem text_of {xs l : List Nat} (h : placesN xs = some l) : textN xs = linesN xs l l := by unfold textN; rw [h]
theorem take_byte {xs : List Nat} {q j : Nat} (h : q + 2 + j < xs.length) : ints ((xs.drop (q + 2)).take j) ++ [.int .i64 ((cAt xs (q + 2 + j) : Nat) : Int)] = ints ((xs.drop (q + 2)).take (j + 1)) := by
  have hd : j < (xs.drop (q + 2)).length := by rw [List.length_drop]; omega
  rw [take_snoc (xs.drop (q + 2)) j hd]
  have e : (xs.drop (q + 2))[j] = cAt xs (q + 2 + j) := by
    rw [List.getElem_drop]
    unfold cAt
    rw [List.getD_eq_getElem?_getD, List.getElem?_eq_getElem h]; rfl
  rw [e]
  simp [ints]
theorem own_byteK {s : Seg} {A : Option Addr} {c q j : Nat} {xs : List Nat} (h : q + 2 + j < xs.length) (hO : OwnS s A (j + 1) c (ints ((xs.drop (q + 2)).take j) ++ [.int .i64 ((cAt xs (q + 2 + j) : Nat) : Int)]) 3 1) : OwnS s A (j + 1) c (ints ((xs.drop (q + 2)).take (j + 1))) 3 1 := by rwa [take_byte h] at hO
theorem len_oper {xs : List Nat} {p : Nat} (hB : Byt xs) (_hp : p < xs.length) (hs : sizeN xs p ≠ 0) : (operL xs p).length ≤ 80 := by
  have h1 := cAt_lt hB (p + 1)
  have h2 := cAt_lt hB (p + 2)
  unfold operL
  split
  · rename_i h
    have hsp := sz_push hs h
    have := len_decS (n := numB ((xs.drop (p + 2)).take (sizeN xs p - 2))) (numB_lt32 (by rw [List.length_take]; omega) (fun d hd => hB d (List.drop_subset _ _ (List.take_subset _ _ hd))))
    rw [List.length_cons]; omega
  split
  · have := len_decS (n := cAt xs (p + 1)) (by omega)
    rw [List.length_cons]; omega
  split
  · have := len_decS (n := targetN xs p) (by unfold targetN; omega)
    rw [List.length_cons, List.length_cons]; omega
  · exact Nat.zero_le _
set_option maxHeartbeats 4000000 in
theorem rtext_good (A : Option Addr) (n c : Nat) (xs l : List Nat) (w0 : World) (hA : Rd w0 A (byts xs)) (hn : xs.length = n) (hnc : n ≤ c) (hc : c ≤ 9223372036854775807) (hB : Byt xs) (hck : chkN xs = true) (hl : placesN xs = some l) (hn2 : n ≤ 1024) (hpl : ∀ q ∈ l, q < xs.length ∧ sizeN xs q ≠ 0) (hll : l.length ≤ 1024) : Ret Tryz.prog 8 [.slice A n c] w0 [] (fun v s => v = .tuple #[.string (bstr (textN xs)), .int .i64 0] ∧ s = []) := by
 refine fn_start Tryz.func8 Y Tryz.ntmps8 Y [(0, .slice A n c)] ⟨Y, trivial⟩ ?_
 intro Q a hP J hR hN
 have G := St.start w0
 refine wp_seq_k fun K1 hK1=> wp_region_lit <| av J Y Y fun a J=> av J Y Y fun a J=> s0 <| then_n (hK1 _ _ <| wp_seq_k fun K2 hK2=> wp_seq_k fun K3 hK3=> wp_region_lit <| mv J Y Y fun a J=> so (wn Y) (O.call Y Y J ent15 (J.evs Y) G (rcheck_calls A n c xs _ (hA.old G) hn hnc hc hB) fun v s13 a w hR J G=> ?_))
 obtain ⟨rfl, rfl⟩ := hR
 rw [show chkV xs = .int .i64 0 from by rw [chkV, hck]; rfl] at J
 refine sw J Y Y Y (R.as (u := .bool false) (R.neq (p := 0) (q := 0) (J.ev Y) (J.ev Y)) (Y)) fun a J=> s0 <| then_n (hK3 _ _ <| cF J Y <| wp_skip <| then_n (hK2 _ _ <| wp_seq_k fun K4 hK4=> wp_region_lit <| mv J Y Y fun a J=> so (wn Y) (O.call Y Y J ent24 (J.evs Y) G (places_some A n c xs l w (hA.old G) hn hnc hc hB (by omega) hl) fun v s17 a w hR J G=> ?_)))
 obtain ⟨A17, c17, rfl, hO17⟩ := hR
 refine mv J Y Y fun a J=> xv J Y Y Y fun a J=> xv J Y Y Y fun a J=> av J Y Y fun a J=> av J Y Y fun a J=> s0 <| then_n (hK4 _ _ <| wp_seq_k fun K5 hK5=> wp_region_lit <| av J Y Y fun a J=> s0 <| then_n (hK5 _ _ <| wp_seq_k fun K6 hK6=> wp_seq_k fun K7 hK7=> wp_region_lit <| av J Y Y fun a J=> s0 <| then_n (hK7 _ _ <| wp_block <| wp_loop_N (fun g a w=> ∃ (i : Nat) (o : List Nat), l.length - i = g ∧ Fr 106 [(0, .slice A n c), (4, .slice A17 l.length c17), (7, .int .i64 ((i : Nat) : Int)), (6, .string (bstr (o)))] a ∧ St w0 [] [s17] w ∧ (i ≤ l.length) ∧ (o = linesN xs l (l.take i)) ∧ (o.length ≤ 400 * i)) (l.length - 0) ?_ ?_)))
 ·exact ⟨0, [], Y, J.sub ⟨Y, Y, Y, Y, trivial⟩, G.sel [0] Y Y, by omega, Y, by decide⟩
 rintro KL1 g a w ⟨i, o, hg1, J, G, hi, ho, hol⟩ hKL1
 refine wp_seq_k fun K8 hK8=> wp_seq_k fun K9 hK9=> wp_region_lit <| mv J Y Y fun a J=> mv J Y Y fun a J=> sw J Y Y Y (R.len Tryz.underlying61 (J.ev Y)) fun a J=> lS J Y Y Y fun a J=> s0 <| then_n (hK9 _ _ <| cD J Y (fun c2=> ?_) (fun c2=> ?_))
 ·have hqm := hpl (l.getD i 0) (getD_mem (by omega)); obtain ⟨hql, hqs⟩ := hqm; have hcb := cAt_lt hB (l.getD i 0); have hcb1 := cAt_lt hB ((l.getD i 0) + 1); have hsl := (sizeN_le xs (l.getD i 0)).resolve_left hqs; have hdq := len_decS (n := (l.getD i 0)) (by omega)
  refine wp_skip <| then_n (hK8 _ _ <| wp_seq_k fun K10 hK10=> wp_block <| wp_seq_k fun K11 hK11=> wp_region_lit <| mv J Y Y fun a J=> mv J Y Y fun a J=> sw J Y Y Y (R.indexO Tryz.underlying61 sz3 (J.ev Y) ((hO17.rd G .h).ne (by rw [length_ints]; omega)) (J.ev Y) (by omega) (by omega)) fun a J=> sw J Y Y Y (R.loadO one3 (J.ev Y) (hO17.rd G .h) (intsO (i := i) (by omega) (by omega))) fun a J=> av J Y Y fun a J=> s0 <| then_n (hK11 _ _ <| wp_seq_k fun K12 hK12=> ?_))
  have hK12' : ∀ a w, (Fr 106 [(0, .slice A n c), (4, .slice A17 l.length c17), (7, .int .i64 ((i : Nat) : Int)), (6, .string (bstr ((o ++ labN xs l (l.getD i 0))))), (8, .int .i64 (((l.getD i 0) : Nat) : Int))] a ∧ St w0 [] [s17] w) → K12 a w := by
   rintro a w ⟨J, G⟩
   refine hK12 _ _ ?_
   have hlb : (labN xs l (l.getD i 0)).length ≤ 81 := by (unfold labN; split; simp only [List.length_append, List.length_cons, List.length_nil]; omega; exact Nat.zero_le _)
   have hnm := len_name (cAt xs (l.getD i 0))
   refine wp_seq_k fun K13 hK13=> wp_region_lit <| mv J Y Y fun a J=> mv J Y Y fun a J=> sw J Y Y Y (R.indexO Tryz.underlying22 sz5 (J.ev Y) (Rd.ne hA (by rw [length_byts]; omega)) (J.ev Y) (by omega) (by omega)) fun a J=> sw J Y Y Y (R.loadO one5 (J.ev Y) (hA.old G) (cb_at (i := (l.getD i 0)) (by omega) (by omega))) fun a J=> sw J Y Y Y (R.convI Tryz.underlying5 Tryz.underlying3 (J.ev Y) (by omega)) fun a J=> av J Y Y fun a J=> s0 <| then_n (hK13 _ _ <| wp_seq_k fun K14 hK14=> wp_region_lit <| mv J Y Y fun a J=> mv J Y Y fun a J=> so (wn Y) (O.call Y Y J ent27 (J.evs Y) G (name_calls (cAt xs (l.getD i 0)) w (size_28 hqs)) fun v s47 a w hR J G=> ?_))
   obtain ⟨rfl, rfl⟩ := hR
   refine sw J Y Y Y (R.catS (xs := (o ++ labN xs l (l.getD i 0))) (ys := nameN (cAt xs (l.getD i 0))) (J.ev Y) (J.ev Y) (by simp only [List.length_append, List.length_cons, List.length_nil]; omega)) fun a J=> av J Y Y fun a J=> s0 <| then_n (hK14 _ _ <| wp_seq_k fun K15 hK15=> ?_)
   have hK15' : ∀ a w, (Fr 106 [(0, .slice A n c), (4, .slice A17 l.length c17), (7, .int .i64 ((i : Nat) : Int)), (6, .string (bstr ((o ++ labN xs l (l.getD i 0) ++ nameN (cAt xs (l.getD i 0)) ++ operL xs (l.getD i 0)))))] a ∧ St w0 [] [s17] w) → K15 a w := by
    rintro a w ⟨J, G⟩
    refine hK15 _ _ ?_
    have hop : (operL xs (l.getD i 0)).length ≤ 80 := len_oper hB hql hqs
    refine wp_region_lit <| mv J Y Y fun a J=> sw J Y Y Y (R.catS (xs := (o ++ labN xs l (l.getD i 0) ++ nameN (cAt xs (l.getD i 0)) ++ operL xs (l.getD i 0))) (ys := [10]) (J.ev Y) (J.ev Y) (by simp only [List.length_append, List.length_cons, List.length_nil]; omega)) fun a J=> av J Y Y fun a J=> s0 <| blk_n <| then_n (hK10 _ _ <| wp_region_lit <| mv J Y Y fun a J=> aI J Y Y Y (by omega) fun a J=> av J Y Y fun a J=> s0 <| then_n (hKL1 (l.length - (i + 1)) _ _ ?_ ?_))
    ·omega
    exact ⟨i + 1, _, Y, J.sub ⟨Y, Y, (congrArg (fun z => some (Value.int .i64 z)) (by omega)), Y, trivial⟩, G.sel [0] Y Y, by omega, line_next ho (by omega), (by simp only [List.length_append, List.length_cons, List.length_nil]; omega)⟩
   refine wp_seq_k fun K16 hK16=> wp_region_lit <| mv J Y Y fun a J=> s0 <| then_n (hK16 _ _ <| wp_block <| wp_seq_k fun K17 hK17=> wp_region_lit <| eL J Y Y Y fun a J=> av J Y Y fun a J=> s0 <| then_n (hK17 _ _ <| cD J Y (fun c4=> ?_) (fun c4=> ?_)))
   ·have hsp := sz_push hqs (by omega)
    refine wp_seq_k fun K18 hK18=> wp_region_lit <| av J Y Y fun a J=> s0 <| then_n (hK18 _ _ <| wp_seq_k fun K19 hK19=> wp_seq_k fun K20 hK20=> wp_region_lit <| av J Y Y fun a J=> s0 <| then_n (hK20 _ _ <| wp_block ?_))
    have G := G.cons0
    refine wp_loop_N (fun g a w=> ∃ (j : Nat) (A1 : Option Addr) (c1 : Nat) (z : Seg), cAt xs ((l.getD i 0) + 1) - j = g ∧ Fr 106 [(0, .slice A n c), (4, .slice A17 l.length c17), (7, .int .i64 ((i : Nat) : Int)), (6, .string (bstr ((o ++ labN xs l (l.getD i 0) ++ nameN (cAt xs (l.getD i 0)))))), (8, .int .i64 (((l.getD i 0) : Nat) : Int)), (10, .slice A1 j c1), (11, .int .i64 ((j : Nat) : Int))] a ∧ St w0 [] [z, s17] w ∧ (j ≤ cAt xs ((l.getD i 0) + 1)) ∧ (OwnS z A1 j c1 (ints ((xs.drop ((l.getD i 0) + 2)).take j)) 3 1)) (cAt xs ((l.getD i 0) + 1) - 0) ?_ ?_
    ·exact ⟨0, none, 0, [], Y, J.sub ⟨Y, Y, Y, Y, Y, Y, Y, trivial⟩, G.sel [0, 2] Y Y, Nat.zero_le _, OwnS.nil 3 1⟩
    rintro KL2 g a w ⟨j, A1, c1, z, hg2, J, G, hj, hO⟩ hKL2
    have hcj := cAt_lt hB ((l.getD i 0) + 2 + j)
    refine wp_seq_k fun K21 hK21=> wp_seq_k fun K22 hK22=> wp_region_lit <| mv J Y Y fun a J=> mv J Y Y fun a J=> mv J Y Y fun a J=> aI J Y Y Y (by omega) fun a J=> sw J Y Y Y (R.indexO Tryz.underlying22 sz5 (J.ev Y) (Rd.ne hA (by rw [length_byts]; omega)) (J.ev Y) (by omega) (by omega)) fun a J=> sw J Y Y Y (R.loadO one5 (J.ev Y) (hA.old G) (cb_at (i := (l.getD i 0) + 1) (by omega) (by omega))) fun a J=> sw J Y Y Y (R.convI Tryz.underlying5 Tryz.underlying3 (J.ev Y) (by omega)) fun a J=> lS J Y Y Y fun a J=> s0 <| then_n (hK22 _ _ <| cD J Y (fun c5=> ?_) (fun c5=> ?_))
    ·refine wp_skip <| then_n (hK21 _ _ <| wp_seq_k fun K23 hK23=> wp_block <| wp_region_lit <| mv J Y Y fun a J=> mv J Y Y fun a J=> mv J Y Y fun a J=> aI J Y Y Y (by omega) fun a J=> mv J Y Y fun a J=> aI J Y Y Y (by omega) fun a J=> sw J Y Y Y (R.indexO Tryz.underlying22 sz5 (J.ev Y) (Rd.ne hA (by rw [length_byts]; omega)) (J.ev Y) (by omega) (by omega)) fun a J=> sw J Y Y Y (R.loadO one5 (J.ev Y) (hA.old G) (cb_at (i := (l.getD i 0) + 2 + j) (by omega) (by omega))) fun a J=> sw J Y Y Y (R.convI Tryz.underlying5 Tryz.underlying3 (J.ev Y) (by omega)) fun a J=> so (wn Y) (O.buildSlice (l := [_]) Y Y J Tryz.underlying61 inf3 Y Y (J.evp Y) (by decide) Y G fun b71 a w J G=> ?_))
     refine so (wn Y) (O.append Y Y J Tryz.underlying61 inf3 Y Y (by decide) (J.ev Y) (J.ev Y) G hO (fun _=> (.t .h)) (Rd.own0 G .h) (Y) (by simp [Value.oneCell']) (by unfold maxLen; omega) (by omega) fun A72 c72 s72 a w hO72 J G=> ?_)
     refine av J Y Y fun a J=> s0 <| blk_n <| then_n (hK23 _ _ <| wp_region_lit <| mv J Y Y fun a J=> aI J Y Y Y (by omega) fun a J=> av J Y Y fun a J=> s0 <| then_n (hKL2 (cAt xs ((l.getD i 0) + 1) - (j + 1)) _ _ ?_ ?_))
     ·omega
     exact ⟨j + 1, A72, c72, s72, Y, J.sub ⟨Y, Y, Y, Y, Y, Y, (congrArg (fun z => some (Value.int .i64 z)) (by omega)), trivial⟩, G.sel [1, 2] Y Y, by omega, own_byteK (by omega) hO72⟩
    have hjj : j = cAt xs ((l.getD i 0) + 1) := by omega
    have hnb : numB ((xs.drop ((l.getD i 0) + 2)).take j) < 115792089237316195423570985008687907853269984665640564039457584007913129639936 := numB_lt32 (by rw [List.length_take]; omega) (fun d hd => hB d (List.drop_subset _ _ (List.take_subset _ _ hd)))
    have hdn := len_decS hnb
    refine wp_exit (then_x (then_x (blk_hit <| then_n (hK19 _ _ <| wp_region_lit <| mv J Y Y fun a J=> mv J Y Y fun a J=> so (wn Y) (O.call Y Y J ent29 (J.evs Y) G (number_n A1 j c1 ((xs.drop ((l.getD i 0) + 2)).take j) w (hO.rd G .h) (fun d hd=> hB d (List.drop_subset _ _ (List.take_subset _ _ hd))) (by omega) (by rw [List.length_take, List.length_drop]; omega)) fun v s75 a w hR J G=> ?_)))))
    obtain ⟨rfl, rfl⟩ := hR
    refine so (wn Y) (O.call Y Y J ent28 (J.evs Y) G (decimals_calls (numB ((xs.drop ((l.getD i 0) + 2)).take j)) w hnb) fun v s76 a w hR J G=> ?_)
    obtain ⟨rfl, rfl⟩ := hR
    refine sw J Y Y Y (R.catS (xs := [32]) (ys := (decS (numB ((xs.drop ((l.getD i 0) + 2)).take j)))) (J.ev Y) (J.ev Y) (by simp only [List.length_append, List.length_cons, List.length_nil]; omega)) fun a J=> sw J Y Y Y (R.catS (xs := (o ++ labN xs l (l.getD i 0) ++ nameN (cAt xs (l.getD i 0)))) (ys := ([32] ++ (decS (numB ((xs.drop ((l.getD i 0) + 2)).take j))))) (J.ev Y) (J.ev Y) (by simp only [List.length_append, List.length_cons, List.length_nil]; omega)) fun a J=> av J Y Y fun a J=> s0 <| blk_n ?_
    exact then_n (hK15' _ _ ⟨J.sub ⟨Y, Y, Y, (congrArg (fun z => some (Value.string (bstr z))) (by rw [op_2 (by omega), show sizeN xs (l.getD i 0) - 2 = j by omega]; simp)), trivial⟩, G.sel [3] Y Y⟩)
   refine wp_seq_k fun K24 hK24=> wp_seq_k fun K25 hK25=> wp_region_lit <| eL J Y Y Y fun a J=> av J Y Y fun a J=> s0 <| then_n (hK25 _ _ <| cD J Y (fun c6=> ?_) (fun c6=> ?_))
   ·have J := J.nowT (t := 79) rfl c6
    have hsp := sz_two hqs (by omega)
    have hdo := len_decS (n := cAt xs ((l.getD i 0) + 1)) (by omega)
    refine wp_skip <| then_n (hK24 _ _ <| cT J Y <| wp_region_lit <| mv J Y Y fun a J=> mv J Y Y fun a J=> mv J Y Y fun a J=> aI J Y Y Y (by omega) fun a J=> sw J Y Y Y (R.indexO Tryz.underlying22 sz5 (J.ev Y) (Rd.ne hA (by rw [length_byts]; omega)) (J.ev Y) (by omega) (by omega)) fun a J=> sw J Y Y Y (R.loadO one5 (J.ev Y) (hA.old G) (cb_at (i := (l.getD i 0) + 1) (by omega) (by omega))) fun a J=> sw J Y Y Y (R.convI Tryz.underlying5 Tryz.underlying3 (J.ev Y) (by omega)) fun a J=> so (wn Y) (O.call Y Y J ent26 (J.evs Y) G (plain_calls (cAt xs ((l.getD i 0) + 1)) w (by omega)) fun v s90 a w hR J G=> ?_))
    obtain ⟨rfl, rfl⟩ := hR
    refine sw J Y Y Y (R.catS (xs := [32]) (ys := (decS (cAt xs ((l.getD i 0) + 1)))) (J.ev Y) (J.ev Y) (by simp only [List.length_append, List.length_cons, List.length_nil]; omega)) fun a J=> sw J Y Y Y (R.catS (xs := (o ++ labN xs l (l.getD i 0) ++ nameN (cAt xs (l.getD i 0)))) (ys := ([32] ++ (decS (cAt xs ((l.getD i 0) + 1))))) (J.ev Y) (J.ev Y) (by simp only [List.length_append, List.length_cons, List.length_nil]; omega)) fun a J=> av J Y Y fun a J=> s0 <| blk_n ?_
    exact then_n (hK15' _ _ ⟨J.sub ⟨Y, Y, Y, (congrArg (fun z => some (Value.string (bstr z))) (by rw [op_4 (by omega)]; simp)), trivial⟩, G.sel [2] Y Y⟩)
   have J := J.nowF (t := 79) rfl c6
   refine wp_seq_k fun K26 hK26=> wp_region_lit <| eL J Y Y Y fun a J=> av J Y Y fun a J=> s0 <| then_n (hK26 _ _ <| cD J Y (fun c6=> ?_) (fun c6=> ?_))
   ·have J := J.nowT (t := 79) rfl c6
    have hsp := sz_two hqs (by omega)
    have hdo := len_decS (n := cAt xs ((l.getD i 0) + 1)) (by omega)
    refine wp_skip <| then_n (hK24 _ _ <| cT J Y <| wp_region_lit <| mv J Y Y fun a J=> mv J Y Y fun a J=> mv J Y Y fun a J=> aI J Y Y Y (by omega) fun a J=> sw J Y Y Y (R.indexO Tryz.underlying22 sz5 (J.ev Y) (Rd.ne hA (by rw [length_byts]; omega)) (J.ev Y) (by omega) (by omega)) fun a J=> sw J Y Y Y (R.loadO one5 (J.ev Y) (hA.old G) (cb_at (i := (l.getD i 0) + 1) (by omega) (by omega))) fun a J=> sw J Y Y Y (R.convI Tryz.underlying5 Tryz.underlying3 (J.ev Y) (by omega)) fun a J=> so (wn Y) (O.call Y Y J ent26 (J.evs Y) G (plain_calls (cAt xs ((l.getD i 0) + 1)) w (by omega)) fun v s90 a w hR J G=> ?_))
    obtain ⟨rfl, rfl⟩ := hR
    refine sw J Y Y Y (R.catS (xs := [32]) (ys := (decS (cAt xs ((l.getD i 0) + 1)))) (J.ev Y) (J.ev Y) (by simp only [List.length_append, List.length_cons, List.length_nil]; omega)) fun a J=> sw J Y Y Y (R.catS (xs := (o ++ labN xs l (l.getD i 0) ++ nameN (cAt xs (l.getD i 0)))) (ys := ([32] ++ (decS (cAt xs ((l.getD i 0) + 1))))) (J.ev Y) (J.ev Y) (by simp only [List.length_append, List.length_cons, List.length_nil]; omega)) fun a J=> av J Y Y fun a J=> s0 <| blk_n ?_
    exact then_n (hK15' _ _ ⟨J.sub ⟨Y, Y, Y, (congrArg (fun z => some (Value.string (bstr z))) (by rw [op_4 (by omega)]; simp)), trivial⟩, G.sel [2] Y Y⟩)
   have J := J.nowF (t := 79) rfl c6
   refine wp_region_lit <| eL J Y Y Y fun a J=> av J Y Y fun a J=> s0 <| then_n (hK24 _ _ <| cD J Y (fun c6=> ?_) (fun c6=> ?_))
   ·have J := J.nowT (t := 79) rfl c6
    have hsp := sz_two hqs (by omega)
    have hdo := len_decS (n := cAt xs ((l.getD i 0) + 1)) (by omega)
    refine wp_region_lit <| mv J Y Y fun a J=> mv J Y Y fun a J=> mv J Y Y fun a J=> aI J Y Y Y (by omega) fun a J=> sw J Y Y Y (R.indexO Tryz.underlying22 sz5 (J.ev Y) (Rd.ne hA (by rw [length_byts]; omega)) (J.ev Y) (by omega) (by omega)) fun a J=> sw J Y Y Y (R.loadO one5 (J.ev Y) (hA.old G) (cb_at (i := (l.getD i 0) + 1) (by omega) (by omega))) fun a J=> sw J Y Y Y (R.convI Tryz.underlying5 Tryz.underlying3 (J.ev Y) (by omega)) fun a J=> so (wn Y) (O.call Y Y J ent26 (J.evs Y) G (plain_calls (cAt xs ((l.getD i 0) + 1)) w (by omega)) fun v s90 a w hR J G=> ?_)
    obtain ⟨rfl, rfl⟩ := hR
    refine sw J Y Y Y (R.catS (xs := [32]) (ys := (decS (cAt xs ((l.getD i 0) + 1)))) (J.ev Y) (J.ev Y) (by simp only [List.length_append, List.length_cons, List.length_nil]; omega)) fun a J=> sw J Y Y Y (R.catS (xs := (o ++ labN xs l (l.getD i 0) ++ nameN (cAt xs (l.getD i 0)))) (ys := ([32] ++ (decS (cAt xs ((l.getD i 0) + 1))))) (J.ev Y) (J.ev Y) (by simp only [List.length_append, List.length_cons, List.length_nil]; omega)) fun a J=> av J Y Y fun a J=> s0 <| blk_n ?_
    exact then_n (hK15' _ _ ⟨J.sub ⟨Y, Y, Y, (congrArg (fun z => some (Value.string (bstr z))) (by rw [op_4 (by omega)]; simp)), trivial⟩, G.sel [2] Y Y⟩)
   have J := J.nowF (t := 79) rfl c6
   refine wp_seq_k fun K27 hK27=> wp_seq_k fun K28 hK28=> wp_region_lit <| eL J Y Y Y fun a J=> av J Y Y fun a J=> s0 <| then_n (hK28 _ _ <| cD J Y (fun c7=> ?_) (fun c7=> ?_))
   ·have J := J.nowT (t := 93) rfl c7
    have hsp := sz_three hqs (by omega)
    have htg : targetN xs (l.getD i 0) ≤ 65535 := by (have := cAt_lt hB ((l.getD i 0) + 2); unfold targetN; omega)
    have hdt := len_decS (n := targetN xs (l.getD i 0)) (by omega)
    refine wp_skip <| then_n (hK27 _ _ <| cT J Y <| wp_region_lit <| mv J Y Y fun a J=> mv J Y Y fun a J=> mv J Y Y fun a J=> so (wn Y) (O.call Y Y J ent30 (J.evs Y) G (rtarget_calls A n c xs (l.getD i 0) w (hA.old G) hn hnc hc hB (by omega)) fun v s99 a w hR J G=> ?_))
    obtain ⟨rfl, rfl⟩ := hR
    refine so (wn Y) (O.call Y Y J ent26 (J.evs Y) G (plain_calls (targetN xs (l.getD i 0)) w (by omega)) fun v s100 a w hR J G=> ?_)
    obtain ⟨rfl, rfl⟩ := hR
    refine sw J Y Y Y (R.catS (xs := [32, 76]) (ys := (decS (targetN xs (l.getD i 0)))) (J.ev Y) (J.ev Y) (by simp only [List.length_append, List.length_cons, List.length_nil]; omega)) fun a J=> sw J Y Y Y (R.catS (xs := (o ++ labN xs l (l.getD i 0) ++ nameN (cAt xs (l.getD i 0)))) (ys := ([32, 76] ++ (decS (targetN xs (l.getD i 0))))) (J.ev Y) (J.ev Y) (by simp only [List.length_append, List.length_cons, List.length_nil]; omega)) fun a J=> av J Y Y fun a J=> s0 <| blk_n ?_
    exact then_n (hK15' _ _ ⟨J.sub ⟨Y, Y, Y, (congrArg (fun z => some (Value.string (bstr z))) (by rw [op_j (by omega)]; simp)), trivial⟩, G.sel [3] Y Y⟩)
   have J := J.nowF (t := 93) rfl c7
   refine wp_region_lit <| eL J Y Y Y fun a J=> av J Y Y fun a J=> s0 <| then_n (hK27 _ _ <| cD J Y (fun c7=> ?_) (fun c7=> ?_))
   ·have J := J.nowT (t := 93) rfl c7
    have hsp := sz_three hqs (by omega)
    have htg : targetN xs (l.getD i 0) ≤ 65535 := by (have := cAt_lt hB ((l.getD i 0) + 2); unfold targetN; omega)
    have hdt := len_decS (n := targetN xs (l.getD i 0)) (by omega)
    refine wp_region_lit <| mv J Y Y fun a J=> mv J Y Y fun a J=> mv J Y Y fun a J=> so (wn Y) (O.call Y Y J ent30 (J.evs Y) G (rtarget_calls A n c xs (l.getD i 0) w (hA.old G) hn hnc hc hB (by omega)) fun v s99 a w hR J G=> ?_)
    obtain ⟨rfl, rfl⟩ := hR
    refine so (wn Y) (O.call Y Y J ent26 (J.evs Y) G (plain_calls (targetN xs (l.getD i 0)) w (by omega)) fun v s100 a w hR J G=> ?_)
    obtain ⟨rfl, rfl⟩ := hR
    refine sw J Y Y Y (R.catS (xs := [32, 76]) (ys := (decS (targetN xs (l.getD i 0)))) (J.ev Y) (J.ev Y) (by simp only [List.length_append, List.length_cons, List.length_nil]; omega)) fun a J=> sw J Y Y Y (R.catS (xs := (o ++ labN xs l (l.getD i 0) ++ nameN (cAt xs (l.getD i 0)))) (ys := ([32, 76] ++ (decS (targetN xs (l.getD i 0))))) (J.ev Y) (J.ev Y) (by simp only [List.length_append, List.length_cons, List.length_nil]; omega)) fun a J=> av J Y Y fun a J=> s0 <| blk_n ?_
    exact then_n (hK15' _ _ ⟨J.sub ⟨Y, Y, Y, (congrArg (fun z => some (Value.string (bstr z))) (by rw [op_j (by omega)]; simp)), trivial⟩, G.sel [3] Y Y⟩)
   have J := J.nowF (t := 93) rfl c7
   refine wp_skip <| blk_n ?_
   exact then_n (hK15' _ _ ⟨J.sub ⟨Y, Y, Y, (congrArg (fun z => some (Value.string (bstr z))) (by rw [op_n (by omega), List.append_nil])), trivial⟩, G.sel [1] Y Y⟩)
  refine wp_seq_k fun K29 hK29=> wp_region_lit <| mv J Y Y fun a J=> mv J Y Y fun a J=> mv J Y Y fun a J=> so (wn Y) (O.call Y Y J ent25 (J.evs Y) G (goes_dec A n c xs A17 c17 l (l.getD i 0) w (hA.old G) hn hnc hc hB (by omega) (hO17.rd G .h) (by omega) hpl) fun v s33 a w hR J G=> ?_)
  obtain ⟨rfl, rfl⟩ := hR
  refine s0 <| then_n (hK29 _ _ <| cD J Y (fun c3=> ?_) (fun c3=> ?_))
  ·refine wp_region_lit <| mv J Y Y fun a J=> mv J Y Y fun a J=> so (wn Y) (O.call Y Y J ent26 (J.evs Y) G (plain_calls (l.getD i 0) w (by omega)) fun v s36 a w hR J G=> ?_)
   obtain ⟨rfl, rfl⟩ := hR
   refine sw J Y Y Y (R.catS (xs := [76]) (ys := decS (l.getD i 0)) (J.ev Y) (J.ev Y) (by simp only [List.length_append, List.length_cons, List.length_nil]; omega)) fun a J=> sw J Y Y Y (R.catS (xs := ([76] ++ decS (l.getD i 0))) (ys := [58, 10]) (J.ev Y) (J.ev Y) (by simp only [List.length_append, List.length_cons, List.length_nil]; omega)) fun a J=> sw J Y Y Y (R.catS (xs := o) (ys := ([76] ++ decS (l.getD i 0) ++ [58, 10])) (J.ev Y) (J.ev Y) (by simp only [List.length_append, List.length_cons, List.length_nil]; omega)) fun a J=> av J Y Y fun a J=> s0 ?_
   exact then_n (hK12' _ _ ⟨J.sub ⟨Y, Y, Y, (congrArg (fun z => some (Value.string (bstr z))) (by rw [lab_T c3]; simp)), Y, trivial⟩, G.sel [2] Y Y⟩)
  refine wp_skip ?_
  exact then_n (hK12' _ _ ⟨J.sub ⟨Y, Y, Y, (congrArg (fun z => some (Value.string (bstr z))) (by rw [lab_F c3, List.append_nil])), Y, trivial⟩, G.sel [1] Y Y⟩)
 have hil : i = l.length := by omega
 rw [hil, List.take_length] at ho
 refine wp_exit (then_x (then_x (blk_hit <| then_n (hK6 _ _ <| wp_seq_k fun K30 hK30=> wp_region_lit <| mv J Y Y fun a J=> av J Y Y fun a J=> av J Y Y fun a J=> s0 <| then_n (hK30 _ _ <| wp_ret (hR _ _ _ _ _ J (run_results Tryz.results8 (.t J Y (.t J Y (.nil)))) ?_))))))
 exact ⟨_, [], Y, ⟨by rw [text_of hl, ← ho]; rfl, Y⟩, G.none⟩
theorem rtext_bad (A : Option Addr) (n c : Nat) (xs : List Nat) (w0 : World) (hA : Rd w0 A (byts xs)) (hn : xs.length = n) (hnc : n ≤ c) (hc : c ≤ 9223372036854775807) (hB : Byt xs) (hck : chkN xs = false) : Ret Tryz.prog 8 [.slice A n c] w0 [] (fun v s => v = .tuple #[.string ⟨#[]⟩, .int .i64 100] ∧ s = []) := by
 refine fn_start Tryz.func8 Y Tryz.ntmps8 Y [(0, .slice A n c)] ⟨Y, trivial⟩ ?_
 intro Q a hP J hR hN
 have G := St.start w0
 refine wp_seq_k fun K1 hK1=> wp_region_lit <| av J Y Y fun a J=> av J Y Y fun a J=> s0 <| then_n (hK1 _ _ <| wp_seq_k fun K2 hK2=> wp_seq_k fun K3 hK3=> wp_region_lit <| mv J Y Y fun a J=> so (wn Y) (O.call Y Y J ent15 (J.evs Y) G (rcheck_calls A n c xs _ (hA.old G) hn hnc hc hB) fun v s13 a w hR J G=> ?_))
 obtain ⟨rfl, rfl⟩ := hR
 rw [show chkV xs = .int .i64 100 from by rw [chkV, hck]; rfl] at J
 refine sw J Y Y Y (R.as (u := .bool true) (R.neq (p := 100) (q := 0) (J.ev Y) (J.ev Y)) (Y)) fun a J=> s0 <| then_n (hK3 _ _ <| cT J Y <| wp_seq_k fun K4 hK4=> wp_region_lit <| av J Y Y fun a J=> av J Y Y fun a J=> s0 <| then_n (hK4 _ _ <| wp_ret (then_r (hR _ _ _ _ _ J (run_results Tryz.results8 (.t J Y (.t J Y (.nil)))) ?_))))
 exact ⟨_, [], Y, ⟨Y, Y⟩, G.none⟩
end Go.Proofs.YtlapmbkfmbkdoaaGreatDoor
end
section
namespace Go.Proofs.YtlapmbkfmbkdoaaGreatDoor
open Go Go.Fw Go.RowKit
attribute [local irreducible] Go.Oper.wp Go.Code.wp Go.wpList Go.Fw.WL Go.Calls
theorem len64_calls (x : Nat) (w0 : World) (hx : x < 18446744073709551616) : Ret Tryz.prog 147 [.int .u64 (x : Nat)] w0 [] (fun v s => v = .int .i64 ((bl x).length : Nat) ∧ s = []) := by
 refine fn_start Tryz.func147 Y Tryz.ntmps147 Y [(0, .int .u64 (x : Nat))] ⟨Y, trivial⟩ ?_
 intro Q a hP J hR hN
 have G := St.start w0
 refine wp_seq_k fun K1 hK1=> wp_region_lit <| av J Y Y fun a J=> s0 <| then_n (hK1 _ _ <| wp_seq_k fun K2 hK2=> ?_)
 have hK2' : ∀ a w, (∃ (y1 : Nat) (n1 : Nat), Fr 25 [(0, .int .u64 (y1 : Nat)), (2, .int .i64 (n1 : Nat))] a ∧ St w0 [] [] w ∧ (n1 + (bl y1).length = (bl x).length) ∧ (y1 < 4294967296) ∧ (n1 ≤ 32)) → K2 a w := by
  rintro a w ⟨y1, n1, J, G, e1, l1, m1⟩
  refine hK2 _ _ ?_
  refine wp_seq_k fun K3 hK3=> ?_
  have hK3' : ∀ a w, (∃ (y2 : Nat) (n2 : Nat), Fr 25 [(0, .int .u64 (y2 : Nat)), (2, .int .i64 (n2 : Nat))] a ∧ St w0 [] [] w ∧ (n2 + (bl y2).length = (bl x).length) ∧ (y2 < 65536) ∧ (n2 ≤ 48)) → K3 a w := by
   rintro a w ⟨y2, n2, J, G, e2, l2, m2⟩
   refine hK3 _ _ ?_
   refine wp_seq_k fun K4 hK4=> ?_
   have hK4' : ∀ a w, (∃ (y3 : Nat) (n3 : Nat), Fr 25 [(0, .int .u64 (y3 : Nat)), (2, .int .i64 (n3 : Nat))] a ∧ St w0 [] [] w ∧ (n3 + (bl y3).length = (bl x).length) ∧ (y3 < 256) ∧ (n3 ≤ 56)) → K4 a w := by
    rintro a w ⟨y3, n3, J, G, e3, l3, m3⟩
    refine hK4 _ _ ?_
    have h8 : (bl y3).length ≤ 8 := (length_bl_lt y3 8).2 l3
    refine wp_seq_k fun K5 hK5=> wp_region_lit <| mv J Y Y fun a J=> mv J Y Y fun a J=> sw J Y Y Y (R.as (R.convB Tryz.underlying30 Tryz.underlying5 (J.ev Y)) (by rw [Nat.mod_eq_of_lt l3])) fun a J=> sw J Y Y Y (R.lenTab (J.ev Y) (by kernel_rfl) (J.ev Y) l3) fun a J=> sw J Y Y Y (R.convI Tryz.underlying5 Tryz.underlying3 (J.ev Y) (by omega)) fun a J=> aI J Y Y Y (by omega) fun a J=> av J Y Y fun a J=> s0 <| then_n (hK5 _ _ <| wp_ret (hR _ _ _ _ _ J (run_results Tryz.results147 (.t J Y (.nil))) ?_))
    exact ⟨_, [], Y, ⟨congrArg (Value.int .i64) (by omega), Y⟩, G.none⟩
   refine wp_seq_k fun K6 hK6=> wp_region_lit <| mv J Y Y fun a J=> sw J Y Y Y (R.geq (J.ev Y) (J.ev Y)) fun a J=> s0 <| then_n (hK6 _ _ <| cD J Y (fun c1=> ?_) (fun c1=> ?_))
   ·refine wp_seq_k fun K7 hK7=> wp_region_lit <| mv J Y Y fun a J=> sw J Y Y Y (R.shrU (m := 8) (J.ev Y) (J.ev Y) (by decide)) fun a J=> av J Y Y fun a J=> s0 <| then_n (hK7 _ _ <| wp_region_lit <| mv J Y Y fun a J=> aI J Y Y Y (by omega) fun a J=> av J Y Y fun a J=> s0 ?_)
    exact then_n (hK4' _ _ ⟨y2 / 2 ^ 8, n2 + 8, J.sub ⟨Y, Y, trivial⟩, G.sel [] Y Y, by have := len_shr (x := y2) (k := 8) (by omega); omega, by omega, by omega⟩)
   refine wp_skip ?_
   exact then_n (hK4' _ _ ⟨y2, n2, J.sub ⟨Y, Y, trivial⟩, G.sel [] Y Y, by omega, by omega, by omega⟩)
  refine wp_seq_k fun K8 hK8=> wp_region_lit <| mv J Y Y fun a J=> sw J Y Y Y (R.geq (J.ev Y) (J.ev Y)) fun a J=> s0 <| then_n (hK8 _ _ <| cD J Y (fun c2=> ?_) (fun c2=> ?_))
  ·refine wp_seq_k fun K9 hK9=> wp_region_lit <| mv J Y Y fun a J=> sw J Y Y Y (R.shrU (m := 16) (J.ev Y) (J.ev Y) (by decide)) fun a J=> av J Y Y fun a J=> s0 <| then_n (hK9 _ _ <| wp_region_lit <| mv J Y Y fun a J=> aI J Y Y Y (by omega) fun a J=> av J Y Y fun a J=> s0 ?_)
   exact then_n (hK3' _ _ ⟨y1 / 2 ^ 16, n1 + 16, J.sub ⟨Y, Y, trivial⟩, G.sel [] Y Y, by have := len_shr (x := y1) (k := 16) (by omega); omega, by omega, by omega⟩)
  refine wp_skip ?_
  exact then_n (hK3' _ _ ⟨y1, n1, J.sub ⟨Y, Y, trivial⟩, G.sel [] Y Y, by omega, by omega, by omega⟩)
 refine wp_seq_k fun K10 hK10=> wp_region_lit <| mv J Y Y fun a J=> sw J Y Y Y (R.geq (J.ev Y) (J.ev Y)) fun a J=> s0 <| then_n (hK10 _ _ <| cD J Y (fun c3=> ?_) (fun c3=> ?_))
 ·refine wp_seq_k fun K11 hK11=> wp_region_lit <| mv J Y Y fun a J=> sw J Y Y Y (R.shrU (m := 32) (J.ev Y) (J.ev Y) (by decide)) fun a J=> av J Y Y fun a J=> s0 <| then_n (hK11 _ _ <| wp_region_lit <| av J Y Y fun a J=> s0 ?_)
  exact then_n (hK2' _ _ ⟨x / 2 ^ 32, 32, J.sub ⟨Y, Y, trivial⟩, G.sel [] Y Y, by have := len_shr (x := x) (k := 32) (by omega); omega, by omega, by omega⟩)
 refine wp_skip ?_
 exact then_n (hK2' _ _ ⟨x, 0, J.sub ⟨Y, Y, trivial⟩, G.sel [] Y Y, by omega, by omega, by omega⟩)
theorem lz64_calls (x : Nat) (w0 : World) (hx : x < 18446744073709551616) : Ret Tryz.prog 130 [.int .u64 (x : Nat)] w0 [] (fun v s => v = .int .i64 ((64 - (bl x).length : Nat) : Int) ∧ s = []) := by
 refine fn_start Tryz.func130 Y Tryz.ntmps130 Y [(0, .int .u64 (x : Nat))] ⟨Y, trivial⟩ ?_
 intro Q a hP J hR hN
 have G := St.start w0
 refine wp_seq_k fun K1 hK1=> wp_region_lit <| av J Y Y fun a J=> s0 <| then_n (hK1 _ _ <| wp_seq_k fun K2 hK2=> wp_region_lit <| mv J Y Y fun a J=> so (wn Y) (O.call Y Y J ent147 (J.evs Y) G (len64_calls x _ hx) fun v s4 a w hR J G=> ?_))
 obtain ⟨rfl, rfl⟩ := hR
 have hl := len64 hx
 refine sw J Y Y Y (R.subI (J.ev Y) (J.ev Y) (by omega)) fun a J=> av J Y Y fun a J=> s0 <| then_n (hK2 _ _ <| wp_ret (hR _ _ _ _ _ J (run_results Tryz.results130 (.t J Y (.nil))) ?_))
 exact ⟨_, [], Y, ⟨congrArg (Value.int .i64) (by omega), Y⟩, G.none⟩
theorem div64_calls (hi lo y : Nat) (w0 : World) (hhi : hi < y) (hlo : lo < 18446744073709551616) (hy2 : 9223372036854775808 ≤ y) (hy : y < 18446744073709551616) : Ret Tryz.prog 94 [.int .u64 ((hi : Nat) : Int), .int .u64 ((lo : Nat) : Int), .int .u64 ((y : Nat) : Int)] w0 [] (fun v s => v = .tuple #[.int .u64 (((hi * 18446744073709551616 + lo) / y : Nat) : Int), .int .u64 (((hi * 18446744073709551616 + lo) % y : Nat) : Int)] ∧ s = []) := by
 refine fn_start Tryz.func94 Y Tryz.ntmps94 Y [(0, .int .u64 ((hi : Nat) : Int)), (1, .int .u64 ((lo : Nat) : Int)), (2, .int .u64 ((y : Nat) : Int))] ⟨Y, Y, Y, trivial⟩ ?_
 intro Q a hP J hR hN
 have G := St.start w0
 have hhB : hi < 18446744073709551616 := Nat.lt_trans hhi hy
 have e64 : (bl y).length = 64 := by
  have h1 := len64 hy
  have h2 : ¬ (bl y).length ≤ 63 := fun h => by have := (length_bl_lt y 63).1 h; omega
  omega
 have hv1 : lo / 4294967296 < 4294967296 := by omega
 have hv0 : lo % 4294967296 < 4294967296 := by omega
 have hR1 : ((hi * 4294967296 + lo / 4294967296) % y) < y := Nat.mod_lt _ (by omega)
 have hNq : (hi * 18446744073709551616 + lo) / y < 18446744073709551616 := by
  rw [Nat.div_lt_iff_lt_mul (by omega)]
  have : (hi + 1) * 18446744073709551616 ≤ y * 18446744073709551616 := Nat.mul_le_mul_right _ hhi
  rw [Nat.mul_comm 18446744073709551616 y]
  omega
 refine wp_seq_k fun K1 hK1=> wp_region_lit <| av J Y Y fun a J=> av J Y Y fun a J=> s0 <| then_n (hK1 _ _ <| wp_seq_k fun K2 hK2=> wp_seq_k fun K3 hK3=> wp_region_lit <| mv J Y Y fun a J=> eL J Y Y Y fun a J=> s0 <| then_n (hK3 _ _ <| cD J Y (fun z0=> ?_) (fun z0=> ?_)))
 ·exfalso; omega
 refine wp_skip <| then_n (hK2 _ _ <| wp_seq_k fun K4 hK4=> wp_seq_k fun K5 hK5=> wp_region_lit <| mv J Y Y fun a J=> mv J Y Y fun a J=> sw J Y Y Y (R.leq (J.ev Y) (J.ev Y)) fun a J=> s0 <| then_n (hK5 _ _ <| cD J Y (fun z1=> ?_) (fun z1=> ?_)))
 ·exfalso; omega
 refine wp_skip <| then_n (hK4 _ _ <| wp_seq_k fun K6 hK6=> wp_seq_k fun K7 hK7=> wp_region_lit <| mv J Y Y fun a J=> eL J Y Y Y fun a J=> s0 <| then_n (hK7 _ _ <| cD J Y (fun z2=> ?_) (fun z2=> ?_)))
 ·refine wp_seq_k fun K8 hK8=> wp_drawS G [(0, 0), (1, 0), (2, 0), (3, 0), (4, 0), (5, 0), (6, 0), (7, 0)] mix (by kernel_rfl) (hP.then.then) fun w G=> ?_
  have hD := G
  refine dm J Y Y Y fun a J=> dm J Y Y Y fun a J=> dv J Y Y Y Y (fun w=> R.quoU (J.ev Y) (J.ev Y) (by omega) (by omega)) fun a J=> dm J Y Y Y fun a J=> dm J Y Y Y fun a J=> dv J Y Y Y Y (fun w=> R.remU (J.ev Y) (J.ev Y) (by omega)) fun a J=> da J Y Y Y fun a J=> da J Y Y Y fun a J=> d0 <| then_n (hK8 _ _ <| wp_ret (then_r (hR _ _ _ _ _ J (run_results Tryz.results94 (.t J Y (.t J Y (.nil)))) ?_)))
  exact ⟨_, [], Y, ⟨by (have h0 : hi = 0 := by omega); subst h0; simp only [Nat.zero_mul, Nat.zero_add]; rfl, Y⟩, G.none⟩
 refine wp_skip <| then_n (hK6 _ _ <| wp_seq_k fun K9 hK9=> wp_region_lit <| mv J Y Y fun a J=> so (wn Y) (O.call Y Y J ent130 (J.evs Y) G (lz64_calls y _ hy) fun v s35 a w hR J G=> ?_))
 obtain ⟨rfl, rfl⟩ := hR
 refine sw J Y Y Y (R.as (u := .int .u64 ((0 : Nat) : Int)) (R.convU Tryz.underlying3 Tryz.underlying126 (J.ev Y)) (by rw [e64])) fun a J=> av J Y Y fun a J=> s0 <| then_n (hK9 _ _ <| wp_seq_k fun K10 hK10=> wp_region_lit <| mv J Y Y fun a J=> mv J Y Y fun a J=> sw J Y Y Y (R.as (u := .int .u64 ((y : Nat) : Int)) (R.shlU (m := 0) (J.ev Y) (J.ev Y) (by decide)) (by rw [Nat.pow_zero, Nat.mul_one, Nat.mod_eq_of_lt hy])) fun a J=> av J Y Y fun a J=> s0 <| then_n (hK10 _ _ <| wp_seq_k fun K11 hK11=> wp_region_lit <| mv J Y Y fun a J=> sw J Y Y Y (R.as (u := .int .u64 (((y / 4294967296) : Nat) : Int)) (R.shrU (m := 32) (J.ev Y) (J.ev Y) (by decide)) (Y)) fun a J=> av J Y Y fun a J=> s0 <| then_n (hK11 _ _ <| wp_seq_k fun K12 hK12=> wp_region_lit <| mv J Y Y fun a J=> sw J Y Y Y (R.as (u := .int .u64 (((y % 4294967296) : Nat) : Int)) (R.andU (q := 4294967295) (J.ev Y) (J.ev Y) hy (by decide)) (by rw [and32n])) fun a J=> av J Y Y fun a J=> ?_)))
 refine s0 <| then_n (hK12 _ _ <| wp_seq_k fun K13 hK13=> wp_region_lit <| mv J Y Y fun a J=> mv J Y Y fun a J=> sw J Y Y Y (R.as (u := .int .u64 ((hi : Nat) : Int)) (R.shlU (m := 0) (J.ev Y) (J.ev Y) (by decide)) (by rw [Nat.pow_zero, Nat.mul_one, Nat.mod_eq_of_lt hhB])) fun a J=> mv J Y Y fun a J=> mv J Y Y fun a J=> sw J Y Y Y (R.as (u := .int .u64 ((64 : Nat) : Int)) (R.subU (p := 64) (q := 0) (J.ev Y) (J.ev Y) (by decide)) (Y)) fun a J=> sw J Y Y Y (R.as (u := .int .u64 ((0 : Nat) : Int)) (R.shrU (m := 64) (J.ev Y) (J.ev Y) (by decide)) (by rw [Nat.div_eq_of_lt (show lo < 2 ^ 64 from hlo)])) fun a J=> sw J Y Y Y (R.as (u := .int .u64 ((hi : Nat) : Int)) (R.orU (q := 0) (J.ev Y) (J.ev Y) hhB (by decide)) (by rw [Nat.or_zero])) fun a J=> av J Y Y fun a J=> s0 <| then_n (hK13 _ _ <| wp_seq_k fun K14 hK14=> wp_region_lit <| mv J Y Y fun a J=> mv J Y Y fun a J=> sw J Y Y Y (R.as (u := .int .u64 ((lo : Nat) : Int)) (R.shlU (m := 0) (J.ev Y) (J.ev Y) (by decide)) (by rw [Nat.pow_zero, Nat.mul_one, Nat.mod_eq_of_lt hlo])) fun a J=> av J Y Y fun a J=> s0 <| then_n (hK14 _ _ <| wp_seq_k fun K15 hK15=> ?_)))
 refine wp_region_lit <| mv J Y Y fun a J=> sw J Y Y Y (R.as (u := .int .u64 ((lo / 4294967296 : Nat) : Int)) (R.shrU (m := 32) (J.ev Y) (J.ev Y) (by decide)) (Y)) fun a J=> av J Y Y fun a J=> s0 <| then_n (hK15 _ _ <| wp_seq_k fun K16 hK16=> wp_region_lit <| mv J Y Y fun a J=> sw J Y Y Y (R.as (u := .int .u64 ((lo % 4294967296 : Nat) : Int)) (R.andU (q := 4294967295) (J.ev Y) (J.ev Y) hlo (by decide)) (by rw [and32n])) fun a J=> av J Y Y fun a J=> s0 <| then_n (hK16 _ _ <| wp_seq_k fun K17 hK17=> wp_region_lit <| mv J Y Y fun a J=> mv J Y Y fun a J=> sw J Y Y Y (R.quoU (J.ev Y) (J.ev Y) (by omega) (by omega)) fun a J=> av J Y Y fun a J=> s0 <| then_n (hK17 _ _ <| wp_seq_k fun K18 hK18=> wp_region_lit <| mv J Y Y fun a J=> ?_)))
 refine mv J Y Y fun a J=> mv J Y Y fun a J=> sw J Y Y Y (R.mulU (J.ev Y) (J.ev Y)) fun a J=> sw J Y Y Y (R.as (u := .int .u64 ((hi % (y / 4294967296) : Nat) : Int)) (R.subU (J.ev Y) (J.ev Y) (by omega)) (congrArg (fun z : Nat=> Value.int .u64 (z : Int)) (by have := (q_start hy2 hv1 hhi).1; omega))) fun a J=> av J Y Y fun a J=> s0 <| then_n (hK18 _ _ <| wp_seq_k fun K19 hK19=> ?_)
 have hK19' : ∀ a w, (Fr 135 [(2, .int .u64 ((y : Nat) : Int)), (8, .int .u64 ((0 : Nat) : Int)), (9, .int .u64 (((y / 4294967296) : Nat) : Int)), (10, .int .u64 (((y % 4294967296) : Nat) : Int)), (11, .int .u64 ((hi : Nat) : Int)), (13, .int .u64 ((lo / 4294967296 : Nat) : Int)), (14, .int .u64 ((lo % 4294967296 : Nat) : Int)), (15, .int .u64 ((((hi * 4294967296 + lo / 4294967296) / y) : Nat) : Int))] a ∧ St w0 [] [] w) → K19 a w := by
  rintro a w ⟨J, G⟩
  refine hK19 _ _ ?_
  refine wp_seq_k fun K20 hK20=> wp_region_lit <| mv J Y Y fun a J=> sw J Y Y Y (R.mulU (q := 4294967296) (J.ev Y) (J.ev Y)) fun a J=> mv J Y Y fun a J=> sw J Y Y Y (R.addU (J.ev Y) (J.ev Y)) fun a J=> mv J Y Y fun a J=> mv J Y Y fun a J=> sw J Y Y Y (R.mulU (J.ev Y) (J.ev Y)) fun a J=> sw J Y Y Y (R.as (u := .int .u64 ((((hi * 4294967296 + lo / 4294967296) % y) : Nat) : Int)) (R.subU (J.ev Y) (J.ev Y) (by omega)) (congrArg (fun z : Nat=> Value.int .u64 (z : Int)) (rest_is rest_of (by omega)))) fun a J=> av J Y Y fun a J=> s0 <| then_n (hK20 _ _ <| wp_seq_k fun K21 hK21=> wp_region_lit <| mv J Y Y fun a J=> mv J Y Y fun a J=> sw J Y Y Y (R.quoU (J.ev Y) (J.ev Y) (by omega) (by omega)) fun a J=> av J Y Y fun a J=> s0 <| then_n (hK21 _ _ <| wp_seq_k fun K22 hK22=> wp_region_lit <| mv J Y Y fun a J=> ?_))
  refine mv J Y Y fun a J=> mv J Y Y fun a J=> sw J Y Y Y (R.mulU (J.ev Y) (J.ev Y)) fun a J=> sw J Y Y Y (R.as (u := .int .u64 ((((hi * 4294967296 + lo / 4294967296) % y) % (y / 4294967296) : Nat) : Int)) (R.subU (J.ev Y) (J.ev Y) (by omega)) (congrArg (fun z : Nat=> Value.int .u64 (z : Int)) (by have := (q_start hy2 hv0 hR1).1; omega))) fun a J=> av J Y Y fun a J=> s0 <| then_n (hK22 _ _ <| wp_seq_k fun K23 hK23=> ?_)
  have hK23' : ∀ a w, (Fr 135 [(2, .int .u64 ((y : Nat) : Int)), (8, .int .u64 ((0 : Nat) : Int)), (9, .int .u64 (((y / 4294967296) : Nat) : Int)), (10, .int .u64 (((y % 4294967296) : Nat) : Int)), (14, .int .u64 ((lo % 4294967296 : Nat) : Int)), (15, .int .u64 ((((hi * 4294967296 + lo / 4294967296) / y) : Nat) : Int)), (17, .int .u64 ((((hi * 4294967296 + lo / 4294967296) % y) : Nat) : Int)), (18, .int .u64 ((((((hi * 4294967296 + lo / 4294967296) % y) * 4294967296 + lo % 4294967296) / y) : Nat) : Int))] a ∧ St w0 [] [] w) → K23 a w := by
   rintro a w ⟨J, G⟩
   refine hK23 _ _ ?_
   refine wp_seq_k fun K24 hK24=> wp_region_lit <| mv J Y Y fun a J=> sw J Y Y Y (R.mulU (q := 4294967296) (J.ev Y) (J.ev Y)) fun a J=> mv J Y Y fun a J=> sw J Y Y Y (R.as (u := .int .u64 (((hi * 18446744073709551616 + lo) / y : Nat) : Int)) (R.addU (J.ev Y) (J.ev Y)) (congrArg (fun z : Nat=> Value.int .u64 (z : Int)) (by rw [(div64_law (show 0 < y by omega)).1] at hNq ⊢; exact sum_is hNq))) fun a J=> mv J Y Y fun a J=> sw J Y Y Y (R.mulU (q := 4294967296) (J.ev Y) (J.ev Y)) fun a J=> mv J Y Y fun a J=> sw J Y Y Y (R.addU (J.ev Y) (J.ev Y)) fun a J=> mv J Y Y fun a J=> mv J Y Y fun a J=> sw J Y Y Y (R.mulU (J.ev Y) (J.ev Y)) fun a J=> sw J Y Y Y (R.as (u := .int .u64 (((hi * 18446744073709551616 + lo) % y : Nat) : Int)) (R.subU (J.ev Y) (J.ev Y) (by omega)) (congrArg (fun z : Nat=> Value.int .u64 (z : Int)) (by rw [(div64_law (show 0 < y by omega)).2]; exact rest_is rest_of (Nat.lt_trans (Nat.mod_lt _ (by omega)) hy)))) fun a J=> mv J Y Y fun a J=> sw J Y Y Y (R.as (u := .int .u64 (((hi * 18446744073709551616 + lo) % y : Nat) : Int)) (R.shrU (m := 0) (J.ev Y) (J.ev Y) (by decide)) (by rw [Nat.pow_zero, Nat.div_one])) fun a J=> av J Y Y fun a J=> av J Y Y fun a J=> s0 <| then_n (hK24 _ _ <| wp_ret (hR _ _ _ _ _ J (run_results Tryz.results94 (.t J Y (.t J Y (.nil)))) ?_))
   exact ⟨_, [], Y, ⟨Y, Y⟩, G.none⟩
  refine wp_block <| wp_loop_N (fun g a w=> ∃ (q : Nat) (r : Nat), q = g ∧ Fr 135 [(2, .int .u64 ((y : Nat) : Int)), (8, .int .u64 ((0 : Nat) : Int)), (9, .int .u64 (((y / 4294967296) : Nat) : Int)), (10, .int .u64 (((y % 4294967296) : Nat) : Int)), (14, .int .u64 ((lo % 4294967296 : Nat) : Int)), (15, .int .u64 ((((hi * 4294967296 + lo / 4294967296) / y) : Nat) : Int)), (17, .int .u64 ((((hi * 4294967296 + lo / 4294967296) % y) : Nat) : Int)), (18, .int .u64 ((q : Nat) : Int)), (16, .int .u64 ((r : Nat) : Int))] a ∧ St w0 [] [] w ∧ (q * (y / 4294967296) + r = ((hi * 4294967296 + lo / 4294967296) % y)) ∧ ((((hi * 4294967296 + lo / 4294967296) % y) * 4294967296 + lo % 4294967296) / y ≤ q) ∧ (q ≤ 4294967297) ∧ (r < 4294967296)) (((hi * 4294967296 + lo / 4294967296) % y) / (y / 4294967296)) ?_ ?_
  ·exact ⟨((hi * 4294967296 + lo / 4294967296) % y) / (y / 4294967296), ((hi * 4294967296 + lo / 4294967296) % y) % (y / 4294967296), Y, J.sub ⟨Y, Y, Y, Y, Y, Y, Y, Y, Y, trivial⟩, G.sel [] Y Y, (q_start hy2 hv0 hR1).1, (q_start hy2 hv0 hR1).2.1, (q_start hy2 hv0 hR1).2.2, by have := Nat.mod_lt ((hi * 4294967296 + lo / 4294967296) % y) (show 0 < (y / 4294967296) by omega); omega⟩
  rintro KL1 g a w ⟨q, r, hg1, J, G, hq, hge, hqm, hr⟩ hKL1
  refine wp_seq_k fun K25 hK25=> wp_seq_k fun K26 hK26=> ?_
  have hK26' : ∀ a w, (Fr 135 [(2, .int .u64 ((y : Nat) : Int)), (8, .int .u64 ((0 : Nat) : Int)), (9, .int .u64 (((y / 4294967296) : Nat) : Int)), (10, .int .u64 (((y % 4294967296) : Nat) : Int)), (14, .int .u64 ((lo % 4294967296 : Nat) : Int)), (15, .int .u64 ((((hi * 4294967296 + lo / 4294967296) / y) : Nat) : Int)), (17, .int .u64 ((((hi * 4294967296 + lo / 4294967296) % y) : Nat) : Int)), (18, .int .u64 ((q : Nat) : Int)), (16, .int .u64 ((r : Nat) : Int)), (113, .bool (decide (4294967296 ≤ q ∨ 4294967296 * r + lo % 4294967296 < q * (y % 4294967296))))] a ∧ St w0 [] [] w) → K26 a w := by
   rintro a w ⟨J, G⟩
   refine hK26 _ _ ?_
   refine cD J Y (fun z4=> ?_) (fun z4=> ?_)
   ·have hn := q_next hv0 hR1 hq hge (by omega)
    refine wp_skip <| then_n (hK25 _ _ <| wp_block <| wp_seq_k fun K27 hK27=> wp_region_lit <| mv J Y Y fun a J=> sw J Y Y Y (R.as (u := .int .u64 ((q - 1 : Nat) : Int)) (R.subU (q := 1) (J.ev Y) (J.ev Y) (by decide)) (congrArg (fun z : Nat=> Value.int .u64 (z : Int)) (by omega))) fun a J=> av J Y Y fun a J=> s0 <| then_n (hK27 _ _ <| wp_seq_k fun K28 hK28=> wp_region_lit <| mv J Y Y fun a J=> mv J Y Y fun a J=> sw J Y Y Y (R.as (u := .int .u64 ((r + (y / 4294967296) : Nat) : Int)) (R.addU (J.ev Y) (J.ev Y)) (congrArg (fun z : Nat=> Value.int .u64 (z : Int)) (by omega))) fun a J=> av J Y Y fun a J=> s0 <| then_n (hK28 _ _ <| wp_seq_k fun K29 hK29=> wp_region_lit <| mv J Y Y fun a J=> sw J Y Y Y (R.geq (J.ev Y) (J.ev Y)) fun a J=> s0 <| then_n (hK29 _ _ ?_))))
    refine cD J Y (fun z6=> ?_) (fun z6=> ?_)
    ·refine wp_exit (blk_miss Y (then_x (blk_hit ?_)))
     exact then_n (hK23' _ _ ⟨J.sub ⟨Y, Y, Y, Y, Y, Y, Y, (congrArg (fun z : Nat => some (Value.int .u64 (z : Int))) (q_exit hy2 hv0 hR1 hq hge hqm (by omega) (by omega))), trivial⟩, G.sel [] Y Y⟩)
    refine wp_skip <| blk_n <| then_n (hKL1 (q - 1) _ _ ?_ ?_)
    ·omega
    exact ⟨q - 1, r + (y / 4294967296), Y, J.sub ⟨Y, Y, Y, Y, Y, Y, Y, Y, Y, trivial⟩, G.sel [] Y Y, hn.2.1, hn.1, by omega, by omega⟩
   refine wp_exit (then_x (then_x (blk_hit ?_)))
   exact then_n (hK23' _ _ ⟨J.sub ⟨Y, Y, Y, Y, Y, Y, Y, (congrArg (fun z : Nat => some (Value.int .u64 (z : Int))) (q_stop hy2 hq hge (by omega))), trivial⟩, G.sel [] Y Y⟩)
  refine wp_region_lit <| mv J Y Y fun a J=> sw J Y Y Y (R.geq (J.ev Y) (J.ev Y)) fun a J=> mv J Y Y fun a J=> J.splitD (t := 104) Y (fun h104 J=> ?_) (fun h104 J=> ?_)
  ·refine kz J Y Y Y Y Y Y fun a J=> kz J Y Y Y Y Y Y fun a J=> kz J Y Y Y Y Y Y fun a J=> kz J Y Y Y Y Y Y fun a J=> kz J Y Y Y Y Y Y fun a J=> kz J Y Y Y Y Y Y fun a J=> kz J Y Y Y Y Y Y fun a J=> kz J Y Y Y Y Y Y fun a J=> pT J Y Y Y fun a J=> s0 ?_
   exact then_n (hK26' _ _ ⟨J.sub ⟨Y, Y, Y, Y, Y, Y, Y, Y, Y, (congrArg (fun z => some (Value.bool z)) (by first | exact (decide_eq_true (by omega)).symm | exact decide_eq_decide.2 (by omega))), trivial⟩, G.sel [] Y Y⟩)
  have hqy : q * (y % 4294967296) ≤ 4294967295 * 4294967295 := Nat.mul_le_mul (by omega) (by omega)
  refine my J Y Y Y Y fun a J=> my J Y Y Y Y fun a J=> sv' J (wy J Y Y Y) Y Y (R.mulU (J.ev Y) (J.ev Y)) fun a J=> my J Y Y Y Y fun a J=> sv' J (wy J Y Y Y) Y Y (R.mulU (p := 4294967296) (J.ev Y) (J.ev Y)) fun a J=> my J Y Y Y Y fun a J=> sv' J (wy J Y Y Y) Y Y (R.addU (J.ev Y) (J.ev Y)) fun a J=> sv' J (wy J Y Y Y) Y Y (R.gtr (J.ev Y) (J.ev Y)) fun a J=> pF J Y Y Y fun a J=> s0 ?_
  exact then_n (hK26' _ _ ⟨J.sub ⟨Y, Y, Y, Y, Y, Y, Y, Y, Y, (congrArg (fun z => some (Value.bool z)) (by first | exact (decide_eq_true (by omega)).symm | exact decide_eq_decide.2 (by omega))), trivial⟩, G.sel [] Y Y⟩)
 refine wp_block <| wp_loop_N (fun g a w=> ∃ (q : Nat) (r : Nat), q = g ∧ Fr 135 [(2, .int .u64 ((y : Nat) : Int)), (8, .int .u64 ((0 : Nat) : Int)), (9, .int .u64 (((y / 4294967296) : Nat) : Int)), (10, .int .u64 (((y % 4294967296) : Nat) : Int)), (11, .int .u64 ((hi : Nat) : Int)), (12, .int .u64 ((lo : Nat) : Int)), (13, .int .u64 ((lo / 4294967296 : Nat) : Int)), (14, .int .u64 ((lo % 4294967296 : Nat) : Int)), (15, .int .u64 ((q : Nat) : Int)), (16, .int .u64 ((r : Nat) : Int))] a ∧ St w0 [] [] w ∧ (q * (y / 4294967296) + r = hi) ∧ ((hi * 4294967296 + lo / 4294967296) / y ≤ q) ∧ (q ≤ 4294967297) ∧ (r < 4294967296)) (hi / (y / 4294967296)) ?_ ?_
 ·exact ⟨hi / (y / 4294967296), hi % (y / 4294967296), Y, J.sub ⟨Y, Y, Y, Y, Y, Y, Y, Y, Y, Y, trivial⟩, G.sel [] Y Y, (q_start hy2 hv1 hhi).1, (q_start hy2 hv1 hhi).2.1, (q_start hy2 hv1 hhi).2.2, by have := Nat.mod_lt hi (show 0 < (y / 4294967296) by omega); omega⟩
 rintro KL2 g a w ⟨q, r, hg2, J, G, hq, hge, hqm, hr⟩ hKL2
 refine wp_seq_k fun K30 hK30=> wp_seq_k fun K31 hK31=> ?_
 have hK31' : ∀ a w, (Fr 135 [(2, .int .u64 ((y : Nat) : Int)), (8, .int .u64 ((0 : Nat) : Int)), (9, .int .u64 (((y / 4294967296) : Nat) : Int)), (10, .int .u64 (((y % 4294967296) : Nat) : Int)), (11, .int .u64 ((hi : Nat) : Int)), (12, .int .u64 ((lo : Nat) : Int)), (13, .int .u64 ((lo / 4294967296 : Nat) : Int)), (14, .int .u64 ((lo % 4294967296 : Nat) : Int)), (15, .int .u64 ((q : Nat) : Int)), (16, .int .u64 ((r : Nat) : Int)), (78, .bool (decide (4294967296 ≤ q ∨ 4294967296 * r + lo / 4294967296 < q * (y % 4294967296))))] a ∧ St w0 [] [] w) → K31 a w := by
  rintro a w ⟨J, G⟩
  refine hK31 _ _ ?_
  refine cD J Y (fun z3=> ?_) (fun z3=> ?_)
  ·have hn := q_next hv1 hhi hq hge (by omega)
   refine wp_skip <| then_n (hK30 _ _ <| wp_block <| wp_seq_k fun K32 hK32=> wp_region_lit <| mv J Y Y fun a J=> sw J Y Y Y (R.as (u := .int .u64 ((q - 1 : Nat) : Int)) (R.subU (q := 1) (J.ev Y) (J.ev Y) (by decide)) (congrArg (fun z : Nat=> Value.int .u64 (z : Int)) (by omega))) fun a J=> av J Y Y fun a J=> s0 <| then_n (hK32 _ _ <| wp_seq_k fun K33 hK33=> wp_region_lit <| mv J Y Y fun a J=> mv J Y Y fun a J=> sw J Y Y Y (R.as (u := .int .u64 ((r + (y / 4294967296) : Nat) : Int)) (R.addU (J.ev Y) (J.ev Y)) (congrArg (fun z : Nat=> Value.int .u64 (z : Int)) (by omega))) fun a J=> av J Y Y fun a J=> s0 <| then_n (hK33 _ _ <| wp_seq_k fun K34 hK34=> wp_region_lit <| mv J Y Y fun a J=> sw J Y Y Y (R.geq (J.ev Y) (J.ev Y)) fun a J=> s0 <| then_n (hK34 _ _ ?_))))
   refine cD J Y (fun z5=> ?_) (fun z5=> ?_)
   ·refine wp_exit (blk_miss Y (then_x (blk_hit ?_)))
    exact then_n (hK19' _ _ ⟨J.sub ⟨Y, Y, Y, Y, Y, Y, Y, (congrArg (fun z : Nat => some (Value.int .u64 (z : Int))) (q_exit hy2 hv1 hhi hq hge hqm (by omega) (by omega))), trivial⟩, G.sel [] Y Y⟩)
   refine wp_skip <| blk_n <| then_n (hKL2 (q - 1) _ _ ?_ ?_)
   ·omega
   exact ⟨q - 1, r + (y / 4294967296), Y, J.sub ⟨Y, Y, Y, Y, Y, Y, Y, Y, Y, Y, trivial⟩, G.sel [] Y Y, hn.2.1, hn.1, by omega, by omega⟩
  refine wp_exit (then_x (then_x (blk_hit ?_)))
  exact then_n (hK19' _ _ ⟨J.sub ⟨Y, Y, Y, Y, Y, Y, Y, (congrArg (fun z : Nat => some (Value.int .u64 (z : Int))) (q_stop hy2 hq hge (by omega))), trivial⟩, G.sel [] Y Y⟩)
 refine wp_region_lit <| mv J Y Y fun a J=> sw J Y Y Y (R.geq (J.ev Y) (J.ev Y)) fun a J=> mv J Y Y fun a J=> J.splitD (t := 69) Y (fun h69 J=> ?_) (fun h69 J=> ?_)
 ·refine kz J Y Y Y Y Y Y fun a J=> kz J Y Y Y Y Y Y fun a J=> kz J Y Y Y Y Y Y fun a J=> kz J Y Y Y Y Y Y fun a J=> kz J Y Y Y Y Y Y fun a J=> kz J Y Y Y Y Y Y fun a J=> kz J Y Y Y Y Y Y fun a J=> kz J Y Y Y Y Y Y fun a J=> pT J Y Y Y fun a J=> s0 ?_
  exact then_n (hK31' _ _ ⟨J.sub ⟨Y, Y, Y, Y, Y, Y, Y, Y, Y, Y, (congrArg (fun z => some (Value.bool z)) (by first | exact (decide_eq_true (by omega)).symm | exact decide_eq_decide.2 (by omega))), trivial⟩, G.sel [] Y Y⟩)
 have hqy : q * (y % 4294967296) ≤ 4294967295 * 4294967295 := Nat.mul_le_mul (by omega) (by omega)
 refine my J Y Y Y Y fun a J=> my J Y Y Y Y fun a J=> sv' J (wy J Y Y Y) Y Y (R.mulU (J.ev Y) (J.ev Y)) fun a J=> my J Y Y Y Y fun a J=> sv' J (wy J Y Y Y) Y Y (R.mulU (p := 4294967296) (J.ev Y) (J.ev Y)) fun a J=> my J Y Y Y Y fun a J=> sv' J (wy J Y Y Y) Y Y (R.addU (J.ev Y) (J.ev Y)) fun a J=> sv' J (wy J Y Y Y) Y Y (R.gtr (J.ev Y) (J.ev Y)) fun a J=> pF J Y Y Y fun a J=> s0 ?_
 exact then_n (hK31' _ _ ⟨J.sub ⟨Y, Y, Y, Y, Y, Y, Y, Y, Y, Y, (congrArg (fun z => some (Value.bool z)) (by first | exact (decide_eq_true (by omega)).symm | exact decide_eq_decide.2 (by omega))), trivial⟩, G.sel [] Y Y⟩)
theorem text_calls (x : Nat) (w0 : World) (hx : x < 115792089237316195423570985008687907853269984665640564039457584007913129639936) : Ret Tryz.prog 38 [wv x] w0 [] (fun v s => v = .string (bstr (txt x)) ∧ s = []) := by
 refine fn_start Tryz.func38 Y Tryz.ntmps38 Y [(0, wv x)] ⟨Y, trivial⟩ ?_
 intro Q a hP J hR hN
 have G := St.start w0
 refine wp_seq_k fun K1 hK1=> wp_region_lit <| so (wn Y) (O.box Y Y J (J.ev Y) Y G fun b1 a w J G=> ?_)
 refine av J Y Y fun a J=> s0 <| then_n (hK1 _ _ <| wp_seq_k fun K2 hK2=> ?_)
 have G := G.cons0
 refine wp_region_lit <| av J Y Y fun a J=> s0 <| then_n (hK2 _ _ <| wp_seq_k fun K3 hK3=> wp_block <| wp_loop_N (fun g a w=> ∃ (y : Nat) (l : List Nat) (A : Option Addr) (e : Nat) (s : Seg), y + (if l.length = 0 then 1 else 0) = g ∧ Fr 85 [(1, .pointer (some ⟨b1, 0, none⟩)), (3, .slice A l.length e)] a ∧ St w0 [] [[(b1, Cel (wc y) 32)], s] w ∧ (OwnS s A l.length e (dch l) 5 1) ∧ (Dig l) ∧ (val10 l + 10 ^ l.length * y = x) ∧ (y ≤ x)) (x + (if 0 = 0 then 1 else 0)) ?_ ?_)
 ·exact ⟨x, [], none, 0, [], Y, J.sub ⟨Y, Y, trivial⟩, G.sel [1, 0] Y Y, OwnS.nil 5 1, by intro b hb; simp at hb, by simp [val10], Nat.le_refl _⟩
 rintro KL1 g a w ⟨y, l, A, e, s, hg1, J, G, hO, hd, hv, hyx⟩ hKL1
 refine wp_seq_k fun K4 hK4=> wp_seq_k fun K5 hK5=> ?_
 have hK5' : ∀ a w, (Fr 85 [(1, .pointer (some ⟨b1, 0, none⟩)), (3, .slice A l.length e), (15, .bool (decide (y ≠ 0 ∨ l.length = 0)))] a ∧ St w0 [] [[(b1, Cel (wc y) 32)], s] w) → K5 a w := by
  rintro a w ⟨J, G⟩
  refine hK5 _ _ ?_
  refine cD J Y (fun c1=> ?_) (fun c1=> ?_)
  ·have hl77 := few_dec hx hv c1
   refine wp_skip <| then_n (hK4 _ _ <| wp_block <| wp_seq_k fun K6 hK6=> wp_region_lit <| av J Y Y fun a J=> s0 <| then_n (hK6 _ _ <| wp_seq_k fun K7 hK7=> wp_seq_k fun K8 hK8=> wp_region_lit <| av J Y Y fun a J=> s0 <| then_n (hK8 _ _ <| wp_block <| wp_loop_N (fun g a w=> ∃ (k : Nat), k = g ∧ Fr 85 [(1, .pointer (some ⟨b1, 0, none⟩)), (3, .slice A l.length e), (4, .int .u64 ((y / 18446744073709551616 ^ k % 10000000000000000000 : Nat) : Int)), (5, .int .i64 ((k : Nat) - 1 : Int))] a ∧ St w0 [] [[(b1, Cel (cells4 (quo4 y 10000000000000000000 k)) 32)], s] w ∧ (k ≤ 4)) (4) ?_ ?_)))
   ·exact ⟨4, Y, J.sub ⟨Y, Y, (by rw [Nat.div_eq_of_lt (show y < 18446744073709551616 ^ 4 from Nat.lt_of_le_of_lt hyx hx)]; rfl), Y, trivial⟩, G.sel [0, 1] Y (by rw [quo4_4]; rfl), by omega⟩
   rintro KL2 g a w ⟨k, hg2, J, G, hk⟩ hKL2
   refine wp_seq_k fun K9 hK9=> wp_seq_k fun K10 hK10=> wp_region_lit <| mv J Y Y fun a J=> sw J Y Y Y (R.geq (J.ev Y) (J.ev Y)) fun a J=> s0 <| then_n (hK10 _ _ <| cD J Y (fun c2=> ?_) (fun c2=> ?_))
   ·refine wp_skip <| then_n (hK9 _ _ <| wp_seq_k fun K11 hK11=> wp_block <| wp_region_lit <| mv J Y Y fun a J=> mv J Y Y fun a J=> mv J Y Y fun a J=> sw J Y Y Y (R.indexA Tryz.underlying32 sz30 (J.ev Y) (J.ev Y) (by omega) (by omega)) fun a J=> sw J Y Y Y (R.load one30 (J.ev Y) G .h (show _ = some (Value.int .u64 ((dg y (k - 1) : Nat) : Int)) from by rw [cells4_at (k := k - 1) (by omega) (by omega), quo4_at _ _ _ (by omega)])) fun a J=> so (wn Y) (O.call Y Y J ent94 (J.evs Y) G (div64_calls (y / 18446744073709551616 ^ k % 10000000000000000000) (dg y (k - 1)) 10000000000000000000 w (Nat.mod_lt _ (by decide)) (dg_lt _ _) (by decide) (by decide)) fun v s26 a w hR J G=> ?_))
    obtain ⟨rfl, rfl⟩ := hR
    refine mv J Y Y fun a J=> xv J Y Y Y fun a J=> xv J Y Y Y fun a J=> sw J Y Y Y (R.indexA Tryz.underlying32 sz30 (J.ev Y) (J.ev Y) (by omega) (by omega)) fun a J=> so (wn Y) (O.store sz30 (J.ev Y) (J.ev Y) Y Y G (.t .h) (cells4_set (k := k - 1) (by omega)) (by rw [length_cells4]; omega) fun w G=> ?_)
    refine av J Y Y fun a J=> s0 <| blk_n <| then_n (hK11 _ _ <| wp_region_lit <| mv J Y Y fun a J=> sw J Y Y Y (R.subI (J.ev Y) (J.ev Y) (by omega)) fun a J=> av J Y Y fun a J=> s0 <| then_n (hKL2 (k - 1) _ _ ?_ ?_))
    ·omega
    exact ⟨k - 1, Y, J.sub ⟨Y, Y, (by rw [← rem_div y 10000000000000000000 k (by decide) (by omega)]; rfl), (congrArg (fun z => some (Value.int .i64 z)) (by omega)), trivial⟩, G.sel [1, 2] Y (by rw [← quo4_step y 10000000000000000000 k (by decide) (by omega)]; rfl), by omega⟩
   obtain rfl : k = 0 := by omega
   rw [quo4_0] at G
   refine wp_exit (then_x (then_x (blk_hit <| then_n (hK7 _ _ <| wp_seq_k fun K12 hK12=> wp_region_lit <| mv J Y Y fun a J=> s0 <| then_n (hK12 _ _ <| wp_block <| wp_loop_N (fun g a w=> ∃ (j : Nat) (r : Nat) (m : List Nat) (A2 : Option Addr) (e2 : Nat) (s2 : Seg), 19 - j = g ∧ Fr 85 [(1, .pointer (some ⟨b1, 0, none⟩)), (3, .slice A2 m.length e2), (4, .int .u64 ((r : Nat) : Int)), (30, .int .i64 (j : Nat))] a ∧ St w0 [] [[(b1, Cel (wc (y / 10000000000000000000)) 32)], s2] w ∧ (OwnS s2 A2 m.length e2 (dch m) 5 1) ∧ (Dig m) ∧ (m.length = l.length + j) ∧ (j ≤ 19) ∧ (r < 10 ^ (19 - j)) ∧ (val10 m + 10 ^ m.length * r = val10 l + 10 ^ l.length * (y % 10000000000000000000))) (19 - 0) ?_ ?_)))))
   ·exact ⟨0, y % 10000000000000000000, l, A, e, s, Y, J.sub ⟨Y, Y, (by rw [Nat.pow_zero, Nat.div_one]; rfl), Y, trivial⟩, G.sel [0, 1] Y Y, hO, hd, Y, by omega, Nat.mod_lt _ (by decide), Y⟩
   rintro KL3 g a w ⟨j, r, m, A2, e2, s2, hg3, J, G, hO2, hm, hml, hj, hr, hmv⟩ hKL3
   refine wp_seq_k fun K13 hK13=> wp_region_lit <| lS J Y Y Y fun a J=> s0 <| then_n (hK13 _ _ <| wp_seq_k fun K14 hK14=> cD J Y (fun c3=> ?_) (fun c3=> ?_))
   ·have hrl : r < 18446744073709551616 := Nat.lt_of_lt_of_le hr (Nat.le_trans (Nat.pow_le_pow_right (by decide) (Nat.sub_le _ _)) (by decide : 10 ^ 19 ≤ 18446744073709551616))
    refine wp_skip <| then_n (hK14 _ _ <| wp_seq_k fun K15 hK15=> wp_block <| wp_seq_k fun K16 hK16=> wp_region_lit <| mv J Y Y fun a J=> mv J Y Y fun a J=> sw J Y Y Y (R.remU (q := 10) (J.ev Y) (J.ev Y) (by decide)) fun a J=> sw J Y Y Y (R.as (u := .int .u64 ((48 + r % 10 : Nat) : Int)) (R.addU (p := 48) (J.ev Y) (J.ev Y)) (congrArg (fun z : Nat=> Value.int .u64 (z : Int)) (by omega))) fun a J=> sw J Y Y Y (R.as (u := .int .u8 ((48 + r % 10 : Nat) : Int)) (R.convB Tryz.underlying30 Tryz.underlying5 (J.ev Y)) (congrArg (fun z : Nat=> Value.int .u8 (z : Int)) (by omega))) fun a J=> so (wn Y) (O.buildSlice (l := [_]) Y Y J Tryz.underlying22 inf5 Y Y (J.evp Y) (by decide) Y G fun b37 a w J G=> ?_))
    refine so (wn Y) (O.append Y Y J Tryz.underlying22 inf5 Y Y (by decide) (J.ev Y) (J.ev Y) G hO2 (fun _=> (.t (.t .h))) (Rd.own0 G .h) (Y) (by simp [Value.oneCell']) (by unfold maxLen; omega) (by omega) fun A38 c38 s38 a w hO38 J G=> ?_)
    refine av J Y Y fun a J=> s0 <| then_n (hK16 _ _ <| wp_region_lit <| mv J Y Y fun a J=> sw J Y Y Y (R.quoU (q := 10) (J.ev Y) (J.ev Y) (by omega) (by decide)) fun a J=> av J Y Y fun a J=> s0 <| blk_n <| then_n (hK15 _ _ <| wp_region_lit <| aI J Y Y Y (by omega) fun a J=> mv J Y Y fun a J=> s0 <| then_n (hKL3 (19 - (j + 1)) _ _ ?_ ?_)))
    ·omega
    exact ⟨j + 1, r / 10, m ++ [r % 10], A38, c38, s38, Y, J.sub ⟨Y, (by rw [List.length_append, List.length_singleton]; rfl), Y, Y, trivial⟩, G.sel [1, 2] Y Y, own_snoc hO38, dig_snoc hm (by omega), by simp only [List.length_append, List.length_singleton]; omega, by omega, chunk_lt (by omega) hr, chunk_step hmv⟩
   obtain rfl : j = 19 := by omega
   refine wp_exit (then_x (then_x (blk_hit <| blk_n <| then_n (hKL1 (y / 10000000000000000000 + (if m.length = 0 then 1 else 0)) _ _ ?_ ?_))))
   ·rcases c1 with c1 | c1 <;> rw [if_neg (show ¬ m.length = 0 by omega)] <;> (try rw [if_pos c1] at hg1) <;> omega
   exact ⟨y / 10000000000000000000, m, A2, e2, s2, Y, J.sub ⟨Y, Y, trivial⟩, G.sel [0, 1] Y Y, hO2, hm, chunk_end hmv (by simpa using hr) (by omega) hv, Nat.le_trans (Nat.div_le_self _ _) hyx⟩
  have hy0 : y = 0 := by omega
  refine wp_exit (then_x (then_x (blk_hit <| then_n (hK3 _ _ <| wp_seq_k fun K17 hK17=> wp_block <| wp_loop_N (fun g a w=> ∃ (z : List Nat), z.length = g ∧ Fr 85 [(3, .slice A z.length e)] a ∧ St w0 [] [s] w ∧ (OwnS s A z.length e (dch z) 5 1) ∧ (Dig z) ∧ (val10 z = x) ∧ (0 < z.length)) (l.length) ?_ ?_))))
  ·exact ⟨l, Y, J.sub ⟨Y, trivial⟩, G.sel [1] Y Y, hO, hd, by simpa [hy0] using hv, by omega⟩
  rintro KL4 g a w ⟨z, hg4, J, G, hO, hd, hv, hz⟩ hKL4
  have hcap := hO.cap; have hle := hO.2.1
  refine wp_seq_k fun K18 hK18=> wp_seq_k fun K19 hK19=> ?_
  have hK19' : ∀ a w, (Fr 85 [(3, .slice A z.length e), (53, .bool (decide (1 < z.length ∧ z.getD (z.length - 1) 0 = 0)))] a ∧ St w0 [] [s] w) → K19 a w := by
   rintro a w ⟨J, G⟩
   refine hK19 _ _ ?_
   refine cD J Y (fun c4=> ?_) (fun c4=> ?_)
   ·refine wp_skip <| then_n (hK18 _ _ <| wp_block <| wp_region_lit <| mv J Y Y fun a J=> mv J Y Y fun a J=> sw J Y Y Y (R.len Tryz.underlying22 (J.ev Y)) fun a J=> sw J Y Y Y (R.subI (J.ev Y) (J.ev Y) (by omega)) fun a J=> sw J Y Y Y (R.sliceHi Tryz.underlying22 (J.ev Y) (J.ev Y) (by omega) (by omega) _ sz5) fun a J=> av J Y Y fun a J=> s0 <| blk_n <| then_n (hKL4 (z.dropLast.length) _ _ ?_ ?_))
    ·rw [List.length_dropLast]; omega
    exact ⟨z.dropLast, Y, J.sub ⟨(congrArg (fun z => some (Value.slice A z e)) (by rw [List.length_dropLast]; omega)), trivial⟩, G.sel [0] Y Y, own_drop hO, dig_dropLast hd, (strip (by omega) c4.2).trans hv, by rw [List.length_dropLast]; omega⟩
   have hdec := stripped hd hv hz c4
   refine wp_exit (then_x (then_x (blk_hit <| then_n (hK17 _ _ <| wp_seq_k fun K20 hK20=> wp_seq_k fun K21 hK21=> ?_))))
   obtain ⟨gb, rest, rfl, rfl, o4, o5⟩ := own_open hO hz; have hmx : maxLen = 9223372036854775807 := rfl
   refine wp_region_lit <| mv J Y Y fun a J=> sw J Y Y Y (R.len Tryz.underlying22 (J.ev Y)) fun a J=> sw J Y Y Y (R.subI (J.ev Y) (J.ev Y) (by omega)) fun a J=> av J Y Y fun a J=> av J Y Y fun a J=> s0 <| then_n (hK21 _ _ <| wp_block <| wp_loop_N (fun g a w=> ∃ (i : Nat), z.length - i = g ∧ Fr 85 [(3, .slice (some ⟨gb, 0, none⟩) z.length e), (6, .int .i64 (i : Nat)), (7, .int .i64 ((z.length : Nat) - 1 - (i : Nat) : Int))] a ∧ St w0 [] [[(gb, Cel (dch (swp z i) ++ rest) 5)]] w ∧ (2 * i ≤ z.length)) (z.length - 0) ?_ ?_)
   ·exact ⟨0, Y, J.sub ⟨Y, Y, (congrArg (fun z => some (Value.int .i64 z)) (by omega)), trivial⟩, G.sel [0] Y (by rw [swp_0]; rfl), by omega⟩
   rintro KL5 g a w ⟨i, hg5, J, G, hi⟩ hKL5
   refine wp_seq_k fun K22 hK22=> wp_seq_k fun K23 hK23=> wp_region_lit <| mv J Y Y fun a J=> mv J Y Y fun a J=> lS J Y Y Y fun a J=> s0 <| then_n (hK23 _ _ <| cD J Y (fun c5=> ?_) (fun c5=> ?_))
   ·refine wp_skip <| then_n (hK22 _ _ <| wp_seq_k fun K24 hK24=> wp_block <| wp_drawS G [(0, 0), (1, 0), (2, 0), (3, 0), (4, 0), (5, 0), (6, 0), (7, 1), (8, 0), (9, 0), (10, 0), (11, 1), (12, 0), (13, 3), (14, 0), (15, 3)] mix (by kernel_rfl) (hP.then.block.then.then.block) fun w G=> ?_)
    have hD := G
    refine dm J Y Y Y fun a J=> dm J Y Y Y fun a J=> dm J Y Y Y fun a J=> dm J Y Y Y fun a J=> dm J Y Y Y fun a J=> dm J Y Y Y fun a J=> dv J Y Y Y Y (fun w=> R.indexS Tryz.underlying22 sz5 (J.ev Y) (J.ev Y) (by omega) (by omega)) fun a J=> ds J Y Y Y Y hD (fun w hD=> R.load one5 (J.ev Y) hD .h (swp_at z rest i (z.length - 1 - i) (by omega) (by omega) (by omega) _ (by omega))) fun a J=> ?_
    refine dm J Y Y Y fun a J=> dm J Y Y Y fun a J=> dv J Y Y Y Y (fun w=> R.indexS Tryz.underlying22 sz5 (J.ev Y) (J.ev Y) (by omega) (by omega)) fun a J=> ds J Y Y Y Y hD (fun w hD=> R.load one5 (J.ev Y) hD .h (swp_at z rest i i (by omega) (by omega) (by omega) _ (by omega))) fun a J=> ?_
    refine dv J Y Y Y Y (fun w=> R.indexS Tryz.underlying22 sz5 (J.ev Y) (J.ev Y) (by omega) (by omega)) fun a J=> dw Y (wn Y) (O.store sz5 (J.ev Y) (J.ev Y) Y Y G .h (Y) (by rw [List.length_append, length_dch, length_swp]; omega) fun w G=> ?_)
    refine dv J Y Y Y Y (fun w=> R.indexS Tryz.underlying22 sz5 (J.ev Y) (J.ev Y) (by omega) (by omega)) fun a J=> dw Y (wn Y) (O.store sz5 (J.ev Y) (J.ev Y) Y Y G .h (swp_step z rest i _ _ (by omega) (by omega) (by omega)) (by rw [List.length_set, List.length_append, length_dch, length_swp]; omega) fun w G=> ?_)
    refine d0 <| blk_n <| then_n (hK24 _ _ <| wp_region_lit <| mv J Y Y fun a J=> aI J Y Y Y (by omega) fun a J=> mv J Y Y fun a J=> sw J Y Y Y (R.subI (J.ev Y) (J.ev Y) (by omega)) fun a J=> av J Y Y fun a J=> av J Y Y fun a J=> s0 <| then_n (hKL5 (z.length - (i + 1)) _ _ ?_ ?_))
    ·omega
    exact ⟨i + 1, Y, J.sub ⟨Y, Y, (congrArg (fun z => some (Value.int .i64 z)) (by omega)), trivial⟩, G.sel [0] Y Y, by omega⟩
   have hsw := swp_end z i (by omega)
   refine wp_exit (then_x (then_x (blk_hit <| then_n (hK20 _ _ <| wp_seq_k fun K25 hK25=> wp_region_lit <| mv J Y Y fun a J=> sw J Y Y Y (R.convStr (xs := (swp z i).map (48 + ·)) Tryz.underlying22 Tryz.underlying5 Tryz.underlying9 (J.ev Y) (Rd.own G .h fun j v hj=> by rw [Nat.zero_add, List.getElem?_append_left (l₁ := dch (swp z i)) (List.getElem?_eq_some_iff.1 hj).1]; exact hj) (by rw [List.length_map, length_swp])) fun a J=> ?_))))
   refine av J Y Y fun a J=> s0 <| then_n (hK25 _ _ <| wp_ret (hR _ _ _ _ _ J (run_results Tryz.results38 (.t J Y (.nil))) ?_))
   exact ⟨_, [], Y, ⟨by rw [hsw, ← hdec]; rfl, Y⟩, G.none⟩
  refine wp_region_lit <| mv J Y Y fun a J=> sw J Y Y Y (R.len Tryz.underlying22 (J.ev Y)) fun a J=> sw J Y Y Y (R.gtr (J.ev Y) (J.ev Y)) fun a J=> mv J Y Y fun a J=> J.splitD (t := 45) Y (fun h45 J=> ?_) (fun h45 J=> ?_)
  ·refine my J Y Y Y Y fun a J=> my J Y Y Y Y fun a J=> sv' J (wy J Y Y Y) Y Y (R.len Tryz.underlying22 (J.ev Y)) fun a J=> sv' J (wy J Y Y Y) Y Y (R.subI (J.ev Y) (J.ev Y) (by omega)) fun a J=> sv' J (wy J Y Y Y) Y Y (R.indexO Tryz.underlying22 sz5 (J.ev Y) (Rd.ne (hO.rd G .h) (by rw [length_dch]; omega)) (J.ev Y) (by omega) (by omega)) fun a J=> sv' J (wy J Y Y Y) Y Y (R.loadO one5 (J.ev Y) (hO.rd G .h) (show _ = some (Value.int .u8 ((48 + z.getD (z.length - 1) 0 : Nat) : Int)) from by rw [show (((z.length : Nat) : Int) - 1).toNat * 1 = z.length - 1 from by omega]; exact dch_get z _ (by omega))) fun a J=> sv' J (wy J Y Y Y) Y Y (R.eql (J.ev Y) (J.ev Y)) fun a J=> pT J Y Y Y fun a J=> s0 ?_
   exact then_n (hK19' _ _ ⟨J.sub ⟨Y, (congrArg (fun z => some (Value.bool z)) (by first | exact (decide_eq_false (by omega)).symm | exact decide_eq_decide.2 (by omega))), trivial⟩, G.sel [0] Y Y⟩)
  refine kz J Y Y Y Y Y Y fun a J=> kz J Y Y Y Y Y Y fun a J=> kz J Y Y Y Y Y Y fun a J=> kz J Y Y Y Y Y Y fun a J=> kz J Y Y Y Y Y Y fun a J=> kz J Y Y Y Y Y Y fun a J=> kz J Y Y Y Y Y Y fun a J=> pF J Y Y Y fun a J=> s0 ?_
  exact then_n (hK19' _ _ ⟨J.sub ⟨Y, (congrArg (fun z => some (Value.bool z)) (by first | exact (decide_eq_false (by omega)).symm | exact decide_eq_decide.2 (by omega))), trivial⟩, G.sel [0] Y Y⟩)
 refine wp_region_lit <| sw J Y Y Y (R.loadW agg32 (J.ev Y) G .h sz32 (Y)) fun a J=> so (wn Y) (O.call Y Y J ent93 (J.evs Y) G (isZero_calls y _ (Nat.lt_of_le_of_lt hyx hx)) fun v s9 a w hR J G=> ?_)
 obtain ⟨rfl, rfl⟩ := hR
 refine sw J Y Y Y ((by first | exact R.notD (J.ev Y) | exact R.not (J.ev Y))) fun a J=> ?_
 refine mv J Y Y fun a J=> J.splitD (t := 11) Y (fun h11 J=> ?_) (fun h11 J=> ?_)
 ·refine kz J Y Y Y Y Y Y fun a J=> kz J Y Y Y Y Y Y fun a J=> kz J Y Y Y Y Y Y fun a J=> pT J Y Y Y fun a J=> s0 ?_
  exact then_n (hK5' _ _ ⟨J.sub ⟨Y, Y, (congrArg (fun z => some (Value.bool z)) (by first | exact (decide_eq_true (by omega)).symm | exact decide_eq_decide.2 (by omega))), trivial⟩, G.sel [1, 2] Y Y⟩)
 refine my J Y Y Y Y fun a J=> sv' J (wy J Y Y Y) Y Y (R.len Tryz.underlying22 (J.ev Y)) fun a J=> sv' J (wy J Y Y Y) Y Y (R.eql (J.ev Y) (J.ev Y)) fun a J=> pF J Y Y Y fun a J=> s0 ?_
 exact then_n (hK5' _ _ ⟨J.sub ⟨Y, Y, (congrArg (fun z => some (Value.bool z)) (by first | exact (decide_eq_true (by omega)).symm | exact decide_eq_decide.2 (by omega))), trivial⟩, G.sel [1, 2] Y Y⟩)
end Go.Proofs.YtlapmbkfmbkdoaaGreatDoor
end
section
namespace Go.Proofs
def Tryz.laysM171_ren : Go.Shelf.Ren := ⟨fun | 171 => 35 | 243 => 92 | 246 => 129 | 283 => 143 | 284 => 144 | 285 => 145 | 286 => 146 | 129 => 147 | 317 => 154 | 318 => 155 | 319 => 156 | 320 => 157 | 337 => 163 | 338 => 164 | n => n, fun | 3 => 3 | 9 => 9 | 2 => 2 | 4 => 4 | 171 => 185 | 0 => 0 | 53 => 30 | 37 => 22 | 5 => 5 | 173 => 187 | 212 => 194 | 51 => 195 | 20 => 20 | 213 => 196 | 46 => 126 | 232 => 83 | 233 => 206 | n => n, fun | 17 => 2 | 18 => 6 | 19 => 7 | n => n⟩
theorem Tryz.laysM171 : Go.Proofs.LaysM.n171 Tryz.prog Tryz.laysM171_ren := {
  mixed := by kernel_rfl
  f129 := Tryz.func147.trans (congrArg some (by kernel_rfl))
  f171 := Tryz.func35.trans (congrArg some (by kernel_rfl))
  f243 := Tryz.func92.trans (congrArg some (by kernel_rfl))
  f246 := Tryz.func129.trans (congrArg some (by kernel_rfl))
  f283 := Tryz.func143.trans (congrArg some (by kernel_rfl))
  f284 := Tryz.func144.trans (congrArg some (by kernel_rfl))
  f285 := Tryz.func145.trans (congrArg some (by kernel_rfl))
  f286 := Tryz.func146.trans (congrArg some (by kernel_rfl))
  f317 := Tryz.func154.trans (congrArg some (by kernel_rfl))
  f318 := Tryz.func155.trans (congrArg some (by kernel_rfl))
  f319 := Tryz.func156.trans (congrArg some (by kernel_rfl))
  f320 := Tryz.func157.trans (congrArg some (by kernel_rfl))
  f337 := Tryz.func163.trans (congrArg some (by kernel_rfl))
  f338 := Tryz.func164.trans (congrArg some (by kernel_rfl))
  t0 := Tryz.underlying0
  a0 := Tryz.isAgg0
  z0 := Tryz.sizeOf0
  v0 := Tryz.zeroValue0
  t2 := Tryz.underlying2
  a2 := Tryz.isAgg2
  z2 := Tryz.sizeOf2
  v2 := Tryz.zeroValue2
  t3 := Tryz.underlying3
  a3 := Tryz.isAgg3
  z3 := Tryz.sizeOf3
  v3 := Tryz.zeroValue3
  t4 := Tryz.underlying4
  a4 := Tryz.isAgg4
  z4 := Tryz.sizeOf4
  v4 := Tryz.zeroValue4
  t5 := Tryz.underlying5
  a5 := Tryz.isAgg5
  z5 := Tryz.sizeOf5
  v5 := Tryz.zeroValue5
  t9 := Tryz.underlying9
  a9 := Tryz.isAgg9
  z9 := Tryz.sizeOf9
  v9 := Tryz.zeroValue9
  t20 := Tryz.underlying20
  a20 := Tryz.isAgg20
  z20 := Tryz.sizeOf20
  v20 := Tryz.zeroValue20
  t37 := Tryz.underlying22
  a37 := Tryz.isAgg22
  z37 := Tryz.sizeOf22
  v37 := Tryz.zeroValue22
  t46 := Tryz.underlying126
  a46 := Tryz.isAgg126
  z46 := Tryz.sizeOf126
  v46 := Tryz.zeroValue126
  t51 := Tryz.underlying195
  a51 := Tryz.isAgg195
  z51 := Tryz.sizeOf195
  v51 := Tryz.zeroValue195
  t53 := Tryz.underlying30
  a53 := Tryz.isAgg30
  z53 := Tryz.sizeOf30
  v53 := Tryz.zeroValue30
  t171 := Tryz.underlying185
  a171 := Tryz.isAgg185
  z171 := Tryz.sizeOf185
  v171 := Tryz.zeroValue185
  t173 := Tryz.underlying187
  a173 := Tryz.isAgg187
  z173 := Tryz.sizeOf187
  v173 := Tryz.zeroValue187
  t212 := Tryz.underlying194
  a212 := Tryz.isAgg194
  z212 := Tryz.sizeOf194
  v212 := Tryz.zeroValue194
  t213 := Tryz.underlying196
  a213 := Tryz.isAgg196
  z213 := Tryz.sizeOf196
  t232 := Tryz.underlying83
  a232 := Tryz.isAgg83
  z232 := Tryz.sizeOf83
  v232 := Tryz.zeroValue83
  t233 := Tryz.underlying206
  a233 := Tryz.isAgg206
  z233 := Tryz.sizeOf206
  v233 := Tryz.zeroValue206
  g17 := by kernel_rfl
  g18 := by kernel_rfl
  g19 := by kernel_rfl
  i0 := by kernel_rfl
  i2 := by kernel_rfl
  i3 := by kernel_rfl
  i4 := by kernel_rfl
  i5 := by kernel_rfl
  i9 := by kernel_rfl
  i20 := by kernel_rfl
  i37 := by kernel_rfl
  i46 := by kernel_rfl
  i51 := by kernel_rfl
  i53 := by kernel_rfl
  i171 := by kernel_rfl
  i173 := by kernel_rfl
  i212 := by kernel_rfl
  i232 := by kernel_rfl
  i233 := by kernel_rfl
  m17 := by kernel_rfl
  m18 := by kernel_rfl
  m19 := by kernel_rfl }
def Tryz.lays169_ren : Go.Shelf.Ren := ⟨fun | 169 => 39 | n => n, fun | 70 => 75 | 9 => 9 | 0 => 0 | 72 => 77 | 37 => 22 | 127 => 134 | 3 => 3 | 5 => 5 | n => n, fun | n => n⟩
theorem Tryz.lays169 : Go.Proofs.Lays.n169 Tryz.prog Tryz.lays169_ren := {
  mixed := by kernel_rfl
  f169 := Tryz.func39.trans (congrArg some (by kernel_rfl))
  t0 := Tryz.underlying0
  a0 := Tryz.isAgg0
  z0 := Tryz.sizeOf0
  v0 := Tryz.zeroValue0
  t3 := Tryz.underlying3
  a3 := Tryz.isAgg3
  z3 := Tryz.sizeOf3
  v3 := Tryz.zeroValue3
  t9 := Tryz.underlying9
  a9 := Tryz.isAgg9
  z9 := Tryz.sizeOf9
  v9 := Tryz.zeroValue9
  t37 := Tryz.underlying22
  a37 := Tryz.isAgg22
  z37 := Tryz.sizeOf22
  v37 := Tryz.zeroValue22
  t70 := Tryz.underlying75
  a70 := Tryz.isAgg75
  z70 := Tryz.sizeOf75
  v70 := Tryz.zeroValue75
  t72 := Tryz.underlying77
  a72 := Tryz.isAgg77
  z72 := Tryz.sizeOf77
  v72 := Tryz.zeroValue77
  t127 := Tryz.underlying134
  a127 := Tryz.isAgg134
  z127 := Tryz.sizeOf134
  v127 := Tryz.zeroValue134 }
theorem Tryz.Builder_Extra_169 : Builder.Extra Tryz.prog Tryz.lays169_ren where
  sizeBuilder := by kernel_rfl
  liesBuilder := by kernel_rfl
  t5 := by kernel_rfl
  a5 := fun w => by kernel_rfl
  z5 := fun w => by kernel_rfl
  v5 := fun w => by kernel_rfl
  infoByte := by kernel_rfl
  cellsByte := by kernel_rfl
  sizeByte := by kernel_rfl
  neB5 := by decide
end Go.Proofs
namespace Go.Proofs.YtlapmbkfmbkdoaaGreatDoor
open Go Go.Fw Go.RowKit
def TabW (w : World) : Prop := Lib.TabIs Tryz.prog w "internal/strconv.uint64pow10" .u64 Lib.pow10Tab
theorem pow_global : ∃ g, Tryz.prog.globalNamed "internal/strconv.uint64pow10" = some g := Option.isSome_iff_exists.1 (by kernel_rfl)
theorem TabW.old {w0 w : World} {bs : List Seg} (h : TabW w0) (hS : St w0 [] bs w) : TabW w := by
  obtain ⟨g, hg⟩ := pow_global
  unfold TabW Lib.TabIs World.var? at h ⊢
  rw [hg] at h ⊢
  simp only [Option.bind_some] at h ⊢
  by_cases hk : g < w0.heap.size
  · rw [hS.keep g hk (by simp)]; exact h
  · rw [Array.getElem?_eq_none (by omega)] at h
    simp at h
theorem itoa_dec : ∀ n : Nat, Lib.decDigits n = (decS n).map fun b => UInt8.ofNat b := by
  intro n
  induction n using Nat.strongRecOn with
  | _ n ih =>
    rw [Lib.decDigits]
    by_cases h : n < 10
    · rw [dif_pos h]
      by_cases h0 : n = 0
      · subst h0; rw [decS_0]; rfl
      · rw [decS_pos h0, ddS_step h0, Nat.div_eq_of_lt h, ddS_0, Nat.mod_eq_of_lt h]; rfl
    · rw [dif_neg h, ih (n / 10) (by omega), decS_pos (n := n) (by omega), ddS_step (by omega), decS_pos (n := n / 10) (by omega)]
      simp
theorem itoa_calls (n : Nat) (w0 : World) (ht : TabW w0) (hn : n < 9223372036854775808) : Ret Tryz.prog 35 [.int .i64 ((n : Nat) : Int)] w0 [] (fun v s => v = .string (bstr (decS n)) ∧ s = []) := by
  refine Calls.mono (Any.strconv_Itoa Tryz.laysM171 n (by omega) (by omega) w0 ht) ?_
  rintro e w' ⟨rfl, k, os, rfl⟩
  refine ⟨_, [], rfl, ⟨?_, rfl⟩, ?_⟩
  · unfold Lib.itoa
    rw [if_neg (by omega), Int.toNat_natCast, itoa_dec]
    rfl
  · refine ⟨rfl, rfl, rfl, ?_, fun k hk _ => ?_, by simp, by simp, by simp [keys]⟩
    · simp [Go.Sort.grow, World.drewN]
    · have hk' : k < w0.heap.size := hk
      simp [Go.Sort.grow, World.drewN, Array.getElem?_append_left hk']
theorem O.appendS {P : Program} {N d : Nat} {env : Env} {a : Act} {w w0 : World} {K : Act → World → Prop} {Q : Exit → Act → World → Prop} {dst : Option Tmp} {ty : TypeId} {pos : String} {af : Array Edge} {g : Option (Nat × Bool)} {ks : List Nat} {bs : List Seg} {x y : Operand} {t u E : TypeId} {A : Option Addr} {n c : Nat} {cells : List Value} {s : Seg} {str : ByteArray} {f : Seg → List Seg} (hd : dst = some d) (hn : Nat.blt d N = true) (hF : Fr N env a) (hT : P.underlying t = some (.slice E)) (hU : P.underlying u = some .string) (hi : infT P E (.int .u8 0) 1 1)
    (hx : a.eval x = .slice A n c) (hy : a.eval y = .string str) (hS : St w0 ks bs w) (hO : OwnS s A n c cells E 1) (hr : ∀ s', RepB bs s s' (f s')) (h63 : n + str.size ≤ maxLen) (hby : n + str.size ≤ 140737488355328)
    (h : ∀ A' c' s' a' w', OwnS s' A' (n + str.size) c' (cells ++ Lib.strCells str) E 1 → Fr N ((d, .slice A' (n + str.size) c') :: env) a' → St w0 ks (f s') w' → K a' w') :
    Oper.wp P ⟨dst, .call ⟨.builtin .append, [x, y].toArray, #[t, u]⟩, ty, pos, af, g⟩ a w K Q := by
  subst hd
  obtain ⟨i, e1, e2, e3, e4⟩ := hi.get
  have hml : n + str.size ≤ 9223372036854775807 := by simp only [maxLen] at h63; exact h63
  have fin : ∀ v' w', (Builtin.append_ #[t, u] ty #[.slice A n c, .string str]).run P w = .ok v' w' →
      (∃ A' c' s', v' = .slice A' (n + str.size) c' ∧ OwnS s' A' (n + str.size) c' (cells ++ Lib.strCells str) E 1 ∧ St w0 ks (f s') w') → Oper.wp P ⟨some d, .call ⟨.builtin .append, [x, y].toArray, #[t, u]⟩, ty, pos, af, g⟩ a w K Q := by
    rintro v' w' hrun ⟨A', c', s', rfl, ho, hst⟩
    unfold Oper.wp
    have : (execOp a.eval ⟨some d, .call ⟨.builtin .append, [x, y].toArray, #[t, u]⟩, ty, pos, af, g⟩).run P w = .ok (.value (.slice A' (n + str.size) c')) w' := by
      simp only [execOp, resolve, invoke, builtin, Sem.run_bind, Sem.run_pure, Result.andThen_ok, List.map_toArray, List.map_cons, List.map_nil, hx, hy, hrun]
    rw [this, Oper.upon_value]
    exact h _ _ _ _ _ ho (hF.put hn _) hst
  have hnl : (Lib.strCells str).length = str.size := Lib.strCells_length str
  have h1 := Lib.strCells_oneCell str
  obtain ⟨o1, o2, o3⟩ := hO
  have hlen : (cells ++ Lib.strCells str).length = (n + str.size) * 1 := by rw [List.length_append, o1, hnl]; omega
  rcases o3 with ⟨rfl, rfl, rfl⟩ | ⟨gb, rest, rfl, rfl, o4, o5⟩
  · have hn0 : n = 0 := by omega
    subst hn0
    have hc0 : cells = [] := List.eq_nil_of_length_eq_zero (by simpa using o1)
    subst hc0
    obtain ⟨v', w', hrun, ho, hg, hz⟩ := Lib.run_append_own_string (P := P) (w := w) w.heap.size t u ty E i hT hU e1 e2 e3 e4 (.slice none 0 0) 0 [] ⟨rfl, .inl ⟨rfl, rfl⟩⟩ str h63 hby (Nat.le_refl _)
    obtain ⟨p1, p2⟩ := ho
    rcases p2 with ⟨rfl, hz0⟩ | ⟨g2, cap, cur, rfl, q1, q2, q3, q4, q5, q6⟩
    · refine fin _ _ hrun ⟨none, 0, [], by rw [hz0], ?_, ?_⟩
      · have : Lib.strCells str = [] := List.eq_nil_of_length_eq_zero (by omega)
        rw [this, hz0]; exact OwnS.nil _ _
      · exact hS.rep (hr []) hg.os hg.tape hg.output hg.size (fun k hk _ => hg.block k hk (by simp [Value.ownBlock])) (by simp) (by simp) (by simp)
    · have hcur : cur.toList = ([] ++ Lib.strCells str) ++ cur.toList.drop ((0 + str.size) * 1) := by
        have := List.take_append_drop ((0 + str.size) * 1) cur.toList
        rw [q6] at this; exact this.symm
      have hcur2 : (([] ++ Lib.strCells str) ++ cur.toList.drop ((0 + str.size) * 1)).toArray = cur := by rw [← hcur]
      refine fin _ _ hrun ⟨some ⟨g2, 0, none⟩, cap, [(g2, Cel (([] ++ Lib.strCells str) ++ cur.toList.drop ((0 + str.size) * 1)) E)], rfl, OwnS.mk hlen q3 (by rw [← hcur]; simpa using q5) q4, ?_⟩
      refine hS.rep (hr _) hg.os hg.tape hg.output hg.size (fun k hk _ => hg.block k hk (by simp [Value.ownBlock])) (fun p hp => ?_) (by simp) (fun p hp => ?_)
      · simp only [List.mem_singleton] at hp
        subst hp
        simp only [Cel, hcur2]; exact q2
      · simp only [List.mem_singleton] at hp
        subst hp
        exact .inl q1
  · have hgm : (gb, Cel (cells ++ rest) E) ∈ bs.flatten := List.mem_flatten.2 ⟨_, (hr []).mem, by simp⟩
    have hgb := hS.own _ hgm
    simp only at hgb
    by_cases hroom : n + str.size ≤ c
    · have hfit : n + str.size ≤ (cells ++ rest).toArray.size := by simp only [List.size_toArray]; rw [o4]; omega
      have hrun := Lib.run_append_room_string (P := P) (w := w) t u ty E i hT hU e1 e3 gb n c (cells ++ rest).toArray hgb str hroom hfit
      have o1' : cells.length = n := by omega
      have e5 : ((cells ++ rest).take n ++ Lib.strCells str ++ (cells ++ rest).drop (n + str.size)) = (cells ++ Lib.strCells str) ++ rest.drop str.size := by
        rw [← o1', List.take_left, List.drop_append]
        simp
      simp only [e5] at hrun
      refine fin _ _ hrun ⟨some ⟨gb, 0, none⟩, c, [(gb, Cel ((cells ++ Lib.strCells str) ++ rest.drop str.size) E)], rfl, ?_, ?_⟩
      · refine OwnS.mk hlen hroom ?_ o5
        simp only [List.length_append, List.length_drop, List.size_toArray, hnl] at o4 hfit ⊢
        omega
      · refine hS.rep (hr _) rfl rfl rfl (by simp) (fun k hk hne => ?_) ?_ (by simp) (by simp)
        · exact setRow_other w gb k _ (hne (gb, Cel (cells ++ rest) E) (by simp))
        · intro p hp
          simp only [List.mem_singleton] at hp
          subst hp
          exact setRow_heap w gb _ _ E _ hgb
    · have holds : ∀ j v, cells[j]? = some v → w.cell? ((⟨gb, 0, none⟩ : Addr).add j) = some v := fun j v hj => by
        rw [addr_add, cell_Cel hgb, Nat.zero_add, List.getElem?_append_left (List.getElem?_eq_some_iff.1 hj).1]; exact hj
      have hrun := Lib.run_append_grow_string (P := P) (w := w) t u ty E i (.int .u8 0) hT hU e1 e2 ⟨gb, 0, none⟩ n c cells (by rw [e3]; exact o1) holds str (by omega) (by omega) (growslice_fits (by omega) (by rw [e4]; omega))
      have hcap := grownCap_ge w (n + str.size) c E
      have hcm : grownCap w (n + str.size) c E ≤ maxLen := grownCap_le_maxLen w (n + str.size) c E h63
      rw [show (Value.int .u8 0).cells = [Value.int .u8 0].toArray from rfl, zero_zeros] at hrun
      have e5 : (cells.toArray ++ (Lib.strCells str).toArray ++ (zeros [.int .u8 0] (grownCap w (n + str.size) c E - (n + str.size))).toArray) = ((cells ++ Lib.strCells str) ++ zeros [.int .u8 0] (grownCap w (n + str.size) c E - (n + str.size))).toArray := by simp
      rw [e5] at hrun
      refine fin _ _ hrun ⟨some ⟨w.heap.size, 0, none⟩, _, [(w.heap.size, Cel ((cells ++ Lib.strCells str) ++ zeros [.int .u8 0] (grownCap w (n + str.size) c E - (n + str.size))) E)], rfl, ?_, ?_⟩
      · refine OwnS.mk hlen (by omega) ?_ hcm
        rw [List.length_append, hlen, length_zeros]; simp; omega
      · refine hS.rep (hr _) rfl rfl rfl (by simp) (fun k hk _ => Below.heap_alloc w.drew _ k hk) (fun p hp => by
          simp only [List.mem_singleton] at hp
          subst hp
          exact heap_alloc_new w.drew _) (by simp) (by simp)
def chs (xs : List Nat) : List Value := Lib.strCells (bstr xs)
theorem length_chs (xs : List Nat) : (chs xs).length = xs.length := by unfold chs; rw [Lib.strCells_length, size_bstr]
theorem chs_app (xs ys : List Nat) : chs xs ++ Lib.strCells (bstr ys) = chs (xs ++ ys) := by unfold chs; rw [← bstr_app]; simp [Lib.strCells]
def BldS (b : Nat) (xs : List Nat) (s : Seg) : Prop := ∃ p A c sg, s = (b, Cel [p, .slice A xs.length c] 77) :: sg ∧ OwnS sg A xs.length c (chs xs) 5 1 ∧ (p = .pointer none ∨ p = .pointer (some ⟨b, 0, none⟩))
theorem bld_new (b : Nat) : BldS b [] [(b, Cel [.pointer none, .slice none 0 0] 77)] := ⟨_, none, 0, [], rfl, OwnS.nil 5 1, .inl rfl⟩
theorem bld_is {w1 w : World} {bs : List Seg} {s : Seg} {b : Nat} {xs : List Nat} (hS : St w1 [] bs w) (hs : HasS bs s) (h : BldS b xs s) : Lib.IsBuilder 77 5 w1.heap.size b (chs xs) w := by
  obtain ⟨p, A, c, sg, rfl, hO, hp⟩ := h
  have hown : ∀ q ∈ (b, Cel [p, .slice A xs.length c] 77) :: sg, w.heap[q.1]? = some q.2 ∧ w1.heap.size ≤ q.1 := fun q hq => by
    have hm := List.mem_flatten.2 ⟨_, hs.mem, hq⟩
    refine ⟨hS.own q hm, ?_⟩
    rcases hS.place q hm with h | h
    · exact h
    · simp at h
  have hb := hown _ (List.mem_cons_self)
  have hat : Lib.BuilderAt 77 5 w1.heap.size b p (chs xs) w := by
    refine ⟨hb.2, .slice A xs.length c, hb.1, ?_, ?_⟩
    · obtain ⟨o1, o2, o3⟩ := hO
      refine ⟨by rw [length_chs, Nat.mul_one], ?_⟩
      rcases o3 with ⟨rfl, rfl, rfl⟩ | ⟨g, rest, rfl, rfl, o4, o5⟩
      · left
        have : xs.length = 0 := by omega
        rw [length_chs]
        exact ⟨by rw [this], this⟩
      · right
        have hg := hown (g, Cel (chs xs ++ rest) 5) (List.mem_cons_of_mem _ (List.mem_singleton.2 rfl))
        rw [length_chs]
        refine ⟨g, c, (chs xs ++ rest).toArray, rfl, hg.2, hg.1, o2, o5, by simpa using o4, ?_⟩
        rw [Nat.mul_one, ← length_chs xs]; simp
    · obtain ⟨o1, o2, o3⟩ := hO
      rcases o3 with ⟨rfl, rfl, rfl⟩ | ⟨g, rest, rfl, rfl, o4, o5⟩
      · simp [Value.ownBlock]
      · simp only [Value.ownBlock, ne_eq, Option.some.injEq]
        intro e
        subst e
        have hn := (hS.one hs).nodup
        simp [keys] at hn
  rcases hp with rfl | rfl
  · exact .inl hat
  · exact .inr hat
end Go.Proofs.YtlapmbkfmbkdoaaGreatDoor
end
section
namespace Go.Proofs.YtlapmbkfmbkdoaaGreatDoor
open Go Go.Fw Go.RowKit
attribute [local irreducible] Go.Oper.wp Go.Code.wp Go.wpList Go.Fw.WL Go.Calls
section
variable {P : Program} {w0 w : World} {ks : List Nat} {bs : List Seg} {ρ : Operand → Value} {dst : Option Tmp} {ty : TypeId} {pos : String} {af : Array Edge} {g : Option (Nat × Bool)} {x y : Operand} {T T' E : TypeId}
theorem R.nilnil (hx : ρ x = .pointer none) (hy : ρ y = .pointer none) (hT : P.underlying T = some (.pointer E)) :
    (execOp ρ ⟨dst, .binOp .eql T x y T', ty, pos, af, g⟩).run P w = .ok (.value (.bool true)) w := by
  have he : (Op.equal T (.pointer none) (.pointer none)).run P w = .ok true w := by
    unfold Op.equal Op.maxDepth
    rw [Op.equalIn]
    simp only [Sem.run_bind, run_underlying hT, Result.andThen_ok, Sem.run_pure]
    rfl
  simp only [execOp, hx, hy, eqGuard, binOp, he, Sem.run_bind, Sem.run_pure, Result.andThen_ok, Bool.not_true, Bool.false_eq_true, if_false]
theorem R.samePtr {a : Addr} (hx : ρ x = .pointer (some a)) (hy : ρ y = .pointer (some a)) (hT : P.underlying T = some (.pointer E)) (hn : nzT P E = true) :
    (execOp ρ ⟨dst, .binOp .neq T x y T', ty, pos, af, g⟩).run P w = .ok (.value (.bool false)) w := by
  obtain ⟨j, hj⟩ := Option.isSome_iff_exists.1 (show (P.info? E).isSome = true by unfold nzT at hn; cases h : P.info? E <;> simp_all)
  simp only [execOp, hx, hy, eqGuard, Lib.run_neq_ptr_same w a hT hj, Sem.run_bind, Sem.run_pure, Result.andThen_ok, Bool.not_true, Bool.false_eq_true, if_false]
theorem shape_Cel {b : Nat} {l : List Value} (hS : St w0 ks bs w) (hb : HasB bs b (Cel l E)) : w.shape? b = some (E, l.length) := by
  have := hS.get hb
  simp [World.shape?, Cel, this]
theorem R.toUnsafe {b : Nat} {l : List Value} {t U : TypeId} (hx : ρ x = .pointer (some ⟨b, 0, none⟩)) (hs : P.underlying T = some (.pointer t)) (hd : P.underlying U = some .unsafePointer) (hn : nzT P t = true) (hS : St w0 ks bs w) (hb : HasB bs b (Cel l E)) (hl : 0 < l.length) :
    (execOp ρ ⟨dst, .convert T U x, ty, pos, af, g⟩).run P w = .ok (.value (.pointer (some ⟨b, 0, none⟩))) w := by
  obtain ⟨j, hj, hz⟩ : ∃ j, P.info? t = some j ∧ j.size ≠ 0 := by
    unfold nzT at hn
    cases h : P.info? t with
    | none => simp [h] at hn
    | some j => exact ⟨j, rfl, Nat.ne_of_beq_eq_false (by simpa [h] using hn)⟩
  simp only [execOp, hx, Lib.run_to_unsafe w ⟨b, 0, none⟩ hs hd hj hz (shape_Cel hS hb) hl, Sem.run_bind, Sem.run_pure, Result.andThen_ok]
theorem R.fromUnsafe {b : Nat} {l : List Value} {t U : TypeId} (hx : ρ x = .pointer (some ⟨b, 0, none⟩)) (hs : P.underlying T = some .unsafePointer) (hd : P.underlying U = some (.pointer t)) (hn : nzT P t = true) (hS : St w0 ks bs w) (hb : HasB bs b (Cel l E)) (hl : liesAt P P.depth E (l.length / P.cellsOf E) 0 t 1 = true) :
    (execOp ρ ⟨dst, .convert T U x, ty, pos, af, g⟩).run P w = .ok (.value (.pointer (some ⟨b, 0, none⟩))) w := by
  obtain ⟨j, hj⟩ := Option.isSome_iff_exists.1 (show (P.info? t).isSome = true by unfold nzT at hn; cases h : P.info? t <;> simp_all)
  simp only [execOp, hx, Lib.run_from_unsafe w ⟨b, 0, none⟩ hs hd hj (shape_Cel hS hb) hl, Sem.run_bind, Sem.run_pure, Result.andThen_ok]
end
theorem lies77 : liesAt Tryz.prog Tryz.prog.depth 77 (2 / Tryz.prog.cellsOf 77) 0 77 1 = true := by kernel_rfl
theorem noEsc (v : Value) (w : World) : (callFunc 128 [v].toArray).run Tryz.prog w = .ok (.value v) w := by
  rw [run_callFunc_extern Tryz.func128 (by kernel_rfl) (by kernel_rfl) (by kernel_rfl) (e := Extern.AbiNoEscape.same) (by kernel_rfl)]
  rw [Lib.run_noEscape]
  rfl
theorem chk_new (b : Nat) (v : Value) (w0 : World) (ho : Own w0 [(b, Cel [.pointer none, v] 77)]) : Ret Tryz.prog 91 [.pointer (some ⟨b, 0, none⟩)] w0 (([(b, Cel [.pointer none, v] 77)] : Seg).map (·.1)) (fun u s' => u = .tuple #[] ∧ s' = [(b, Cel [.pointer (some ⟨b, 0, none⟩), v] 77)]) := by
 refine fn_start Tryz.func91 Y Tryz.ntmps91 Y [(0, .pointer (some ⟨b, 0, none⟩))] ⟨Y, trivial⟩ ?_
 intro Q a hP J hR hN
 have G := St.enter ho
 refine wp_seq_k fun K1 hK1=> wp_region_lit <| mv J Y Y fun a J=> sw J Y Y Y (R.nilCheck (J.ev Y)) fun a J=> sw J Y Y Y (R.fieldAddr (k := 0) Tryz.underlying77 Y nz75 (J.ev Y) Y) fun a J=> sw J Y Y Y (R.load one75 (J.ev Y) G .h (Y)) fun a J=> sw J Y Y Y (R.nilnil (J.ev Y) (J.ev Y) Tryz.underlying75) fun a J=> s0 <| then_n (hK1 _ _ <| cT J Y <| wp_region_lit <| mv J Y Y fun a J=> mv J Y Y fun a J=> sw J Y Y Y (R.toUnsafe (J.ev Y) Tryz.underlying75 Tryz.underlying168 nz77 G .h (Nat.zero_lt_succ 1)) fun a J=> sw J Y Y Y (R.extern (J.evs Y) (noEsc _ _)) fun a J=> sw J Y Y Y (R.fromUnsafe (J.ev Y) Tryz.underlying168 Tryz.underlying75 nz77 G .h lies77) fun a J=> sw J Y Y Y (R.nilCheck (J.ev Y)) fun a J=> sw J Y Y Y (R.fieldAddr (k := 0) Tryz.underlying77 Y nz75 (J.ev Y) Y) fun a J=> ?_)
 refine so (wn Y) (O.store sz75 (J.ev Y) (J.ev Y) Y Y G .h (Y) (by first | decide | omega | (show _ < 59; decide) | (show _ < 3; decide) | simp) fun w G=> ?_)
 refine s0 <| (hN _ _ _ _ _ J (run_results Tryz.results91 (.nil)) ?_)
 exact ⟨_, _, Y, ⟨Y, Y⟩, G.one .h⟩
theorem chk_old (b : Nat) (v : Value) (w0 : World) (ho : Own w0 [(b, Cel [.pointer (some ⟨b, 0, none⟩), v] 77)]) : Ret Tryz.prog 91 [.pointer (some ⟨b, 0, none⟩)] w0 (([(b, Cel [.pointer (some ⟨b, 0, none⟩), v] 77)] : Seg).map (·.1)) (fun u s' => u = .tuple #[] ∧ s' = [(b, Cel [.pointer (some ⟨b, 0, none⟩), v] 77)]) := by
 refine fn_start Tryz.func91 Y Tryz.ntmps91 Y [(0, .pointer (some ⟨b, 0, none⟩))] ⟨Y, trivial⟩ ?_
 intro Q a hP J hR hN
 have G := St.enter ho
 refine wp_seq_k fun K1 hK1=> wp_region_lit <| mv J Y Y fun a J=> sw J Y Y Y (R.nilCheck (J.ev Y)) fun a J=> sw J Y Y Y (R.fieldAddr (k := 0) Tryz.underlying77 Y nz75 (J.ev Y) Y) fun a J=> sw J Y Y Y (R.load one75 (J.ev Y) G .h (Y)) fun a J=> sw J Y Y Y (R.nilP (J.ev Y) (J.ev Y) Tryz.underlying75) fun a J=> s0 <| then_n (hK1 _ _ <| cF J Y <| wp_seq_k fun K2 hK2=> wp_region_lit <| mv J Y Y fun a J=> sw J Y Y Y (R.nilCheck (J.ev Y)) fun a J=> sw J Y Y Y (R.fieldAddr (k := 0) Tryz.underlying77 Y nz75 (J.ev Y) Y) fun a J=> sw J Y Y Y (R.load one75 (J.ev Y) G .h (Y)) fun a J=> mv J Y Y fun a J=> sw J Y Y Y (R.samePtr (J.ev Y) (J.ev Y) Tryz.underlying75 nz77) fun a J=> s0 <| then_n (hK2 _ _ <| cF J Y <| wp_skip <| (hN _ _ _ _ _ J (run_results Tryz.results91 (.nil)) ?_)))
 exact ⟨_, _, Y, ⟨Y, Y⟩, G.one .h⟩
theorem chk_calls (b : Nat) (p v : Value) (w0 : World) (hp : p = .pointer none ∨ p = .pointer (some ⟨b, 0, none⟩)) (ho : Own w0 [(b, Cel [p, v] 77)]) : Ret Tryz.prog 91 [.pointer (some ⟨b, 0, none⟩)] w0 (([(b, Cel [p, v] 77)] : Seg).map (·.1)) (fun u s' => u = .tuple #[] ∧ s' = [(b, Cel [.pointer (some ⟨b, 0, none⟩), v] 77)]) := by
  rcases hp with rfl | rfl
  · exact chk_new b v w0 ho
  · exact chk_old b v w0 ho
theorem write_calls (b : Nat) (xs ys : List Nat) (s : Seg) (w0 : World) (hB : BldS b xs s) (ho : Own w0 s) (hl : xs.length + ys.length ≤ 100000000) : Ret Tryz.prog 34 [.pointer (some ⟨b, 0, none⟩), .string (bstr ys)] w0 (s.map (·.1)) (fun u s' => u = .tuple #[.int .i64 ((bstr ys).size : Int), .nilIface] ∧ BldS b (xs ++ ys) s') := by
 refine fn_start Tryz.func34 Y Tryz.ntmps34 Y [(0, .pointer (some ⟨b, 0, none⟩)), (1, .string (bstr ys))] ⟨Y, Y, trivial⟩ ?_
 intro Q a hP J hR hN
 have G := St.enter ho
 obtain ⟨p, A, c, sg, hs, hO, hp⟩ := hB; have G := G.flat (bs' := [[(b, Cel [p, .slice A xs.length c] 77)], sg]) (by simp [hs])
 refine wp_seq_k fun K1 hK1=> wp_region_lit <| av J Y Y fun a J=> av J Y Y fun a J=> s0 <| then_n (hK1 _ _ <| wp_seq_k fun K2 hK2=> wp_region_lit <| mv J Y Y fun a J=> so (wn Y) (O.callK Y Y J ent91 (J.evs Y) G (chk_calls b p _ _ hp (G.own1 .h)) (fun _=> .h) fun v s7 a w hR J G=> ?_))
 obtain ⟨rfl, rfl⟩ := hR
 refine s0 <| then_n (hK2 _ _ <| wp_seq_k fun K3 hK3=> wp_region_lit <| mv J Y Y fun a J=> mv J Y Y fun a J=> sw J Y Y Y (R.nilCheck (J.ev Y)) fun a J=> sw J Y Y Y (R.fieldAddr (k := 1) Tryz.underlying77 Y nz22 (J.ev Y) Y) fun a J=> sw J Y Y Y (R.load one22 (J.ev Y) G .h (Y)) fun a J=> mv J Y Y fun a J=> so (wn Y) (O.appendS Y Y J Tryz.underlying22 Tryz.underlying9 inf5 (J.ev Y) (J.ev Y) G hO (fun _=> .t .h) (by rw [size_bstr]; unfold maxLen; omega) (by rw [size_bstr]; omega) fun A2 c2 s2 a w hO2 J G=> ?_))
 refine sw J Y Y Y (R.nilCheck (J.ev Y)) fun a J=> sw J Y Y Y (R.fieldAddr (k := 1) Tryz.underlying77 Y nz22 (J.ev Y) Y) fun a J=> ?_
 refine so (wn Y) (O.store sz22 (J.ev Y) (J.ev Y) Y Y G .h (Y) (by first | decide | omega | (show _ < 59; decide) | (show _ < 3; decide) | simp) fun w G=> ?_)
 refine s0 <| then_n (hK3 _ _ <| wp_seq_k fun K4 hK4=> wp_region_lit <| mv J Y Y fun a J=> sw J Y Y Y (R.lenS Tryz.underlying9 (J.ev Y)) fun a J=> av J Y Y fun a J=> av J Y Y fun a J=> s0 <| then_n (hK4 _ _ <| wp_ret (hR _ _ _ _ _ J (run_results Tryz.results34 (.t J Y (.t J Y (.nil)))) ?_)))
 have G := (G.sel [0, 1] rfl rfl).flat (bs' := [(b, Cel [.pointer (some ⟨b, 0, none⟩), .slice A2 (xs ++ ys).length c2] 77) :: s2]) (by simp [selS, size_bstr])
 exact ⟨_, _, Y, ⟨Y, ⟨_, A2, c2, s2, Y, by rw [← chs_app, List.length_append, ← size_bstr ys]; exact hO2, .inr Y⟩⟩, G⟩
end Go.Proofs.YtlapmbkfmbkdoaaGreatDoor
end
section
namespace Go.Proofs.YtlapmbkfmbkdoaaGreatDoor
open Go Go.Fw Go.RowKit
attribute [local irreducible] Go.Oper.wp Go.Code.wp Go.wpList Go.Fw.WL Go.Calls
theorem string_op {w0 w : World} {bs : List Seg} {N d : Nat} {env : Env} {a : Act} {K : Act → World → Prop} {Q : Exit → Act → World → Prop} {dst : Option Tmp} {ty : TypeId} {pos : String} {af : Array Edge} {g : Option (Nat × Bool)} {xs : List Operand} {tys : Array TypeId} {b : Nat} {ys : List Nat} {s : Seg} (hd : dst = some d) (hn : Nat.blt d N = true) (hF : Fr N env a) (hx : xs.map a.eval = [.pointer (some ⟨b, 0, none⟩)]) (hS : St w0 [] bs w) (hs : HasS bs s) (hB : BldS b ys s)
    (h : ∀ a' w', Fr N ((d, .string (bstr ys)) :: env) a' → St w0 [] [[]] w' → K a' w') : Oper.wp Tryz.prog ⟨dst, .call ⟨.value (.func 39), xs.toArray, tys⟩, ty, pos, af, g⟩ a w K Q := by
  subst hd
  unfold Oper.wp
  rw [Fw.run_call hx, ent39, Oper.upon_enter]
  refine Calls.mono (Any.Builder_String_any Tryz.lays169 Tryz.Builder_Extra_169 w0.heap.size b (ys.map fun n => UInt8.ofNat n) w (bld_is hS hs hB) hS.size) ?_
  rintro e w' ⟨rfl, hb⟩
  exact h _ w' (hF.put hn _) ⟨hb.os.trans hS.os, hb.tape.trans hS.tape, hb.output.trans hS.output, Nat.le_trans hS.size hb.size, fun k hk _ => (hb.block k hk).trans (hS.keep k hk (by simp)), by simp, by simp, by simp [keys]⟩
def tgts (xs m : List Nat) : List Nat := (m.filter (isJump xs)).map (targetN xs)
theorem tg_T {xs m : List Nat} {q : Nat} (h : cAt xs q = 14 ∨ cAt xs q = 15) : tgts xs (m ++ [q]) = tgts xs m ++ [targetN xs q] := by
  simp [tgts, List.filter_append, isJump_of h]
theorem tg_F {xs m : List Nat} {q : Nat} (h : ¬ (cAt xs q = 14 ∨ cAt xs q = 15)) : tgts xs (m ++ [q]) = tgts xs m := by
  have : isJump xs q = false := by simpa [isJump] using h
  simp [tgts, List.filter_append, this]
theorem tg_go (xs l : List Nat) (p : Nat) : (tgts xs l).contains p = goN xs l p := by
  rw [Bool.eq_iff_iff]
  simp [tgts, goN, and_assoc]
theorem tg_lt {xs l : List Nat} (hc : chkN xs = true) (hl : placesN xs = some l) {q : Nat} (hq : q ∈ l) (hj : cAt xs q = 14 ∨ cAt xs q = 15) : targetN xs q < xs.length ∧ xs.length ≤ 1024 := by
  have h1 : (l.all fun p => !isJump xs p || l.contains (targetN xs p)) = true := by
    simp only [chkN, hl, Bool.and_eq_true] at hc; exact hc.2
  have h3 : xs.length ≤ 1024 := by
    simp only [chkN, Bool.and_eq_true, decide_eq_true_eq] at hc; omega
  have h2 := List.all_eq_true.1 h1 q hq
  rw [isJump_of hj] at h2
  exact ⟨(places_mem hl _ (by simpa using h2)).1, h3⟩
def begL (l : List Nat) : List Value := (List.range 1024).map fun j => .bool (l.contains j)
theorem length_begL (l : List Nat) : (begL l).length = 1024 := by simp [begL]
theorem begL_at {xs l : List Nat} {j off : Nat} (h : j < 1024) (ho : off = j) : (begL (tgts xs l))[off]? = some (.bool (decide (goN xs l j = true))) := by
  subst ho
  rw [show decide (goN xs l off = true) = goN xs l off by simp, ← tg_go]
  simp [begL, h]
theorem begL_set {l : List Nat} {i off : Nat} (ho : off = i) : (begL l).set off (.bool true) = begL (l ++ [i]) := by
  subst ho
  apply List.ext_getElem?
  intro j
  rw [List.getElem?_set]
  by_cases hj : j < 1024
  · have e : ∀ m : List Nat, (begL m)[j]? = some (.bool (m.contains j)) := fun m => by simp [begL, hj]
    rw [e, e, length_begL]
    by_cases e : off = j
    · subst e; simp [hj]
    · rw [if_neg e]
      have : ¬ j = off := fun h => e h.symm
      simp [this]
  · rw [List.getElem?_eq_none (by rw [length_begL]; omega), List.getElem?_eq_none (by rw [length_begL]; omega)]
    by_cases e : off = j
    · rw [if_pos e, if_neg (by rw [length_begL]; omega)]
    · rw [if_neg e]
theorem ze69b : zeT Tryz.prog 69 (.agg (begL []).toArray) := by unfold zeT; kernel_rfl
theorem row_name {c : Nat} (h : c < 28) : tabR[c]? = some (rowC (bstr (nameN c)) c) := by
  have hcases : c = 0 ∨ c = 1 ∨ c = 2 ∨ c = 3 ∨ c = 4 ∨ c = 5 ∨ c = 6 ∨ c = 7 ∨ c = 8 ∨ c = 9 ∨ c = 10 ∨ c = 11 ∨ c = 12 ∨ c = 13 ∨ c = 14 ∨ c = 15 ∨ c = 16 ∨ c = 17 ∨ c = 18 ∨ c = 19 ∨ c = 20 ∨ c = 21 ∨ c = 22 ∨ c = 23 ∨ c = 24 ∨ c = 25 ∨ c = 26 ∨ c = 27 := by omega
  rcases hcases with rfl | rfl | rfl | rfl | rfl | rfl | rfl | rfl | rfl | rfl | rfl | rfl | rfl | rfl | rfl | rfl | rfl | rfl | rfl | rfl | rfl | rfl | rfl | rfl | rfl | rfl | rfl | rfl <;> exact rfl
theorem row_nm {c off : Nat} (h : c < 28) (ho : off = c * 5) : ∀ j v, (rowC (bstr (nameN c)) c)[j]? = some v → tabL[off + j]? = some v := by
  subst ho
  exact flat_at (by decide +kernel) (row_name h)
theorem line_m {xs l m o : List Nat} {i : Nat} (h : o = linesN xs l m) : o ++ labN xs l i ++ nameN (cAt xs i) ++ operL xs i ++ [10] = linesN xs l (m ++ [i]) := by
  rw [lines_snoc, ← h]
  unfold lineN
  simp only [List.append_assoc]
theorem plcs_all {xs l : List Nat} (h : placesN xs = some l) : plcs xs 0 = some l := h
theorem oper1 {c : Nat} (h : ((operN c : Nat) : Int) = 1) : c = 2 := (operN_spec c).1.1 (by omega)
theorem oper2 {c : Nat} (h : ((operN c : Nat) : Int) = 2) : c = 4 ∨ c = 5 ∨ c = 16 := (operN_spec c).2.1.1 (by omega)
theorem oper3 {c : Nat} (h : ((operN c : Nat) : Int) = 3) : c = 14 ∨ c = 15 := (operN_spec c).2.2.1 (by omega)
set_option maxHeartbeats 4000000 in
theorem mtext_good (A : Option Addr) (n c : Nat) (xs : List Nat) (l : List Nat) (w0 : World) (hA : Rd w0 A (byts xs)) (hn : xs.length = n) (hnc : n ≤ c) (hc : c ≤ 9223372036854775807) (hB : Byt xs) (ht : TabW w0) (hck : chkN xs = true) (hl : placesN xs = some l) (hn2 : n ≤ 1024) : Ret Tryz.prog 9 [.slice A n c] w0 [] (fun v s => v = .tuple #[.string (bstr (textN xs)), .int .i64 0] ∧ s = []) := by
 refine fn_start Tryz.func9 Y Tryz.ntmps9 Y [(0, .slice A n c)] ⟨Y, trivial⟩ ?_
 intro Q a hP J hR hN
 have G := St.start w0
 refine wp_seq_k fun K1 hK1=> wp_region_lit <| av J Y Y fun a J=> av J Y Y fun a J=> s0 <| then_n (hK1 _ _ <| wp_seq_k fun K2 hK2=> wp_seq_k fun K3 hK3=> wp_region_lit <| mv J Y Y fun a J=> so (wn Y) (O.call Y Y J ent14 (J.evs Y) G (check_calls A n c xs _ (hA.old G) hn hnc hc hB) fun v s16 a w hR J G=> ?_))
 obtain ⟨rfl, rfl⟩ := hR
 rw [show chkV xs = .int .i64 0 from by rw [chkV, hck]; rfl] at J
 refine av J Y Y fun a J=> s0 <| then_n (hK3 _ _ <| wp_seq_k fun K4 hK4=> wp_region_lit <| mv J Y Y fun a J=> sw J Y Y Y (R.as (u := .bool false) (R.neq (p := 0) (q := 0) (J.ev Y) (J.ev Y)) (Y)) fun a J=> s0 <| then_n (hK4 _ _ <| cF J Y <| wp_skip <| then_n (hK2 _ _ <| wp_seq_k fun K5 hK5=> wp_region_lit <| so (wn Y) (O.alloc Y Y J ze69b Y G fun b5 a w J G=> ?_))))
 refine s0 <| then_n (hK5 _ _ <| wp_seq_k fun K6 hK6=> wp_seq_k fun K7 hK7=> wp_region_lit <| av J Y Y fun a J=> s0 <| then_n (hK7 _ _ <| wp_block <| wp_loop_N (fun g a w=> ∃ (i : Nat) (m : List Nat) (r : List Nat), n - i = g ∧ Fr 122 [(0, .slice A n c), (5, .pointer (some ⟨b5, 0, none⟩)), (6, .int .i64 ((i : Nat) : Int))] a ∧ St w0 [] [[(b5, Cel (begL (tgts xs m)) 69)]] w ∧ (i ≤ n) ∧ (plcs xs i = some r) ∧ (l = m ++ r)) (n - 0) ?_ ?_))
 ·exact ⟨0, [], l, Y, J.sub ⟨Y, Y, Y, trivial⟩, G.sel [0] Y Y, by omega, plcs_all hl, Y⟩
 rintro KL1 g a w ⟨i, m, r, hg1, J, G, hi, hr, hlr⟩ hKL1
 refine wp_seq_k fun K8 hK8=> wp_seq_k fun K9 hK9=> wp_region_lit <| mv J Y Y fun a J=> mv J Y Y fun a J=> sw J Y Y Y (R.len Tryz.underlying22 (J.ev Y)) fun a J=> lS J Y Y Y fun a J=> s0 <| then_n (hK9 _ _ <| cD J Y (fun c2=> ?_) (fun c2=> ?_))
 ·obtain ⟨r', hs2, rfl, hr2⟩ := plcs_cons (by omega) hr
  have hql : i ∈ l := by rw [hlr]; simp
  have hb := cAt_lt hB i; have hsz := (sizeN_le xs i).resolve_left hs2; have hc28 := size_28 hs2
  refine wp_skip <| then_n (hK8 _ _ <| wp_seq_k fun K10 hK10=> ?_)
  have hK10' : ∀ a w, (∃ (t : List Nat), Fr 122 [(0, .slice A n c), (5, .pointer (some ⟨b5, 0, none⟩)), (6, .int .i64 ((i : Nat) : Int))] a ∧ St w0 [] [[(b5, Cel (begL (t)) 69)]] w ∧ (t = tgts xs (m ++ [i]))) → K10 a w := by
   rintro a w ⟨t, J, G, htt⟩
   refine hK10 _ _ ?_
   subst htt
   refine wp_region_lit <| mv J Y Y fun a J=> mv J Y Y fun a J=> mv J Y Y fun a J=> so (wn Y) (O.call Y Y J ent31 (J.evs Y) G (size_calls A n c xs i w (hA.old G) hn hnc hc hB (by omega)) fun v s27 a w hR J G=> ?_)
   obtain ⟨rfl, rfl⟩ := hR
   refine aI J Y Y Y (by omega) fun a J=> av J Y Y fun a J=> s0 <| then_n (hKL1 (n - (i + sizeN xs i)) _ _ ?_ ?_)
   ·omega
   exact ⟨i + sizeN xs i, m ++ [i], r', Y, J.sub ⟨Y, Y, (congrArg (fun z => some (Value.int .i64 z)) (by omega)), trivial⟩, G.sel [1] Y Y, by omega, hr2, by rw [hlr]; simp⟩
  refine wp_block <| wp_seq_k fun K11 hK11=> ?_
  have hK11' : ∀ a w, (Fr 122 [(0, .slice A n c), (5, .pointer (some ⟨b5, 0, none⟩)), (6, .int .i64 ((i : Nat) : Int)), (40, .bool (decide (cAt xs i = 14 ∨ cAt xs i = 15)))] a ∧ St w0 [] [[(b5, Cel (begL (tgts xs m)) 69)]] w) → K11 a w := by
   rintro a w ⟨J, G⟩
   refine hK11 _ _ ?_
   refine cD J Y (fun c3=> ?_) (fun c3=> ?_)
   ·have htl := tg_lt hck hl hql c3
    refine wp_region_lit <| mv J Y Y fun a J=> mv J Y Y fun a J=> so (wn Y) (O.call Y Y J ent32 (J.evs Y) G (target_calls A n c xs i w (hA.old G) hn hnc hc hB (by have := sz_three hs2 c3; omega)) fun v s43 a w hR J G=> ?_)
    obtain ⟨rfl, rfl⟩ := hR
    refine sw J Y Y Y (R.indexA Tryz.underlying69 sz4 (J.ev Y) (J.ev Y) (by omega) (by omega)) fun a J=> so (wn Y) (O.store sz4 (J.ev Y) (J.ev Y) Y Y G (.t .h) (begL_set (i := targetN xs i) (by omega)) (by rw [length_begL]; omega) fun w G=> ?_)
    refine s0 <| blk_n ?_
    exact then_n (hK10' _ _ ⟨tgts xs m ++ [targetN xs i], J.sub ⟨Y, Y, Y, trivial⟩, G.sel [1] Y Y, (tg_T c3).symm⟩)
   refine wp_skip <| blk_n ?_
   exact then_n (hK10' _ _ ⟨tgts xs m, J.sub ⟨Y, Y, Y, trivial⟩, G.sel [0] Y Y, (tg_F c3).symm⟩)
  refine wp_region_lit <| mv J Y Y fun a J=> mv J Y Y fun a J=> sw J Y Y Y (R.indexO Tryz.underlying22 sz5 (J.ev Y) (Rd.ne hA (by rw [length_byts]; omega)) (J.ev Y) (by omega) (by omega)) fun a J=> sw J Y Y Y (R.loadO one5 (J.ev Y) (hA.old G) (cb_at (i := i) (by omega) (by omega))) fun a J=> eL J Y Y Y fun a J=> mv J Y Y fun a J=> J.splitD (t := 34) Y (fun h34 J=> ?_) (fun h34 J=> ?_)
  ·refine kz J Y Y Y Y Y Y fun a J=> kz J Y Y Y Y Y Y fun a J=> kz J Y Y Y Y Y Y fun a J=> kz J Y Y Y Y Y Y fun a J=> kz J Y Y Y Y Y Y fun a J=> pT J Y Y Y fun a J=> s0 ?_
   exact then_n (hK11' _ _ ⟨J.sub ⟨Y, Y, Y, (congrArg (fun z => some (Value.bool z)) (by first | exact (decide_eq_true (by omega)).symm | exact (decide_eq_false (by omega)).symm | exact decide_eq_decide.2 (by omega))), trivial⟩, G.sel [0] Y Y⟩)
  refine my J Y Y Y Y fun a J=> my J Y Y Y Y fun a J=> sv' J (wy J Y Y Y) Y Y (R.indexO Tryz.underlying22 sz5 (J.ev Y) (Rd.ne hA (by rw [length_byts]; omega)) (J.ev Y) (by omega) (by omega)) fun a J=> sv' J (wy J Y Y Y) Y Y (R.loadO one5 (J.ev Y) (hA.old G) (cb_at (i := i) (by omega) (by omega))) fun a J=> sv' J (wy J Y Y Y) Y Y (R.eql (J.ev Y) (J.ev Y)) fun a J=> pF J Y Y Y fun a J=> s0 ?_
  exact then_n (hK11' _ _ ⟨J.sub ⟨Y, Y, Y, (congrArg (fun z => some (Value.bool z)) (by first | exact (decide_eq_true (by omega)).symm | exact (decide_eq_false (by omega)).symm | exact decide_eq_decide.2 (by omega))), trivial⟩, G.sel [0] Y Y⟩)
 have hre : r = [] := by (rw [plcs_end (p := i) (by omega)] at hr; simpa using hr.symm)
 subst hre
 rw [List.append_nil] at hlr
 subst hlr
 refine wp_exit (then_x (then_x (blk_hit <| then_n (hK6 _ _ <| wp_seq_k fun K12 hK12=> wp_region_lit <| so (wn Y) (O.call Y Y J ent33 (J.evs Y) G (table_calls w) fun v s45 a w hR J G=> ?_)))))
 obtain ⟨rfl, rfl⟩ := hR
 refine so (wn Y) (O.alloc Y Y J ze73 Y G fun b7 a w J G=> ?_)
 refine so (wn Y) (O.storeW sz73 (J.ev Y) (J.ev Y) (Y) Y (one_tab) G .h (Y) fun w G=> ?_)
 refine s0 <| then_n (hK12 _ _ <| wp_seq_k fun K13 hK13=> wp_region_lit <| so (wn Y) (O.alloc Y Y J ze77 Y G fun b8 a w J G=> ?_))
 refine s0 <| then_n (hK13 _ _ <| wp_seq_k fun K14 hK14=> wp_seq_k fun K15 hK15=> wp_region_lit <| av J Y Y fun a J=> s0 <| then_n (hK15 _ _ <| wp_block <| wp_loop_N (fun g a w=> ∃ (i : Nat) (m : List Nat) (r : List Nat) (o : List Nat) (z : Seg), n - i = g ∧ Fr 122 [(0, .slice A n c), (5, .pointer (some ⟨b5, 0, none⟩)), (7, .pointer (some ⟨b7, 0, none⟩)), (8, .pointer (some ⟨b8, 0, none⟩)), (9, .int .i64 ((i : Nat) : Int))] a ∧ St w0 [] [z, [(b7, Cel tabL 73)], [(b5, Cel (begL (tgts xs l)) 69)]] w ∧ (i ≤ n) ∧ (plcs xs i = some r) ∧ (l = m ++ r) ∧ (o = linesN xs l m) ∧ (o.length ≤ 400 * i) ∧ (BldS b8 o z)) (n - 0) ?_ ?_))
 ·exact ⟨0, [], l, [], _, Y, J.sub ⟨Y, Y, Y, Y, Y, trivial⟩, G.sel [0, 1, 3] Y Y, by omega, plcs_all hl, Y, Y, by decide, bld_new b8⟩
 rintro KL2 g a w ⟨i, m, r, o, z, hg2, J, G, hi, hr, hlr, ho, hol, hZ⟩ hKL2
 refine wp_seq_k fun K16 hK16=> wp_seq_k fun K17 hK17=> wp_region_lit <| mv J Y Y fun a J=> mv J Y Y fun a J=> sw J Y Y Y (R.len Tryz.underlying22 (J.ev Y)) fun a J=> lS J Y Y Y fun a J=> s0 <| then_n (hK17 _ _ <| cD J Y (fun c4=> ?_) (fun c4=> ?_))
 ·obtain ⟨r', hs2, rfl, hr2⟩ := plcs_cons (by omega) hr
  have hql : i ∈ l := by rw [hlr]; simp
  have hb := cAt_lt hB i; have hsz := (sizeN_le xs i).resolve_left hs2; have hc28 := size_28 hs2
  have hb1 := cAt_lt hB (i + 1); have hdq := len_decS (n := i) (by omega)
  refine wp_skip <| then_n (hK16 _ _ <| wp_block <| wp_seq_k fun K18 hK18=> wp_region_lit <| mv J Y Y fun a J=> mv J Y Y fun a J=> so (wn Y) (O.call Y Y J ent31 (J.evs Y) G (size_calls A n c xs i w (hA.old G) hn hnc hc hB (by omega)) fun v s52 a w hR J G=> ?_))
  obtain ⟨rfl, rfl⟩ := hR
  refine av J Y Y fun a J=> s0 <| then_n (hK18 _ _ <| wp_seq_k fun K19 hK19=> ?_)
  have hK19' : ∀ a w, (∃ (z : Seg), Fr 122 [(0, .slice A n c), (5, .pointer (some ⟨b5, 0, none⟩)), (7, .pointer (some ⟨b7, 0, none⟩)), (8, .pointer (some ⟨b8, 0, none⟩)), (9, .int .i64 ((i : Nat) : Int)), (10, .int .i64 ((sizeN xs i : Nat) : Int))] a ∧ St w0 [] [z, [(b7, Cel tabL 73)], [(b5, Cel (begL (tgts xs l)) 69)]] w ∧ (BldS b8 (o ++ labN xs l i) z)) → K19 a w := by
   rintro a w ⟨z, J, G, hZ⟩
   refine hK19 _ _ ?_
   have hlb : (labN xs l i).length ≤ 81 := by (unfold labN; split; simp only [List.length_append, List.length_cons, List.length_nil]; omega; exact Nat.zero_le _)
   have hnm := len_name (cAt xs i)
   refine wp_seq_k fun K20 hK20=> wp_region_lit <| mv J Y Y fun a J=> mv J Y Y fun a J=> sw J Y Y Y (R.indexO Tryz.underlying22 sz5 (J.ev Y) (Rd.ne hA (by rw [length_byts]; omega)) (J.ev Y) (by omega) (by omega)) fun a J=> sw J Y Y Y (R.loadO one5 (J.ev Y) (hA.old G) (cb_at (i := i) (by omega) (by omega))) fun a J=> sw J Y Y Y (R.indexA Tryz.underlying73 sz72 (J.ev Y) (J.ev Y) (by omega) (by omega)) fun a J=> sw J Y Y Y (R.loadA (cs := rowC (bstr (nameN (cAt xs i))) (cAt xs i)) agg72 (J.ev Y) G (.t .h) sz72 Y (row_nm (c := (cAt xs i)) (by omega) (by omega))) fun a J=> so (wn Y) (O.alloc Y Y J ze72 Y G fun b11 a w J G=> ?_)
   refine so (wn Y) (O.storeW sz72 (J.ev Y) (J.ev Y) (Y) Y (one_row _ _) G .h (Y) fun w G=> ?_)
   refine s0 <| then_n (hK20 _ _ <| wp_seq_k fun K21 hK21=> wp_region_lit <| sw J Y Y Y (R.fieldAddr (k := 0) Tryz.underlying72 Y nz9 (J.ev Y) Y) fun a J=> sw J Y Y Y (R.load one9 (J.ev Y) G .h (Y)) fun a J=> so (wn Y) (O.callK Y Y J ent34 (J.evs Y) G (write_calls b8 (o ++ labN xs l i) (nameN (cAt xs i)) _ w hZ (G.own1 (.t .h)) (by simp only [List.length_append, List.length_cons, List.length_nil]; omega)) (fun _=> (.t .h)) fun v s69 a w hR J G=> ?_))
   obtain ⟨rfl, hZ⟩ := hR
   refine s0 <| then_n (hK21 _ _ <| wp_seq_k fun K22 hK22=> ?_)
   have hK22' : ∀ a w, (∃ (z : Seg), Fr 122 [(0, .slice A n c), (5, .pointer (some ⟨b5, 0, none⟩)), (7, .pointer (some ⟨b7, 0, none⟩)), (8, .pointer (some ⟨b8, 0, none⟩)), (9, .int .i64 ((i : Nat) : Int)), (10, .int .i64 ((sizeN xs i : Nat) : Int))] a ∧ St w0 [] [z, [(b7, Cel tabL 73)], [(b5, Cel (begL (tgts xs l)) 69)]] w ∧ (BldS b8 (o ++ labN xs l i ++ nameN (cAt xs i) ++ operL xs i) z)) → K22 a w := by
    rintro a w ⟨z, J, G, hZ⟩
    refine hK22 _ _ ?_
    have hop : (operL xs i).length ≤ 80 := len_oper hB (by omega) hs2
    refine wp_seq_k fun K23 hK23=> wp_region_lit <| so (wn Y) (O.callK Y Y J ent34 (J.evs Y) G (write_calls b8 (o ++ labN xs l i ++ nameN (cAt xs i) ++ operL xs i) ([10]) _ w hZ (G.own1 .h) (by simp only [List.length_append, List.length_cons, List.length_nil]; omega)) (fun _=> .h) fun v s117 a w hR J G=> ?_)
    obtain ⟨rfl, hZ⟩ := hR
    refine s0 <| then_n (hK23 _ _ <| wp_region_lit <| mv J Y Y fun a J=> mv J Y Y fun a J=> aI J Y Y Y (by omega) fun a J=> av J Y Y fun a J=> s0 <| blk_n <| then_n (hKL2 (n - (i + sizeN xs i)) _ _ ?_ ?_))
    ·omega
    exact ⟨i + sizeN xs i, m ++ [i], r', _, _, Y, J.sub ⟨Y, Y, Y, Y, (congrArg (fun z => some (Value.int .i64 z)) (by omega)), trivial⟩, G.sel [0, 1, 2] Y Y, by omega, hr2, by rw [hlr]; simp, line_m ho, (by simp only [List.length_append, List.length_cons, List.length_nil]; omega), hZ⟩
   refine wp_seq_k fun K24 hK24=> wp_region_lit <| mv J Y Y fun a J=> mv J Y Y fun a J=> sw J Y Y Y (R.indexO Tryz.underlying22 sz5 (J.ev Y) (Rd.ne hA (by rw [length_byts]; omega)) (J.ev Y) (by omega) (by omega)) fun a J=> sw J Y Y Y (R.loadO one5 (J.ev Y) (hA.old G) (cb_at (i := i) (by omega) (by omega))) fun a J=> sw J Y Y Y (R.convI Tryz.underlying5 Tryz.underlying3 (J.ev Y) (by omega)) fun a J=> so (wn Y) (O.call Y Y J ent36 (J.evs Y) G (operandOf_calls (cAt xs i) w) fun v s75 a w hR J G=> ?_)
   obtain ⟨rfl, rfl⟩ := hR
   refine s0 <| then_n (hK24 _ _ <| wp_block <| wp_seq_k fun K25 hK25=> wp_region_lit <| eL J Y Y Y fun a J=> av J Y Y fun a J=> s0 <| then_n (hK25 _ _ <| cD J Y (fun c6=> ?_) (fun c6=> ?_)))
   ·have hc3 := oper1 c6; have hsp := sz_push hs2 hc3
    obtain ⟨k, hk⟩ : ∃ k, k = cAt xs (i + 1) := ⟨_, rfl⟩
    have hlk : ((xs.drop (i + 2)).take k).length = k := by (rw [List.length_take, List.length_drop]; omega)
    have hBk : Byt ((xs.drop (i + 2)).take k) := fun d hd => hB d (List.drop_subset _ _ (List.take_subset _ _ hd))
    have hnb : numB ((xs.drop (i + 2)).take k) < 115792089237316195423570985008687907853269984665640564039457584007913129639936 := numB_lt32 (by omega) hBk
    have hdn := len_decS hnb
    refine wp_seq_k fun K26 hK26=> wp_region_lit <| so (wn Y) (O.alloc Y Y J ze101b Y G fun b12 a w J G=> ?_)
    refine s0 <| then_n (hK26 _ _ <| wp_seq_k fun K27 hK27=> wp_drawG G (G.sel [2] Y Y) [(0, 0), (1, 0), (2, 0), (3, 0), (4, 0), (5, 0), (6, 0), (7, 0), (8, 0), (9, 0), (10, 2)] mix (by kernel_rfl) (hP.then.block.then.block.then.block.then) fun w G hD=> ?_)
    refine dm J Y Y Y fun a J=> dv J Y Y Y Y (fun w=> R.subI (J.ev Y) (J.ev Y) (by omega)) fun a J=> dv J Y Y Y Y (fun w=> R.sliceArrLo (p := 32 - k) Tryz.underlying83 sz5 (J.ev Y) ((J.ev Y).trans (congrArg (Value.int .i64) (by omega))) (by omega)) fun a J=> dm J Y Y Y fun a J=> dm J Y Y Y fun a J=> dv J Y Y Y Y (fun w=> R.addI (J.ev Y) (J.ev Y) (by omega)) fun a J=> dm J Y Y Y fun a J=> dm J Y Y Y fun a J=> dv J Y Y Y Y (fun w=> R.addI (J.ev Y) (J.ev Y) (by omega)) fun a J=> dv J Y Y Y Y (fun w=> R.as (u := .slice (if c = i + 2 then A else A.map (·.add ((i + 2) * 1))) k (c - (i + 2))) (R.sliceMid (p := i + 2) (q := i + 2 + k) Tryz.underlying22 (J.ev Y) ((J.ev Y).trans (congrArg (Value.int .i64) (by omega))) ((J.ev Y).trans (congrArg (Value.int .i64) (by omega))) (by omega) (by omega) sz5) (congrArg (fun z=> Value.slice _ z _) (by omega))) fun a J=> ?_
    have hrd : Rd w (if c = i + 2 then A else A.map (·.add ((i + 2) * 1))) (byts ((xs.drop (i + 2)).take k)) := by (rw [← byts_takeK]; exact (rd_dropB (hA.old G) (by omega) (i + 2)).sub k)
    refine dl Y (wn Y) (O.copyAt (cs := byts ((xs.drop (i + 2)).take k)) Y Y J Tryz.underlying22 sz5 (J.ev Y) (J.ev Y) G hrd (by rw [length_byts, hlk, Nat.mul_one]) (by decide) (one_byts _) .h (spl_push hlk (by omega)) (by rw [length_byts]; simp; omega) fun a w J G=> ⟨fun hD=> G.sel [2] Y Y, ?_⟩)
    have hD := G.sel [2] rfl rfl
    refine d0 <| then_n (hK27 _ _ <| wp_seq_k fun K28 hK28=> wp_region_lit <| sw J Y Y Y (R.sliceAll Tryz.underlying83 sz5 (J.ev Y)) fun a J=> so (wn Y) (O.call Y Y J ent37 (J.evs Y) G (read32_calls ((xs.drop (i + 2)).take k) (32 - k) _ (Rd.own0 G .h) (by rw [hlk]; omega) hBk) fun v s91 a w hR J G=> ?_))
    obtain ⟨rfl, rfl⟩ := hR
    refine mv J Y Y fun a J=> xv J Y Y Y fun a J=> xv J Y Y Y fun a J=> so (wn Y) (O.alloc Y Y J ze32 Y G fun b13 a w J G=> ?_)
    refine so (wn Y) (O.storeW sz32 (J.ev Y) (J.ev Y) (Y) Y (by simp [Value.oneCell']) G .h (Y) fun w G=> ?_)
    refine av J Y Y fun a J=> s0 <| then_n (hK28 _ _ <| wp_region_lit <| sw J Y Y Y (R.loadW agg32 (J.ev Y) G .h sz32 (Y)) fun a J=> so (wn Y) (O.call Y Y J ent38 (J.evs Y) G (text_calls (numB ((xs.drop (i + 2)).take k)) w hnb) fun v s95 a w hR J G=> ?_))
    obtain ⟨rfl, rfl⟩ := hR
    refine sw J Y Y Y (R.catS (xs := [32]) (ys := (decS (numB ((xs.drop (i + 2)).take k)))) (J.ev Y) (J.ev Y) (by simp only [List.length_append, List.length_cons, List.length_nil]; omega)) fun a J=> so (wn Y) (O.callK Y Y J ent34 (J.evs Y) G (write_calls b8 (o ++ labN xs l i ++ nameN (cAt xs i)) ([32] ++ (decS (numB ((xs.drop (i + 2)).take k)))) _ w hZ (G.own1 (.t (.t (.t (.t (.t (.t .h))))))) (by simp only [List.length_append, List.length_cons, List.length_nil]; omega)) (fun _=> (.t (.t (.t (.t (.t (.t .h))))))) fun v s97 a w hR J G=> ?_)
    obtain ⟨rfl, hZ⟩ := hR
    refine s0 <| blk_n ?_
    exact then_n (hK22' _ _ ⟨_, J.sub ⟨Y, Y, Y, Y, Y, Y, trivial⟩, G.sel [6, 7, 8] Y Y, (by rw [op_2 hc3, show sizeN xs i - 2 = k by omega]; simpa using hZ)⟩)
   refine wp_seq_k fun K29 hK29=> wp_region_lit <| eL J Y Y Y fun a J=> av J Y Y fun a J=> s0 <| then_n (hK29 _ _ <| cD J Y (fun c7=> ?_) (fun c7=> ?_))
   ·have hc3 := oper2 c7; have hsp := sz_two hs2 hc3; have hdo := len_decS (n := cAt xs (i + 1)) (by omega)
    refine wp_region_lit <| mv J Y Y fun a J=> mv J Y Y fun a J=> aI J Y Y Y (by omega) fun a J=> sw J Y Y Y (R.indexO Tryz.underlying22 sz5 (J.ev Y) (Rd.ne hA (by rw [length_byts]; omega)) (J.ev Y) (by omega) (by omega)) fun a J=> sw J Y Y Y (R.loadO one5 (J.ev Y) (hA.old G) (cb_at (i := i + 1) (by omega) (by omega))) fun a J=> sw J Y Y Y (R.convI Tryz.underlying5 Tryz.underlying3 (J.ev Y) (by omega)) fun a J=> so (wn Y) (O.call Y Y J ent35 (J.evs Y) G (itoa_calls (cAt xs (i + 1)) w (ht.old G) (by omega)) fun v s106 a w hR J G=> ?_)
    obtain ⟨rfl, rfl⟩ := hR
    refine sw J Y Y Y (R.catS (xs := [32]) (ys := (decS (cAt xs (i + 1)))) (J.ev Y) (J.ev Y) (by simp only [List.length_append, List.length_cons, List.length_nil]; omega)) fun a J=> so (wn Y) (O.callK Y Y J ent34 (J.evs Y) G (write_calls b8 (o ++ labN xs l i ++ nameN (cAt xs i)) ([32] ++ (decS (cAt xs (i + 1)))) _ w hZ (G.own1 (.t (.t (.t .h)))) (by simp only [List.length_append, List.length_cons, List.length_nil]; omega)) (fun _=> (.t (.t (.t .h)))) fun v s108 a w hR J G=> ?_)
    obtain ⟨rfl, hZ⟩ := hR
    refine s0 <| blk_n ?_
    exact then_n (hK22' _ _ ⟨_, J.sub ⟨Y, Y, Y, Y, Y, Y, trivial⟩, G.sel [3, 4, 5] Y Y, (by rw [op_4 hc3]; simpa using hZ)⟩)
   refine wp_seq_k fun K30 hK30=> wp_region_lit <| eL J Y Y Y fun a J=> av J Y Y fun a J=> s0 <| then_n (hK30 _ _ <| cD J Y (fun c8=> ?_) (fun c8=> ?_))
   ·have hc3 := oper3 c8; have hsp := sz_three hs2 hc3
    have htg : targetN xs i ≤ 65535 := by (have := cAt_lt hB (i + 2); unfold targetN; omega)
    have hdt := len_decS (n := targetN xs i) (by omega)
    refine wp_region_lit <| mv J Y Y fun a J=> mv J Y Y fun a J=> so (wn Y) (O.call Y Y J ent32 (J.evs Y) G (target_calls A n c xs i w (hA.old G) hn hnc hc hB (by have := sz_three hs2 hc3; omega)) fun v s113 a w hR J G=> ?_)
    obtain ⟨rfl, rfl⟩ := hR
    refine so (wn Y) (O.call Y Y J ent35 (J.evs Y) G (itoa_calls (targetN xs i) w (ht.old G) (by omega)) fun v s114 a w hR J G=> ?_)
    obtain ⟨rfl, rfl⟩ := hR
    refine sw J Y Y Y (R.catS (xs := [32, 76]) (ys := (decS (targetN xs i))) (J.ev Y) (J.ev Y) (by simp only [List.length_append, List.length_cons, List.length_nil]; omega)) fun a J=> so (wn Y) (O.callK Y Y J ent34 (J.evs Y) G (write_calls b8 (o ++ labN xs l i ++ nameN (cAt xs i)) ([32, 76] ++ (decS (targetN xs i))) _ w hZ (G.own1 (.t (.t (.t (.t .h))))) (by simp only [List.length_append, List.length_cons, List.length_nil]; omega)) (fun _=> (.t (.t (.t (.t .h))))) fun v s116 a w hR J G=> ?_)
    obtain ⟨rfl, hZ⟩ := hR
    refine s0 <| blk_n ?_
    exact then_n (hK22' _ _ ⟨_, J.sub ⟨Y, Y, Y, Y, Y, Y, trivial⟩, G.sel [4, 5, 6] Y Y, (by rw [op_j hc3]; simpa using hZ)⟩)
   refine wp_skip <| blk_n ?_
   exact then_n (hK22' _ _ ⟨_, J.sub ⟨Y, Y, Y, Y, Y, Y, trivial⟩, G.sel [2, 3, 4] Y Y, (by rw [op_n (by have := operN_spec (cAt xs i); omega), List.append_nil]; exact hZ)⟩)
  refine wp_seq_k fun K31 hK31=> wp_region_lit <| mv J Y Y fun a J=> sw J Y Y Y (R.indexA Tryz.underlying69 sz4 (J.ev Y) (J.ev Y) (by omega) (by omega)) fun a J=> sw J Y Y Y (R.load one4 (J.ev Y) G (.t (.t (.t .h))) (begL_at (j := i) (by omega) (by omega))) fun a J=> s0 <| then_n (hK31 _ _ <| cD J Y (fun c5=> ?_) (fun c5=> ?_))
  ·refine wp_region_lit <| mv J Y Y fun a J=> so (wn Y) (O.call Y Y J ent35 (J.evs Y) G (itoa_calls (i) w (ht.old G) (by omega)) fun v s57 a w hR J G=> ?_)
   obtain ⟨rfl, rfl⟩ := hR
   refine sw J Y Y Y (R.catS (xs := [76]) (ys := decS i) (J.ev Y) (J.ev Y) (by simp only [List.length_append, List.length_cons, List.length_nil]; omega)) fun a J=> sw J Y Y Y (R.catS (xs := ([76] ++ decS i)) (ys := [58, 10]) (J.ev Y) (J.ev Y) (by simp only [List.length_append, List.length_cons, List.length_nil]; omega)) fun a J=> so (wn Y) (O.callK Y Y J ent34 (J.evs Y) G (write_calls b8 o (([76] ++ decS i) ++ [58, 10]) _ w hZ (G.own1 (.t (.t .h))) (by simp only [List.length_append, List.length_cons, List.length_nil]; omega)) (fun _=> (.t (.t .h))) fun v s60 a w hR J G=> ?_)
   obtain ⟨rfl, hZ⟩ := hR
   refine s0 ?_
   exact then_n (hK19' _ _ ⟨_, J.sub ⟨Y, Y, Y, Y, Y, Y, trivial⟩, G.sel [2, 3, 4] Y Y, (by rw [lab_T c5]; simpa using hZ)⟩)
  refine wp_skip ?_
  exact then_n (hK19' _ _ ⟨_, J.sub ⟨Y, Y, Y, Y, Y, Y, trivial⟩, G.sel [1, 2, 3] Y Y, (by rw [lab_F c5, List.append_nil]; exact hZ)⟩)
 have hre : r = [] := by (rw [plcs_end (p := i) (by omega)] at hr; simpa using hr.symm)
 subst hre
 rw [List.append_nil] at hlr
 subst hlr
 refine wp_exit (then_x (then_x (blk_hit <| then_n (hK14 _ _ <| wp_seq_k fun K32 hK32=> wp_region_lit <| so (wn Y) (string_op Y Y J (J.evs Y) G .h hZ fun a w J G=> ?_)))))
 refine av J Y Y fun a J=> av J Y Y fun a J=> s0 <| then_n (hK32 _ _ <| wp_ret (hR _ _ _ _ _ J (run_results Tryz.results9 (.t J Y (.t J Y (.nil)))) ?_))
 exact ⟨_, [], Y, ⟨by rw [text_of hl, ← ho]; rfl, Y⟩, G⟩
theorem mtext_bad (A : Option Addr) (n c : Nat) (xs : List Nat) (w0 : World) (hA : Rd w0 A (byts xs)) (hn : xs.length = n) (hnc : n ≤ c) (hc : c ≤ 9223372036854775807) (hB : Byt xs) (hck : chkN xs = false) : Ret Tryz.prog 9 [.slice A n c] w0 [] (fun v s => v = .tuple #[.string ⟨#[]⟩, .int .i64 100] ∧ s = []) := by
 refine fn_start Tryz.func9 Y Tryz.ntmps9 Y [(0, .slice A n c)] ⟨Y, trivial⟩ ?_
 intro Q a hP J hR hN
 have G := St.start w0
 refine wp_seq_k fun K1 hK1=> wp_region_lit <| av J Y Y fun a J=> av J Y Y fun a J=> s0 <| then_n (hK1 _ _ <| wp_seq_k fun K2 hK2=> wp_seq_k fun K3 hK3=> wp_region_lit <| mv J Y Y fun a J=> so (wn Y) (O.call Y Y J ent14 (J.evs Y) G (check_calls A n c xs _ (hA.old G) hn hnc hc hB) fun v s16 a w hR J G=> ?_))
 obtain ⟨rfl, rfl⟩ := hR
 rw [show chkV xs = .int .i64 100 from by rw [chkV, hck]; rfl] at J
 refine av J Y Y fun a J=> s0 <| then_n (hK3 _ _ <| wp_seq_k fun K4 hK4=> wp_region_lit <| mv J Y Y fun a J=> sw J Y Y Y (R.as (u := .bool true) (R.neq (p := 100) (q := 0) (J.ev Y) (J.ev Y)) (Y)) fun a J=> s0 <| then_n (hK4 _ _ <| cT J Y <| wp_seq_k fun K5 hK5=> wp_region_lit <| mv J Y Y fun a J=> av J Y Y fun a J=> av J Y Y fun a J=> s0 <| then_n (hK5 _ _ <| wp_ret (then_r (hR _ _ _ _ _ J (run_results Tryz.results9 (.t J Y (.t J Y (.nil)))) ?_)))))
 exact ⟨_, [], Y, ⟨Y, Y⟩, G.none⟩
end Go.Proofs.YtlapmbkfmbkdoaaGreatDoor
end
section
namespace Go.Proofs.YtlapmbkfmbkdoaaGreatDoor
open Go Go.Fw Go.RowKit
attribute [local irreducible] Go.Oper.wp Go.Code.wp Go.wpList Go.Fw.WL Go.Calls
theorem plc_len {xs : List Nat} : ∀ (f p : Nat) (l : List Nat), plc xs f p = some l → l.length ≤ xs.length - p
  | 0, _, _, h => by simp [plc] at h
  | f + 1, p, l, h => by
    simp only [plc] at h
    split at h
    · simp at h; subst h; simp
    split at h
    · simp at h
    · rename_i h1 h2
      cases hr : plc xs f (p + sizeN xs p) with
      | none => rw [hr] at h; simp at h
      | some r =>
        rw [hr] at h
        simp only [Option.map_some, Option.some.injEq] at h
        subst h
        have := plc_len f _ r hr
        have := (sizeN_le xs p).resolve_left h2
        rw [List.length_cons]; omega
def tS (xs : List Nat) : List Nat := if chkN xs then textN xs else []
def tE (xs : List Nat) : Int := if chkN xs then 0 else 100
theorem chk_places {xs : List Nat} (h : chkN xs = true) : ∃ l, placesN xs = some l ∧ xs.length ≤ 1024 ∧ l.length ≤ 1024 := by
  have h3 : xs.length ≤ 1024 := by
    simp only [chkN, Bool.and_eq_true, decide_eq_true_eq] at h; omega
  cases hl : placesN xs with
  | none => simp [chkN, hl] at h
  | some l => exact ⟨l, rfl, h3, by have := plc_len _ _ _ hl; omega⟩
theorem rtext_calls (A : Option Addr) (n c : Nat) (xs : List Nat) (w0 : World) (hA : Rd w0 A (byts xs)) (hn : xs.length = n) (hnc : n ≤ c) (hc : c ≤ 9223372036854775807) (hB : Byt xs) : Ret Tryz.prog 8 [.slice A n c] w0 [] (fun v s => v = .tuple #[.string (bstr (tS xs)), .int .i64 (tE xs)] ∧ s = []) := by
  cases hck : chkN xs with
  | true =>
    obtain ⟨l, hl, h3, h4⟩ := chk_places hck
    have := rtext_good A n c xs l w0 hA hn hnc hc hB hck hl (by omega) (places_mem hl) h4
    simpa only [tS, tE, hck, if_true] using this
  | false =>
    have := rtext_bad A n c xs w0 hA hn hnc hc hB hck
    simp only [tS, tE, hck, Bool.false_eq_true, if_false]
    exact this
theorem mtext_calls (A : Option Addr) (n c : Nat) (xs : List Nat) (w0 : World) (hA : Rd w0 A (byts xs)) (hn : xs.length = n) (hnc : n ≤ c) (hc : c ≤ 9223372036854775807) (hB : Byt xs) (ht : TabW w0) : Ret Tryz.prog 9 [.slice A n c] w0 [] (fun v s => v = .tuple #[.string (bstr (tS xs)), .int .i64 (tE xs)] ∧ s = []) := by
  cases hck : chkN xs with
  | true =>
    obtain ⟨l, hl, h3, h4⟩ := chk_places hck
    have := mtext_good A n c xs l w0 hA hn hnc hc hB ht hck hl (by omega)
    simpa only [tS, tE, hck, if_true] using this
  | false =>
    have := mtext_bad A n c xs w0 hA hn hnc hc hB hck
    simp only [tS, tE, hck, Bool.false_eq_true, if_false]
    exact this
theorem pow_laid {W : World} (h : laidMet Tryz.prog Rows.machineTextsRow.laid W) : TabW W := by
  obtain ⟨ps, ⟨_, _, _, _, _, _, _, _, _, _, ⟨_, _, _, _, _, _, _, _, _, _, ⟨g, t, cs, fuel, p, q, hg, ht, hvar, hd, _, _⟩, _⟩, _⟩, _⟩ := h
  obtain ⟨g0, e0⟩ := pow_global
  obtain rfl := Option.some.inj (e0.symm.trans hg)
  obtain rfl := Option.some.inj ((show (Tryz.prog.globals[g0]?).map (·.type) = some 194 by
    rw [show g0 = 2 from Option.some.inj (e0.symm.trans (by kernel_rfl))]; kernel_rfl).symm.trans ht)
  unfold TabW Lib.TabIs
  rw [hvar, ← Lib.cells_of_tab (k := .u64) (zs := Lib.pow10Tab) Tryz.underlying194 Tryz.underlying30 (by kernel_rfl) (by kernel_rfl) hd]
end Go.Proofs.YtlapmbkfmbkdoaaGreatDoor
end
section
namespace Go.Proofs.YtlapmbkfmbkdoaaGreatDoor
open Go Go.Fw Go.RowKit
attribute [local irreducible] Go.Oper.wp Go.Code.wp Go.wpList Go.Fw.WL Go.Calls
theorem own_room {s : Seg} {A : Option Addr} {n c i : Nat} {xs : List Nat} (h : OwnS s A (n + i + 1) c (byts (xs ++ List.replicate i 201) ++ [.int .u8 201]) 5 1) : OwnS s A (n + (i + 1)) c (byts (xs ++ List.replicate (i + 1) 201)) 5 1 := by
  rw [List.replicate_succ', ← List.append_assoc, byts_app (xs ++ _)]
  exact h
theorem room_at {xs : List Nat} {i off : Nat} (h : xs.length ≤ i) (h2 : i < xs.length + 80) (ho : off = i) : (byts (xs ++ List.replicate 80 201))[off]? = some (.int .u8 201) := by
  subst ho
  rw [byts_app, List.getElem?_append_right (by rw [length_byts]; omega), length_byts, byts, List.getElem?_map, List.getElem?_replicate, if_pos (by omega)]
  rfl
theorem sameBytes_eq (A B : Option Addr) (n c d : Nat) (xs : List Nat) (w0 : World) (hA : Rd w0 A (byts xs)) (hB : Rd w0 B (byts xs)) (hn : xs.length = n) : Ret Tryz.prog 19 [.slice A n c, .slice B n d] w0 [] (fun v s => v = .bool true ∧ s = []) := by
 refine fn_start Tryz.func19 Y Tryz.ntmps19 Y [(0, .slice A n c), (1, .slice B n d)] ⟨Y, Y, trivial⟩ ?_
 intro Q a hP J hR hN
 have G := St.start w0
 refine wp_seq_k fun K1 hK1=> wp_region_lit <| av J Y Y fun a J=> s0 <| then_n (hK1 _ _ <| wp_seq_k fun K2 hK2=> wp_region_lit <| mv J Y Y fun a J=> sw J Y Y Y (R.convStr Tryz.underlying22 Tryz.underlying5 Tryz.underlying9 (J.ev Y) (hA.old G) hn) fun a J=> mv J Y Y fun a J=> sw J Y Y Y (R.convStr Tryz.underlying22 Tryz.underlying5 Tryz.underlying9 (J.ev Y) (hB.old G) hn) fun a J=> sw J Y Y Y (R.as (u := .bool true) (R.eqlStr (J.ev Y) (J.ev Y)) (congrArg Value.bool (decide_eq_true (Y)))) fun a J=> av J Y Y fun a J=> s0 <| then_n (hK2 _ _ <| wp_ret (hR _ _ _ _ _ J (run_results Tryz.results19 (.t J Y (.nil))) ?_)))
 exact ⟨_, [], Y, ⟨Y, Y⟩, G.none⟩
theorem room_calls (A : Option Addr) (n c : Nat) (xs : List Nat) (w0 : World) (hA : Rd w0 A (byts xs)) (hn : xs.length = n) (hb : n ≤ 140737488351232) : Ret Tryz.prog 11 [.slice A n c, .int .u8 201] w0 [] (fun v s => ∃ B d, v = .slice B (n + 80) d ∧ OwnS s B (n + 80) d (byts (xs ++ List.replicate 80 201)) 5 1) := by
 refine fn_start Tryz.func11 Y Tryz.ntmps11 Y [(0, .slice A n c), (1, .int .u8 201)] ⟨Y, Y, trivial⟩ ?_
 intro Q a hP J hR hN
 have G := St.start w0
 refine wp_seq_k fun K1 hK1=> wp_region_lit <| av J Y Y fun a J=> s0 <| then_n (hK1 _ _ <| wp_seq_k fun K2 hK2=> wp_region_lit <| so (wn Y) (O.buildSlice (l := []) Y Y J Tryz.underlying22 inf5 Y Y (J.evp Y) (by decide) Y G fun b7 a w J G=> ?_))
 refine mv J Y Y fun a J=> so (wn Y) (O.appendO Y Y J Tryz.underlying22 inf5 Y Y (by decide) (J.ev Y) (J.ev Y) G (own_nil5 b7) (fun _=> .h) (hA.old G) (by rw [length_byts, Nat.mul_one, hn]) (byts_one xs) (by unfold maxLen; omega) (by omega) fun A9 c9 s9 a w hO9 J G=> ?_)
 rw [Nat.zero_add] at J hO9; rw [show byts [] = [] from rfl, List.nil_append] at hO9
 refine av J Y Y fun a J=> s0 <| then_n (hK2 _ _ <| wp_seq_k fun K3 hK3=> wp_seq_k fun K4 hK4=> wp_region_lit <| av J Y Y fun a J=> s0 <| then_n (hK4 _ _ <| wp_block <| wp_loop_N (fun g a w=> ∃ (i : Nat) (B : Option Addr) (d : Nat) (z : Seg), 80 - i = g ∧ Fr 19 [(1, .int .u8 201), (5, .slice B (n + i) d), (6, .int .i64 ((i : Nat) : Int))] a ∧ St w0 [] [z] w ∧ (i ≤ 80) ∧ (OwnS z B (n + i) d (byts (xs ++ List.replicate i 201)) 5 1)) (80 - 0) ?_ ?_))
 ·exact ⟨0, A9, c9, s9, Y, J.sub ⟨Y, Y, Y, trivial⟩, G.sel [0] Y Y, by omega, by simpa using hO9⟩
 rintro KL1 g a w ⟨i, B, d, z, hg1, J, G, hi, hO⟩ hKL1
 refine wp_seq_k fun K5 hK5=> wp_seq_k fun K6 hK6=> wp_region_lit <| mv J Y Y fun a J=> lS J Y Y Y fun a J=> s0 <| then_n (hK6 _ _ <| cD J Y (fun c1=> ?_) (fun c1=> ?_))
 ·refine wp_skip <| then_n (hK5 _ _ <| wp_seq_k fun K7 hK7=> wp_block <| wp_region_lit <| mv J Y Y fun a J=> mv J Y Y fun a J=> so (wn Y) (O.buildSlice (l := [_]) Y Y J Tryz.underlying22 inf5 Y Y (J.evp Y) (by decide) Y G fun b16 a w J G=> ?_))
  refine so (wn Y) (O.append Y Y J Tryz.underlying22 inf5 Y Y (by decide) (J.ev Y) (J.ev Y) G hO (fun _=> (.t .h)) (Rd.own0 G .h) (Y) (by simp [Value.oneCell']) (by unfold maxLen; omega) (by omega) fun A17 c17 s17 a w hO17 J G=> ?_)
  refine av J Y Y fun a J=> s0 <| blk_n <| then_n (hK7 _ _ <| wp_region_lit <| mv J Y Y fun a J=> aI J Y Y Y (by omega) fun a J=> av J Y Y fun a J=> s0 <| then_n (hKL1 (80 - (i + 1)) _ _ ?_ ?_))
  ·omega
  exact ⟨i + 1, A17, c17, s17, Y, J.sub ⟨Y, Y, (congrArg (fun z => some (Value.int .i64 z)) (by omega)), trivial⟩, G.sel [1] Y Y, by omega, own_room hO17⟩
 obtain rfl : i = 80 := by omega
 refine wp_exit (then_x (then_x (blk_hit <| then_n (hK3 _ _ <| wp_seq_k fun K8 hK8=> wp_region_lit <| mv J Y Y fun a J=> av J Y Y fun a J=> s0 <| then_n (hK8 _ _ <| wp_ret (hR _ _ _ _ _ J (run_results Tryz.results11 (.t J Y (.nil))) ?_))))))
 exact ⟨_, z, Y, ⟨B, d, Y, hO⟩, G.one .h⟩
theorem unmarked_calls (B A : Option Addr) (n d c : Nat) (xs : List Nat) (w0 : World) (hRm : Rd w0 B (byts (xs ++ List.replicate 80 201))) (hA : Rd w0 A (byts xs)) (hn : xs.length = n) (hd : n + 80 ≤ d) (hd2 : d ≤ 9223372036854775807) : Ret Tryz.prog 16 [.slice B (n + 80) d, .slice A n c, .int .u8 201] w0 [] (fun v s => v = .bool true ∧ s = []) := by
 refine fn_start Tryz.func16 Y Tryz.ntmps16 Y [(0, .slice B (n + 80) d), (1, .slice A n c), (2, .int .u8 201)] ⟨Y, Y, Y, trivial⟩ ?_
 intro Q a hP J hR hN
 have G := St.start w0
 refine wp_seq_k fun K1 hK1=> wp_region_lit <| av J Y Y fun a J=> s0 <| then_n (hK1 _ _ <| wp_seq_k fun K2 hK2=> wp_seq_k fun K3 hK3=> wp_region_lit <| mv J Y Y fun a J=> sw J Y Y Y (R.len Tryz.underlying22 (J.ev Y)) fun a J=> mv J Y Y fun a J=> sw J Y Y Y (R.len Tryz.underlying22 (J.ev Y)) fun a J=> aI J Y Y Y (by omega) fun a J=> sw J Y Y Y (R.as (u := .bool false) (R.neq (p := ((n + 80 : Nat) : Int)) (q := ((n : Nat) : Int) + 80) (J.ev Y) (J.ev Y)) (congrArg Value.bool (decide_eq_false (fun h=> h (by omega))))) fun a J=> mv J Y Y fun a J=> my J Y Y Y Y fun a J=> my J Y Y Y Y fun a J=> sv' J (wy J Y Y Y) Y Y (R.len Tryz.underlying22 (J.ev Y)) fun a J=> sv' J (wy J Y Y Y) Y Y (R.sliceHi Tryz.underlying22 (J.ev Y) (J.ev Y) (by omega) (by omega) _ sz5) fun a J=> my J Y Y Y Y fun a J=> so (wy J Y Y Y) (O.call Y Y J ent19 (J.evs Y) G (sameBytes_eq B A n d c xs _ ((by rw [byts_app] at hRm; exact rd_app hRm : Rd w0 B (byts xs)).old G) (hA.old G) hn) fun v s20 a w hR J G=> ?_))
 obtain ⟨rfl, rfl⟩ := hR
 refine sv' J (wy J Y Y Y) Y Y (R.as (u := .bool false) (R.not (J.ev Y)) (Y)) fun a J=> pF J Y Y Y fun a J=> s0 <| then_n (hK3 _ _ <| cF J Y <| wp_skip <| then_n (hK2 _ _ <| wp_seq_k fun K4 hK4=> wp_seq_k fun K5 hK5=> wp_region_lit <| mv J Y Y fun a J=> sw J Y Y Y (R.len Tryz.underlying22 (J.ev Y)) fun a J=> av J Y Y fun a J=> s0 <| then_n (hK5 _ _ <| wp_block <| wp_loop_N (fun g a w=> ∃ (i : Nat), n + 80 - i = g ∧ Fr 37 [(0, .slice B (n + 80) d), (2, .int .u8 201), (7, .int .i64 ((i : Nat) : Int))] a ∧ St w0 [] [] w ∧ (n ≤ i) ∧ (i ≤ n + 80)) (n + 80 - n) ?_ ?_)))
 ·exact ⟨n, Y, J.sub ⟨Y, Y, Y, trivial⟩, G.sel [] Y Y, Nat.le_refl _, by omega⟩
 rintro KL1 g a w ⟨i, hg1, J, G, hi1, hi2⟩ hKL1
 refine wp_seq_k fun K6 hK6=> wp_seq_k fun K7 hK7=> wp_region_lit <| mv J Y Y fun a J=> mv J Y Y fun a J=> sw J Y Y Y (R.len Tryz.underlying22 (J.ev Y)) fun a J=> lS J Y Y Y fun a J=> s0 <| then_n (hK7 _ _ <| cD J Y (fun c2=> ?_) (fun c2=> ?_))
 ·refine wp_skip <| then_n (hK6 _ _ <| wp_seq_k fun K8 hK8=> wp_block <| wp_seq_k fun K9 hK9=> wp_region_lit <| mv J Y Y fun a J=> mv J Y Y fun a J=> sw J Y Y Y (R.indexO Tryz.underlying22 sz5 (J.ev Y) (Rd.ne (hRm.old G) (by rw [length_byts, List.length_append, List.length_replicate]; omega)) (J.ev Y) (by omega) (by omega)) fun a J=> sw J Y Y Y (R.loadO one5 (J.ev Y) (hRm.old G) (room_at (i := i) (by omega) (by omega) (by omega))) fun a J=> mv J Y Y fun a J=> sw J Y Y Y (R.as (u := .bool false) (R.neq (p := 201) (q := 201) (J.ev Y) (J.ev Y)) (congrArg Value.bool (decide_eq_false (fun h=> h (Y))))) fun a J=> s0 <| then_n (hK9 _ _ <| cF J Y <| wp_skip <| blk_n <| then_n (hK8 _ _ <| wp_region_lit <| mv J Y Y fun a J=> aI J Y Y Y (by omega) fun a J=> av J Y Y fun a J=> s0 <| then_n (hKL1 (n + 80 - (i + 1)) _ _ ?_ ?_))))
  ·omega
  exact ⟨i + 1, Y, J.sub ⟨Y, Y, (congrArg (fun z => some (Value.int .i64 z)) (by omega)), trivial⟩, G.sel [] Y Y, by omega, by omega⟩
 refine wp_exit (then_x (then_x (blk_hit <| then_n (hK4 _ _ <| wp_seq_k fun K10 hK10=> wp_region_lit <| av J Y Y fun a J=> s0 <| then_n (hK10 _ _ <| wp_ret (hR _ _ _ _ _ J (run_results Tryz.results16 (.t J Y (.nil))) ?_))))))
 exact ⟨_, [], Y, ⟨Y, Y⟩, G.none⟩
end Go.Proofs.YtlapmbkfmbkdoaaGreatDoor
end
section
namespace Go.Proofs.YtlapmbkfmbkdoaaGreatDoor
open Go Go.Fw Go.RowKit
attribute [local irreducible] Go.Oper.wp Go.Code.wp Go.wpList Go.Fw.WL Go.Calls
def WM : Nat := 502168138830934461133745460843367451903233875581981794762829
theorem wm_wc : [Value.int .u64 77, .int .u64 78, .int .u64 79, .int .u64 80] = wc WM := by kernel_rfl
theorem wm_wv : Value.agg #[Value.int .u64 77, .int .u64 78, .int .u64 79, .int .u64 80] = wv WM := by kernel_rfl
theorem wm_lt : WM < 115792089237316195423570985008687907853269984665640564039457584007913129639936 := by decide
def argsM (l : List Nat) (i : Nat) : List Nat := l ++ List.replicate i WM
theorem own_wm {s : Seg} {A : Option Addr} {c i : Nat} {l : List Nat} (h : OwnS s A (l.length + i + 1) c ((argsM l i).flatMap wc ++ [.int .u64 77, .int .u64 78, .int .u64 79, .int .u64 80]) 32 4) : OwnS s A (l.length + (i + 1)) c ((argsM l (i + 1)).flatMap wc) 32 4 := by
  unfold argsM at h ⊢
  rw [List.replicate_succ', ← List.append_assoc, List.flatMap_append, List.flatMap_singleton, ← wm_wc]
  exact h
theorem argsM_lo {l : List Nat} {k i : Nat} (h : i < l.length) : (argsM l k).getD i 0 = l.getD i 0 := by
  unfold argsM
  rw [List.getD_eq_getElem?_getD, List.getElem?_append_left h, List.getD_eq_getElem?_getD]
theorem argsM_hi {l : List Nat} {k i : Nat} (h : l.length ≤ i) (h2 : i < l.length + k) : (argsM l k).getD i 0 = WM := by
  unfold argsM
  rw [List.getD_eq_getElem?_getD, List.getElem?_append_right h, List.getElem?_replicate, if_pos (by omega)]; rfl
theorem argsM_len (l : List Nat) (k : Nat) : (argsM l k).length = l.length + k := by simp [argsM]
theorem argsM_lt {l : List Nat} {k : Nat} (h : ∀ x ∈ l, x < 115792089237316195423570985008687907853269984665640564039457584007913129639936) (i : Nat) : (argsM l k).getD i 0 < 115792089237316195423570985008687907853269984665640564039457584007913129639936 := by
  by_cases h1 : i < l.length
  · rw [argsM_lo h1]; exact h _ (getD_mem h1)
  · by_cases h2 : i < l.length + k
    · rw [argsM_hi (by omega) h2]; exact wm_lt
    · rw [List.getD_eq_getElem?_getD, List.getElem?_eq_none (by rw [argsM_len]; omega)]; decide
theorem rdk_app {w : World} {ks : List Nat} {A : Option Addr} {xs ys : List Value} (h : RdK w ks A (xs ++ ys)) : RdK w ks A xs := by
  have := h.part xs.length
  rwa [List.take_left] at this
theorem rd_room {w : World} {A : Option Addr} {xs ys : List Nat} (h : Rd w A (byts (xs ++ ys))) : Rd w A (byts xs) := by
  rw [byts_app] at h; exact rd_app h
theorem rdk_room {w : World} {ks : List Nat} {A : Option Addr} {xs ys : List Nat} (h : RdK w ks A (byts (xs ++ ys))) : RdK w ks A (byts xs) := by
  rw [byts_app] at h; exact rdk_app h
theorem rdk_args {w : World} {ks : List Nat} {A : Option Addr} {l : List Nat} {k : Nat} (h : RdK w ks A ((argsM l k).flatMap wc)) : RdK w ks A (l.flatMap wc) := by
  unfold argsM at h
  rw [List.flatMap_append] at h; exact rdk_app h
def overL (ys : List Nat) (T : List Value) (i : Nat) : List Value := byts (ys.take i) ++ T.drop i
theorem overL_0 (ys : List Nat) (T : List Value) : T = overL ys T 0 := by simp [overL, byts]
theorem overL_set {ys : List Nat} {T : List Value} {i off : Nat} (h : i < ys.length) (hT : i < T.length) (ho : off = i) : (overL ys T i).set off (.int .u8 ((cAt ys i : Nat) : Int)) = overL ys T (i + 1) := by
  subst ho
  have hl : (byts (ys.take off)).length = off := by rw [length_byts, List.length_take]; omega
  have e : cAt ys off = ys[off] := by unfold cAt; rw [List.getD_eq_getElem?_getD, List.getElem?_eq_getElem h]; rfl
  unfold overL
  rw [List.set_append_right _ _ (by omega), hl, Nat.sub_self, List.drop_eq_getElem_cons hT, List.set_cons_zero, List.take_succ_eq_append_getElem h, byts_app, List.append_assoc, e]
  rfl
theorem overL_len {ys : List Nat} {T : List Value} {i : Nat} (h : i ≤ ys.length) (hT : i ≤ T.length) : (overL ys T i).length = T.length := by
  unfold overL; rw [List.length_append, length_byts, List.length_take, List.length_drop]; omega
theorem overL_end {ys xs : List Nat} {T : List Value} {i : Nat} (hx : i ≤ xs.length) : overL ys (byts xs ++ T) i = byts (ys.take i ++ xs.drop i) ++ T := by
  unfold overL
  rw [List.drop_append_of_le_length (by rw [length_byts]; exact hx), byts_dropK, byts_app, List.append_assoc]
theorem play_in2 {F : Fx} {w : World} (hp : PlayIn F w) {A : Option Addr} {c : Nat} {xs : List Nat} (hB : Byt xs) (hc : xs.length ≤ c) (hc2 : c ≤ 9223372036854775807) (hR : Rd w A (byts xs)) (hb : xs.length ≤ 140737488351232) : PlayIn { F with cA := A, cc := c, code := xs } w :=
  ⟨⟨hB, hc, hc2, hp.ok.argsW, hp.ok.acap, hp.ok.acap2, hp.ok.self, hp.ok.caller, hp.ok.amount, hp.ok.reps, hp.ok.qlen⟩, hp.inner, hR, hp.args, hp.reps, hb, hp.b2, hp.b3, hp.tok, hp.time, hp.gas, hp.errs⟩
set_option maxHeartbeats 4000000 in
theorem keeps_calls (F : Fx) (B : Option Addr) (e : Nat) (ys : List Nat) (w0 : World) (hp : PlayIn F w0) (hI : Rd w0 B (byts ys)) (hIB : Byt ys) (hc : ys.length ≤ e) (hc2 : e ≤ 9223372036854775807) (ht : TabW w0) : Ret Tryz.prog 4 [.agg (plays F).toArray, .slice B ys.length e] w0 [] (fun v s => v = .bool true ∧ s = []) := by
 refine fn_start Tryz.func4 Y Tryz.ntmps4 Y [(0, .agg (plays F).toArray), (1, .slice B ys.length e)] ⟨Y, Y, trivial⟩ ?_
 intro Q a hP J hR hN
 have G := St.start w0
 have hb1 := hp.b1; have hb2 := hp.b2; have hb3 := hp.b3
 refine wp_seq_k fun K1 hK1=> wp_region_lit <| so (wn Y) (O.box Y Y J (J.ev Y) Y G fun b2 a w J G=> ?_)
 refine av J Y Y fun a J=> s0 <| then_n (hK1 _ _ <| wp_seq_k fun K2 hK2=> wp_region_lit <| sw J Y Y Y (R.fieldAddr (k := 0) Tryz.underlying38 Y nz22 (J.ev Y) Y) fun a J=> sw J Y Y Y (R.load one22 (J.ev Y) G .h (Y)) fun a J=> so (wn Y) (O.call Y Y J ent11 (J.evs Y) G (room_calls F.cA F.code.length F.cc F.code w (hp.code.old G) Y hp.b1) fun v s26 a w hR J G=> ?_))
 obtain ⟨A26, c26, rfl, hO26⟩ := hR
 refine av J Y Y fun a J=> s0 <| then_n (hK2 _ _ <| wp_seq_k fun K3 hK3=> wp_region_lit <| so (wn Y) (O.buildSlice (l := []) Y Y J Tryz.underlying33 inf32 Y Y (J.evp Y) (by decide) Y G fun b27 a w J G=> ?_))
 refine sw J Y Y Y (R.fieldAddr (k := 1) Tryz.underlying38 Y nz35 (J.ev Y) Y) fun a J=> sw J Y Y Y (R.fieldAddr (k := 45) Tryz.underlying35 Y nz33 (J.ev Y) Y) fun a J=> sw J Y Y Y (R.load one33 (J.ev Y) G (.t (.t .h)) (Y)) fun a J=> so (wn Y) (O.appendO Y Y J Tryz.underlying33 inf32 Y Y (by decide) (J.ev Y) (J.ev Y) G (own_nil31 b27) (fun _=> .h) (hp.args.old G) (wcs_length _) (wcs_one _) (by unfold maxLen; omega) (by omega) fun A31 c31 s31 a w hO31 J G=> ?_)
 rw [Nat.zero_add] at J hO31; rw [List.flatMap_nil, List.nil_append] at hO31
 refine av J Y Y fun a J=> s0 <| then_n (hK3 _ _ <| wp_seq_k fun K4 hK4=> wp_seq_k fun K5 hK5=> wp_region_lit <| av J Y Y fun a J=> s0 <| then_n (hK5 _ _ <| wp_block <| wp_loop_N (fun g a w=> ∃ (i : Nat) (A6 : Option Addr) (c6 : Nat) (z : Seg), 12 - i = g ∧ Fr 246 [(1, .slice B ys.length e), (2, .pointer (some ⟨b2, 0, none⟩)), (5, .slice A26 (F.code.length + 80) c26), (6, .slice A6 (F.cl.args.length + i) c6), (7, .int .i64 ((i : Nat) : Int))] a ∧ St w0 [] [z, s26, [(b2, Cel (plays F) 38)]] w ∧ (i ≤ 12) ∧ (OwnS z A6 (F.cl.args.length + i) c6 ((argsM F.cl.args i).flatMap wc) 32 4)) (12 - 0) ?_ ?_))
 ·exact ⟨0, A31, c31, s31, Y, J.sub ⟨Y, Y, Y, Y, Y, trivial⟩, G.sel [0, 1, 2] Y Y, by omega, by simpa [argsM] using hO31⟩
 rintro KL1 g a w ⟨i, A6, c6, z, hg1, J, G, hi, hO6⟩ hKL1
 refine wp_seq_k fun K6 hK6=> wp_seq_k fun K7 hK7=> wp_region_lit <| mv J Y Y fun a J=> lS J Y Y Y fun a J=> s0 <| then_n (hK7 _ _ <| cD J Y (fun c1=> ?_) (fun c1=> ?_))
 ·refine wp_skip <| then_n (hK6 _ _ <| wp_seq_k fun K8 hK8=> wp_block <| wp_region_lit <| mv J Y Y fun a J=> sw J Y Y Y (R.buildArr (l := [_, _, _, _]) Tryz.underlying32 ze32 sz30 (J.evp Y) Y) fun a J=> so (wn Y) (O.buildSlice (l := [_, _, _, _]) Y Y J Tryz.underlying33 inf32 Y Y (J.evp Y) (by decide) Y G fun b38 a w J G=> ?_))
  refine so (wn Y) (O.append Y Y J Tryz.underlying33 inf32 Y Y (by decide) (J.ev Y) (J.ev Y) G hO6 (fun _=> (.t .h)) (Rd.own0 G .h) (Y) (by simp [Value.oneCell']) (by unfold maxLen; omega) (by omega) fun A39 c39 s39 a w hO39 J G=> ?_)
  refine av J Y Y fun a J=> s0 <| blk_n <| then_n (hK8 _ _ <| wp_region_lit <| mv J Y Y fun a J=> aI J Y Y Y (by omega) fun a J=> av J Y Y fun a J=> s0 <| then_n (hKL1 (12 - (i + 1)) _ _ ?_ ?_))
  ·omega
  exact ⟨i + 1, A39, c39, s39, Y, J.sub ⟨Y, Y, Y, Y, (congrArg (fun z => some (Value.int .i64 z)) (by omega)), trivial⟩, G.sel [1, 2, 3] Y Y, by omega, own_wm hO39⟩
 obtain rfl : i = 12 := by omega
 have h6 := hO6.2.1; have h6c := hO6.cap; have h26 := hO26.2.1; have h26c := hO26.cap
 refine wp_exit (then_x (then_x (blk_hit <| then_n (hK4 _ _ <| wp_seq_k fun K9 hK9=> wp_region_lit <| sw J Y Y Y (R.fieldAddr (k := 1) Tryz.underlying38 Y nz35 (J.ev Y) Y) fun a J=> sw J Y Y Y (R.loadA (cs := [_, _, _, _, _, _, _, _, _, _, _, _, _, _, _, _, _, _, _, _, _, _, _, _, _, _, _, _, _, _, _, _, _, _, _, _, _, _, _, _, _, _, _, _, _, _, _, _]) agg35 (J.ev Y) G (.t (.t .h)) sz35 Y (getAt Y)) fun a J=> so (wn Y) (O.alloc Y Y J ze35 Y G fun b8 a w J G=> ?_)))))
 refine so (wn Y) (O.storeW sz35 (J.ev Y) (J.ev Y) (Y) Y (by simp [Value.oneCell']) G .h (Y) fun w G=> ?_)
 refine s0 <| then_n (hK9 _ _ <| wp_seq_k fun K10 hK10=> wp_region_lit <| mv J Y Y fun a J=> sw J Y Y Y (R.fieldAddr (k := 1) Tryz.underlying38 Y nz35 (J.ev Y) Y) fun a J=> sw J Y Y Y (R.fieldAddr (k := 45) Tryz.underlying35 Y nz33 (J.ev Y) Y) fun a J=> sw J Y Y Y (R.load one33 (J.ev Y) G (.t (.t (.t .h))) (Y)) fun a J=> sw J Y Y Y (R.len Tryz.underlying33 (J.ev Y)) fun a J=> sw J Y Y Y (R.sliceHi Tryz.underlying33 (J.ev Y) (J.ev Y) (by omega) (by omega) _ sz32) fun a J=> sw J Y Y Y (R.fieldAddr (k := 45) Tryz.underlying35 Y nz33 (J.ev Y) Y) fun a J=> ?_)
 refine so (wn Y) (O.store sz33 (J.ev Y) (J.ev Y) Y Y G .h (show List.set _ _ _ = callc { F with aA := A6, ac := c6 } from Y) (by first | decide | omega | (show _ < 59; decide) | (show _ < 3; decide) | simp) fun w G=> ?_)
 refine s0 <| then_n (hK10 _ _ <| wp_seq_k fun K11 hK11=> wp_region_lit <| mv J Y Y fun a J=> sw J Y Y Y (R.fieldAddr (k := 0) Tryz.underlying38 Y nz22 (J.ev Y) Y) fun a J=> sw J Y Y Y (R.load one22 (J.ev Y) G (.t (.t (.t .h))) (Y)) fun a J=> sw J Y Y Y (R.len Tryz.underlying22 (J.ev Y)) fun a J=> sw J Y Y Y (R.sliceHi Tryz.underlying22 (J.ev Y) (J.ev Y) (by omega) (by omega) _ sz5) fun a J=> av J Y Y fun a J=> s0 <| then_n (hK11 _ _ <| wp_seq_k fun K12 hK12=> wp_region_lit <| sw J Y Y Y (R.fieldAddr (k := 49) Tryz.underlying38 Y nz36 (J.ev Y) Y) fun a J=> sw J Y Y Y (R.load one36 (J.ev Y) G (.t (.t (.t .h))) (Y)) fun a J=> sw J Y Y Y (R.buildStr (l := [_, _, _]) Tryz.underlying43 ze43 pl43 (J.evp Y) Y) fun a J=> so (wn Y) (O.box Y Y J (J.ev Y) Y G fun b57 a w J G=> ?_)))
 refine av J Y Y fun a J=> s0 <| then_n (hK12 _ _ <| wp_seq_k fun K13 hK13=> wp_region_lit <| sw J Y Y Y (R.fieldAddr (k := 0) Tryz.underlying38 Y nz22 (J.ev Y) Y) fun a J=> sw J Y Y Y (R.load one22 (J.ev Y) G (.t (.t (.t (.t .h)))) (Y)) fun a J=> sw J Y Y Y (R.fieldAddr (k := 1) Tryz.underlying38 Y nz35 (J.ev Y) Y) fun a J=> sw J Y Y Y (R.loadA (cs := [_, _, _, _, _, _, _, _, _, _, _, _, _, _, _, _, _, _, _, _, _, _, _, _, _, _, _, _, _, _, _, _, _, _, _, _, _, _, _, _, _, _, _, _, _, _, _, _]) agg35 (J.ev Y) G (.t (.t (.t (.t .h)))) sz35 Y (getAt Y)) fun a J=> sw J Y Y Y (R.fieldAddr (k := 49) Tryz.underlying38 Y nz36 (J.ev Y) Y) fun a J=> sw J Y Y Y (R.load one36 (J.ev Y) G (.t (.t (.t (.t .h)))) (Y)) fun a J=> so (wn Y) (O.call Y Y J ent12 (J.evs Y) G (rrun_calls F w (hp.old G)) fun v s65 a w hR J G=> ?_))
 obtain ⟨A65, c65, rfl, hO65⟩ := hR
 refine mv J Y Y fun a J=> xv J Y Y Y fun a J=> xv J Y Y Y fun a J=> xv J Y Y Y fun a J=> so (wn Y) (O.alloc Y Y J ze45 Y G fun b11 a w J G=> ?_)
 refine so (wn Y) (O.storeW sz45 (J.ev Y) (J.ev Y) (Y) Y (by simp [Value.oneCell']) G .h (Y) fun w G=> ?_)
 refine av J Y Y fun a J=> av J Y Y fun a J=> s0 <| then_n (hK13 _ _ <| wp_seq_k fun K14 hK14=> wp_region_lit <| sw J Y Y Y (R.fieldAddr (k := 0) Tryz.underlying38 Y nz22 (J.ev Y) Y) fun a J=> sw J Y Y Y (R.load one22 (J.ev Y) G (.t (.t (.t (.t (.t (.t .h)))))) (Y)) fun a J=> so (wn Y) (O.call Y Y J ent8 (J.evs Y) G (rtext_calls F.cA F.code.length F.cc F.code w (hp.code.old G) Y hp.ok.cap hp.ok.cap2 hp.ok.byt) fun v s72 a w hR J G=> ?_))
 obtain ⟨rfl, rfl⟩ := hR
 refine mv J Y Y fun a J=> xv J Y Y Y fun a J=> xv J Y Y Y fun a J=> av J Y Y fun a J=> av J Y Y fun a J=> s0 <| then_n (hK14 _ _ <| wp_seq_k fun K15 hK15=> wp_region_lit <| mv J Y Y fun a J=> sw J Y Y Y (R.loadW agg35 (J.ev Y) G (.t (.t (.t (.t .h)))) sz35 (Y)) fun a J=> mv J Y Y fun a J=> sw J Y Y Y (R.mkI Tryz.underlying40 (J.ev Y)) fun a J=> so (wn Y) (O.callK Y Y J ent13 (J.evs Y) G (run_calls ({ F with hb := b57, cA := A26, cc := c26, aA := A6, ac := c6, iA := none, ic := 0, inner := [] }) [(b57, Cel (hcells ({ F with hb := b57, cA := A26, cc := c26, aA := A6, ac := c6, iA := none, ic := 0, inner := [] }) (.slice none 0 0)) 43)] w ⟨hp.ok.byt, (by have := hO26.2.1; show F.code.length ≤ c26; omega), hO26.cap, hp.ok.argsW, (by have := hO6.2.1; show F.cl.args.length ≤ c6; omega), hO6.cap, hp.ok.self, hp.ok.caller, hp.ok.amount, hp.ok.reps, hp.ok.qlen⟩ ⟨none, 0, [], Y, OwnS.nil 92 30⟩ (G.own1 (.t (.t (.t .h)))) ⟨rdk_room (RdK.ownS (G.sel [6, 3] Y Y) hO26), rdk_args (RdK.ownS (G.sel [5, 3] Y Y) hO6), (RdK.nok hp.reps).down G (.t (.t (.t .h))), RdK.nil _ _ _⟩ (next0_ok Y)) (fun _=> (.t (.t (.t .h)))) fun v s80 a w hR J G=> ?_))
 obtain ⟨rfl, hH4⟩ := hR
 refine mv J Y Y fun a J=> xv J Y Y Y fun a J=> xv J Y Y Y fun a J=> so (wn Y) (O.alloc Y Y J ze45 Y G fun b16 a w J G=> ?_)
 refine so (wn Y) (O.storeW sz45 (J.ev Y) (J.ev Y) (Y) Y (by simp [Value.oneCell']) G .h (Y) fun w G=> ?_)
 refine av J Y Y fun a J=> s0 <| then_n (hK15 _ _ <| wp_seq_k fun K16 hK16=> wp_region_lit <| mv J Y Y fun a J=> so (wn Y) (O.call Y Y J ent14 (J.evs Y) G (check_calls A26 F.code.length c26 F.code w (rd_room (hO26.rd G (.t (.t (.t (.t (.t (.t (.t .h))))))))) Y (by have := hO26.2.1; omega) hO26.cap hp.ok.byt) fun v s84 a w hR J G=> ?_))
 obtain ⟨rfl, rfl⟩ := hR
 refine av J Y Y fun a J=> s0 <| then_n (hK16 _ _ <| wp_seq_k fun K17 hK17=> wp_region_lit <| mv J Y Y fun a J=> so (wn Y) (O.call Y Y J ent9 (J.evs Y) G (mtext_calls A26 F.code.length c26 F.code w (rd_room (hO26.rd G (.t (.t (.t (.t (.t (.t (.t (.t .h)))))))))) Y (by have := hO26.2.1; omega) hO26.cap hp.ok.byt (ht.old G)) fun v s87 a w hR J G=> ?_))
 obtain ⟨rfl, rfl⟩ := hR
 refine mv J Y Y fun a J=> xv J Y Y Y fun a J=> xv J Y Y Y fun a J=> av J Y Y fun a J=> av J Y Y fun a J=> s0 <| then_n (hK17 _ _ <| wp_seq_k fun K18 hK18=> wp_seq_k fun K19 hK19=> wp_region_lit <| sw J Y Y Y (R.loadW agg45 (J.ev Y) G (.t (.t .h)) sz45 (Y)) fun a J=> sw J Y Y Y (R.loadW agg45 (J.ev Y) G (.t (.t (.t (.t .h)))) sz45 (Y)) fun a J=> sw J Y Y Y (R.as (u := .bool false) (R.neqAgg (J.ev Y) (J.ev Y) (ran_eq _ _) eg45) (Y)) fun a J=> mv J Y Y fun a J=> my J Y Y Y Y fun a J=> my J Y Y Y Y fun a J=> sv' J (wy J Y Y Y) Y Y (R.as (u := .bool false) (R.neq (p := (playN F.cl F.code F.rep).e) (q := (playN F.cl F.code F.rep).e) (J.ev Y) (J.ev Y)) (congrArg Value.bool (decide_eq_false (fun h=> h Y)))) fun a J=> pF J Y Y Y fun a J=> mv J Y Y fun a J=> my J Y Y Y Y fun a J=> sv' J (wy J Y Y Y) Y Y (R.fieldAddr (k := 0) Tryz.underlying38 Y nz22 (J.ev Y) Y) fun a J=> sv' J (wy J Y Y Y) Y Y (R.load one22 (J.ev Y) G (.t (.t (.t (.t (.t (.t (.t (.t (.t (.t .h)))))))))) (Y)) fun a J=> so (wy J Y Y Y) (O.call Y Y J ent15 (J.evs Y) G (rcheck_calls F.cA F.code.length F.cc F.code w (hp.code.old G) Y hp.ok.cap hp.ok.cap2 hp.ok.byt) fun v s102 a w hR J G=> ?_))
 obtain ⟨rfl, rfl⟩ := hR
 refine sv' J (wy J Y Y Y) Y Y (R.as (u := .bool false) (R.neq (p := (if chkN F.code then 0 else 100)) (q := (if chkN F.code then 0 else 100)) (J.ev Y) (J.ev Y)) (congrArg Value.bool (decide_eq_false (fun h=> h Y)))) fun a J=> pF J Y Y Y fun a J=> mv J Y Y fun a J=> my J Y Y Y Y fun a J=> my J Y Y Y Y fun a J=> sv' J (wy J Y Y Y) Y Y (R.as (u := .bool false) (R.neqStr (J.ev Y) (J.ev Y)) (congrArg Value.bool (decide_eq_false (fun h=> h Y)))) fun a J=> pF J Y Y Y fun a J=> mv J Y Y fun a J=> my J Y Y Y Y fun a J=> my J Y Y Y Y fun a J=> sv' J (wy J Y Y Y) Y Y (R.as (u := .bool false) (R.neq (p := tE F.code) (q := tE F.code) (J.ev Y) (J.ev Y)) (congrArg Value.bool (decide_eq_false (fun h=> h Y)))) fun a J=> pF J Y Y Y fun a J=> mv J Y Y fun a J=> my J Y Y Y Y fun a J=> sv' J (wy J Y Y Y) Y Y (R.fieldAddr (k := 0) Tryz.underlying38 Y nz22 (J.ev Y) Y) fun a J=> sv' J (wy J Y Y Y) Y Y (R.load one22 (J.ev Y) G (.t (.t (.t (.t (.t (.t (.t (.t (.t (.t (.t .h))))))))))) (Y)) fun a J=> so (wy J Y Y Y) (O.call Y Y J ent16 (J.evs Y) G (unmarked_calls A26 F.cA F.code.length c26 F.cc F.code w (hO26.rd G (.t (.t (.t (.t (.t (.t (.t (.t (.t (.t .h))))))))))) (hp.code.old G) Y hO26.2.1 hO26.cap) fun v s119 a w hR J G=> ?_)
 obtain ⟨rfl, rfl⟩ := hR
 refine sv' J (wy J Y Y Y) Y Y (R.as (u := .bool false) (R.not (J.ev Y)) (Y)) fun a J=> pF J Y Y Y fun a J=> s0 <| then_n (hK19 _ _ <| cF J Y <| wp_skip <| then_n (hK18 _ _ <| wp_seq_k fun K20 hK20=> wp_seq_k fun K21 hK21=> wp_region_lit <| av J Y Y fun a J=> s0 <| then_n (hK21 _ _ <| wp_block <| wp_loop_N (fun g a w=> ∃ (i : Nat), F.cl.args.length + 12 - i = g ∧ Fr 246 [(1, .slice B ys.length e), (2, .pointer (some ⟨b2, 0, none⟩)), (6, .slice A6 (F.cl.args.length + 12) c6), (8, .pointer (some ⟨b8, 0, none⟩)), (9, .slice A26 F.code.length c26), (11, .pointer (some ⟨b11, 0, none⟩)), (16, .pointer (some ⟨b16, 0, none⟩)), (21, .int .i64 ((i : Nat) : Int))] a ∧ St w0 [] [z, s26, [(b2, Cel (plays F) 38)], [(b8, Cel (callc { F with aA := A6, ac := c6 }) 35)], [(b11, Cel (wc (playN F.cl F.code F.rep).v ++ [Value.int .i64 (playN F.cl F.code F.rep).gas]) 45)], [(b16, Cel (wc (playN F.cl F.code F.rep).v ++ [Value.int .i64 (playN F.cl F.code F.rep).gas]) 45)]] w ∧ (i ≤ F.cl.args.length + 12)) (F.cl.args.length + 12 - 0) ?_ ?_)))
 ·exact ⟨0, Y, J.sub ⟨Y, Y, Y, Y, Y, Y, Y, Y, trivial⟩, G.sel [10, 11, 12, 9, 6, 4] Y Y, by omega⟩
 rintro KL2 g a w ⟨i, hg2, J, G, hi⟩ hKL2
 refine wp_seq_k fun K22 hK22=> wp_seq_k fun K23 hK23=> wp_region_lit <| mv J Y Y fun a J=> mv J Y Y fun a J=> sw J Y Y Y (R.len Tryz.underlying33 (J.ev Y)) fun a J=> lS J Y Y Y fun a J=> s0 <| then_n (hK23 _ _ <| cD J Y (fun c3=> ?_) (fun c3=> ?_))
 ·refine wp_skip <| then_n (hK22 _ _ <| wp_seq_k fun K24 hK24=> wp_block <| wp_seq_k fun K25 hK25=> wp_drawS G [(0, 0), (1, 0), (2, 0), (3, 1), (4, 0), (5, 0), (6, 0), (7, 0), (8, 0), (9, 0), (10, 1), (11, 0), (12, 0), (13, 1), (14, 0), (15, 0), (16, 1), (17, 0), (18, 0), (19, 0), (20, 0), (21, 0), (22, 0), (23, 1), (24, 0), (25, 0), (26, 0), (27, 0), (28, 0), (29, 0), (30, 1), (31, 0), (32, 0), (33, 0), (34, 0)] mix (by kernel_rfl) (hP.then.block.then.then.block.then) fun w G=> ?_)
  have hD := G
  refine dm J Y Y Y fun a J=> dv J Y Y Y Y (fun w=> R.fieldAddr (k := 1) Tryz.underlying38 Y nz35 (J.ev Y) Y) fun a J=> dv J Y Y Y Y (fun w=> R.fieldAddr (k := 45) Tryz.underlying35 Y nz33 (J.ev Y) Y) fun a J=> ds J Y Y Y Y hD (fun w hD=> R.load one33 (J.ev Y) hD (.t (.t .h)) (Y)) fun a J=> ?_
  refine dv J Y Y Y Y (fun w=> R.len Tryz.underlying33 (J.ev Y)) fun a J=> dv J Y Y Y Y (fun w=> R.lss (J.ev Y) (J.ev Y)) fun a J=> dm J Y Y Y fun a J=> J.splitD (t := 134) Y (fun h134 J=> ?_) (fun h134 J=> ?_)
  ·refine dq J Y (wy J Y Y Y) Y Y (fun w=> R.move (J.ev Y)) fun a J=> dq J Y (wy J Y Y Y) Y Y (fun w=> R.move (J.ev Y)) fun a J=> dq J Y (wy J Y Y Y) Y Y (fun w=> R.indexO Tryz.underlying33 sz32 (J.ev Y) ((hO6.rd G .h).ne (by rw [wcs_length, argsM_len]; omega)) (J.ev Y) (by omega) (by omega)) fun a J=> dr J Y (wy J Y Y Y) Y Y hD (fun w hD=> R.loadAO (cs := wc ((argsM F.cl.args 12).getD i 0)) agg32 (J.ev Y) (hO6.rd hD .h) sz32 Y (Nat.succ_pos _) (wcs_at (k := i) (by rw [argsM_len]; omega) (by omega))) fun a J=> ?_
   refine dq J Y (wy J Y Y Y) Y Y (fun w=> R.fieldAddr (k := 1) Tryz.underlying38 Y nz35 (J.ev Y) Y) fun a J=> dq J Y (wy J Y Y Y) Y Y (fun w=> R.fieldAddr (k := 45) Tryz.underlying35 Y nz33 (J.ev Y) Y) fun a J=> dr J Y (wy J Y Y Y) Y Y hD (fun w hD=> R.load one33 (J.ev Y) hD (.t (.t .h)) (Y)) fun a J=> ?_
   refine dq J Y (wy J Y Y Y) Y Y (fun w=> R.move (J.ev Y)) fun a J=> dq J Y (wy J Y Y Y) Y Y (fun w=> R.indexO Tryz.underlying33 sz32 (J.ev Y) (Rd.ne (hp.args.old G) (by rw [wcs_length]; omega)) (J.ev Y) (by omega) (by omega)) fun a J=> dr J Y (wy J Y Y Y) Y Y hD (fun w hD=> R.loadAO (cs := wc (F.cl.args.getD i 0)) agg32 (J.ev Y) (hp.args.old hD) sz32 Y (Nat.succ_pos _) (wcs_at (k := i) (by omega) (by omega))) fun a J=> ?_
   refine dq J Y (wy J Y Y Y) Y Y (fun w=> R.as (u := .bool false) (R.neqW (x := ((argsM F.cl.args 12).getD i 0)) (y := (F.cl.args.getD i 0)) (J.ev Y) (J.ev Y) (argsM_lt hp.ok.argsW i) (hp.ok.argsW _ (getD_mem (by omega)))) (congrArg Value.bool (decide_eq_false (fun h=> h (argsM_lo (by omega)))))) fun a J=> dv J Y Y Y Y (fun w=> R.pickT (J.ev Y) (J.ev Y)) fun a J=> dm J Y Y Y fun a J=> dq J Y (wy J Y Y Y) Y Y (fun w=> R.move (J.ev Y)) fun a J=> dq J Y (wy J Y Y Y) Y Y (fun w=> R.fieldAddr (k := 1) Tryz.underlying38 Y nz35 (J.ev Y) Y) fun a J=> dq J Y (wy J Y Y Y) Y Y (fun w=> R.fieldAddr (k := 45) Tryz.underlying35 Y nz33 (J.ev Y) Y) fun a J=> ?_
   refine dr J Y (wy J Y Y Y) Y Y hD (fun w hD=> R.load one33 (J.ev Y) hD (by first | exact .h | exact .t .h | exact .t (.t .h) | exact .t (.t (.t .h)) | exact .t (.t (.t (.t .h))) | exact .t (.t (.t (.t (.t .h)))) | exact .t (.t (.t (.t (.t (.t .h))))) | exact .t (.t (.t (.t (.t (.t (.t .h)))))) | exact .t (.t (.t (.t (.t (.t (.t (.t .h)))))))) (Y)) fun a J=> ?_
   refine dq J Y (wy J Y Y Y) Y Y (fun w=> R.len Tryz.underlying33 (J.ev Y)) fun a J=> dq J Y (wy J Y Y Y) Y Y (fun w=> R.as (u := .bool false) (R.geq (J.ev Y) (J.ev Y)) (congrArg Value.bool (decide_eq_false (by omega)))) fun a J=> dq J Y (wy J Y Y Y) Y Y (fun w=> R.move (J.ev Y)) fun a J=> dk J Y (ws J Y Y Y Y) Y Y fun a J=> dk J Y (ws J Y Y Y Y) Y Y fun a J=> dk J Y (ws J Y Y Y Y) Y Y fun a J=> dk1 J Y (ws J Y Y Y Y) Y Y hD fun a J=> ?_
   refine dk J Y (ws J Y Y Y Y) Y Y fun a J=> dk J Y (ws J Y Y Y Y) Y Y fun a J=> dq J Y (wy J Y Y Y) Y Y (fun w=> R.pickF (J.ev Y) (J.ev Y)) fun a J=> dv J Y Y Y Y (fun w=> R.pickF (J.ev Y) (J.ev Y)) fun a J=> d0 <| then_n (hK25 _ _ <| cF J Y <| wp_skip <| blk_n <| then_n (hK24 _ _ <| wp_region_lit <| mv J Y Y fun a J=> aI J Y Y Y (by omega) fun a J=> av J Y Y fun a J=> s0 <| then_n (hKL2 (F.cl.args.length + 12 - (i + 1)) _ _ ?_ ?_)))
   ·omega
   exact ⟨i + 1, Y, J.sub ⟨Y, Y, Y, Y, Y, Y, Y, (congrArg (fun z => some (Value.int .i64 z)) (by omega)), trivial⟩, G.sel [0, 1, 2, 3, 4, 5] Y Y, by omega⟩
  refine dk J Y (ws J Y Y Y Y) Y Y fun a J=> dk J Y (ws J Y Y Y Y) Y Y fun a J=> dk J Y (ws J Y Y Y Y) Y Y fun a J=> dk1 J Y (ws J Y Y Y Y) Y Y hD fun a J=> ?_
  refine dk J Y (ws J Y Y Y Y) Y Y fun a J=> dk J Y (ws J Y Y Y Y) Y Y fun a J=> dk1 J Y (ws J Y Y Y Y) Y Y hD fun a J=> ?_
  refine dk J Y (ws J Y Y Y Y) Y Y fun a J=> dk J Y (ws J Y Y Y Y) Y Y fun a J=> dk1 J Y (ws J Y Y Y Y) Y Y hD fun a J=> ?_
  refine dk J Y (ws J Y Y Y Y) Y Y fun a J=> dv J Y Y Y Y (fun w=> R.pickF (J.ev Y) (J.ev Y)) fun a J=> dm J Y Y Y fun a J=> dq J Y (wy J Y Y Y) Y Y (fun w=> R.move (J.ev Y)) fun a J=> dq J Y (wy J Y Y Y) Y Y (fun w=> R.fieldAddr (k := 1) Tryz.underlying38 Y nz35 (J.ev Y) Y) fun a J=> dq J Y (wy J Y Y Y) Y Y (fun w=> R.fieldAddr (k := 45) Tryz.underlying35 Y nz33 (J.ev Y) Y) fun a J=> ?_
  refine dr J Y (wy J Y Y Y) Y Y hD (fun w hD=> R.load one33 (J.ev Y) hD (by first | exact .h | exact .t .h | exact .t (.t .h) | exact .t (.t (.t .h)) | exact .t (.t (.t (.t .h))) | exact .t (.t (.t (.t (.t .h)))) | exact .t (.t (.t (.t (.t (.t .h))))) | exact .t (.t (.t (.t (.t (.t (.t .h)))))) | exact .t (.t (.t (.t (.t (.t (.t (.t .h)))))))) (Y)) fun a J=> ?_
  refine dq J Y (wy J Y Y Y) Y Y (fun w=> R.len Tryz.underlying33 (J.ev Y)) fun a J=> dq J Y (wy J Y Y Y) Y Y (fun w=> R.as (u := .bool true) (R.geq (J.ev Y) (J.ev Y)) (congrArg Value.bool (decide_eq_true (by omega)))) fun a J=> dq J Y (wy J Y Y Y) Y Y (fun w=> R.move (J.ev Y)) fun a J=> dq J Y (wy J Y Y Y) Y Y (fun w=> R.move (J.ev Y)) fun a J=> dq J Y (wy J Y Y Y) Y Y (fun w=> R.move (J.ev Y)) fun a J=> dq J Y (wy J Y Y Y) Y Y (fun w=> R.indexO Tryz.underlying33 sz32 (J.ev Y) ((hO6.rd G .h).ne (by rw [wcs_length, argsM_len]; omega)) (J.ev Y) (by omega) (by omega)) fun a J=> dr J Y (wy J Y Y Y) Y Y hD (fun w hD=> R.loadAO (cs := wc ((argsM F.cl.args 12).getD i 0)) agg32 (J.ev Y) (hO6.rd hD .h) sz32 Y (Nat.succ_pos _) (wcs_at (k := i) (by rw [argsM_len]; omega) (by omega))) fun a J=> ?_
  refine dq J Y (wy J Y Y Y) Y Y (fun w=> R.as (u := wv WM) (R.buildArr (l := [_, _, _, _]) Tryz.underlying32 ze32 sz30 (J.evp Y) Y) (wm_wv)) fun a J=> dq J Y (wy J Y Y Y) Y Y (fun w=> R.as (u := .bool false) (R.neqW (x := ((argsM F.cl.args 12).getD i 0)) (y := WM) (J.ev Y) (J.ev Y) (argsM_lt hp.ok.argsW i) (wm_lt)) (congrArg Value.bool (decide_eq_false (fun h=> h (argsM_hi (by omega) (by omega)))))) fun a J=> dq J Y (wy J Y Y Y) Y Y (fun w=> R.pickT (J.ev Y) (J.ev Y)) fun a J=> dv J Y Y Y Y (fun w=> R.pickF (J.ev Y) (J.ev Y)) fun a J=> d0 <| then_n (hK25 _ _ <| cF J Y <| wp_skip <| blk_n <| then_n (hK24 _ _ <| wp_region_lit <| mv J Y Y fun a J=> aI J Y Y Y (by omega) fun a J=> av J Y Y fun a J=> s0 <| then_n (hKL2 (F.cl.args.length + 12 - (i + 1)) _ _ ?_ ?_)))
  ·omega
  exact ⟨i + 1, Y, J.sub ⟨Y, Y, Y, Y, Y, Y, Y, (congrArg (fun z => some (Value.int .i64 z)) (by omega)), trivial⟩, G.sel [0, 1, 2, 3, 4, 5] Y Y, by omega⟩
 refine wp_exit (then_x (then_x (blk_hit <| then_n (hK20 _ _ <| wp_seq_k fun K26 hK26=> wp_seq_k fun K27 hK27=> ?_))))
 have hSn := G; obtain ⟨gb, rest, rfl, rfl, hnc, hcl, hcm⟩ := own_open3 hO26 (by omega); have G := hSn; clear hSn; obtain ⟨T, hT⟩ : ∃ T, T = byts (F.code ++ List.replicate 80 201) ++ rest := ⟨_, rfl⟩; rw [← hT] at G hcl; rw [overL_0 ys T] at G; have hT2 : F.code.length + 80 ≤ T.length := by (rw [hT, List.length_append, length_byts, List.length_append, List.length_replicate]; omega)
 refine wp_region_lit <| av J Y Y fun a J=> s0 <| then_n (hK27 _ _ <| wp_block <| wp_loop_N (fun g a w=> ∃ (i : Nat), F.code.length - i = g ∧ Fr 246 [(1, .slice B ys.length e), (2, .pointer (some ⟨b2, 0, none⟩)), (6, .slice A6 (F.cl.args.length + 12) c6), (8, .pointer (some ⟨b8, 0, none⟩)), (9, .slice (some ⟨gb, 0, none⟩) F.code.length c26), (11, .pointer (some ⟨b11, 0, none⟩)), (16, .pointer (some ⟨b16, 0, none⟩)), (22, .int .i64 ((i : Nat) : Int))] a ∧ St w0 [] [z, [(gb, Cel (overL ys T i) 5)], [(b2, Cel (plays F) 38)], [(b8, Cel (callc { F with aA := A6, ac := c6 }) 35)], [(b11, Cel (wc (playN F.cl F.code F.rep).v ++ [Value.int .i64 (playN F.cl F.code F.rep).gas]) 45)], [(b16, Cel (wc (playN F.cl F.code F.rep).v ++ [Value.int .i64 (playN F.cl F.code F.rep).gas]) 45)]] w ∧ (i ≤ F.code.length) ∧ (i ≤ ys.length)) (F.code.length - 0) ?_ ?_)
 ·exact ⟨0, Y, J.sub ⟨Y, Y, Y, Y, Y, Y, Y, Y, trivial⟩, G.sel [0, 1, 2, 3, 4, 5] Y Y, by omega, by omega⟩
 rintro KL3 g a w ⟨i, hg3, J, G, hi, hi2⟩ hKL3
 refine wp_seq_k fun K28 hK28=> wp_seq_k fun K29 hK29=> ?_
 have hK29' : ∀ a w, (Fr 246 [(1, .slice B ys.length e), (2, .pointer (some ⟨b2, 0, none⟩)), (6, .slice A6 (F.cl.args.length + 12) c6), (8, .pointer (some ⟨b8, 0, none⟩)), (9, .slice (some ⟨gb, 0, none⟩) F.code.length c26), (11, .pointer (some ⟨b11, 0, none⟩)), (16, .pointer (some ⟨b16, 0, none⟩)), (22, .int .i64 ((i : Nat) : Int)), (172, .bool (decide (i < F.code.length ∧ i < ys.length)))] a ∧ St w0 [] [z, [(gb, Cel (overL ys T i) 5)], [(b2, Cel (plays F) 38)], [(b8, Cel (callc { F with aA := A6, ac := c6 }) 35)], [(b11, Cel (wc (playN F.cl F.code F.rep).v ++ [Value.int .i64 (playN F.cl F.code F.rep).gas]) 45)], [(b16, Cel (wc (playN F.cl F.code F.rep).v ++ [Value.int .i64 (playN F.cl F.code F.rep).gas]) 45)]] w) → K29 a w := by
  rintro a w ⟨J, G⟩
  refine hK29 _ _ ?_
  refine cD J Y (fun c5=> ?_) (fun c5=> ?_)
  ·refine wp_skip <| then_n (hK28 _ _ <| wp_seq_k fun K30 hK30=> wp_block <| wp_region_lit <| mv J Y Y fun a J=> mv J Y Y fun a J=> mv J Y Y fun a J=> mv J Y Y fun a J=> sw J Y Y Y (R.indexO Tryz.underlying22 sz5 (J.ev Y) (Rd.ne (hI.old G) (by rw [length_byts]; omega)) (J.ev Y) (by omega) (by omega)) fun a J=> sw J Y Y Y (R.loadO one5 (J.ev Y) (hI.old G) (cb_at (i := i) (by omega) (by omega))) fun a J=> sw J Y Y Y (R.indexS Tryz.underlying22 sz5 (J.ev Y) (J.ev Y) (by omega) (by omega)) fun a J=> so (wn Y) (O.store sz5 (J.ev Y) (J.ev Y) Y Y G (.t .h) (overL_set (i := i) (by omega) (by omega) (by omega)) (by rw [overL_len (by omega) (by omega)]; omega) fun w G=> ?_))
   refine s0 <| blk_n <| then_n (hK30 _ _ <| wp_region_lit <| mv J Y Y fun a J=> aI J Y Y Y (by omega) fun a J=> av J Y Y fun a J=> s0 <| then_n (hKL3 (F.code.length - (i + 1)) _ _ ?_ ?_))
   ·omega
   exact ⟨i + 1, Y, J.sub ⟨Y, Y, Y, Y, Y, Y, Y, (congrArg (fun z => some (Value.int .i64 z)) (by omega)), trivial⟩, G.sel [0, 1, 2, 3, 4, 5] Y Y, by omega, by omega⟩
  obtain ⟨xs2, hx2⟩ : ∃ xs2, xs2 = ys.take i ++ F.code.drop i := ⟨_, rfl⟩
  have hn2 : xs2.length = F.code.length := by (rw [hx2, List.length_append, List.length_take, List.length_drop]; omega)
  have hB2 : Byt xs2 := by (rw [hx2]; intro d hd; rcases List.mem_append.1 hd with h1 | h1; exact hIB d (List.take_subset _ _ h1); exact hp.ok.byt d (List.drop_subset _ _ h1))
  rw [hT, byts_app, List.append_assoc, overL_end (by omega), ← hx2] at G
  rw [← hn2] at J hi
  refine wp_exit (then_x (then_x (blk_hit <| then_n (hK26 _ _ <| wp_seq_k fun K31 hK31=> wp_region_lit <| so (wn Y) (O.buildSlice (l := []) Y Y J Tryz.underlying22 inf5 Y Y (J.evp Y) (by decide) Y G fun b182 a w J G=> ?_)))))
  refine mv J Y Y fun a J=> so (wn Y) (O.appendO Y Y J Tryz.underlying22 inf5 Y Y (by decide) (J.ev Y) (J.ev Y) G (own_nil5 b182) (fun _=> .h) (rd_app (Rd.own0 G (.t (.t .h)))) (by rw [length_byts, Nat.mul_one]) (byts_one _) (by unfold maxLen; omega) (by omega) fun A184 c184 s184 a w hO184 J G=> ?_)
  rw [Nat.zero_add] at J hO184; rw [show byts [] = [] from rfl, List.nil_append] at hO184
  refine av J Y Y fun a J=> s0 <| then_n (hK31 _ _ <| wp_seq_k fun K32 hK32=> wp_region_lit <| mv J Y Y fun a J=> sw J Y Y Y (R.fieldAddr (k := 1) Tryz.underlying38 Y nz35 (J.ev Y) Y) fun a J=> sw J Y Y Y (R.loadA (cs := [_, _, _, _, _, _, _, _, _, _, _, _, _, _, _, _, _, _, _, _, _, _, _, _, _, _, _, _, _, _, _, _, _, _, _, _, _, _, _, _, _, _, _, _, _, _, _, _]) agg35 (J.ev Y) G (.t (.t (.t .h))) sz35 Y (getAt Y)) fun a J=> sw J Y Y Y (R.fieldAddr (k := 49) Tryz.underlying38 Y nz36 (J.ev Y) Y) fun a J=> sw J Y Y Y (R.load one36 (J.ev Y) G (.t (.t (.t .h))) (Y)) fun a J=> so (wn Y) (O.call Y Y J ent12 (J.evs Y) G (rrun_calls { F with cA := A184, cc := c184, code := xs2 } w (play_in2 (hp.old G) hB2 hO184.2.1 hO184.cap (hO184.rd G .h) (by omega))) fun v s191 a w hR J G=> ?_))
  obtain ⟨A191, c191, rfl, hO191⟩ := hR
  refine mv J Y Y fun a J=> xv J Y Y Y fun a J=> xv J Y Y Y fun a J=> xv J Y Y Y fun a J=> so (wn Y) (O.storeW sz45 (J.ev Y) (J.ev Y) (Y) Y (by simp [Value.oneCell']) G (.t (.t (.t (.t (.t (.t .h)))))) (Y) fun w G=> ?_)
  refine av J Y Y fun a J=> s0 <| then_n (hK32 _ _ <| wp_seq_k fun K33 hK33=> wp_region_lit <| mv J Y Y fun a J=> so (wn Y) (O.call Y Y J ent8 (J.evs Y) G (rtext_calls A184 xs2.length c184 xs2 w (hO184.rd G (.t .h)) Y hO184.2.1 hO184.cap hB2) fun v s197 a w hR J G=> ?_))
  obtain ⟨rfl, rfl⟩ := hR
  refine mv J Y Y fun a J=> xv J Y Y Y fun a J=> xv J Y Y Y fun a J=> av J Y Y fun a J=> av J Y Y fun a J=> s0 <| then_n (hK33 _ _ <| wp_seq_k fun K34 hK34=> wp_region_lit <| sw J Y Y Y (R.fieldAddr (k := 49) Tryz.underlying38 Y nz36 (J.ev Y) Y) fun a J=> sw J Y Y Y (R.load one36 (J.ev Y) G (.t (.t (.t (.t (.t .h))))) (Y)) fun a J=> sw J Y Y Y (R.buildStr (l := [_, _, _]) Tryz.underlying43 ze43 pl43 (J.evp Y) Y) fun a J=> so (wn Y) (O.box Y Y J (J.ev Y) Y G fun b203 a w J G=> ?_))
  refine av J Y Y fun a J=> s0 <| then_n (hK34 _ _ <| wp_seq_k fun K35 hK35=> wp_region_lit <| mv J Y Y fun a J=> sw J Y Y Y (R.loadW agg35 (J.ev Y) G (.t (.t (.t (.t (.t (.t (.t .h))))))) sz35 (Y)) fun a J=> mv J Y Y fun a J=> sw J Y Y Y (R.mkI Tryz.underlying40 (J.ev Y)) fun a J=> so (wn Y) (O.callK Y Y J ent13 (J.evs Y) G (run_calls ({ F with hb := b203, cA := some ⟨gb, 0, none⟩, cc := c26, code := xs2, aA := A6, ac := c6, iA := none, ic := 0, inner := [] }) [(b203, Cel (hcells ({ F with hb := b203, cA := some ⟨gb, 0, none⟩, cc := c26, code := xs2, aA := A6, ac := c6, iA := none, ic := 0, inner := [] }) (.slice none 0 0)) 43)] w ⟨hB2, (by show xs2.length ≤ c26; omega), (by simpa [maxLen] using hcm), hp.ok.argsW, (by have := hO6.2.1; show F.cl.args.length ≤ c6; omega), hO6.cap, hp.ok.self, hp.ok.caller, hp.ok.amount, hp.ok.reps, hp.ok.qlen⟩ ⟨none, 0, [], Y, OwnS.nil 92 30⟩ (G.own1 .h) ⟨rdk_app (RdK.apart (G.sel [5, 0] Y Y) (Rd.own0 G (.t (.t (.t (.t (.t .h)))))) (List.mem_singleton.2 Y)), rdk_args (RdK.ownS (G.sel [4, 0] Y Y) hO6), (RdK.nok hp.reps).down G .h, RdK.nil _ _ _⟩ (next0_ok Y)) (fun _=> .h) fun v s209 a w hR J G=> ?_))
  obtain ⟨rfl, hH9⟩ := hR
  refine mv J Y Y fun a J=> xv J Y Y Y fun a J=> xv J Y Y Y fun a J=> so (wn Y) (O.storeW sz45 (J.ev Y) (J.ev Y) (Y) Y (by simp [Value.oneCell']) G (.t (.t (.t (.t (.t (.t (.t (.t (.t .h))))))))) (Y) fun w G=> ?_)
  refine av J Y Y fun a J=> s0 <| then_n (hK35 _ _ <| wp_seq_k fun K36 hK36=> wp_region_lit <| mv J Y Y fun a J=> so (wn Y) (O.call Y Y J ent14 (J.evs Y) G (check_calls (some ⟨gb, 0, none⟩) xs2.length c26 xs2 w (rd_app (Rd.own0 G (.t (.t (.t (.t (.t .h))))))) Y (by omega) (by simpa [maxLen] using hcm) hB2) fun v s213 a w hR J G=> ?_))
  obtain ⟨rfl, rfl⟩ := hR
  refine av J Y Y fun a J=> s0 <| then_n (hK36 _ _ <| wp_seq_k fun K37 hK37=> wp_region_lit <| mv J Y Y fun a J=> so (wn Y) (O.call Y Y J ent9 (J.evs Y) G (mtext_calls (some ⟨gb, 0, none⟩) xs2.length c26 xs2 w (rd_app (Rd.own0 G (.t (.t (.t (.t (.t (.t .h)))))))) Y (by omega) (by simpa [maxLen] using hcm) hB2 (ht.old G)) fun v s216 a w hR J G=> ?_))
  obtain ⟨rfl, rfl⟩ := hR
  refine mv J Y Y fun a J=> xv J Y Y Y fun a J=> xv J Y Y Y fun a J=> av J Y Y fun a J=> av J Y Y fun a J=> s0 <| then_n (hK37 _ _ <| wp_seq_k fun K38 hK38=> wp_region_lit <| sw J Y Y Y (R.loadW agg45 (J.ev Y) G (.t (.t (.t (.t (.t (.t (.t (.t (.t (.t (.t .h))))))))))) sz45 (Y)) fun a J=> sw J Y Y Y (R.loadW agg45 (J.ev Y) G (.t (.t (.t (.t (.t (.t (.t (.t (.t (.t .h)))))))))) sz45 (Y)) fun a J=> sw J Y Y Y (R.as (u := .bool true) (R.eqlAgg (J.ev Y) (J.ev Y) (ran_eq _ _) eg45) (Y)) fun a J=> mv J Y Y fun a J=> my J Y Y Y Y fun a J=> my J Y Y Y Y fun a J=> sv' J (wy J Y Y Y) Y Y (R.as (u := .bool true) (R.eql (p := (playN F.cl xs2 F.rep).e) (q := (playN F.cl xs2 F.rep).e) (J.ev Y) (J.ev Y)) (congrArg Value.bool (decide_eq_true (Y)))) fun a J=> pT J Y Y Y fun a J=> mv J Y Y fun a J=> my J Y Y Y Y fun a J=> my J Y Y Y Y fun a J=> so (wy J Y Y Y) (O.call Y Y J ent15 (J.evs Y) G (rcheck_calls A184 xs2.length c184 xs2 w (hO184.rd G (.t (.t (.t (.t (.t .h)))))) Y hO184.2.1 hO184.cap hB2) fun v s230 a w hR J G=> ?_))
  obtain ⟨rfl, rfl⟩ := hR
  refine sv' J (wy J Y Y Y) Y Y (R.as (u := .bool true) (R.eql (p := (if chkN xs2 then 0 else 100)) (q := (if chkN xs2 then 0 else 100)) (J.ev Y) (J.ev Y)) (congrArg Value.bool (decide_eq_true (Y)))) fun a J=> pT J Y Y Y fun a J=> mv J Y Y fun a J=> my J Y Y Y Y fun a J=> my J Y Y Y Y fun a J=> sv' J (wy J Y Y Y) Y Y (R.as (u := .bool true) (R.eqlStr (J.ev Y) (J.ev Y)) (congrArg Value.bool (decide_eq_true (Y)))) fun a J=> pT J Y Y Y fun a J=> mv J Y Y fun a J=> my J Y Y Y Y fun a J=> my J Y Y Y Y fun a J=> sv' J (wy J Y Y Y) Y Y (R.as (u := .bool true) (R.eql (p := tE xs2) (q := tE xs2) (J.ev Y) (J.ev Y)) (congrArg Value.bool (decide_eq_true (Y)))) fun a J=> pT J Y Y Y fun a J=> mv J Y Y fun a J=> so (wy J Y Y Y) (O.call Y Y J ent10 (J.evs Y) G (alive_calls _) fun v s244 a w hR J G=> ?_)
  obtain ⟨rfl, rfl⟩ := hR
  refine pT J Y Y Y fun a J=> av J Y Y fun a J=> s0 <| then_n (hK38 _ _ <| wp_ret (hR _ _ _ _ _ J (run_results Tryz.results4 (.t J Y (.nil))) ?_))
  exact ⟨_, [], Y, ⟨Y, Y⟩, G.none⟩
 refine wp_region_lit <| mv J Y Y fun a J=> mv J Y Y fun a J=> sw J Y Y Y (R.len Tryz.underlying22 (J.ev Y)) fun a J=> lS J Y Y Y fun a J=> mv J Y Y fun a J=> J.splitD (t := 167) Y (fun h167 J=> ?_) (fun h167 J=> ?_)
 ·refine my J Y Y Y Y fun a J=> my J Y Y Y Y fun a J=> sv' J (wy J Y Y Y) Y Y (R.len Tryz.underlying22 (J.ev Y)) fun a J=> sv' J (wy J Y Y Y) Y Y (R.lss (J.ev Y) (J.ev Y)) fun a J=> pT J Y Y Y fun a J=> s0 ?_
  exact then_n (hK29' _ _ ⟨J.sub ⟨Y, Y, Y, Y, Y, Y, Y, Y, (congrArg (fun z => some (Value.bool z)) (by first | exact (decide_eq_true (by omega)).symm | exact (decide_eq_false (by omega)).symm | exact decide_eq_decide.2 (by omega))), trivial⟩, G.sel [0, 1, 2, 3, 4, 5] Y Y⟩)
 refine kz J Y Y Y Y Y Y fun a J=> kz J Y Y Y Y Y Y fun a J=> kz J Y Y Y Y Y Y fun a J=> kz J Y Y Y Y Y Y fun a J=> pF J Y Y Y fun a J=> s0 ?_
 exact then_n (hK29' _ _ ⟨J.sub ⟨Y, Y, Y, Y, Y, Y, Y, Y, (congrArg (fun z => some (Value.bool z)) (by first | exact (decide_eq_true (by omega)).symm | exact (decide_eq_false (by omega)).symm | exact decide_eq_decide.2 (by omega))), trivial⟩, G.sel [0, 1, 2, 3, 4, 5] Y Y⟩)
end Go.Proofs.YtlapmbkfmbkdoaaGreatDoor
end
