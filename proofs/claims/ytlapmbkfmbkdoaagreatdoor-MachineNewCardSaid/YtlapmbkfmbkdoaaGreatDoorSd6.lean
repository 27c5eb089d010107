/- Part 6 of what the row MachineNew needs, with no condition beyond each lemma's own. -/
import Derived.Test.YtlapmbkfmbkdoaaGreatDoorSd5
section
namespace Go.Proofs.YtlapmbkfmbkdoaaGreatDoor
open Go Go.Fw Go.RowKit
attribute [local irreducible] Go.Oper.wp Go.Code.wp Go.wpList Go.Fw.WL Go.Calls
@[reducible] def lineB (lab tg : ByteArray) (code : Int) (A : Option Addr) (n d : Nat) : List Value := [.string lab, .int .i64 code, .slice A n d, .string tg]
def UndR (ws : List (List Nat)) (v : Value) (q : Seg) : Prop :=
  (undN ws = none ∧ q = [] ∧ ∃ lab tg code A n d, v = .tuple #[.agg (lineB lab tg code A n d).toArray, .bool false]) ∨
  (∃ x, undN ws = some x ∧ ∃ A d, v = .tuple #[.agg (lineB (bstr x.lab) (bstr x.tg) x.code A x.bs.length d).toArray, .bool true] ∧ OwnS q A x.bs.length d (byts x.bs) 5 1)
theorem und_bad {ws : List (List Nat)} {v : Value} {lab tg : ByteArray} {code : Int} {A : Option Addr} {n d : Nat} (h : undN ws = none) (hv : v = .tuple #[.agg (lineB lab tg code A n d).toArray, .bool false]) : UndR ws v [] := .inl ⟨h, rfl, _, _, _, _, _, _, hv⟩
theorem und_good {ws : List (List Nat)} {v : Value} {q : Seg} {x : It} {A : Option Addr} {d : Nat} (h : undN ws = some x) (hv : v = .tuple #[.agg (lineB (bstr x.lab) (bstr x.tg) x.code A x.bs.length d).toArray, .bool true]) (ho : OwnS q A x.bs.length d (byts x.bs) 5 1) : UndR ws v q := .inr ⟨x, h, A, d, hv, ho⟩
theorem und_good' {ws : List (List Nat)} {v : Value} {q : Seg} {lab bs tg : List Nat} {code : Int} {A : Option Addr} {n d : Nat} (h : undN ws = some ⟨lab, code, bs, tg⟩) (hv : v = .tuple #[.agg (lineB (bstr lab) (bstr tg) code A n d).toArray, .bool true]) (hn : bs.length = n) (ho : OwnS q A n d (byts bs) 5 1) : UndR ws v q := by
  subst hn; exact und_good h hv ho
theorem getD_byt {ws : List (List Nat)} (h : ∀ x ∈ ws, Byt x) (i : Nat) : Byt (ws.getD i []) := by
  rw [List.getD_eq_getElem?_getD]
  cases hx : ws[i]? with
  | none => intro b hb; cases hb
  | some x => exact h x (List.mem_of_getElem? hx)
theorem dsl_0 {l : List Nat} {j off : Nat} (h : j < l.length) (ho : off = 0) : ((ints l).drop j)[off]? = some (.int .i64 ((l.getD j 0 : Nat) : Int)) := by
  subst ho; simp [ints, h]
theorem dsl_i {l : List Nat} {j i off : Nat} (h : j + i < l.length) (ho : off = i) : ((ints l).drop j)[off]? = some (.int .i64 ((l.getD (j + i) 0 : Nat) : Int)) := by
  subst ho; simp [ints, h]
theorem slc_next {b j : Nat} (h : 1 < 32 - j) : Value.slice (if 32 - j = 1 then some ⟨b, j, none⟩ else (some ⟨b, j, none⟩ : Option Addr).map (·.add (1 * 1))) (32 - j - 1) (32 - j - 1) = .slice (some ⟨b, j + 1, none⟩) (32 - (j + 1)) (32 - (j + 1)) := by
  rw [if_neg (by omega), Nat.sub_sub]; rfl
theorem small_dg {m : Nat} (h : m ≤ 255) : dg m 0 % 256 = m := by rw [dg0]; omega
theorem und_lab {ws : List (List Nat)} {n : Nat} (hn : ws.length = n) (h1 : n = 1) (h2 : (lblN (ws.getD 0 [])).2 = true) : undN ws = some ⟨(lblN (ws.getD 0 [])).1, -1, [], []⟩ := by
  unfold undN; rw [if_pos ⟨by omega, h2⟩]
theorem und_ins {ws : List (List Nat)} {n : Nat} (hn : ws.length = n) (h : n = 1 → (lblN (ws.getD 0 [])).2 = false) : undN ws = insM (codeN (ws.getD 0 [])) n (ws.getD 1 []) := by
  unfold undN; rw [if_neg, hn]
  rintro ⟨h1, h2⟩
  rw [h (by omega)] at h2; cases h2
theorem ins_1 {c n : Nat} {b : List Nat} (h : 2 < n ∨ 28 ≤ c ∨ ¬ (hasP c ↔ n = 2)) : insM c n b = none := by unfold insM; rw [if_pos h]
theorem ins_2 {c n : Nat} {b : List Nat} (h : ¬ (2 < n ∨ 28 ≤ c ∨ ¬ (hasP c ↔ n = 2))) (h2 : ¬ hasP c) : insM c n b = some ⟨[], c, [c], []⟩ := by unfold insM; rw [if_neg h, if_pos h2]
theorem ins_3 {c n : Nat} {b : List Nat} (h : ¬ (2 < n ∨ 28 ≤ c ∨ ¬ (hasP c ↔ n = 2))) (h2 : hasP c) (h3 : c = 14 ∨ c = 15) : insM c n b = if okL b = true then some ⟨[], c, [c, 0, 0], b⟩ else none := by
  unfold insM; rw [if_neg h, if_neg (fun e => e h2), if_pos h3]
theorem ins_4 {c n : Nat} {b : List Nat} (h : ¬ (2 < n ∨ 28 ≤ c ∨ ¬ (hasP c ↔ n = 2))) (h2 : hasP c) (h3 : ¬ (c = 14 ∨ c = 15)) (h4 : (prs b).isSome = false) : insM c n b = none := by
  unfold insM; rw [if_neg h, if_neg (fun e => e h2), if_neg h3]
  cases hp : prs b with
  | none => rfl
  | some m => rw [hp] at h4; cases h4
theorem ins_5 {c n : Nat} {b : List Nat} (h : ¬ (2 < n ∨ 28 ≤ c ∨ ¬ (hasP c ↔ n = 2))) (h2 : hasP c) (h3 : ¬ (c = 14 ∨ c = 15)) (h4 : (prs b).isSome = true) (h5 : c = 2) : insM c n b = some ⟨[], c, pshN ((prs b).getD 0), []⟩ := by
  unfold insM; rw [if_neg h, if_neg (fun e => e h2), if_neg h3]
  cases hp : prs b with
  | none => rw [hp] at h4; cases h4
  | some m => simp only [if_pos h5]; rfl
theorem ins_6 {c n : Nat} {b : List Nat} (h : ¬ (2 < n ∨ 28 ≤ c ∨ ¬ (hasP c ↔ n = 2))) (h2 : hasP c) (h3 : ¬ (c = 14 ∨ c = 15)) (h4 : (prs b).isSome = true) (h5 : ¬ c = 2) : insM c n b = if mostN c < (prs b).getD 0 ∨ (prs b).getD 0 < leastN c then none else some ⟨[], c, [c, (prs b).getD 0], []⟩ := by
  unfold insM; rw [if_neg h, if_neg (fun e => e h2), if_neg h3]
  cases hp : prs b with
  | none => rw [hp] at h4; cases h4
  | some m => simp only [if_neg h5]; rfl
theorem prs_lt0 (b : List Nat) : (prs b).getD 0 < 115792089237316195423570985008687907853269984665640564039457584007913129639936 := by
  cases hp : prs b with
  | none => decide
  | some m => exact prs_lt hp
theorem most_le (c : Nat) : mostN c ≤ 255 ∧ leastN c ≤ mostN c := by unfold mostN leastN; (repeat' split) <;> omega
theorem rd_drop {w : World} {b j : Nat} {l : List Value} (h : Rd w (some ⟨b, 0, none⟩) l) : Rd w (some ⟨b, j, none⟩) (l.drop j) := by
  intro i u hu
  rw [List.getElem?_drop] at hu
  obtain ⟨a, ha, hc⟩ := h (j + i) u hu
  refine ⟨_, rfl, ?_⟩
  simp only [Option.some.injEq] at ha
  subst ha
  by_cases hi : i = 0 <;> by_cases hj : j = 0 <;> simp_all [Addr.add]
theorem strip_next {l : List Nat} {j : Nat} (hl : l.length = 32) (hj : j < 31) (hz : ∀ i, i < j → l.getD i 0 = 0) (h0 : l.getD j 0 = 0) : ∀ i, i < j + 1 → l.getD i 0 = 0 := by
  intro i hi
  by_cases h : i < j
  · exact hz i h
  · have : i = j := by omega
    rw [this]; exact h0
theorem strip_end {l : List Nat} {j : Nat} (hl : l.length = 32) (hj : j ≤ 31) (hz : ∀ i, i < j → l.getD i 0 = 0) (h : ¬ (1 < 32 - j ∧ l.getD j 0 = 0)) : trim0 l = l.drop j := by
  rw [trim0_drop j (by omega) hz, trim0_stop]
  rw [List.length_drop, List.getD_eq_getElem?_getD, List.getElem?_drop, Nat.add_zero, ← List.getD_eq_getElem?_getD]
  omega
theorem own_bsnoc {s : Seg} {A : Option Addr} {n c x : Nat} {l : List Nat} (h : OwnS s A n c (byts l ++ [.int .u8 ((x : Nat) : Int)]) 5 1) : OwnS s A n c (byts (l ++ [x])) 5 1 := by
  have : byts (l ++ [x]) = byts l ++ [.int .u8 ((x : Nat) : Int)] := by simp [byts]
  rwa [this]
theorem psh_snoc {c m i : Nat} {l : List Nat} (hi : i < l.length) : [c, m] ++ l.take (i + 1) = ([c, m] ++ l.take i) ++ [l.getD i 0] := by rw [take_snoc 0 l i hi]; simp
theorem drop_getD (l : List Nat) (j i : Nat) : (l.drop j).getD i 0 = l.getD (j + i) 0 := by rw [List.getD_eq_getElem?_getD, List.getElem?_drop, ← List.getD_eq_getElem?_getD]
theorem mem_getD {α : Type} {d : α} {l : List α} {i : Nat} (h : i < l.length) : l.getD i d ∈ l := by rw [List.getD_eq_getElem?_getD, List.getElem?_eq_getElem h]; exact List.getElem_mem h
set_option maxHeartbeats 4000000 in
theorem und_calls (A : Option Addr) (n e : Nat) (wl : List (List Nat)) (w0 : World) (hA : Rd w0 A (strs wl)) (hn : wl.length = n) (h1 : 1 ≤ n) (hnb : n ≤ 1000000) (hB : ∀ x ∈ wl, Byt x) : Ret Tryz.prog 55 [.slice A n e] w0 [] (fun v q => UndR wl v q) := by
 refine fn_start Tryz.func55 Y Tryz.ntmps55 Y [(0, .slice A n e)] ⟨Y, trivial⟩ ?_
 intro Q a hP J hR hN
 have G := St.start w0
 have hB0 := getD_byt hB 0; have hB1 := getD_byt hB 1; have hds : (toB 32 ((prs (wl.getD 1 [])).getD 0)).length = 32 := length_toB 32 _
 refine wp_seq_k fun K1 hK1=> wp_region_lit <| so (wn Y) (O.alloc Y Y J ze112 Y G fun b2 a w J G=> ?_)
 refine av J Y Y fun a J=> s0 <| then_n (hK1 _ _ <| wp_seq_k fun K2 hK2=> ?_)
 have hK2' : ∀ a w, (Fr 183 [(0, .slice A n e), (2, .pointer (some ⟨b2, 0, none⟩))] a ∧ St w0 [] [[(b2, Cel (lineB ⟨#[]⟩ ⟨#[]⟩ 0 none 0 0) 112)]] w ∧ (undN wl = insM (codeN (wl.getD 0 [])) n (wl.getD 1 []))) → K2 a w := by
  rintro a w ⟨J, G, hU⟩
  refine hK2 _ _ ?_
  refine wp_seq_k fun K3 hK3=> wp_seq_k fun K4 hK4=> wp_region_lit <| mv J Y Y fun a J=> sw J Y Y Y (R.len Tryz.underlying108 (J.ev Y)) fun a J=> sw J Y Y Y (R.gtr (J.ev Y) (J.ev Y)) fun a J=> s0 <| then_n (hK4 _ _ <| cD J Y (fun c3=> ?_) (fun c3=> ?_))
  ·refine wp_seq_k fun K5 hK5=> wp_region_lit <| sw J Y Y Y (R.buildStr (l := lineB ⟨#[]⟩ ⟨#[]⟩ 0 none 0 0) Tryz.underlying112 ze112 pl112 (J.evp Y) Y) fun a J=> so (wn Y) (O.storeW sz112 (J.ev Y) (J.ev Y) (Y) Y (by simp [Value.oneCell']) G .h (Y) fun w G=> ?_)
   refine av J Y Y fun a J=> s0 <| then_n (hK5 _ _ <| wp_ret (then_r (hR _ _ _ _ _ J (run_results Tryz.results55 (.cw J Y agg112 G .h sz112 (Y) (.t J Y (.nil)))) ?_)))
   exact ⟨_, [], Y, und_bad (hU.trans (ins_1 (.inl (by omega)))) Y, G.none⟩
  have hn2 : ¬ 2 < n := by omega
  refine wp_skip <| then_n (hK3 _ _ <| wp_seq_k fun K6 hK6=> wp_region_lit <| mv J Y Y fun a J=> sw J Y Y Y (R.indexO Tryz.underlying108 sz9 (J.ev Y) (Rd.ne hA (by rw [len_strs]; omega)) (J.ev Y) (by omega) (by omega)) fun a J=> sw J Y Y Y (R.loadO one9 (J.ev Y) (hA.old G) (strs_at (i := 0) (by omega) (by omega))) fun a J=> so (wn Y) (O.call Y Y J ent103 (J.evs Y) G (rcodeOf_l hB0 _) fun v s35 a w hR J G=> ?_))
  obtain ⟨rfl, rfl⟩ := hR
  refine av J Y Y fun a J=> s0 <| then_n (hK6 _ _ <| wp_seq_k fun K7 hK7=> wp_seq_k fun K8 hK8=> wp_region_lit <| mv J Y Y fun a J=> lS J Y Y Y fun a J=> s0 <| then_n (hK8 _ _ <| cD J Y (fun c4=> ?_) (fun c4=> ?_)))
  ·have hc28 : 28 ≤ codeN (wl.getD 0 []) := Nat.le_of_not_lt fun h => by (rw [if_pos h] at c4; omega)
   refine wp_seq_k fun K9 hK9=> wp_region_lit <| sw J Y Y Y (R.buildStr (l := lineB ⟨#[]⟩ ⟨#[]⟩ 0 none 0 0) Tryz.underlying112 ze112 pl112 (J.evp Y) Y) fun a J=> so (wn Y) (O.storeW sz112 (J.ev Y) (J.ev Y) (Y) Y (by simp [Value.oneCell']) G (.t .h) (Y) fun w G=> ?_)
   refine av J Y Y fun a J=> s0 <| then_n (hK9 _ _ <| wp_ret (then_r (hR _ _ _ _ _ J (run_results Tryz.results55 (.cw J Y agg112 G (.t .h) sz112 (Y) (.t J Y (.nil)))) ?_)))
   exact ⟨_, [], Y, und_bad (hU.trans (ins_1 (.inr (.inl hc28)))) Y, G.none⟩
  have hc28 : codeN (wl.getD 0 []) < 28 := by (by_cases h : codeN (wl.getD 0 []) < 28; exact h; rw [if_neg h] at c4; omega)
  rw [if_pos hc28] at J
  generalize codeN (wl.getD 0 []) = c at J hU hc28
  refine wp_skip <| then_n (hK7 _ _ <| wp_seq_k fun K10 hK10=> ?_)
  have hK10' : ∀ a w, (Fr 183 [(0, .slice A n e), (2, .pointer (some ⟨b2, 0, none⟩)), (6, .int .i64 ((c : Nat) : Int)), (7, .bool (decide (c = 2 ∨ c = 4 ∨ c = 5 ∨ c = 16 ∨ c = 14 ∨ c = 15)))] a ∧ St w0 [] [[(b2, Cel (lineB ⟨#[]⟩ ⟨#[]⟩ 0 none 0 0) 112)]] w) → K10 a w := by
   rintro a w ⟨J, G⟩
   refine hK10 _ _ ?_
   refine wp_seq_k fun K11 hK11=> wp_seq_k fun K12 hK12=> wp_region_lit <| mv J Y Y fun a J=> mv J Y Y fun a J=> sw J Y Y Y (R.len Tryz.underlying108 (J.ev Y)) fun a J=> sw J Y Y Y (R.as (u := .bool (decide (n = 2))) (R.eql (J.ev Y) (J.ev Y)) (congrArg Value.bool (decide_eq_decide.2 (by omega)))) fun a J=> sw J Y Y Y (R.as (u := .bool (decide (¬ ((c = 2 ∨ c = 4 ∨ c = 5 ∨ c = 16 ∨ c = 14 ∨ c = 15) ↔ n = 2)))) (R.neqB (J.ev Y) (J.ev Y) Tryz.underlying4) (congrArg Value.bool (decide_eq_decide.2 (by (by_cases h1 : (c = 2 ∨ c = 4 ∨ c = 5 ∨ c = 16 ∨ c = 14 ∨ c = 15) <;> by_cases h2 : n = 2 <;> simp [h1, h2]))))) fun a J=> s0 <| then_n (hK12 _ _ <| cD J Y (fun c5=> ?_) (fun c5=> ?_))
   ·refine wp_seq_k fun K13 hK13=> wp_region_lit <| sw J Y Y Y (R.buildStr (l := lineB ⟨#[]⟩ ⟨#[]⟩ 0 none 0 0) Tryz.underlying112 ze112 pl112 (J.evp Y) Y) fun a J=> so (wn Y) (O.storeW sz112 (J.ev Y) (J.ev Y) (Y) Y (by simp [Value.oneCell']) G .h (Y) fun w G=> ?_)
    refine av J Y Y fun a J=> s0 <| then_n (hK13 _ _ <| wp_ret (then_r (hR _ _ _ _ _ J (run_results Tryz.results55 (.cw J Y agg112 G .h sz112 (Y) (.t J Y (.nil)))) ?_)))
    exact ⟨_, [], Y, und_bad (hU.trans (ins_1 (.inr (.inr c5)))) Y, G.none⟩
   have hgd : ¬ (2 < n ∨ 28 ≤ c ∨ ¬ (hasP c ↔ n = 2)) := by unfold hasP; omega
   refine wp_skip <| then_n (hK11 _ _ <| wp_seq_k fun K14 hK14=> wp_region_lit <| mv J Y Y fun a J=> mv J Y Y fun a J=> sw J Y Y Y (R.as (u := .int .u8 ((c : Nat) : Int)) (R.convB (p := c) Tryz.underlying3 Tryz.underlying5 (J.ev Y)) (congrArg (fun z : Nat=> Value.int .u8 (z : Int)) (Nat.mod_eq_of_lt (by omega)))) fun a J=> so (wn Y) (O.buildSlice (l := byts [c]) Y Y J Tryz.underlying22 inf5 Y Y (J.evp Y) (by decide) Y G fun b70 a w J G=> ?_))
   refine sw J Y Y Y (R.buildStr (l := lineB ⟨#[]⟩ ⟨#[]⟩ ((c : Nat) : Int) (some ⟨b70, 0, none⟩) 1 1) Tryz.underlying112 ze112 pl112 (J.evp Y) Y) fun a J=> so (wn Y) (O.alloc Y Y J ze112 Y G fun b8 a w J G=> ?_)
   refine so (wn Y) (O.storeW sz112 (J.ev Y) (J.ev Y) (Y) Y (by simp [Value.oneCell']) G .h (Y) fun w G=> ?_)
   refine s0 <| then_n (hK14 _ _ <| wp_seq_k fun K15 hK15=> wp_seq_k fun K16 hK16=> wp_region_lit <| mv J Y Y fun a J=> ?_)
   refine sw J Y Y Y ((by first | exact R.notD (J.ev Y) | exact R.not (J.ev Y))) fun a J=> ?_
   refine s0 <| then_n (hK16 _ _ <| cD J Y (fun c6=> ?_) (fun c6=> ?_))
   ·refine wp_seq_k fun K17 hK17=> wp_region_lit <| sw J Y Y Y (R.loadW agg112 (J.ev Y) G .h sz112 (Y)) fun a J=> so (wn Y) (O.storeW sz112 (J.ev Y) (J.ev Y) (Y) Y (by simp [Value.oneCell']) G (.t (.t .h)) (Y) fun w G=> ?_)
    refine av J Y Y fun a J=> s0 <| then_n (hK17 _ _ <| wp_ret (then_r (hR _ _ _ _ _ J (run_results Tryz.results55 (.cw J Y agg112 G (.t (.t .h)) sz112 (Y) (.t J Y (.nil)))) ?_)))
    exact ⟨_, _, Y, und_good' (hU.trans (ins_2 hgd c6)) (Y) (Y) ((own_fullB b70 [c] (by simp))), G.one (.t .h)⟩
   have hp : hasP c := Classical.not_not.1 c6
   refine wp_skip <| then_n (hK15 _ _ <| wp_seq_k fun K18 hK18=> wp_seq_k fun K19 hK19=> ?_)
   have hK19' : ∀ a w, (Fr 183 [(0, .slice A n e), (2, .pointer (some ⟨b2, 0, none⟩)), (6, .int .i64 ((c : Nat) : Int)), (8, .pointer (some ⟨b8, 0, none⟩)), (80, .bool (decide (c = 14 ∨ c = 15)))] a ∧ St w0 [] [[(b8, Cel (lineB ⟨#[]⟩ ⟨#[]⟩ ((c : Nat) : Int) (some ⟨b70, 0, none⟩) 1 1) 112)], [(b70, Cel (byts [c]) 5)], [(b2, Cel (lineB ⟨#[]⟩ ⟨#[]⟩ 0 none 0 0) 112)]] w) → K19 a w := by
    rintro a w ⟨J, G⟩
    refine hK19 _ _ ?_
    refine cD J Y (fun c7=> ?_) (fun c7=> ?_)
    ·refine wp_seq_k fun K20 hK20=> wp_region_lit <| mv J Y Y fun a J=> sw J Y Y Y (R.indexO Tryz.underlying108 sz9 (J.ev Y) (Rd.ne hA (by rw [len_strs]; omega)) (J.ev Y) (by omega) (by omega)) fun a J=> sw J Y Y Y (R.loadO one9 (J.ev Y) (hA.old G) (strs_at (i := 1) (by omega) (by omega))) fun a J=> sw J Y Y Y (R.fieldAddr (k := 3) Tryz.underlying112 Y nz9 (J.ev Y) Y) fun a J=> ?_
     refine so (wn Y) (O.store sz9 (J.ev Y) (J.ev Y) Y Y G .h (Y) (by first | decide | omega | (show _ < 59; decide) | (show _ < 3; decide) | simp) fun w G=> ?_)
     refine s0 <| then_n (hK20 _ _ <| wp_seq_k fun K21 hK21=> wp_region_lit <| mv J Y Y fun a J=> sw J Y Y Y (R.as (u := .int .u8 ((c : Nat) : Int)) (R.convB (p := c) Tryz.underlying3 Tryz.underlying5 (J.ev Y)) (congrArg (fun z : Nat=> Value.int .u8 (z : Int)) (Nat.mod_eq_of_lt (by omega)))) fun a J=> so (wn Y) (O.buildSlice (l := byts [c, 0, 0]) Y Y J Tryz.underlying22 inf5 Y Y (J.evp Y) (by decide) Y G fun b87 a w J G=> ?_))
     refine sw J Y Y Y (R.fieldAddr (k := 2) Tryz.underlying112 Y nz22 (J.ev Y) Y) fun a J=> ?_
     refine so (wn Y) (O.store sz22 (J.ev Y) (J.ev Y) Y Y G (.t .h) (Y) (by first | decide | omega | (show _ < 59; decide) | (show _ < 3; decide) | simp) fun w G=> ?_)
     refine s0 <| then_n (hK21 _ _ <| wp_seq_k fun K22 hK22=> wp_drawG G (G.sel [0, 1] Y Y) [(0, 1), (1, 0), (2, 0), (3, 1), (4, 2), (5, 2), (6, 0)] mix (by kernel_rfl) (hP.then.then) fun w G hD=> ?_)
     refine ds J Y Y Y Y hD (fun w hD=> R.loadW agg112 (J.ev Y) hD (.t .h) sz112 (Y)) fun a J=> ?_
     refine dm J Y Y Y fun a J=> dv J Y Y Y Y (fun w=> R.indexO Tryz.underlying108 sz9 (J.ev Y) (Rd.ne hA (by rw [len_strs]; omega)) (J.ev Y) (by omega) (by omega)) fun a J=> ds J Y Y Y Y hD (fun w hD=> R.loadO one9 (J.ev Y) (hA.old hD) (strs_at (i := 1) (by omega) (by omega))) fun a J=> ?_
     refine dl Y (wn Y) (O.call Y Y J ent104 (J.evs Y) G (named_l hB1 _) fun v s93 a w hR J G=> ⟨fun hD=> G.sel [1, 2] Y Y, ?_⟩)
     obtain ⟨rfl, rfl⟩ := hR
     have hD := G.sel [1, 2] rfl rfl
     refine dl Y (wn Y) (O.storeW sz112 (J.ev Y) (J.ev Y) (Y) Y (by simp [Value.oneCell']) G (.t (.t (.t (.t .h)))) (Y) fun w G=> ⟨fun hD=> G.sel [1, 2] Y Y, ?_⟩)
     have hD := G.sel [1, 2] rfl rfl
     refine da J Y Y Y fun a J=> d0 <| then_n (hK22 _ _ <| wp_ret (then_r (hR _ _ _ _ _ J (run_results Tryz.results55 (.cw J Y agg112 G (.t (.t (.t (.t .h)))) sz112 (Y) (.t J Y (.nil)))) ?_)))
     by_cases hk : okL (wl.getD 1 []) = true
     ·exact ⟨_, _, Y, und_good' (hU.trans ((ins_3 hgd hp c7).trans (if_pos hk))) (by rw [hk]; rfl) Y (own_fullB b87 [c, 0, 0] (by simp)), G.one (.t .h)⟩
     exact ⟨_, [], Y, und_bad (hU.trans ((ins_3 hgd hp c7).trans (if_neg hk))) (by rw [Bool.eq_false_iff.2 hk]; rfl), G.none⟩
    refine wp_skip <| then_n (hK18 _ _ <| wp_seq_k fun K23 hK23=> wp_region_lit <| mv J Y Y fun a J=> sw J Y Y Y (R.indexO Tryz.underlying108 sz9 (J.ev Y) (Rd.ne hA (by rw [len_strs]; omega)) (J.ev Y) (by omega) (by omega)) fun a J=> sw J Y Y Y (R.loadO one9 (J.ev Y) (hA.old G) (strs_at (i := 1) (by omega) (by omega))) fun a J=> so (wn Y) (O.call Y Y J ent105 (J.evs Y) G (rread_l hB1 _) fun v s98 a w hR J G=> ?_))
    obtain ⟨rfl, rfl⟩ := hR
    refine mv J Y Y fun a J=> xv J Y Y Y fun a J=> xv J Y Y Y fun a J=> so (wn Y) (O.alloc Y Y J ze32 Y G fun b9 a w J G=> ?_)
    refine so (wn Y) (O.storeW sz32 (J.ev Y) (J.ev Y) (Y) Y (by simp [Value.oneCell']) G .h (Y) fun w G=> ?_)
    refine av J Y Y fun a J=> s0 <| then_n (hK23 _ _ <| wp_seq_k fun K24 hK24=> wp_seq_k fun K25 hK25=> wp_region_lit <| mv J Y Y fun a J=> sw J Y Y Y (R.as (u := .bool (decide ((prs (wl.getD 1 [])).isSome = false))) (R.not (J.ev Y)) (by cases (prs (wl.getD 1 [])).isSome <;> rfl)) fun a J=> s0 <| then_n (hK25 _ _ <| cD J Y (fun c8=> ?_) (fun c8=> ?_)))
    ·refine wp_seq_k fun K26 hK26=> wp_region_lit <| sw J Y Y Y (R.buildStr (l := lineB ⟨#[]⟩ ⟨#[]⟩ 0 none 0 0) Tryz.underlying112 ze112 pl112 (J.evp Y) Y) fun a J=> so (wn Y) (O.storeW sz112 (J.ev Y) (J.ev Y) (Y) Y (by simp [Value.oneCell']) G (.t (.t (.t (.t .h)))) (Y) fun w G=> ?_)
     refine av J Y Y fun a J=> s0 <| then_n (hK26 _ _ <| wp_ret (then_r (hR _ _ _ _ _ J (run_results Tryz.results55 (.cw J Y agg112 G (.t (.t (.t (.t .h)))) sz112 (Y) (.t J Y (.nil)))) ?_)))
     exact ⟨_, [], Y, und_bad (hU.trans (ins_4 hgd hp c7 c8)) Y, G.none⟩
    have hs : (prs (wl.getD 1 [])).isSome = true := by (cases h : (prs (wl.getD 1 [])).isSome with | false => exact absurd h c8 | true => rfl)
    refine wp_skip <| then_n (hK24 _ _ <| wp_seq_k fun K27 hK27=> wp_seq_k fun K28 hK28=> wp_region_lit <| mv J Y Y fun a J=> eL J Y Y Y fun a J=> s0 <| then_n (hK28 _ _ <| cD J Y (fun c9=> ?_) (fun c9=> ?_)))
    ·refine wp_seq_k fun K29 hK29=> wp_region_lit <| sw J Y Y Y (R.loadW agg32 (J.ev Y) G .h sz32 (Y)) fun a J=> so (wn Y) (O.call Y Y J ent61 (J.evs Y) G (dig_calls ((prs (wl.getD 1 [])).getD 0) w) fun v s107 a w hR J G=> ?_)
     obtain ⟨b107, rfl, rfl⟩ := hR
     refine av J Y Y fun a J=> s0 <| then_n (hK29 _ _ <| wp_seq_k fun K30 hK30=> wp_block <| wp_loop_N (fun g a w=> ∃ (j : Nat), 32 - j = g ∧ Fr 183 [(0, .slice A n e), (2, .pointer (some ⟨b2, 0, none⟩)), (6, .int .i64 ((c : Nat) : Int)), (8, .pointer (some ⟨b8, 0, none⟩)), (9, .pointer (some ⟨b9, 0, none⟩)), (11, .slice (some ⟨b107, j, none⟩) (32 - j) (32 - j))] a ∧ St w0 [] [[(b107, Cel (ints (toB 32 ((prs (wl.getD 1 [])).getD 0))) 3)], [(b8, Cel (lineB ⟨#[]⟩ ⟨#[]⟩ ((c : Nat) : Int) (some ⟨b70, 0, none⟩) 1 1) 112)], [(b70, Cel (byts [c]) 5)], [(b2, Cel (lineB ⟨#[]⟩ ⟨#[]⟩ 0 none 0 0) 112)]] w ∧ (j ≤ 31) ∧ (∀ i, i < j → (toB 32 ((prs (wl.getD 1 [])).getD 0)).getD i 0 = 0)) (32 - 0) ?_ ?_)
     ·exact ⟨0, Y, J.sub ⟨Y, Y, Y, Y, Y, Y, trivial⟩, G.sel [0, 3, 4, 5] Y Y, by omega, (fun i hi => absurd hi (Nat.not_lt_zero i))⟩
     rintro KL1 g a w ⟨j, hg1, J, G, hj, hz⟩ hKL1
     have hdj := toB_lt _ (mem_getD (d := 0) (l := (toB 32 ((prs (wl.getD 1 [])).getD 0))) (i := j) (by omega))
     refine wp_seq_k fun K31 hK31=> wp_seq_k fun K32 hK32=> ?_
     have hK32' : ∀ a w, (Fr 183 [(0, .slice A n e), (2, .pointer (some ⟨b2, 0, none⟩)), (6, .int .i64 ((c : Nat) : Int)), (8, .pointer (some ⟨b8, 0, none⟩)), (9, .pointer (some ⟨b9, 0, none⟩)), (11, .slice (some ⟨b107, j, none⟩) (32 - j) (32 - j)), (116, .bool (decide (1 < 32 - j ∧ (toB 32 ((prs (wl.getD 1 [])).getD 0)).getD j 0 = 0)))] a ∧ St w0 [] [[(b107, Cel (ints (toB 32 ((prs (wl.getD 1 [])).getD 0))) 3)], [(b8, Cel (lineB ⟨#[]⟩ ⟨#[]⟩ ((c : Nat) : Int) (some ⟨b70, 0, none⟩) 1 1) 112)], [(b70, Cel (byts [c]) 5)], [(b2, Cel (lineB ⟨#[]⟩ ⟨#[]⟩ 0 none 0 0) 112)]] w) → K32 a w := by
      rintro a w ⟨J, G⟩
      refine hK32 _ _ ?_
      refine cD J Y (fun d1=> ?_) (fun d1=> ?_)
      ·refine wp_skip <| then_n (hK31 _ _ <| wp_block <| wp_region_lit <| mv J Y Y fun a J=> sw J Y Y Y (R.as (u := .slice (some ⟨b107, j + 1, none⟩) (32 - (j + 1)) (32 - (j + 1))) (R.sliceLo (p := 1) Tryz.underlying61 (J.ev Y) (J.ev Y) (by omega) sz3) (slc_next (by omega))) fun a J=> av J Y Y fun a J=> s0 <| blk_n <| then_n (hKL1 (32 - (j + 1)) _ _ ?_ ?_))
       ·omega
       exact ⟨j + 1, Y, J.sub ⟨Y, Y, Y, Y, Y, Y, trivial⟩, G.sel [0, 1, 2, 3] Y Y, by omega, strip_next hds (by omega) hz d1.2⟩
      have hst := strip_end hds hj hz d1
      have hps : pshN ((prs (wl.getD 1 [])).getD 0) = [c, 32 - j] ++ (toB 32 ((prs (wl.getD 1 [])).getD 0)).drop j := by (unfold pshN; rw [hst, List.length_drop, hds, show c = 2 by omega]; rfl)
      refine wp_exit (then_x (then_x (blk_hit <| then_n (hK30 _ _ <| wp_seq_k fun K33 hK33=> wp_region_lit <| sw J Y Y Y (R.fieldAddr (k := 2) Tryz.underlying112 Y nz22 (J.ev Y) Y) fun a J=> sw J Y Y Y (R.load one22 (J.ev Y) G (.t .h) (Y)) fun a J=> mv J Y Y fun a J=> sw J Y Y Y (R.len Tryz.underlying61 (J.ev Y)) fun a J=> sw J Y Y Y (R.as (u := .int .u8 (((32 - j) : Nat) : Int)) (R.convB (p := 32 - j) Tryz.underlying3 Tryz.underlying5 (J.ev Y)) (congrArg (fun z : Nat=> Value.int .u8 (z : Int)) (Nat.mod_eq_of_lt (by omega)))) fun a J=> so (wn Y) (O.buildSlice (l := [_]) Y Y J Tryz.underlying22 inf5 Y Y (J.evp Y) (by decide) Y G fun b124 a w J G=> ?_)))))
      refine so (wn Y) (O.append Y Y J Tryz.underlying22 inf5 Y Y (by decide) (J.ev Y) (J.ev Y) G (own_fullB b70 [c] (by simp)) (fun _=> (.t (.t (.t .h)))) (Rd.own0 G .h) (Y) (by simp [Value.oneCell']) (by unfold maxLen; omega) (by omega) fun A125 c125 s125 a w hO125 J G=> ?_)
      refine sw J Y Y Y (R.fieldAddr (k := 2) Tryz.underlying112 Y nz22 (J.ev Y) Y) fun a J=> ?_
      refine so (wn Y) (O.store sz22 (J.ev Y) (J.ev Y) Y Y G (.t (.t .h)) (Y) (by first | decide | omega | (show _ < 59; decide) | (show _ < 3; decide) | simp) fun w G=> ?_)
      refine s0 <| then_n (hK33 _ _ <| wp_seq_k fun K34 hK34=> wp_seq_k fun K35 hK35=> wp_region_lit <| av J Y Y fun a J=> s0 <| then_n (hK35 _ _ <| wp_block <| wp_loop_N (fun g a w=> ∃ (i : Nat) (B : Option Addr) (d : Nat) (z : Seg), 32 - j - i = g ∧ Fr 183 [(0, .slice A n e), (2, .pointer (some ⟨b2, 0, none⟩)), (8, .pointer (some ⟨b8, 0, none⟩)), (11, .slice (some ⟨b107, j, none⟩) (32 - j) (32 - j)), (12, .int .i64 ((i : Nat) : Int))] a ∧ St w0 [] [z, [(b8, Cel (lineB ⟨#[]⟩ ⟨#[]⟩ ((c : Nat) : Int) B (2 + i) d) 112)], [(b107, Cel (ints (toB 32 ((prs (wl.getD 1 [])).getD 0))) 3)], [(b2, Cel (lineB ⟨#[]⟩ ⟨#[]⟩ 0 none 0 0) 112)]] w ∧ (i ≤ 32 - j) ∧ (OwnS z B (2 + i) d (byts ([c, 32 - j] ++ ((toB 32 ((prs (wl.getD 1 [])).getD 0)).drop j).take i)) 5 1)) (32 - j - 0) ?_ ?_))
      ·exact ⟨0, A125, c125, s125, Y, J.sub ⟨Y, Y, Y, Y, Y, trivial⟩, G.sel [3, 2, 1, 4] Y Y, by omega, own_bsnoc (l := [c]) hO125⟩
      rintro KL2 g a w ⟨i, B, d, z, hg2, J, G, hi, hO⟩ hKL2
      have hdi := fun h => toB_lt _ (mem_getD (d := 0) (l := (toB 32 ((prs (wl.getD 1 [])).getD 0))) (i := j + i) h)
      refine wp_seq_k fun K36 hK36=> wp_seq_k fun K37 hK37=> wp_region_lit <| mv J Y Y fun a J=> mv J Y Y fun a J=> sw J Y Y Y (R.len Tryz.underlying61 (J.ev Y)) fun a J=> lS J Y Y Y fun a J=> s0 <| then_n (hK37 _ _ <| cD J Y (fun d2=> ?_) (fun d2=> ?_))
      ·refine wp_skip <| then_n (hK36 _ _ <| wp_seq_k fun K38 hK38=> wp_block <| wp_draw2G G (G.sel [2] Y Y) [(0, 0), (2, 0), (3, 0), (4, 0), (5, 1), (6, 0)] [[(1, 2), (7, 2), (8, 2), (9, 0), (10, 2)], [(7, 2), (1, 2), (8, 2), (9, 0), (10, 2)]] mix (by kernel_rfl) (hP.then.then.block.then.then.block) fun w G hD=> ?_)
       refine dv J Y Y Y Y (fun w=> R.fieldAddr (k := 2) Tryz.underlying112 Y nz22 (J.ev Y) Y) fun a J=> dm J Y Y Y fun a J=> dm J Y Y Y fun a J=> dv J Y Y Y Y (fun w=> R.indexO Tryz.underlying61 sz3 (J.ev Y) ((rd_drop (j := j) (Rd.own0 G (.t (.t .h)))).ne (by rw [List.length_drop, length_ints]; omega)) (J.ev Y) (by omega) (by omega)) fun a J=> ds J Y Y Y Y hD (fun w hD=> R.loadO one3 (J.ev Y) (rd_drop (j := j) (Rd.own0 hD .h)) (dsl_i (j := j) (i := i) (by omega) (by omega))) fun a J=> ?_
       have hdi2 := hdi (by omega)
       refine dv J Y Y Y Y (fun w=> R.as (u := .int .u8 ((((toB 32 ((prs (wl.getD 1 [])).getD 0)).getD (j + i) 0) : Nat) : Int)) (R.convB (p := ((toB 32 ((prs (wl.getD 1 [])).getD 0)).getD (j + i) 0)) Tryz.underlying3 Tryz.underlying5 (J.ev Y)) (congrArg (fun z : Nat=> Value.int .u8 (z : Int)) (Nat.mod_eq_of_lt (by omega)))) fun a J=> d0 <| alts2 ?_ ?_
       ·refine dl Y (wn Y) (O.val J Y Y (R.load one22 (J.ev Y) G (.t .h) (Y)) fun a J=> ⟨id, ?_⟩)
        refine dl Y (wn Y) (O.buildSlice (l := [_]) Y Y J Tryz.underlying22 inf5 Y Y (J.evp Y) (by decide) Y G fun b140 a w J G=> ⟨fun hD=> G.sel [3] Y Y, ?_⟩)
        have hD := G.sel [3] rfl rfl
        refine dl Y (wn Y) (O.append Y Y J Tryz.underlying22 inf5 Y Y (by decide) (J.ev Y) (J.ev Y) G hO (fun _=> (.t .h)) (Rd.own0 G .h) (Y) (by simp [Value.oneCell']) (by unfold maxLen; omega) (by omega) fun A141 c141 s141 a w hO141 J G=> ⟨fun hD=> G.sel [3] Y Y, ?_⟩)
        have hD := G.sel [3] rfl rfl
        refine dv J Y Y Y Y (fun w=> R.fieldAddr (k := 2) Tryz.underlying112 Y nz22 (J.ev Y) Y) fun a J=> ?_
        refine dl Y (wn Y) (O.store sz22 (J.ev Y) (J.ev Y) Y Y G (.t (.t .h)) (Y) (by first | decide | omega | (show _ < 59; decide) | (show _ < 3; decide) | simp) fun w G=> ⟨fun hD=> G.sel [3] Y Y, ?_⟩)
        have hD := G.sel [3] rfl rfl
        refine d0 <| blk_n <| then_n (hK38 _ _ <| wp_region_lit <| mv J Y Y fun a J=> aI J Y Y Y (by omega) fun a J=> av J Y Y fun a J=> s0 <| then_n (hKL2 (32 - j - (i + 1)) _ _ ?_ ?_))
        ·omega
        exact ⟨i + 1, A141, c141, s141, Y, J.sub ⟨Y, Y, Y, Y, (congrArg (fun z => some (Value.int .i64 z)) (by omega)), trivial⟩, G.sel [1, 2, 3, 4] Y Y, by omega, (by rw [psh_snoc (by rw [List.length_drop]; omega), drop_getD]; exact own_bsnoc hO141)⟩
       refine dl Y (wn Y) (O.buildSlice (l := [_]) Y Y J Tryz.underlying22 inf5 Y Y (J.evp Y) (by decide) Y G fun b140 a w J G=> ⟨fun hD=> G.sel [3] Y Y, ?_⟩)
       have hD := G.sel [3] rfl rfl
       refine dl Y (wn Y) (O.val J Y Y (R.load one22 (J.ev Y) G (.t (.t .h)) (Y)) fun a J=> ⟨id, ?_⟩)
       refine dl Y (wn Y) (O.append Y Y J Tryz.underlying22 inf5 Y Y (by decide) (J.ev Y) (J.ev Y) G hO (fun _=> (.t .h)) (Rd.own0 G .h) (Y) (by simp [Value.oneCell']) (by unfold maxLen; omega) (by omega) fun A141 c141 s141 a w hO141 J G=> ⟨fun hD=> G.sel [3] Y Y, ?_⟩)
       have hD := G.sel [3] rfl rfl
       refine dv J Y Y Y Y (fun w=> R.fieldAddr (k := 2) Tryz.underlying112 Y nz22 (J.ev Y) Y) fun a J=> ?_
       refine dl Y (wn Y) (O.store sz22 (J.ev Y) (J.ev Y) Y Y G (.t (.t .h)) (Y) (by first | decide | omega | (show _ < 59; decide) | (show _ < 3; decide) | simp) fun w G=> ⟨fun hD=> G.sel [3] Y Y, ?_⟩)
       have hD := G.sel [3] rfl rfl
       refine d0 <| blk_n <| then_n (hK38 _ _ <| wp_region_lit <| mv J Y Y fun a J=> aI J Y Y Y (by omega) fun a J=> av J Y Y fun a J=> s0 <| then_n (hKL2 (32 - j - (i + 1)) _ _ ?_ ?_))
       ·omega
       exact ⟨i + 1, A141, c141, s141, Y, J.sub ⟨Y, Y, Y, Y, (congrArg (fun z => some (Value.int .i64 z)) (by omega)), trivial⟩, G.sel [1, 2, 3, 4] Y Y, by omega, (by rw [psh_snoc (by rw [List.length_drop]; omega), drop_getD]; exact own_bsnoc hO141)⟩
      obtain rfl : i = 32 - j := by omega
      have hfu : ((toB 32 ((prs (wl.getD 1 [])).getD 0)).drop j).take (32 - j) = (toB 32 ((prs (wl.getD 1 [])).getD 0)).drop j := List.take_of_length_le (by rw [List.length_drop]; omega)
      rw [hfu, ← hps] at hO
      have hln : (pshN ((prs (wl.getD 1 [])).getD 0)).length = 2 + (32 - j) := by (rw [hps, List.length_append, List.length_drop, hds]; rfl)
      refine wp_exit (then_x (then_x (blk_hit <| then_n (hK34 _ _ <| wp_seq_k fun K39 hK39=> wp_region_lit <| sw J Y Y Y (R.loadW agg112 (J.ev Y) G (.t .h) sz112 (Y)) fun a J=> so (wn Y) (O.storeW sz112 (J.ev Y) (J.ev Y) (Y) Y (by simp [Value.oneCell']) G (.t (.t (.t .h))) (Y) fun w G=> ?_)))))
      refine av J Y Y fun a J=> s0 <| then_n (hK39 _ _ <| wp_ret (then_r (hR _ _ _ _ _ J (run_results Tryz.results55 (.cw J Y agg112 G (.t (.t (.t .h))) sz112 (Y) (.t J Y (.nil)))) ?_)))
      exact ⟨_, _, Y, und_good' (hU.trans (ins_5 hgd hp c7 hs (by omega))) (Y) (hln) (hO), G.one .h⟩
     refine wp_region_lit <| mv J Y Y fun a J=> sw J Y Y Y (R.len Tryz.underlying61 (J.ev Y)) fun a J=> sw J Y Y Y (R.gtr (J.ev Y) (J.ev Y)) fun a J=> mv J Y Y fun a J=> J.splitD (t := 111) Y (fun h111 J=> ?_) (fun h111 J=> ?_)
     ·refine my J Y Y Y Y fun a J=> sv' J (wy J Y Y Y) Y Y (R.indexO Tryz.underlying61 sz3 (J.ev Y) ((rd_drop (j := j) (Rd.own0 G .h)).ne (by rw [List.length_drop, length_ints]; omega)) (J.ev Y) (by omega) (by omega)) fun a J=> sv' J (wy J Y Y Y) Y Y (R.loadO one3 (J.ev Y) (rd_drop (j := j) (Rd.own0 G .h)) (dsl_0 (j := j) (by omega) (by omega))) fun a J=> sv' J (wy J Y Y Y) Y Y (R.eql (J.ev Y) (J.ev Y)) fun a J=> pT J Y Y Y fun a J=> s0 ?_
      exact then_n (hK32' _ _ ⟨J.sub ⟨Y, Y, Y, Y, Y, Y, (congrArg (fun z => some (Value.bool z)) (by first | exact (decide_eq_true (by omega)).symm | exact (decide_eq_false (by omega)).symm | exact decide_eq_decide.2 (by omega))), trivial⟩, G.sel [0, 1, 2, 3] Y Y⟩)
     refine kz J Y Y Y Y Y Y fun a J=> kz J Y Y Y Y Y Y fun a J=> kz J Y Y Y Y Y Y fun a J=> kz J Y Y Y Y Y Y fun a J=> pF J Y Y Y fun a J=> s0 ?_
     exact then_n (hK32' _ _ ⟨J.sub ⟨Y, Y, Y, Y, Y, Y, (congrArg (fun z => some (Value.bool z)) (by first | exact (decide_eq_true (by omega)).symm | exact (decide_eq_false (by omega)).symm | exact decide_eq_decide.2 (by omega))), trivial⟩, G.sel [0, 1, 2, 3] Y Y⟩)
    refine wp_skip <| then_n (hK27 _ _ <| wp_seq_k fun K40 hK40=> wp_region_lit <| av J Y Y fun a J=> s0 <| then_n (hK40 _ _ <| wp_seq_k fun K41 hK41=> wp_region_lit <| av J Y Y fun a J=> s0 <| then_n (hK41 _ _ <| wp_seq_k fun K42 hK42=> ?_)))
    have hK42' : ∀ a w, (Fr 183 [(0, .slice A n e), (2, .pointer (some ⟨b2, 0, none⟩)), (6, .int .i64 ((c : Nat) : Int)), (8, .pointer (some ⟨b8, 0, none⟩)), (9, .pointer (some ⟨b9, 0, none⟩)), (13, .int .u64 ((mostN c : Nat) : Int)), (14, .int .u64 0)] a ∧ St w0 [] [[(b9, Cel (wc ((prs (wl.getD 1 [])).getD 0)) 32)], [(b8, Cel (lineB ⟨#[]⟩ ⟨#[]⟩ ((c : Nat) : Int) (some ⟨b70, 0, none⟩) 1 1) 112)], [(b70, Cel (byts [c]) 5)], [(b2, Cel (lineB ⟨#[]⟩ ⟨#[]⟩ 0 none 0 0) 112)]] w) → K42 a w := by
     rintro a w ⟨J, G⟩
     refine hK42 _ _ ?_
     refine wp_seq_k fun K43 hK43=> ?_
     have hK43' : ∀ a w, (Fr 183 [(0, .slice A n e), (2, .pointer (some ⟨b2, 0, none⟩)), (6, .int .i64 ((c : Nat) : Int)), (8, .pointer (some ⟨b8, 0, none⟩)), (9, .pointer (some ⟨b9, 0, none⟩)), (13, .int .u64 ((mostN c : Nat) : Int)), (14, .int .u64 ((leastN c : Nat) : Int))] a ∧ St w0 [] [[(b9, Cel (wc ((prs (wl.getD 1 [])).getD 0)) 32)], [(b8, Cel (lineB ⟨#[]⟩ ⟨#[]⟩ ((c : Nat) : Int) (some ⟨b70, 0, none⟩) 1 1) 112)], [(b70, Cel (byts [c]) 5)], [(b2, Cel (lineB ⟨#[]⟩ ⟨#[]⟩ 0 none 0 0) 112)]] w) → K43 a w := by
      rintro a w ⟨J, G⟩
      refine hK43 _ _ ?_
      refine wp_seq_k fun K44 hK44=> wp_seq_k fun K45 hK45=> ?_
      have hK45' : ∀ a w, (Fr 183 [(0, .slice A n e), (2, .pointer (some ⟨b2, 0, none⟩)), (6, .int .i64 ((c : Nat) : Int)), (8, .pointer (some ⟨b8, 0, none⟩)), (9, .pointer (some ⟨b9, 0, none⟩)), (172, .bool (decide (mostN c < ((prs (wl.getD 1 [])).getD 0) ∨ ((prs (wl.getD 1 [])).getD 0) < leastN c)))] a ∧ St w0 [] [[(b9, Cel (wc ((prs (wl.getD 1 [])).getD 0)) 32)], [(b8, Cel (lineB ⟨#[]⟩ ⟨#[]⟩ ((c : Nat) : Int) (some ⟨b70, 0, none⟩) 1 1) 112)], [(b70, Cel (byts [c]) 5)], [(b2, Cel (lineB ⟨#[]⟩ ⟨#[]⟩ 0 none 0 0) 112)]] w) → K45 a w := by
       rintro a w ⟨J, G⟩
       refine hK45 _ _ ?_
       refine cD J Y (fun d5=> ?_) (fun d5=> ?_)
       ·refine wp_seq_k fun K46 hK46=> wp_region_lit <| sw J Y Y Y (R.buildStr (l := lineB ⟨#[]⟩ ⟨#[]⟩ 0 none 0 0) Tryz.underlying112 ze112 pl112 (J.evp Y) Y) fun a J=> so (wn Y) (O.storeW sz112 (J.ev Y) (J.ev Y) (Y) Y (by simp [Value.oneCell']) G (.t (.t (.t .h))) (Y) fun w G=> ?_)
        refine av J Y Y fun a J=> s0 <| then_n (hK46 _ _ <| wp_ret (then_r (hR _ _ _ _ _ J (run_results Tryz.results55 (.cw J Y agg112 G (.t (.t (.t .h))) sz112 (Y) (.t J Y (.nil)))) ?_)))
        exact ⟨_, [], Y, und_bad (hU.trans ((ins_6 hgd hp c7 hs (by omega)).trans (if_pos d5))) Y, G.none⟩
       refine wp_skip <| then_n (hK44 _ _ <| wp_seq_k fun K47 hK47=> wp_region_lit <| sw J Y Y Y (R.fieldAddr (k := 2) Tryz.underlying112 Y nz22 (J.ev Y) Y) fun a J=> sw J Y Y Y (R.load one22 (J.ev Y) G (.t .h) (Y)) fun a J=> sw J Y Y Y (R.indexA Tryz.underlying32 sz30 (J.ev Y) (J.ev Y) (by omega) (by omega)) fun a J=> sw J Y Y Y (R.load one30 (J.ev Y) G .h (Y)) fun a J=> ?_)
       have hml := most_le c
       refine sw J Y Y Y (R.as (u := .int .u8 ((((prs (wl.getD 1 [])).getD 0) : Nat) : Int)) (R.convB (p := dg ((prs (wl.getD 1 [])).getD 0) 0) Tryz.underlying30 Tryz.underlying5 (J.ev Y)) (congrArg (fun z : Nat=> Value.int .u8 (z : Int)) (small_dg (by omega)))) fun a J=> so (wn Y) (O.buildSlice (l := [_]) Y Y J Tryz.underlying22 inf5 Y Y (J.evp Y) (by decide) Y G fun b179 a w J G=> ?_)
       refine so (wn Y) (O.append Y Y J Tryz.underlying22 inf5 Y Y (by decide) (J.ev Y) (J.ev Y) G (own_fullB b70 [c] (by simp)) (fun _=> (.t (.t (.t .h)))) (Rd.own0 G .h) (Y) (by simp [Value.oneCell']) (by unfold maxLen; omega) (by omega) fun A180 c180 s180 a w hO180 J G=> ?_)
       refine sw J Y Y Y (R.fieldAddr (k := 2) Tryz.underlying112 Y nz22 (J.ev Y) Y) fun a J=> ?_
       refine so (wn Y) (O.store sz22 (J.ev Y) (J.ev Y) Y Y G (.t (.t .h)) (Y) (by first | decide | omega | (show _ < 59; decide) | (show _ < 3; decide) | simp) fun w G=> ?_)
       refine s0 <| then_n (hK47 _ _ <| wp_seq_k fun K48 hK48=> wp_region_lit <| sw J Y Y Y (R.loadW agg112 (J.ev Y) G (.t (.t .h)) sz112 (Y)) fun a J=> so (wn Y) (O.storeW sz112 (J.ev Y) (J.ev Y) (Y) Y (by simp [Value.oneCell']) G (.t (.t (.t (.t .h)))) (Y) fun w G=> ?_))
       refine av J Y Y fun a J=> s0 <| then_n (hK48 _ _ <| wp_ret (hR _ _ _ _ _ J (run_results Tryz.results55 (.cw J Y agg112 G (.t (.t (.t (.t .h)))) sz112 (Y) (.t J Y (.nil)))) ?_))
       exact ⟨_, _, Y, und_good' (hU.trans ((ins_6 hgd hp c7 hs (by omega)).trans (if_neg d5))) (Y) (Y) (own_bsnoc (l := [c]) hO180), G.one (.t (.t (.t .h)))⟩
      refine wp_region_lit <| sw J Y Y Y (R.indexA Tryz.underlying32 sz30 (J.ev Y) (J.ev Y) (by omega) (by omega)) fun a J=> sw J Y Y Y (R.load one30 (J.ev Y) G .h (Y)) fun a J=> ?_
      have htb := tok_big (prs_lt0 (wl.getD 1 [])) (most_le c).1 (most_le c).2
      refine sw J Y Y Y (R.neq (J.ev Y) (J.ev Y)) fun a J=> mv J Y Y fun a J=> J.splitD (t := 151) Y (fun h151 J=> ?_) (fun h151 J=> ?_)
      ·refine kz J Y Y Y Y Y Y fun a J=> kz J Y Y Y Y Y Y fun a J=> kz J Y Y Y Y Y Y fun a J=> pT J Y Y Y fun a J=> mv J Y Y fun a J=> kz J Y Y Y Y Y Y fun a J=> kz J Y Y Y Y Y Y fun a J=> kz J Y Y Y Y Y Y fun a J=> pT J Y Y Y fun a J=> mv J Y Y fun a J=> kz J Y Y Y Y Y Y fun a J=> kz J Y Y Y Y Y Y fun a J=> kz J Y Y Y Y Y Y fun a J=> kz J Y Y Y Y Y Y fun a J=> pT J Y Y Y fun a J=> mv J Y Y fun a J=> kz J Y Y Y Y Y Y fun a J=> kz J Y Y Y Y Y Y fun a J=> kz J Y Y Y Y Y Y fun a J=> kz J Y Y Y Y Y Y fun a J=> pT J Y Y Y fun a J=> s0 ?_
       exact then_n (hK45' _ _ ⟨J.sub ⟨Y, Y, Y, Y, Y, (congrArg (fun z => some (Value.bool z)) (by first | exact (decide_eq_true (by omega)).symm | exact (decide_eq_false (by omega)).symm | exact decide_eq_decide.2 (by omega))), trivial⟩, G.sel [0, 1, 2, 3] Y Y⟩)
      refine sv' J (wy J Y Y Y) Y Y (R.indexA Tryz.underlying32 sz30 (J.ev Y) (J.ev Y) (by omega) (by omega)) fun a J=> sv' J (wy J Y Y Y) Y Y (R.load one30 (J.ev Y) G .h (Y)) fun a J=> sv' J (wy J Y Y Y) Y Y (R.neq (J.ev Y) (J.ev Y)) fun a J=> pF J Y Y Y fun a J=> mv J Y Y fun a J=> J.splitD (t := 156) Y (fun h156 J=> ?_) (fun h156 J=> ?_)
      ·refine kz J Y Y Y Y Y Y fun a J=> kz J Y Y Y Y Y Y fun a J=> kz J Y Y Y Y Y Y fun a J=> pT J Y Y Y fun a J=> mv J Y Y fun a J=> kz J Y Y Y Y Y Y fun a J=> kz J Y Y Y Y Y Y fun a J=> kz J Y Y Y Y Y Y fun a J=> kz J Y Y Y Y Y Y fun a J=> pT J Y Y Y fun a J=> mv J Y Y fun a J=> kz J Y Y Y Y Y Y fun a J=> kz J Y Y Y Y Y Y fun a J=> kz J Y Y Y Y Y Y fun a J=> kz J Y Y Y Y Y Y fun a J=> pT J Y Y Y fun a J=> s0 ?_
       exact then_n (hK45' _ _ ⟨J.sub ⟨Y, Y, Y, Y, Y, (congrArg (fun z => some (Value.bool z)) (by first | exact (decide_eq_true (by omega)).symm | exact (decide_eq_false (by omega)).symm | exact decide_eq_decide.2 (by omega))), trivial⟩, G.sel [0, 1, 2, 3] Y Y⟩)
      refine sv' J (wy J Y Y Y) Y Y (R.indexA Tryz.underlying32 sz30 (J.ev Y) (J.ev Y) (by omega) (by omega)) fun a J=> sv' J (wy J Y Y Y) Y Y (R.load one30 (J.ev Y) G .h (Y)) fun a J=> sv' J (wy J Y Y Y) Y Y (R.neq (J.ev Y) (J.ev Y)) fun a J=> pF J Y Y Y fun a J=> mv J Y Y fun a J=> J.splitD (t := 161) Y (fun h161 J=> ?_) (fun h161 J=> ?_)
      ·refine kz J Y Y Y Y Y Y fun a J=> kz J Y Y Y Y Y Y fun a J=> kz J Y Y Y Y Y Y fun a J=> kz J Y Y Y Y Y Y fun a J=> pT J Y Y Y fun a J=> mv J Y Y fun a J=> kz J Y Y Y Y Y Y fun a J=> kz J Y Y Y Y Y Y fun a J=> kz J Y Y Y Y Y Y fun a J=> kz J Y Y Y Y Y Y fun a J=> pT J Y Y Y fun a J=> s0 ?_
       exact then_n (hK45' _ _ ⟨J.sub ⟨Y, Y, Y, Y, Y, (congrArg (fun z => some (Value.bool z)) (by first | exact (decide_eq_true (by omega)).symm | exact (decide_eq_false (by omega)).symm | exact decide_eq_decide.2 (by omega))), trivial⟩, G.sel [0, 1, 2, 3] Y Y⟩)
      refine sv' J (wy J Y Y Y) Y Y (R.indexA Tryz.underlying32 sz30 (J.ev Y) (J.ev Y) (by omega) (by omega)) fun a J=> sv' J (wy J Y Y Y) Y Y (R.load one30 (J.ev Y) G .h (Y)) fun a J=> my J Y Y Y Y fun a J=> sv' J (wy J Y Y Y) Y Y (R.gtr (J.ev Y) (J.ev Y)) fun a J=> pF J Y Y Y fun a J=> mv J Y Y fun a J=> J.splitD (t := 167) Y (fun h167 J=> ?_) (fun h167 J=> ?_)
      ·refine kz J Y Y Y Y Y Y fun a J=> kz J Y Y Y Y Y Y fun a J=> kz J Y Y Y Y Y Y fun a J=> kz J Y Y Y Y Y Y fun a J=> pT J Y Y Y fun a J=> s0 ?_
       exact then_n (hK45' _ _ ⟨J.sub ⟨Y, Y, Y, Y, Y, (congrArg (fun z => some (Value.bool z)) (by first | exact (decide_eq_true (by omega)).symm | exact (decide_eq_false (by omega)).symm | exact decide_eq_decide.2 (by omega))), trivial⟩, G.sel [0, 1, 2, 3] Y Y⟩)
      refine sv' J (wy J Y Y Y) Y Y (R.indexA Tryz.underlying32 sz30 (J.ev Y) (J.ev Y) (by omega) (by omega)) fun a J=> sv' J (wy J Y Y Y) Y Y (R.load one30 (J.ev Y) G .h (Y)) fun a J=> my J Y Y Y Y fun a J=> sv' J (wy J Y Y Y) Y Y (R.lss (J.ev Y) (J.ev Y)) fun a J=> pF J Y Y Y fun a J=> s0 ?_
      exact then_n (hK45' _ _ ⟨J.sub ⟨Y, Y, Y, Y, Y, (congrArg (fun z => some (Value.bool z)) (by first | exact (decide_eq_true (by omega)).symm | exact (decide_eq_false (by omega)).symm | exact decide_eq_decide.2 (by omega))), trivial⟩, G.sel [0, 1, 2, 3] Y Y⟩)
     refine wp_seq_k fun K49 hK49=> wp_region_lit <| mv J Y Y fun a J=> eL J Y Y Y fun a J=> s0 <| then_n (hK49 _ _ <| cD J Y (fun d4=> ?_) (fun d4=> ?_))
     ·refine wp_region_lit <| av J Y Y fun a J=> s0 ?_
      exact then_n (hK43' _ _ ⟨J.sub ⟨Y, Y, Y, Y, Y, Y, (by rw [leastN, if_pos (by omega)]; rfl), trivial⟩, G.sel [0, 1, 2, 3] Y Y⟩)
     refine wp_skip ?_
     exact then_n (hK43' _ _ ⟨J.sub ⟨Y, Y, Y, Y, Y, Y, (by rw [leastN, if_neg (by omega)]; rfl), trivial⟩, G.sel [0, 1, 2, 3] Y Y⟩)
    refine wp_seq_k fun K50 hK50=> wp_region_lit <| mv J Y Y fun a J=> eL J Y Y Y fun a J=> s0 <| then_n (hK50 _ _ <| cD J Y (fun d3=> ?_) (fun d3=> ?_))
    ·refine wp_region_lit <| av J Y Y fun a J=> s0 ?_
     exact then_n (hK42' _ _ ⟨J.sub ⟨Y, Y, Y, Y, Y, (by rw [mostN, if_pos (by omega)]; rfl), Y, trivial⟩, G.sel [0, 2, 3, 4] Y Y⟩)
    refine wp_skip ?_
    exact then_n (hK42' _ _ ⟨J.sub ⟨Y, Y, Y, Y, Y, (by rw [mostN, if_neg (by omega)]; rfl), Y, trivial⟩, G.sel [0, 2, 3, 4] Y Y⟩)
   refine wp_region_lit <| mv J Y Y fun a J=> eL J Y Y Y fun a J=> mv J Y Y fun a J=> J.splitD (t := 77) Y (fun h77 J=> ?_) (fun h77 J=> ?_)
   ·refine kz J Y Y Y Y Y Y fun a J=> kz J Y Y Y Y Y Y fun a J=> pT J Y Y Y fun a J=> s0 ?_
    exact then_n (hK19' _ _ ⟨J.sub ⟨Y, Y, Y, Y, (congrArg (fun z => some (Value.bool z)) (by first | exact (decide_eq_true (by omega)).symm | exact (decide_eq_false (by omega)).symm | exact decide_eq_decide.2 (by omega))), trivial⟩, G.sel [0, 1, 2] Y Y⟩)
   refine my J Y Y Y Y fun a J=> sv' J (wy J Y Y Y) Y Y (R.eql (J.ev Y) (J.ev Y)) fun a J=> pF J Y Y Y fun a J=> s0 ?_
   exact then_n (hK19' _ _ ⟨J.sub ⟨Y, Y, Y, Y, (congrArg (fun z => some (Value.bool z)) (by first | exact (decide_eq_true (by omega)).symm | exact (decide_eq_false (by omega)).symm | exact decide_eq_decide.2 (by omega))), trivial⟩, G.sel [0, 1, 2] Y Y⟩)
  refine wp_region_lit <| mv J Y Y fun a J=> eL J Y Y Y fun a J=> mv J Y Y fun a J=> J.splitD (t := 41) Y (fun h41 J=> ?_) (fun h41 J=> ?_)
  ·refine kz J Y Y Y Y Y Y fun a J=> kz J Y Y Y Y Y Y fun a J=> pT J Y Y Y fun a J=> mv J Y Y fun a J=> kz J Y Y Y Y Y Y fun a J=> kz J Y Y Y Y Y Y fun a J=> pT J Y Y Y fun a J=> mv J Y Y fun a J=> kz J Y Y Y Y Y Y fun a J=> kz J Y Y Y Y Y Y fun a J=> pT J Y Y Y fun a J=> mv J Y Y fun a J=> kz J Y Y Y Y Y Y fun a J=> kz J Y Y Y Y Y Y fun a J=> pT J Y Y Y fun a J=> mv J Y Y fun a J=> kz J Y Y Y Y Y Y fun a J=> kz J Y Y Y Y Y Y fun a J=> pT J Y Y Y fun a J=> av J Y Y fun a J=> s0 ?_
   exact then_n (hK10' _ _ ⟨J.sub ⟨Y, Y, Y, (congrArg (fun z => some (Value.bool z)) (by first | exact (decide_eq_true (by omega)).symm | exact (decide_eq_false (by omega)).symm | exact decide_eq_decide.2 (by omega))), trivial⟩, G.sel [1] Y Y⟩)
  refine my J Y Y Y Y fun a J=> sv' J (wy J Y Y Y) Y Y (R.eql (J.ev Y) (J.ev Y)) fun a J=> pF J Y Y Y fun a J=> mv J Y Y fun a J=> J.splitD (t := 45) Y (fun h45 J=> ?_) (fun h45 J=> ?_)
  ·refine kz J Y Y Y Y Y Y fun a J=> kz J Y Y Y Y Y Y fun a J=> pT J Y Y Y fun a J=> mv J Y Y fun a J=> kz J Y Y Y Y Y Y fun a J=> kz J Y Y Y Y Y Y fun a J=> pT J Y Y Y fun a J=> mv J Y Y fun a J=> kz J Y Y Y Y Y Y fun a J=> kz J Y Y Y Y Y Y fun a J=> pT J Y Y Y fun a J=> mv J Y Y fun a J=> kz J Y Y Y Y Y Y fun a J=> kz J Y Y Y Y Y Y fun a J=> pT J Y Y Y fun a J=> av J Y Y fun a J=> s0 ?_
   exact then_n (hK10' _ _ ⟨J.sub ⟨Y, Y, Y, (congrArg (fun z => some (Value.bool z)) (by first | exact (decide_eq_true (by omega)).symm | exact (decide_eq_false (by omega)).symm | exact decide_eq_decide.2 (by omega))), trivial⟩, G.sel [1] Y Y⟩)
  refine my J Y Y Y Y fun a J=> sv' J (wy J Y Y Y) Y Y (R.eql (J.ev Y) (J.ev Y)) fun a J=> pF J Y Y Y fun a J=> mv J Y Y fun a J=> J.splitD (t := 49) Y (fun h49 J=> ?_) (fun h49 J=> ?_)
  ·refine kz J Y Y Y Y Y Y fun a J=> kz J Y Y Y Y Y Y fun a J=> pT J Y Y Y fun a J=> mv J Y Y fun a J=> kz J Y Y Y Y Y Y fun a J=> kz J Y Y Y Y Y Y fun a J=> pT J Y Y Y fun a J=> mv J Y Y fun a J=> kz J Y Y Y Y Y Y fun a J=> kz J Y Y Y Y Y Y fun a J=> pT J Y Y Y fun a J=> av J Y Y fun a J=> s0 ?_
   exact then_n (hK10' _ _ ⟨J.sub ⟨Y, Y, Y, (congrArg (fun z => some (Value.bool z)) (by first | exact (decide_eq_true (by omega)).symm | exact (decide_eq_false (by omega)).symm | exact decide_eq_decide.2 (by omega))), trivial⟩, G.sel [1] Y Y⟩)
  refine my J Y Y Y Y fun a J=> sv' J (wy J Y Y Y) Y Y (R.eql (J.ev Y) (J.ev Y)) fun a J=> pF J Y Y Y fun a J=> mv J Y Y fun a J=> J.splitD (t := 53) Y (fun h53 J=> ?_) (fun h53 J=> ?_)
  ·refine kz J Y Y Y Y Y Y fun a J=> kz J Y Y Y Y Y Y fun a J=> pT J Y Y Y fun a J=> mv J Y Y fun a J=> kz J Y Y Y Y Y Y fun a J=> kz J Y Y Y Y Y Y fun a J=> pT J Y Y Y fun a J=> av J Y Y fun a J=> s0 ?_
   exact then_n (hK10' _ _ ⟨J.sub ⟨Y, Y, Y, (congrArg (fun z => some (Value.bool z)) (by first | exact (decide_eq_true (by omega)).symm | exact (decide_eq_false (by omega)).symm | exact decide_eq_decide.2 (by omega))), trivial⟩, G.sel [1] Y Y⟩)
  refine my J Y Y Y Y fun a J=> sv' J (wy J Y Y Y) Y Y (R.eql (J.ev Y) (J.ev Y)) fun a J=> pF J Y Y Y fun a J=> mv J Y Y fun a J=> J.splitD (t := 57) Y (fun h57 J=> ?_) (fun h57 J=> ?_)
  ·refine kz J Y Y Y Y Y Y fun a J=> kz J Y Y Y Y Y Y fun a J=> pT J Y Y Y fun a J=> av J Y Y fun a J=> s0 ?_
   exact then_n (hK10' _ _ ⟨J.sub ⟨Y, Y, Y, (congrArg (fun z => some (Value.bool z)) (by first | exact (decide_eq_true (by omega)).symm | exact (decide_eq_false (by omega)).symm | exact decide_eq_decide.2 (by omega))), trivial⟩, G.sel [1] Y Y⟩)
  refine my J Y Y Y Y fun a J=> sv' J (wy J Y Y Y) Y Y (R.eql (J.ev Y) (J.ev Y)) fun a J=> pF J Y Y Y fun a J=> av J Y Y fun a J=> s0 ?_
  exact then_n (hK10' _ _ ⟨J.sub ⟨Y, Y, Y, (congrArg (fun z => some (Value.bool z)) (by first | exact (decide_eq_true (by omega)).symm | exact (decide_eq_false (by omega)).symm | exact decide_eq_decide.2 (by omega))), trivial⟩, G.sel [1] Y Y⟩)
 refine wp_seq_k fun K51 hK51=> wp_region_lit <| mv J Y Y fun a J=> sw J Y Y Y (R.len Tryz.underlying108 (J.ev Y)) fun a J=> eL J Y Y Y fun a J=> s0 <| then_n (hK51 _ _ <| cD J Y (fun c1=> ?_) (fun c1=> ?_))
 ·refine wp_seq_k fun K52 hK52=> wp_region_lit <| mv J Y Y fun a J=> sw J Y Y Y (R.indexO Tryz.underlying108 sz9 (J.ev Y) (Rd.ne hA (by rw [len_strs]; omega)) (J.ev Y) (by omega) (by omega)) fun a J=> sw J Y Y Y (R.loadO one9 (J.ev Y) (hA.old G) (strs_at (i := 0) (by omega) (by omega))) fun a J=> so (wn Y) (O.call Y Y J ent102 (J.evs Y) G (labelled_l hB0 _) fun v s22 a w hR J G=> ?_)
  obtain ⟨rfl, rfl⟩ := hR
  refine mv J Y Y fun a J=> xv J Y Y Y fun a J=> xv J Y Y Y fun a J=> av J Y Y fun a J=> av J Y Y fun a J=> s0 <| then_n (hK52 _ _ <| wp_seq_k fun K53 hK53=> wp_region_lit <| mv J Y Y fun a J=> s0 <| then_n (hK53 _ _ <| cS J Y (fun c2=> ?_) (fun c2=> ?_)))
  ·refine wp_seq_k fun K54 hK54=> wp_region_lit <| mv J Y Y fun a J=> sw J Y Y Y (R.buildStr (l := lineB (bstr (lblN (wl.getD 0 [])).1) ⟨#[]⟩ (-1) none 0 0) Tryz.underlying112 ze112 pl112 (J.evp Y) Y) fun a J=> so (wn Y) (O.storeW sz112 (J.ev Y) (J.ev Y) (Y) Y (by simp [Value.oneCell']) G (.t .h) (Y) fun w G=> ?_)
   refine av J Y Y fun a J=> s0 <| then_n (hK54 _ _ <| wp_ret (then_r (hR _ _ _ _ _ J (run_results Tryz.results55 (.cw J Y agg112 G (.t .h) sz112 (Y) (.t J Y (.nil)))) ?_)))
   exact ⟨_, [], Y, und_good' (und_lab hn (by omega) c2) Y Y (OwnS.nil 5 1), G.none⟩
  refine wp_skip ?_
  exact then_n (hK2' _ _ ⟨J.sub ⟨Y, Y, trivial⟩, G.sel [1] Y Y, und_ins hn (fun _ => c2)⟩)
 refine wp_skip ?_
 exact then_n (hK2' _ _ ⟨J.sub ⟨Y, Y, trivial⟩, G.sel [0] Y Y, und_ins hn (fun h => absurd h (by omega))⟩)
end Go.Proofs.YtlapmbkfmbkdoaaGreatDoor
end
section
namespace Go.Proofs.YtlapmbkfmbkdoaaGreatDoor
open Go Go.Fw Go.RowKit
attribute [local irreducible] Go.Oper.wp Go.Code.wp Go.wpList Go.Fw.WL Go.Calls
theorem add_add (a : Addr) (k j : Nat) : (a.add k).add j = a.add (k + j) := by
  unfold Addr.add
  by_cases hj0 : j = 0
  · subst hj0; simp
  · by_cases hk0 : k = 0
    · subst hk0; simp
    · simp [hj0, hk0, Nat.add_assoc]
theorem R.fieldAddrO {P : Program} {w : World} {ρ : Operand → Value} {dst : Option Tmp} {ty : TypeId} {pos : String} {af : Array Edge} {g : Option (Nat × Bool)} {x : Operand} {T : TypeId} {A : Option Addr} {fs : Array Field} {i k m : Nat} {f : Field} (hT : P.underlying T = some (.struct fs)) (hf : fs[i]? = some f) (hs : nzT P f.type = true) (hx : ρ x = .pointer (A.map (·.add k))) (hA : A ≠ none) (hk : f.offset = m) :
    (execOp ρ ⟨dst, .fieldAddr T x i, ty, pos, af, g⟩).run P w = .ok (.value (.pointer (A.map (·.add (k + m))))) w := by
  subst hk
  cases A with
  | none => exact absurd rfl hA
  | some a =>
    unfold nzT at hs
    cases hi : P.info? f.type with
    | none => rw [hi] at hs; simp at hs
    | some inf =>
      rw [hi] at hs
      have hne : ¬ inf.size = 0 := fun e => by simp [e] at hs
      have hsz : (sizeOf f.type).run P w = .ok inf.size w := by simp [sizeOf, typeInfo, hi, Sem.run_bind, Result.andThen_ok]
      simp only [execOp, hx, Option.map_some, Instr.fieldAt, run_underlying hT, hf, Instr.sureAddr, fieldPlace, hsz, hne, add_add, if_false, Sem.run_bind, Sem.run_pure, Result.andThen_ok]
structure Pit where
  it : It
  no : Nat
  A : Option Addr
  d : Nat
  sg : Seg
def pd : Pit := ⟨⟨[], 0, [], []⟩, 0, none, 0, []⟩
def flS (l : List Pit) : Seg := (l.map (·.sg)).flatten
def accOf (ps : List Pit) : List (It × Nat) := ps.map fun p => (p.it, p.no)
def saidC (ps : List Pit) : List Value := ps.flatMap fun p => lineB (bstr p.it.lab) (bstr p.it.tg) p.it.code p.A p.it.bs.length p.d
def nosL (ps : List Pit) : List Nat := ps.map (·.no)
def PitOK (p : Pit) : Prop := ItOK p.it ∧ Byt p.it.lab ∧ Byt p.it.tg ∧ OwnS p.sg p.A p.it.bs.length p.d (byts p.it.bs) 5 1
def PoolP (ps : List Pit) : Prop := ∀ p ∈ ps, PitOK p
theorem pool_nil : PoolP [] := fun p h => by cases h
theorem pool_snoc {ps : List Pit} {p : Pit} (h : PoolP ps) (hp : PitOK p) : PoolP (ps ++ [p]) := by
  intro x hx
  rcases List.mem_append.1 hx with h1 | h1
  · exact h x h1
  · rw [List.mem_singleton.1 h1]; exact hp
theorem pool_at {ps : List Pit} (h : PoolP ps) {i : Nat} (hi : i < ps.length) : PitOK (ps.getD i pd) := h _ (mem_getD hi)
theorem said_snoc (ps : List Pit) (p : Pit) : saidC (ps ++ [p]) = saidC ps ++ lineB (bstr p.it.lab) (bstr p.it.tg) p.it.code p.A p.it.bs.length p.d := by simp [saidC]
theorem nos_snoc (ps : List Pit) (p : Pit) : nosL (ps ++ [p]) = nosL ps ++ [p.no] := by simp [nosL]
theorem acc_snoc (ps : List Pit) (p : Pit) : accOf (ps ++ [p]) = accOf ps ++ [(p.it, p.no)] := by simp [accOf]
theorem len_acc (ps : List Pit) : (accOf ps).length = ps.length := by simp [accOf]
theorem len_nos (ps : List Pit) : (nosL ps).length = ps.length := by simp [nosL]
theorem len_said (ps : List Pit) : (saidC ps).length = ps.length * 4 := by
  induction ps with
  | nil => rfl
  | cons p r ih => simp only [saidC, List.flatMap_cons, List.length_append, List.length_cons, List.length_nil] at ih ⊢; rw [ih]; omega
theorem said_at {ps : List Pit} {i k off : Nat} (h : i < ps.length) (ho : off = i * 4 + k) (hk : k < 4) : (saidC ps)[off]? = (lineB (bstr (ps.getD i pd).it.lab) (bstr (ps.getD i pd).it.tg) (ps.getD i pd).it.code (ps.getD i pd).A (ps.getD i pd).it.bs.length (ps.getD i pd).d)[k]? := by
  subst ho
  induction ps generalizing i with
  | nil => simp at h
  | cons p r ih =>
    cases i with
    | zero =>
      simp only [saidC, List.flatMap_cons, Nat.zero_mul, Nat.zero_add, List.getD_cons_zero]
      exact List.getElem?_append_left (by simpa using hk)
    | succ i =>
      have := ih (i := i) (by simpa using h)
      simp only [List.getD_cons_succ]
      rw [← this]
      simp only [saidC, List.flatMap_cons]
      rw [List.getElem?_append_right (by simp only [List.length_cons, List.length_nil]; omega)]
      congr 1
      simp only [List.length_cons, List.length_nil]; omega
theorem said_lab {ps : List Pit} {i off : Nat} (h : i < ps.length) (ho : off = i * 4 + 0) : (saidC ps)[off]? = some (.string (bstr (ps.getD i pd).it.lab)) := said_at h ho (by decide)
theorem said_code {ps : List Pit} {i off : Nat} (h : i < ps.length) (ho : off = i * 4 + 1) : (saidC ps)[off]? = some (.int .i64 (ps.getD i pd).it.code) := said_at h ho (by decide)
theorem said_bs {ps : List Pit} {i off : Nat} (h : i < ps.length) (ho : off = i * 4 + 2) : (saidC ps)[off]? = some (.slice (ps.getD i pd).A (ps.getD i pd).it.bs.length (ps.getD i pd).d) := said_at h ho (by decide)
theorem said_to {ps : List Pit} {i off : Nat} (h : i < ps.length) (ho : off = i * 4 + 3) : (saidC ps)[off]? = some (.string (bstr (ps.getD i pd).it.tg)) := said_at h ho (by decide)
theorem acc_at {ps : List Pit} {i : Nat} (h : i < ps.length) : (accOf ps)[i]? = some ((ps.getD i pd).it, (ps.getD i pd).no) := by simp [accOf, h]
theorem acc_drop {ps : List Pit} {i : Nat} (h : i < ps.length) : (accOf ps).drop i = ((ps.getD i pd).it, (ps.getD i pd).no) :: (accOf ps).drop (i + 1) := by
  rw [List.drop_eq_getElem_cons (by rw [len_acc]; exact h)]
  congr 1
  have := acc_at h
  rw [List.getElem?_eq_getElem (by rw [len_acc]; exact h)] at this
  exact Option.some.inj this
theorem acc_take {ps : List Pit} {i : Nat} (h : i < ps.length) : (accOf ps).take (i + 1) = (accOf ps).take i ++ [((ps.getD i pd).it, (ps.getD i pd).no)] := by
  rw [List.take_add_one, acc_at h]; rfl
theorem len_take_le {ps : List Pit} (hP : PoolP ps) : ∀ i, i ≤ ps.length → lenN ((accOf ps).take i) ≤ 34 * i
  | 0, _ => by simp [lenN, flat]
  | i + 1, h => by
    have ih := len_take_le hP i (by omega)
    have h2 := (pool_at hP (i := i) (by omega)).1.2.2.2.2
    rw [acc_take (by omega), lenN_append, lenN_cons]
    show lenN _ + ((ps.getD i pd).it.bs.length + lenN []) ≤ _
    have : lenN [] = 0 := rfl
    omega
theorem len_take_succ {ps : List Pit} {i : Nat} (h : i < ps.length) : lenN ((accOf ps).take (i + 1)) = lenN ((accOf ps).take i) + (ps.getD i pd).it.bs.length := by
  rw [acc_take h, lenN_append, lenN_cons]; rfl
theorem str_eq {xs ys : List Nat} (hx : Byt xs) (hy : Byt ys) : bstr xs = bstr ys ↔ xs = ys := ⟨bstr_inj hx hy, fun h => by rw [h]⟩
theorem str_nil {xs : List Nat} : bstr xs = ⟨#[]⟩ ↔ xs = [] := by
  constructor
  · intro h; have := congrArg ByteArray.size h; rw [size_bstr] at this; exact List.eq_nil_of_length_eq_zero this
  · rintro rfl; rfl
def plcV (o : Option Nat) : Int := match o with
  | none => -1
  | some p => p
theorem plcV_neg {o : Option Nat} : plcV o < 0 ↔ o = none := by
  cases o with
  | none => simp [plcV]
  | some p => simp only [plcV, reduceCtorEq, iff_false]; omega
theorem plc_hit {ps : List Pit} {i : Nat} {s : List Nat} (h : i < ps.length) (hc : (ps.getD i pd).it.code < 0 ∧ (ps.getD i pd).it.lab = s) (q : Nat) : plcL ((accOf ps).drop i) s q = some q := by
  have h2 : isL (ps.getD i pd).it s = true := by simp only [isL, Bool.and_eq_true, decide_eq_true_eq, beq_iff_eq]; exact hc
  rw [acc_drop h, plcL, if_pos h2]
theorem plc_miss {ps : List Pit} {i : Nat} {s : List Nat} (h : i < ps.length) (hc : ¬ ((ps.getD i pd).it.code < 0 ∧ (ps.getD i pd).it.lab = s)) : plcL ((accOf ps).drop i) s (lenN ((accOf ps).take i)) = plcL ((accOf ps).drop (i + 1)) s (lenN ((accOf ps).take (i + 1))) := by
  rw [acc_drop h, plcL, if_neg, len_take_succ h]
  intro h2
  simp only [isL, Bool.and_eq_true, decide_eq_true_eq, beq_iff_eq] at h2
  exact hc h2
theorem plc_end {ps : List Pit} {i : Nat} {s : List Nat} (h : ps.length ≤ i) (q : Nat) : plcL ((accOf ps).drop i) s q = none := by
  rw [List.drop_of_length_le (by rw [len_acc]; exact h)]; rfl
theorem pool_rd {ps : List Pit} {w0 w : World} {ks : List Nat} {bs : List Seg} (hP : PoolP ps) (hS : St w0 ks bs w) (hs : HasS bs (flS ps)) {i : Nat} (hi : i < ps.length) : Rd w (ps.getD i pd).A (byts (ps.getD i pd).it.bs) := by
  have h1 := hS.own1 hs
  have hO := (pool_at hP hi).2.2.2
  have hm : ∀ p ∈ (ps.getD i pd).sg, p ∈ flS ps := fun p hp => List.mem_flatten.2 ⟨_, List.mem_map.2 ⟨_, mem_getD hi, rfl⟩, hp⟩
  obtain ⟨a1, a2, a3⟩ := hO
  rcases a3 with ⟨e1, e2, _⟩ | ⟨g, rest, e1, e2, _, _⟩
  · rw [e1]
    have : byts (ps.getD i pd).it.bs = [] := List.eq_nil_of_length_eq_zero (by rw [a1]; omega)
    rw [this]; exact Rd.nil _ _
  · rw [e1]
    intro j v hj
    refine ⟨_, rfl, ?_⟩
    have hb := h1.1 (g, Cel (byts (ps.getD i pd).it.bs ++ rest) 5) (hm _ (by rw [e2]; simp))
    have hlt := (List.getElem?_eq_some_iff.1 hj).1
    rw [addr_add, cell_Cel hb, Nat.zero_add, List.getElem?_append_left hlt]
    exact hj
set_option maxHeartbeats 1000000 in
theorem placeOf_calls (A : Option Addr) (e : Nat) (ps : List Pit) (s : List Nat) (w0 : World) (hA : Rd w0 A (saidC ps)) (hPo : PoolP ps) (hs : Byt s) (hn : ps.length ≤ 100000) : Ret Tryz.prog 56 [.slice A ps.length e, .string (bstr s)] w0 [] (fun v q => v = .int .i64 (plcV (plcL (accOf ps) s 0)) ∧ q = []) := by
 refine fn_start Tryz.func56 Y Tryz.ntmps56 Y [(0, .slice A ps.length e), (1, .string (bstr s))] ⟨Y, Y, trivial⟩ ?_
 intro Q a hP J hR hN
 have G := St.start w0
 refine wp_seq_k fun K1 hK1=> wp_region_lit <| av J Y Y fun a J=> s0 <| then_n (hK1 _ _ <| wp_seq_k fun K2 hK2=> wp_region_lit <| av J Y Y fun a J=> s0 <| then_n (hK2 _ _ <| wp_seq_k fun K3 hK3=> wp_seq_k fun K4 hK4=> wp_region_lit <| av J Y Y fun a J=> s0 <| then_n (hK4 _ _ <| wp_block <| wp_loop_N (fun g a w=> ∃ (i : Nat), ps.length - i = g ∧ Fr 37 [(0, .slice A ps.length e), (1, .string (bstr s)), (5, .int .i64 ((lenN ((accOf ps).take i) : Nat) : Int)), (6, .int .i64 ((i : Nat) : Int))] a ∧ St w0 [] [] w ∧ (i ≤ ps.length) ∧ (plcL (accOf ps) s 0 = plcL ((accOf ps).drop i) s (lenN ((accOf ps).take i)))) (ps.length - 0) ?_ ?_)))
 ·exact ⟨0, Y, J.sub ⟨Y, Y, Y, Y, trivial⟩, G.sel [] Y Y, by omega, by rfl⟩
 rintro KL1 g a w ⟨i, hg1, J, G, hi, hpl⟩ hKL1
 have hle := len_take_le hPo i hi
 refine wp_seq_k fun K5 hK5=> wp_seq_k fun K6 hK6=> wp_region_lit <| mv J Y Y fun a J=> mv J Y Y fun a J=> sw J Y Y Y (R.len Tryz.underlying110 (J.ev Y)) fun a J=> lS J Y Y Y fun a J=> s0 <| then_n (hK6 _ _ <| cD J Y (fun c1=> ?_) (fun c1=> ?_))
 ·have hbl := (pool_at hPo (i := i) (by omega)).1.2.2.2.2
  refine wp_skip <| then_n (hK5 _ _ <| wp_seq_k fun K7 hK7=> wp_block <| wp_seq_k fun K8 hK8=> wp_seq_k fun K9 hK9=> ?_)
  have hK9' : ∀ a w, (Fr 37 [(0, .slice A ps.length e), (1, .string (bstr s)), (5, .int .i64 ((lenN ((accOf ps).take i) : Nat) : Int)), (6, .int .i64 ((i : Nat) : Int)), (27, .bool (decide ((ps.getD i pd).it.code < 0 ∧ (ps.getD i pd).it.lab = s)))] a ∧ St w0 [] [] w) → K9 a w := by
   rintro a w ⟨J, G⟩
   refine hK9 _ _ ?_
   refine cD J Y (fun c2=> ?_) (fun c2=> ?_)
   ·refine wp_seq_k fun K10 hK10=> wp_region_lit <| mv J Y Y fun a J=> av J Y Y fun a J=> s0 <| then_n (hK10 _ _ <| wp_ret (then_r (blk_r (then_r (then_r (blk_r (then_r (hR _ _ _ _ _ J (run_results Tryz.results56 (.t J Y (.nil))) ?_))))))))
    exact ⟨_, [], Y, ⟨by rw [hpl, plc_hit (by omega) c2]; rfl, Y⟩, G.none⟩
   refine wp_skip <| then_n (hK8 _ _ <| wp_region_lit <| mv J Y Y fun a J=> mv J Y Y fun a J=> mv J Y Y fun a J=> sw J Y Y Y (R.indexO Tryz.underlying110 sz112 (J.ev Y) ((hA.old G).ne (by rw [len_said]; omega)) (J.ev Y) (by omega) (by omega)) fun a J=> sw J Y Y Y (R.fieldAddrO (m := 2) Tryz.underlying112 Y nz22 (J.ev Y) ((hA.old G).ne (by rw [len_said]; omega)) Y) fun a J=> sw J Y Y Y (R.loadO one22 (J.ev Y) (hA.old G) (said_bs (i := i) (by omega) (by omega))) fun a J=> sw J Y Y Y (R.len Tryz.underlying22 (J.ev Y)) fun a J=> aI J Y Y Y (by omega) fun a J=> av J Y Y fun a J=> s0 <| blk_n <| then_n (hK7 _ _ <| wp_region_lit <| mv J Y Y fun a J=> aI J Y Y Y (by omega) fun a J=> av J Y Y fun a J=> s0 <| then_n (hKL1 (ps.length - (i + 1)) _ _ ?_ ?_)))
   ·omega
   exact ⟨i + 1, Y, J.sub ⟨Y, Y, (congrArg (fun z => some (Value.int .i64 z)) (by rw [len_take_succ (by omega)]; omega)), (congrArg (fun z => some (Value.int .i64 z)) (by omega)), trivial⟩, G.sel [] Y Y, by omega, hpl.trans (plc_miss (by omega) c2)⟩
  refine wp_region_lit <| mv J Y Y fun a J=> mv J Y Y fun a J=> sw J Y Y Y (R.indexO Tryz.underlying110 sz112 (J.ev Y) ((hA.old G).ne (by rw [len_said]; omega)) (J.ev Y) (by omega) (by omega)) fun a J=> sw J Y Y Y (R.fieldAddrO (m := 1) Tryz.underlying112 Y nz3 (J.ev Y) ((hA.old G).ne (by rw [len_said]; omega)) Y) fun a J=> sw J Y Y Y (R.loadO one3 (J.ev Y) (hA.old G) (said_code (i := i) (by omega) (by omega))) fun a J=> lS J Y Y Y fun a J=> mv J Y Y fun a J=> J.splitD (t := 19) Y (fun h19 J=> ?_) (fun h19 J=> ?_)
  ·refine my J Y Y Y Y fun a J=> my J Y Y Y Y fun a J=> sv' J (wy J Y Y Y) Y Y (R.indexO Tryz.underlying110 sz112 (J.ev Y) ((hA.old G).ne (by rw [len_said]; omega)) (J.ev Y) (by omega) (by omega)) fun a J=> sv' J (wy J Y Y Y) Y Y (R.fieldAddrO (m := 0) Tryz.underlying112 Y nz9 (J.ev Y) ((hA.old G).ne (by rw [len_said]; omega)) Y) fun a J=> sv' J (wy J Y Y Y) Y Y (R.loadO one9 (J.ev Y) (hA.old G) (said_lab (i := i) (by omega) (by omega))) fun a J=> my J Y Y Y Y fun a J=> sv' J (wy J Y Y Y) Y Y (R.as (u := .bool (decide ((ps.getD i pd).it.lab = s))) (R.eqlStr (J.ev Y) (J.ev Y)) (congrArg Value.bool (decide_eq_decide.2 (str_eq (pool_at hPo (by omega)).2.1 hs)))) fun a J=> pT J Y Y Y fun a J=> s0 ?_
   exact then_n (hK9' _ _ ⟨J.sub ⟨Y, Y, Y, Y, (congrArg (fun z => some (Value.bool z)) (decide_eq_decide.2 ⟨fun h => ⟨by omega, h⟩, fun h => h.2⟩)), trivial⟩, G.sel [] Y Y⟩)
  refine kz J Y Y Y Y Y Y fun a J=> kz J Y Y Y Y Y Y fun a J=> kz J Y Y Y Y Y Y fun a J=> kz J Y Y Y Y Y Y fun a J=> kz J Y Y Y Y Y Y fun a J=> kz J Y Y Y Y Y Y fun a J=> kz J Y Y Y Y Y Y fun a J=> pF J Y Y Y fun a J=> s0 ?_
  exact then_n (hK9' _ _ ⟨J.sub ⟨Y, Y, Y, Y, (congrArg (fun z => some (Value.bool z)) (decide_eq_false (fun h => absurd h.1 (by omega))).symm), trivial⟩, G.sel [] Y Y⟩)
 refine wp_exit (then_x (then_x (blk_hit <| then_n (hK3 _ _ <| wp_seq_k fun K11 hK11=> wp_region_lit <| av J Y Y fun a J=> s0 <| then_n (hK11 _ _ <| wp_ret (hR _ _ _ _ _ J (run_results Tryz.results56 (.t J Y (.nil))) ?_))))))
 exact ⟨_, [], Y, ⟨by rw [hpl, plc_end (by omega)]; rfl, Y⟩, G.none⟩
end Go.Proofs.YtlapmbkfmbkdoaaGreatDoor
end
section
namespace Go.Proofs.YtlapmbkfmbkdoaaGreatDoor
open Go Go.Fw Go.RowKit
attribute [local irreducible] Go.Oper.wp Go.Code.wp Go.wpList Go.Fw.WL Go.Calls
theorem words_len (cur l : List Nat) : (fld cur l).length ≤ l.length + 1 := by
  induction l generalizing cur with
  | nil => rw [fld]; exact len_clo cur
  | cons c l ih =>
    rw [fld]
    have h1 := len_clo cur
    have h2 := ih []
    have h3 := ih (cur ++ [c])
    simp only [List.length_cons]
    split
    · omega
    split
    · rw [List.length_append]; omega
    · omega
theorem clo_byt {cur : List Nat} (h : Byt cur) : ∀ x ∈ clo cur, Byt x := by
  unfold clo; split
  · intro x hx; cases hx
  · intro x hx; rw [List.mem_singleton.1 hx]; exact h
theorem byt_snoc {xs : List Nat} {c : Nat} (h : Byt xs) (hc : c < 256) : Byt (xs ++ [c]) := by
  intro b hb
  rcases List.mem_append.1 hb with h1 | h1
  · exact h b h1
  · rw [List.mem_singleton.1 h1]; exact hc
theorem byt_nil : Byt [] := fun b hb => by cases hb
theorem words_byt (l : List Nat) : ∀ (cur : List Nat), Byt cur → Byt l → ∀ x ∈ fld cur l, Byt x := by
  induction l with
  | nil => intro cur h _; rw [fld]; exact clo_byt h
  | cons c l ih =>
    intro cur h hl
    have hc := hl c List.mem_cons_self
    have hl2 : Byt l := fun b hb => hl b (List.mem_cons_of_mem _ hb)
    rw [fld]
    split
    · exact clo_byt h
    split
    · intro x hx
      rcases List.mem_append.1 hx with h1 | h1
      · exact clo_byt h x h1
      · exact ih [] byt_nil hl2 x h1
    · exact ih _ (byt_snoc h hc) hl2
theorem lines_byt (l : List Nat) : ∀ (cur : List Nat), Byt cur → Byt l → ∀ x ∈ spl10 cur l, Byt x ∧ x.length ≤ cur.length + l.length := by
  induction l with
  | nil => intro cur h _ x hx; rw [spl10] at hx; rw [List.mem_singleton.1 hx]; exact ⟨h, by simp⟩
  | cons c l ih =>
    intro cur h hl
    have hc := hl c List.mem_cons_self
    have hl2 : Byt l := fun b hb => hl b (List.mem_cons_of_mem _ hb)
    rw [spl10]
    split
    · intro x hx
      rcases List.mem_cons.1 hx with rfl | h1
      · exact ⟨h, by simp⟩
      · have := ih [] byt_nil hl2 x h1
        exact ⟨this.1, by have := this.2; simp only [List.length_nil, List.length_cons] at *; omega⟩
    · intro x hx
      have := ih _ (byt_snoc h hc) hl2 x hx
      exact ⟨this.1, by have := this.2; simp only [List.length_append, List.length_nil, List.length_cons] at *; omega⟩
theorem lines_count (cur l : List Nat) : (spl10 cur l).length ≤ l.length + 1 := by
  induction l generalizing cur with
  | nil => simp [spl10]
  | cons c l ih =>
    rw [spl10]
    have h1 := ih []
    have h2 := ih (cur ++ [c])
    split <;> simp only [List.length_cons] <;> omega
theorem say_skip {l : List Nat} {r : List (List Nat)} {i : Nat} {acc : List (It × Nat)} (h : wordsN l = []) : sayN (l :: r) i acc = sayN r (i + 1) acc := by rw [sayN, if_pos h]
theorem say_bad1 {l : List Nat} {r : List (List Nat)} {i : Nat} {acc : List (It × Nat)} (h : wordsN l ≠ []) (h2 : undN (wordsN l) = none) : sayN (l :: r) i acc = .inl (i + 1) := by
  rw [sayN, if_neg h, h2]
theorem say_bad2 {l : List Nat} {r : List (List Nat)} {i : Nat} {acc : List (It × Nat)} {x : It} (h : wordsN l ≠ []) (h2 : undN (wordsN l) = some x) (h3 : tw acc x = true) : sayN (l :: r) i acc = .inl (i + 1) := by
  rw [sayN, if_neg h, h2]; simp only; rw [if_pos h3]
theorem say_go {l : List Nat} {r : List (List Nat)} {i : Nat} {acc : List (It × Nat)} {x : It} (h : wordsN l ≠ []) (h2 : undN (wordsN l) = some x) (h3 : tw acc x = false) : sayN (l :: r) i acc = sayN r (i + 1) (acc ++ [(x, i + 1)]) := by
  rw [sayN, if_neg h, h2]; simp only; rw [if_neg (by rw [h3]; simp)]
theorem say_snoc (o : List (List Nat)) : ∀ i acc, sayN (o ++ [[]]) i acc = sayN o i acc := by
  induction o with
  | nil => intro i acc; rfl
  | cons l r ih =>
    intro i acc
    rw [List.cons_append, sayN, sayN]
    simp only [ih]
def asmN (xs : List Nat) : List Nat × Nat × Int :=
  if 65536 < xs.length then ([], 0, 107) else match sayN (linesT xs) 0 [] with
  | .inl k => ([], k, 107)
  | .inr acc => match badN acc acc with
    | some k => ([], k, 107)
    | none => if chkN (flat (outB acc) acc) then (flat (outB acc) acc, 0, 0) else ([], 0, 100)
def AsmR (xs : List Nat) (v : Value) (q : Seg) : Prop := ∃ A d, v = .tuple #[.slice A (asmN xs).1.length d, .int .i64 ((asmN xs).2.1 : Nat), .int .i64 (asmN xs).2.2] ∧ OwnS q A (asmN xs).1.length d (byts (asmN xs).1) 5 1
theorem asm_r {xs c : List Nat} {k : Nat} {e : Int} {v : Value} {q : Seg} {A : Option Addr} {n d : Nat} (h : asmN xs = (c, k, e)) (hn : c.length = n) (hv : v = .tuple #[.slice A n d, .int .i64 (k : Nat), .int .i64 e]) (ho : OwnS q A n d (byts c) 5 1) : AsmR xs v q := by
  subst hn; exact ⟨A, d, by rw [h]; exact hv, by rw [h]; exact ho⟩
theorem asm_long {xs : List Nat} (h : 65536 < xs.length) : asmN xs = ([], 0, 107) := by unfold asmN; rw [if_pos h]
theorem asm_l {xs : List Nat} {o : List (List Nat)} {k : Nat} (h : ¬ 65536 < xs.length) (hL : linesT xs = o ∨ linesT xs = o ++ [[]]) (hk : sayN o 0 [] = .inl k) : asmN xs = ([], k, 107) := by
  unfold asmN
  have : sayN (linesT xs) 0 [] = .inl k := by
    rcases hL with e | e
    · rw [e]; exact hk
    · rw [e, say_snoc]; exact hk
  rw [if_neg h, this]
theorem asm_i {xs : List Nat} {o : List (List Nat)} {acc : List (It × Nat)} (h : ¬ 65536 < xs.length) (hL : linesT xs = o ∨ linesT xs = o ++ [[]]) (hk : sayN o 0 [] = .inr acc) : asmN xs = match badN acc acc with
    | some k => ([], k, 107)
    | none => if chkN (flat (outB acc) acc) then (flat (outB acc) acc, 0, 0) else ([], 0, 100) := by
  unfold asmN
  have : sayN (linesT xs) 0 [] = .inr acc := by
    rcases hL with e | e
    · rw [e]; exact hk
    · rw [e, say_snoc]; exact hk
  rw [if_neg h, this]
theorem lab_byt {xs : List Nat} (h : Byt xs) : Byt (lblN xs).1 := by
  unfold lblN; split
  · exact byt_nil
  · exact byt_take h _
theorem und_byt {ws : List (List Nat)} {x : It} (h : undN ws = some x) (hB : ∀ y ∈ ws, Byt y) : Byt x.lab ∧ Byt x.tg := by
  unfold undN at h
  split at h
  · obtain rfl := (Option.some.inj h).symm
    exact ⟨lab_byt (getD_byt hB 0), byt_nil⟩
  · unfold insM at h
    split at h
    · cases h
    split at h
    · obtain rfl := (Option.some.inj h).symm; exact ⟨byt_nil, byt_nil⟩
    split at h
    · split at h
      · obtain rfl := (Option.some.inj h).symm; exact ⟨byt_nil, getD_byt hB 1⟩
      · cases h
    split at h
    · cases h
    split at h
    · obtain rfl := (Option.some.inj h).symm; exact ⟨byt_nil, byt_nil⟩
    split at h
    · cases h
    · obtain rfl := (Option.some.inj h).symm; exact ⟨byt_nil, byt_nil⟩
def UndU (ws : List (List Nat)) (v : Value) (q : Seg) : Prop := ∃ lab tg code A n d ok, v = .tuple #[.agg (lineB lab tg code A n d).toArray, .bool ok] ∧
  (ok = true → ∃ x, undN ws = some x ∧ lab = bstr x.lab ∧ tg = bstr x.tg ∧ code = x.code ∧ n = x.bs.length ∧ OwnS q A n d (byts x.bs) 5 1) ∧ (ok = false → undN ws = none)
theorem UndR.u {ws : List (List Nat)} {v : Value} {q : Seg} (h : UndR ws v q) : UndU ws v q := by
  rcases h with ⟨h1, _, lab, tg, code, A, n, d, hv⟩ | ⟨x, h1, A, d, hv, ho⟩
  · exact ⟨lab, tg, code, A, n, d, false, hv, (fun h => by cases h), fun _ => h1⟩
  · exact ⟨_, _, _, A, _, d, true, hv, (fun _ => ⟨x, h1, rfl, rfl, rfl, rfl, ho⟩), (fun h => by cases h)⟩
def dupB (ps : List Pit) (lab : ByteArray) (k : Nat) : Bool := (ps.take k).any fun p => decide (p.it.code < 0) && decide (bstr p.it.lab = lab)
theorem dup_succ {ps : List Pit} {lab : ByteArray} {k : Nat} (h : k < ps.length) : dupB ps lab (k + 1) = (dupB ps lab k || (decide ((ps.getD k pd).it.code < 0) && decide (bstr (ps.getD k pd).it.lab = lab))) := by
  unfold dupB; rw [take_snoc pd ps k h, List.any_append]; simp
theorem dup_mono {ps : List Pit} {lab : ByteArray} {k : Nat} (h : dupB ps lab k = true) : dupB ps lab ps.length = true := by
  unfold dupB at *
  rw [List.any_eq_true] at *
  obtain ⟨p, hp, h2⟩ := h
  exact ⟨p, by rw [List.take_length]; exact List.mem_of_mem_take hp, h2⟩
def okN (ps : List Pit) (lab : ByteArray) (code : Int) (ok1 : Bool) (k : Nat) : Bool := ok1 && !(decide (code < 0) && dupB ps lab k)
theorem ok_0 (ps : List Pit) (lab : ByteArray) (code : Int) (ok1 : Bool) : ok1 = okN ps lab code ok1 0 := by simp [okN, dupB]
theorem ok_hit {ps : List Pit} {lab : ByteArray} {code : Int} {ok1 : Bool} {k : Nat} (h : k < ps.length) (hc : code < 0) (h2 : (ps.getD k pd).it.code < 0 ∧ bstr (ps.getD k pd).it.lab = lab) : false = okN ps lab code ok1 (k + 1) := by
  unfold okN
  rw [dup_succ h, decide_eq_true h2.1, decide_eq_true h2.2, decide_eq_true hc]; simp
theorem ok_miss {ps : List Pit} {lab : ByteArray} {code : Int} {ok ok1 : Bool} {k : Nat} (h : k < ps.length) (h2 : ¬ ((ps.getD k pd).it.code < 0 ∧ bstr (ps.getD k pd).it.lab = lab)) (hk : ok = okN ps lab code ok1 k) : ok = okN ps lab code ok1 (k + 1) := by
  unfold okN at *
  have : (decide ((ps.getD k pd).it.code < 0) && decide (bstr (ps.getD k pd).it.lab = lab)) = false := by
    rw [← Bool.decide_and, decide_eq_false h2]
  rw [dup_succ h, this, Bool.or_false]; exact hk
theorem ok_end {ps : List Pit} {lab : ByteArray} {code : Int} {ok ok1 : Bool} {k : Nat} (h : k ≤ ps.length) (h2 : ¬ (ok = true ∧ code < 0 ∧ k < ps.length)) (hk : ok = okN ps lab code ok1 k) : ok = okN ps lab code ok1 ps.length := by
  by_cases hl : k = ps.length
  · rw [hl] at hk; exact hk
  by_cases hc : code < 0
  · have ho : ok = false := by
      cases ok with
      | false => rfl
      | true => exact absurd ⟨rfl, hc, by omega⟩ h2
    rw [ho] at hk ⊢
    unfold okN at hk ⊢
    rw [decide_eq_true hc] at hk ⊢
    cases ok1 with
    | false => rfl
    | true =>
      have : dupB ps lab k = true := by simpa using hk
      rw [dup_mono this]; rfl
  · unfold okN at hk ⊢
    rw [decide_eq_false hc] at hk ⊢
    simpa using hk
theorem tw_dup {ps : List Pit} {x : It} (hP : PoolP ps) (hx : Byt x.lab) : tw (accOf ps) x = (decide (x.code < 0) && dupB ps (bstr x.lab) ps.length) := by
  unfold tw dupB accOf
  rw [List.take_length, List.any_map]
  congr 1
  rw [Bool.eq_iff_iff, List.any_eq_true, List.any_eq_true]
  constructor
  · rintro ⟨p, hp, h⟩
    refine ⟨p, hp, ?_⟩
    simp only [Function.comp, isL, Bool.and_eq_true, decide_eq_true_eq, beq_iff_eq] at h ⊢
    exact ⟨h.1, by rw [h.2]⟩
  · rintro ⟨p, hp, h⟩
    refine ⟨p, hp, ?_⟩
    simp only [Function.comp, isL, Bool.and_eq_true, decide_eq_true_eq, beq_iff_eq] at h ⊢
    exact ⟨h.1, bstr_inj (hP p hp).2.1 hx h.2⟩
section
variable {ps : List Pit} {l : List Nat} {r : List (List Nat)} {i : Nat} {lab tg : ByteArray} {code : Int} {n d : Nat} {A : Option Addr} {q : Seg} {ok1 : Bool}
theorem say_fault (hP : PoolP ps) (hl : Byt l) (hw : wordsN l ≠ []) (hUt : ok1 = true → ∃ x, undN (wordsN l) = some x ∧ lab = bstr x.lab ∧ tg = bstr x.tg ∧ code = x.code ∧ n = x.bs.length ∧ OwnS q A n d (byts x.bs) 5 1) (hUf : ok1 = false → undN (wordsN l) = none)
    (h : false = okN ps lab code ok1 ps.length) : sayN (l :: r) i (accOf ps) = .inl (i + 1) := by
  cases ok1 with
  | false => exact say_bad1 hw (hUf rfl)
  | true =>
    obtain ⟨x, hx, rfl, _, rfl, _⟩ := hUt rfl
    refine say_bad2 hw hx ?_
    rw [tw_dup hP (und_byt hx (words_byt l [] byt_nil hl)).1]
    unfold okN at h
    simpa using h.symm
theorem say_good (hP : PoolP ps) (hl : Byt l) (hw : wordsN l ≠ []) (hUt : ok1 = true → ∃ x, undN (wordsN l) = some x ∧ lab = bstr x.lab ∧ tg = bstr x.tg ∧ code = x.code ∧ n = x.bs.length ∧ OwnS q A n d (byts x.bs) 5 1)
    (h : true = okN ps lab code ok1 ps.length) : ∃ x, lab = bstr x.lab ∧ tg = bstr x.tg ∧ code = x.code ∧ n = x.bs.length ∧ PitOK ⟨x, i + 1, A, d, q⟩ ∧ sayN (l :: r) i (accOf ps) = sayN r (i + 1) (accOf ps ++ [(x, i + 1)]) := by
  have h1 : ok1 = true := by
    cases ok1 with
    | true => rfl
    | false => simp [okN] at h
  obtain ⟨x, hx, h2, h3, h4, h5, h6⟩ := hUt h1
  have hb := und_byt hx (words_byt l [] byt_nil hl)
  refine ⟨x, h2, h3, h4, h5, ⟨und_ok hx, hb.1, hb.2, by rw [← h5]; exact h6⟩, say_go hw hx ?_⟩
  rw [tw_dup hP hb.1, ← h2, ← h4]
  unfold okN at h
  rw [h1] at h
  generalize (decide (code < 0) && dupB ps lab ps.length) = b at h ⊢
  cases b with
  | false => rfl
  | true => cases h
end
theorem bad_skip {all : List (It × Nat)} {ps : List Pit} {j : Nat} (h : j < ps.length) (h2 : ¬ (¬ (ps.getD j pd).it.tg = [] ∧ plcL all (ps.getD j pd).it.tg 0 = none)) : badN all ((accOf ps).drop j) = badN all ((accOf ps).drop (j + 1)) := by
  rw [acc_drop h, badN, if_neg h2]
theorem bad_hit {all : List (It × Nat)} {ps : List Pit} {j : Nat} (h : j < ps.length) (h2 : ¬ (ps.getD j pd).it.tg = [] ∧ plcL all (ps.getD j pd).it.tg 0 = none) : badN all ((accOf ps).drop j) = some (ps.getD j pd).no := by
  rw [acc_drop h, badN, if_pos h2]
theorem bad_end {all : List (It × Nat)} {ps : List Pit} {j : Nat} (h : ps.length ≤ j) : badN all ((accOf ps).drop j) = none := by
  rw [List.drop_of_length_le (by rw [len_acc]; exact h)]; rfl
theorem bad_some {all : List (It × Nat)} : ∀ {l : List (It × Nat)} {x : It × Nat}, badN all l = none → x ∈ l → ¬ x.1.tg = [] → ∃ p, plcL all x.1.tg 0 = some p
  | y :: l, x, h, hx, ht => by
    rw [badN] at h
    split at h
    · cases h
    rename_i hn
    rcases List.mem_cons.1 hx with rfl | hx
    · cases hp : plcL all x.1.tg 0 with
      | none => exact absurd ⟨ht, hp⟩ hn
      | some p => exact ⟨p, rfl⟩
    · exact bad_some h hx ht
theorem acc_mem {ps : List Pit} {j : Nat} (h : j < ps.length) : ((ps.getD j pd).it, (ps.getD j pd).no) ∈ accOf ps := List.mem_of_getElem? (acc_at h)
def OB (ps : List Pit) (j : Nat) : List Nat := flat (outB (accOf ps)) ((accOf ps).take j)
theorem OB_succ {ps : List Pit} {j : Nat} (h : j < ps.length) : OB ps (j + 1) = OB ps j ++ outB (accOf ps) (ps.getD j pd).it := by
  unfold OB; rw [acc_take h, flat_append]; simp [flat]
theorem OB_all (ps : List Pit) : OB ps ps.length = flat (outB (accOf ps)) (accOf ps) := by
  unfold OB; rw [List.take_of_length_le (by rw [len_acc]; exact Nat.le_refl _)]
theorem OB_len {ps : List Pit} (j : Nat) : (OB ps j).length ≤ (OB ps ps.length).length := by
  have : OB ps ps.length = OB ps j ++ flat (outB (accOf ps)) ((accOf ps).drop j) := by
    rw [OB_all]; unfold OB; rw [← flat_append, List.take_append_drop]
  rw [this, List.length_append]; omega
theorem chk_big {xs : List Nat} (h : 1024 < xs.length) : chkN xs = false := by
  cases hc : chkN xs with
  | false => rfl
  | true => have := chk_len2 hc; omega
theorem asm_chk {ps : List Pit} {j : Nat} (hj : j ≤ ps.length) (h : ¬ (j < ps.length ∧ (OB ps j).length ≤ 1024)) : chkN (OB ps j) = chkN (OB ps ps.length) ∧ (chkN (OB ps j) = true → OB ps j = OB ps ps.length) := by
  by_cases he : j = ps.length
  · rw [he]; exact ⟨rfl, fun _ => rfl⟩
  · have h1 : 1024 < (OB ps j).length := by omega
    have h2 := OB_len (ps := ps) j
    have h3 := chk_big h1
    exact ⟨by rw [h3, chk_big (by omega)], fun h => by rw [h3] at h; cases h⟩
theorem out_byt {all : List (It × Nat)} {x : It} (h : ItOK x) : Byt (outB all x) := by
  unfold outB; split
  · exact h.2.2.2.1
  · intro b hb
    simp only [List.mem_cons, List.not_mem_nil, or_false] at hb
    rcases hb with rfl | rfl | rfl
    · exact byt_getD h.2.2.2.1 0
    · exact Nat.mod_lt _ (by decide)
    · exact Nat.mod_lt _ (by decide)
theorem OB_byt {ps : List Pit} (hP : PoolP ps) (j : Nat) : Byt (OB ps j) := by
  intro b hb
  unfold OB flat at hb
  obtain ⟨x, hx, hb⟩ := List.mem_flatMap.1 hb
  obtain ⟨p, hp, rfl⟩ := List.mem_map.1 (List.mem_of_mem_take hx)
  exact out_byt (hP p hp).1 b hb
theorem out_len {all : List (It × Nat)} {x : It} (h : ItOK x) : (outB all x).length ≤ 34 := by
  unfold outB; split
  · exact h.2.2.2.2
  · simp
theorem out_no {all : List (It × Nat)} {x : It} (h : x.tg = []) : outB all x = x.bs := by unfold outB; rw [if_pos h]
theorem out_to {all : List (It × Nat)} {x : It} {p : Nat} (h : ¬ x.tg = []) (hp : plcL all x.tg 0 = some p) : outB all x = [x.bs.getD 0 0, p / 256 % 256, p % 256] := by unfold outB; rw [if_neg h, hp]; rfl
theorem rwords_l {l : List Nat} (hl : Byt l) (h : l.length ≤ 100000) (w : World) : Ret Tryz.prog 54 [.string (bstr l)] w [] (fun v q => ∃ A d, v = .slice A (wordsN l).length d ∧ OwnS q A (wordsN l).length d (strs (wordsN l)) 9 1) := by
  have := rwords_calls (bstr l) w (by rw [size_bstr]; exact h); rwa [bys_bstr hl] at this
end Go.Proofs.YtlapmbkfmbkdoaaGreatDoor
end
section
namespace Go.Proofs.YtlapmbkfmbkdoaaGreatDoor
open Go Go.Fw Go.RowKit
attribute [local irreducible] Go.Oper.wp Go.Code.wp Go.wpList Go.Fw.WL Go.Calls
theorem nos_getD (ps : List Pit) (j : Nat) : (nosL ps).getD j 0 = (ps.getD j pd).no := by
  unfold nosL; rw [List.getD_eq_getElem?_getD, List.getD_eq_getElem?_getD, List.getElem?_map]
  cases ps[j]? <;> rfl
theorem own_nos {x : Nat} {l : List Nat} : ints l ++ [.int .i64 ((x : Nat) : Int)] = ints (l ++ [x]) := by simp [ints]
theorem asm_bad3 {xs : List Nat} {acc : List (It × Nat)} {k : Nat} (h : asmN xs = match badN acc acc with
    | some k => ([], k, 107)
    | none => if chkN (flat (outB acc) acc) then (flat (outB acc) acc, 0, 0) else ([], 0, 100)) (hb : badN acc acc = some k) : asmN xs = ([], k, 107) := by rw [h, hb]
theorem asm_bad4 {xs : List Nat} {ps : List Pit} (h : asmN xs = match badN (accOf ps) (accOf ps) with
    | some k => ([], k, 107)
    | none => if chkN (flat (outB (accOf ps)) (accOf ps)) then (flat (outB (accOf ps)) (accOf ps), 0, 0) else ([], 0, 100)) (hb : badN (accOf ps) (accOf ps) = none) (hc : chkN (OB ps ps.length) = false) : asmN xs = ([], 0, 100) := by
  rw [h, hb, ← OB_all]; simp only []; rw [if_neg (by rw [hc]; decide)]
theorem asm_good4 {xs : List Nat} {ps : List Pit} (h : asmN xs = match badN (accOf ps) (accOf ps) with
    | some k => ([], k, 107)
    | none => if chkN (flat (outB (accOf ps)) (accOf ps)) then (flat (outB (accOf ps)) (accOf ps), 0, 0) else ([], 0, 100)) (hb : badN (accOf ps) (accOf ps) = none) (hc : chkN (OB ps ps.length) = true) : asmN xs = (OB ps ps.length, 0, 0) := by
  rw [h, hb, ← OB_all]; simp only []; rw [if_pos hc]
theorem lines_ok {xs : List Nat} {m : Nat} (hB : Byt xs) (hm : xs.length = m) {o : List (List Nat)} (h : linesT xs = o ∨ linesT xs = o ++ [[]]) : (∀ l ∈ o, Byt l ∧ l.length ≤ m) ∧ o.length ≤ m + 1 := by
  subst hm
  have h1 := lines_byt xs [] byt_nil hB
  have h2 := lines_count [] xs
  rcases h with e | e
  · unfold linesT at e; rw [e] at h1 h2
    exact ⟨fun l hl => ⟨(h1 l hl).1, by have := (h1 l hl).2; simpa using this⟩, h2⟩
  · unfold linesT at e; rw [e] at h1 h2
    exact ⟨fun l hl => ⟨(h1 l (by simp [hl])).1, by have := (h1 l (by simp [hl])).2; simpa using this⟩, by rw [List.length_append] at h2; omega⟩
set_option maxHeartbeats 8000000 in
theorem rasm_calls (s : ByteArray) (w0 : World) : Ret Tryz.prog 17 [.string s] w0 [] (fun v q => AsmR (bys s) v q) := by
 refine fn_start Tryz.func17 Y Tryz.ntmps17 Y [(0, .string s)] ⟨Y, trivial⟩ ?_
 intro Q a hP J hR hN
 have G := St.start w0
 have hlen := length_bys s
 refine wp_seq_k fun K1 hK1=> wp_region_lit <| av J Y Y fun a J=> av J Y Y fun a J=> av J Y Y fun a J=> s0 <| then_n (hK1 _ _ <| wp_seq_k fun K2 hK2=> wp_seq_k fun K3 hK3=> wp_region_lit <| mv J Y Y fun a J=> sw J Y Y Y (R.lenS Tryz.underlying9 (J.ev Y)) fun a J=> sw J Y Y Y (R.gtr (J.ev Y) (J.ev Y)) fun a J=> s0 <| then_n (hK3 _ _ <| cD J Y (fun c0=> ?_) (fun c0=> ?_)))
 ·refine wp_seq_k fun K4 hK4=> wp_region_lit <| av J Y Y fun a J=> av J Y Y fun a J=> av J Y Y fun a J=> s0 <| then_n (hK4 _ _ <| wp_ret (then_r (hR _ _ _ _ _ J (run_results Tryz.results17 (.t J Y (.t J Y (.t J Y (.nil))))) ?_)))
  exact ⟨_, [], Y, asm_r (asm_long (by omega)) Y Y (OwnS.nil 5 1), G.none⟩
 have hc0 : ¬ 65536 < (bys s).length := by omega
 refine wp_skip <| then_n (hK2 _ _ <| wp_seq_k fun K5 hK5=> wp_region_lit <| mv J Y Y fun a J=> so (wn Y) (O.call Y Y J ent53 (J.evs Y) G (split_calls s _ (by omega)) fun v s22 a w hR J G=> ?_))
 obtain ⟨A5, d5, o5, rfl, hO5, hL5⟩ := hR
 have hlk := lines_ok (byt_bys s) hlen hL5; obtain ⟨hlines, ho5⟩ := hlk
 refine av J Y Y fun a J=> s0 <| then_n (hK5 _ _ <| wp_seq_k fun K6 hK6=> ?_)
 have G := G.cons0
 refine wp_region_lit <| av J Y Y fun a J=> s0 <| then_n (hK6 _ _ <| wp_seq_k fun K7 hK7=> ?_)
 have G := G.cons0
 refine wp_region_lit <| av J Y Y fun a J=> s0 <| then_n (hK7 _ _ <| wp_seq_k fun K8 hK8=> wp_seq_k fun K9 hK9=> ?_)
 have G := G.cons0
 refine wp_region_lit <| av J Y Y fun a J=> s0 <| then_n (hK9 _ _ <| wp_block <| wp_loop_N (fun g a w=> ∃ (i : Nat) (ps : List Pit) (As : Option Addr) (ds : Nat) (zs : Seg) (An : Option Addr) (dn : Nat) (zn : Seg), o5.length - i = g ∧ Fr 157 [(5, .slice A5 o5.length d5), (6, .slice As ps.length ds), (7, .slice An ps.length dn), (8, .int .i64 ((i : Nat) : Int))] a ∧ St w0 [] [flS ps, zs, zn, s22] w ∧ (i ≤ o5.length) ∧ (ps.length ≤ i) ∧ (OwnS zs As ps.length ds (saidC ps) 112 4) ∧ (OwnS zn An ps.length dn (ints (nosL ps)) 3 1) ∧ (PoolP ps) ∧ (sayN o5 0 [] = sayN (o5.drop i) i (accOf ps))) (o5.length - 0) ?_ ?_)
 ·exact ⟨0, [], none, 0, [], none, 0, [], Y, J.sub ⟨Y, Y, Y, Y, trivial⟩, G.sel [0, 2, 1, 3] Y Y, by omega, by simp, OwnS.nil 112 4, OwnS.nil 3 1, pool_nil, Y⟩
 rintro KL1 g a w ⟨i, ps, As, ds, zs, An, dn, zn, hg1, J, G, hi, hpi, hOs, hOn, hPo, hJ⟩ hKL1
 refine wp_seq_k fun K10 hK10=> wp_seq_k fun K11 hK11=> wp_region_lit <| mv J Y Y fun a J=> mv J Y Y fun a J=> sw J Y Y Y (R.len Tryz.underlying108 (J.ev Y)) fun a J=> lS J Y Y Y fun a J=> s0 <| then_n (hK11 _ _ <| cD J Y (fun c2=> ?_) (fun c2=> ?_))
 ·have hl5 := hlines (o5.getD i []) (mem_getD (by omega)); obtain ⟨hlb, hll0⟩ := hl5; have hll : (o5.getD i []).length ≤ 100000 := (by omega); have hdr := drop_cons [] o5 i (by omega); have hwc := words_len [] (o5.getD i []); have hwb := words_byt (o5.getD i []) [] byt_nil hlb
  rw [show fld [] (o5.getD i []) = wordsN (o5.getD i []) from rfl] at hwc
  refine wp_skip <| then_n (hK10 _ _ <| wp_seq_k fun K12 hK12=> ?_)
  have hK12' : ∀ a w, (∃ (ps2 : List Pit) (As2 : Option Addr) (ds2 : Nat) (zs2 : Seg) (An2 : Option Addr) (dn2 : Nat) (zn2 : Seg), Fr 157 [(5, .slice A5 o5.length d5), (6, .slice As2 ps2.length ds2), (7, .slice An2 ps2.length dn2), (8, .int .i64 ((i : Nat) : Int))] a ∧ St w0 [] [flS ps2, zs2, zn2, s22] w ∧ (ps2.length ≤ i + 1) ∧ (OwnS zs2 As2 ps2.length ds2 (saidC ps2) 112 4) ∧ (OwnS zn2 An2 ps2.length dn2 (ints (nosL ps2)) 3 1) ∧ (PoolP ps2) ∧ (sayN o5 0 [] = sayN (o5.drop (i + 1)) (i + 1) (accOf ps2))) → K12 a w := by
   rintro a w ⟨ps2, As2, ds2, zs2, An2, dn2, zn2, J, G, hpi2, hOs, hOn, hPo, hJ⟩
   refine hK12 _ _ ?_
   refine wp_region_lit <| mv J Y Y fun a J=> aI J Y Y Y (by omega) fun a J=> av J Y Y fun a J=> s0 <| then_n (hKL1 (o5.length - (i + 1)) _ _ ?_ ?_)
   ·omega
   exact ⟨i + 1, ps2, As2, ds2, zs2, An2, dn2, zn2, Y, J.sub ⟨Y, Y, Y, (congrArg (fun z => some (Value.int .i64 z)) (by omega)), trivial⟩, G.sel [0, 1, 2, 3] Y Y, by omega, hpi2, hOs, hOn, hPo, hJ⟩
  refine wp_block <| wp_seq_k fun K13 hK13=> wp_region_lit <| mv J Y Y fun a J=> mv J Y Y fun a J=> sw J Y Y Y (R.indexO Tryz.underlying108 sz9 (J.ev Y) ((hO5.rd G (.t (.t (.t .h)))).ne (by rw [len_strs]; omega)) (J.ev Y) (by omega) (by omega)) fun a J=> sw J Y Y Y (R.loadO one9 (J.ev Y) (hO5.rd G (.t (.t (.t .h)))) (strs_at (i := i) (by omega) (by omega))) fun a J=> so (wn Y) (O.call Y Y J ent54 (J.evs Y) G (rwords_l hlb hll w) fun v s33 a w hR J G=> ?_)
  obtain ⟨A33, d33, rfl, hO33⟩ := hR
  refine av J Y Y fun a J=> s0 <| then_n (hK13 _ _ <| wp_seq_k fun K14 hK14=> wp_seq_k fun K15 hK15=> wp_region_lit <| mv J Y Y fun a J=> sw J Y Y Y (R.len Tryz.underlying108 (J.ev Y)) fun a J=> eL J Y Y Y fun a J=> s0 <| then_n (hK15 _ _ <| cD J Y (fun c3=> ?_) (fun c3=> ?_)))
  ·have hwn : wordsN (o5.getD i []) = [] := List.eq_nil_of_length_eq_zero (by omega)
   refine wp_exit (then_x (blk_hit ?_))
   exact then_n (hK12' _ _ ⟨ps, As, ds, zs, An, dn, zn, J.sub ⟨Y, Y, Y, Y, trivial⟩, G.sel [1, 2, 3, 4] Y Y, by omega, hOs, hOn, hPo, hJ.trans (by rw [hdr, say_skip hwn])⟩)
  have hwn : wordsN (o5.getD i []) ≠ [] := fun h => c3 (by rw [h]; rfl)
  refine wp_skip <| then_n (hK14 _ _ <| wp_seq_k fun K16 hK16=> wp_region_lit <| mv J Y Y fun a J=> so (wn Y) (O.call Y Y J ent55 (J.evs Y) G ((und_calls A33 _ d33 (wordsN (o5.getD i [])) w (hO33.rd G .h) Y (by omega) (by omega) hwb).mono fun _ _ h=> h.u) fun v s39 a w hR J G=> ?_))
  obtain ⟨lab1, to1, code1, A1, n1, d1, ok1, rfl, hUt, hUf⟩ := hR
  refine mv J Y Y fun a J=> xv J Y Y Y fun a J=> xv J Y Y Y fun a J=> so (wn Y) (O.alloc Y Y J ze112 Y G fun b10 a w J G=> ?_)
  refine so (wn Y) (O.storeW sz112 (J.ev Y) (J.ev Y) (Y) Y (by simp [Value.oneCell']) G .h (Y) fun w G=> ?_)
  refine av J Y Y fun a J=> s0 <| then_n (hK16 _ _ <| wp_seq_k fun K17 hK17=> wp_seq_k fun K18 hK18=> wp_region_lit <| av J Y Y fun a J=> s0 <| then_n (hK18 _ _ <| wp_block <| wp_loop_N (fun g a w=> ∃ (k : Nat) (ok : Bool), ps.length - k = g ∧ Fr 157 [(5, .slice A5 o5.length d5), (6, .slice As ps.length ds), (7, .slice An ps.length dn), (8, .int .i64 ((i : Nat) : Int)), (10, .pointer (some ⟨b10, 0, none⟩)), (11, .bool ok), (12, .int .i64 ((k : Nat) : Int))] a ∧ St w0 [] [[(b10, Cel (lineB lab1 to1 code1 A1 n1 d1) 112)], s39, flS ps, zs, zn, s22] w ∧ (k ≤ ps.length) ∧ (ok = okN ps lab1 code1 ok1 k)) (ps.length - 0) ?_ ?_))
  ·exact ⟨0, ok1, Y, J.sub ⟨Y, Y, Y, Y, Y, Y, Y, trivial⟩, G.sel [0, 1, 3, 4, 5, 6] Y Y, by omega, ok_0 _ _ _ _⟩
  rintro KL2 g a w ⟨k, ok, hg2, J, G, hkl, hk⟩ hKL2
  refine wp_seq_k fun K19 hK19=> wp_seq_k fun K20 hK20=> ?_
  have hK20' : ∀ a w, (Fr 157 [(5, .slice A5 o5.length d5), (6, .slice As ps.length ds), (7, .slice An ps.length dn), (8, .int .i64 ((i : Nat) : Int)), (10, .pointer (some ⟨b10, 0, none⟩)), (11, .bool ok), (12, .int .i64 ((k : Nat) : Int)), (53, .bool (decide (ok = true ∧ code1 < 0 ∧ k < ps.length)))] a ∧ St w0 [] [[(b10, Cel (lineB lab1 to1 code1 A1 n1 d1) 112)], s39, flS ps, zs, zn, s22] w) → K20 a w := by
   rintro a w ⟨J, G⟩
   refine hK20 _ _ ?_
   refine cD J Y (fun c4=> ?_) (fun c4=> ?_)
   ·refine wp_skip <| then_n (hK19 _ _ <| wp_seq_k fun K21 hK21=> ?_)
    have hK21' : ∀ a w, (∃ (ok2 : Bool), Fr 157 [(5, .slice A5 o5.length d5), (6, .slice As ps.length ds), (7, .slice An ps.length dn), (8, .int .i64 ((i : Nat) : Int)), (10, .pointer (some ⟨b10, 0, none⟩)), (11, .bool ok2), (12, .int .i64 ((k : Nat) : Int))] a ∧ St w0 [] [[(b10, Cel (lineB lab1 to1 code1 A1 n1 d1) 112)], s39, flS ps, zs, zn, s22] w ∧ (ok2 = okN ps lab1 code1 ok1 (k + 1))) → K21 a w := by
     rintro a w ⟨ok2, J, G, hk2⟩
     refine hK21 _ _ ?_
     refine wp_region_lit <| mv J Y Y fun a J=> aI J Y Y Y (by omega) fun a J=> av J Y Y fun a J=> s0 <| then_n (hKL2 (ps.length - (k + 1)) _ _ ?_ ?_)
     ·omega
     exact ⟨k + 1, ok2, Y, J.sub ⟨Y, Y, Y, Y, Y, Y, (congrArg (fun z => some (Value.int .i64 z)) (by omega)), trivial⟩, G.sel [0, 1, 2, 3, 4, 5] Y Y, by omega, hk2⟩
    refine wp_block <| wp_seq_k fun K22 hK22=> ?_
    have hK22' : ∀ a w, (Fr 157 [(5, .slice A5 o5.length d5), (6, .slice As ps.length ds), (7, .slice An ps.length dn), (8, .int .i64 ((i : Nat) : Int)), (10, .pointer (some ⟨b10, 0, none⟩)), (11, .bool ok), (12, .int .i64 ((k : Nat) : Int)), (71, .bool (decide ((ps.getD k pd).it.code < 0 ∧ bstr (ps.getD k pd).it.lab = lab1)))] a ∧ St w0 [] [[(b10, Cel (lineB lab1 to1 code1 A1 n1 d1) 112)], s39, flS ps, zs, zn, s22] w) → K22 a w := by
     rintro a w ⟨J, G⟩
     refine hK22 _ _ ?_
     refine cD J Y (fun c5=> ?_) (fun c5=> ?_)
     ·refine wp_region_lit <| av J Y Y fun a J=> s0 <| blk_n ?_
      exact then_n (hK21' _ _ ⟨false, J.sub ⟨Y, Y, Y, Y, Y, Y, Y, trivial⟩, G.sel [0, 1, 2, 3, 4, 5] Y Y, ok_hit (by omega) c4.2.1 c5⟩)
     refine wp_skip <| blk_n ?_
     exact then_n (hK21' _ _ ⟨ok, J.sub ⟨Y, Y, Y, Y, Y, Y, Y, trivial⟩, G.sel [0, 1, 2, 3, 4, 5] Y Y, ok_miss (by omega) c5 hk⟩)
    refine wp_drawS G [(0, 0), (1, 0), (2, 0), (3, 0), (4, 1), (5, 0), (6, 0), (7, 0), (8, 0), (9, 0), (10, 0), (11, 1), (12, 0), (13, 1), (14, 0), (15, 0)] mix (by kernel_rfl) (hP.then.block.then.then.block.then.block.then.then.block.then) fun w G=> ?_
    have hD := G
    refine dm J Y Y Y fun a J=> dm J Y Y Y fun a J=> dv J Y Y Y Y (fun w=> R.indexO Tryz.underlying110 sz112 (J.ev Y) ((hOs.rd G (.t (.t (.t .h)))).ne (by rw [len_said]; omega)) (J.ev Y) (by omega) (by omega)) fun a J=> dv J Y Y Y Y (fun w=> R.fieldAddrO (m := 1) Tryz.underlying112 Y nz3 (J.ev Y) ((hOs.rd G (.t (.t (.t .h)))).ne (by rw [len_said]; omega)) Y) fun a J=> dr J Y (wn Y) Y Y hD (fun w hD=> R.loadO one3 (J.ev Y) (hOs.rd hD (.t (.t (.t .h)))) (said_code (i := k) (by omega) (by omega))) fun a J=> ?_
    refine dv J Y Y Y Y (fun w=> R.lss (J.ev Y) (J.ev Y)) fun a J=> dm J Y Y Y fun a J=> J.splitD (t := 62) Y (fun h62 J=> ?_) (fun h62 J=> ?_)
    ·refine dq J Y (wy J Y Y Y) Y Y (fun w=> R.move (J.ev Y)) fun a J=> dq J Y (wy J Y Y Y) Y Y (fun w=> R.move (J.ev Y)) fun a J=> dq J Y (wy J Y Y Y) Y Y (fun w=> R.indexO Tryz.underlying110 sz112 (J.ev Y) ((hOs.rd G (.t (.t (.t .h)))).ne (by rw [len_said]; omega)) (J.ev Y) (by omega) (by omega)) fun a J=> dq J Y (wy J Y Y Y) Y Y (fun w=> R.fieldAddrO (m := 0) Tryz.underlying112 Y nz9 (J.ev Y) ((hOs.rd G (.t (.t (.t .h)))).ne (by rw [len_said]; omega)) Y) fun a J=> dr J Y (wy J Y Y Y) Y Y hD (fun w hD=> R.loadO one9 (J.ev Y) (hOs.rd hD (.t (.t (.t .h)))) (said_lab (i := k) (by omega) (by omega))) fun a J=> ?_
     refine dq J Y (wy J Y Y Y) Y Y (fun w=> R.fieldAddr (k := 0) Tryz.underlying112 Y nz9 (J.ev Y) Y) fun a J=> dr J Y (wy J Y Y Y) Y Y hD (fun w hD=> R.load one9 (J.ev Y) hD .h (Y)) fun a J=> ?_
     refine dq J Y (wy J Y Y Y) Y Y (fun w=> R.as (u := .bool (decide (bstr (ps.getD k pd).it.lab = lab1))) (R.eqlStr (J.ev Y) (J.ev Y)) (Y)) fun a J=> dv J Y Y Y Y (fun w=> R.pickT (J.ev Y) (J.ev Y)) fun a J=> d0 ?_
     exact then_n (hK22' _ _ ⟨J.sub ⟨Y, Y, Y, Y, Y, Y, Y, (congrArg (fun z => some (Value.bool z)) (decide_eq_decide.2 ⟨fun h => ⟨by omega, h⟩, fun h => h.2⟩)), trivial⟩, G.sel [0, 1, 2, 3, 4, 5] Y Y⟩)
    refine dk J Y (ws J Y Y Y Y) Y Y fun a J=> dk J Y (ws J Y Y Y Y) Y Y fun a J=> dk J Y (ws J Y Y Y Y) Y Y fun a J=> dk J Y (ws J Y Y Y Y) Y Y fun a J=> dk1 J Y (ws J Y Y Y Y) Y Y hD fun a J=> ?_
    refine dk J Y (ws J Y Y Y Y) Y Y fun a J=> dk1 J Y (ws J Y Y Y Y) Y Y hD fun a J=> ?_
    refine dk J Y (ws J Y Y Y Y) Y Y fun a J=> dv J Y Y Y Y (fun w=> R.pickF (J.ev Y) (J.ev Y)) fun a J=> d0 ?_
    exact then_n (hK22' _ _ ⟨J.sub ⟨Y, Y, Y, Y, Y, Y, Y, (congrArg (fun z => some (Value.bool z)) (decide_eq_false (fun h => absurd h.1 (by omega))).symm), trivial⟩, G.sel [0, 1, 2, 3, 4, 5] Y Y⟩)
   have hkE := ok_end hkl c4 hk
   refine wp_exit (then_x (then_x (blk_hit <| then_n (hK17 _ _ <| wp_seq_k fun K23 hK23=> wp_seq_k fun K24 hK24=> wp_region_lit <| mv J Y Y fun a J=> sw J Y Y Y (R.as (u := .bool (decide (ok = false))) (R.not (J.ev Y)) (by cases ok <;> rfl)) fun a J=> s0 <| then_n (hK24 _ _ <| cD J Y (fun c6=> ?_) (fun c6=> ?_))))))
   ·rw [c6] at hkE
    have hSy := hJ.trans (by rw [hdr, say_fault (r := o5.drop (i + 1)) (i := i) hPo hlb hwn hUt hUf hkE])
    refine wp_seq_k fun K25 hK25=> wp_region_lit <| mv J Y Y fun a J=> aI J Y Y Y (by omega) fun a J=> av J Y Y fun a J=> av J Y Y fun a J=> av J Y Y fun a J=> s0 <| then_n (hK25 _ _ <| wp_ret (then_r (blk_r (then_r (then_r (blk_r (then_r (hR _ _ _ _ _ J (run_results Tryz.results17 (.t J Y (.t J Y (.t J Y (.nil))))) ?_))))))))
    exact ⟨_, [], Y, asm_r (asm_l hc0 hL5 hSy) Y Y (OwnS.nil 5 1), G.none⟩
   rw [(Bool.eq_false_or_eq_true ok).resolve_right c6] at hkE
   refine wp_skip <| then_n (hK23 _ _ <| wp_seq_k fun K26 hK26=> wp_region_lit <| mv J Y Y fun a J=> sw J Y Y Y (R.loadW agg112 (J.ev Y) G .h sz112 (Y)) fun a J=> so (wn Y) (O.buildSlice (l := lineB lab1 to1 code1 A1 n1 d1) Y Y J Tryz.underlying110 inf112 Y Y (J.evp Y) (by decide) Y G fun b78 a w J G=> ?_))
   refine so (wn Y) (O.append Y Y J Tryz.underlying110 inf112 Y Y (by decide) (J.ev Y) (J.ev Y) G hOs (fun _=> (.t (.t (.t (.t .h))))) (Rd.own0 G .h) (Y) (by simp [Value.oneCell']) (by unfold maxLen; omega) (by omega) fun A79 c79 s79 a w hO79 J G=> ?_)
   refine av J Y Y fun a J=> s0 <| then_n (hK26 _ _ ?_)
   obtain ⟨x1, rfl, rfl, rfl, rfl, hPx, hSy⟩ := say_good (r := o5.drop (i + 1)) (i := i) hPo hlb hwn hUt hkE
   have G := (G.sel [3, 2, 4, 5, 6] rfl rfl).flat (bs' := [flS (ps ++ [⟨x1, i + 1, A1, d1, s39⟩]), s79, zn, s22]) (by simp [selS, flS])
   refine wp_region_lit <| mv J Y Y fun a J=> mv J Y Y fun a J=> aI J Y Y Y (by omega) fun a J=> so (wn Y) (O.buildSlice (l := [_]) Y Y J Tryz.underlying61 inf3 Y Y (J.evp Y) (by decide) Y G fun b83 a w J G=> ?_)
   refine so (wn Y) (O.append Y Y J Tryz.underlying61 inf3 Y Y (by decide) (J.ev Y) (J.ev Y) G hOn (fun _=> (.t (.t (.t .h)))) (Rd.own0 G .h) (Y) (by simp [Value.oneCell']) (by unfold maxLen; omega) (by omega) fun A84 c84 s84 a w hO84 J G=> ?_)
   refine av J Y Y fun a J=> s0 <| blk_n ?_
   exact then_n (hK12' _ _ ⟨(ps ++ [⟨x1, i + 1, A1, d1, s39⟩]), A79, c79, s79, A84, c84, s84, J.sub ⟨Y, (by rw [List.length_append]; rfl), (by rw [List.length_append]; rfl), Y, trivial⟩, G.sel [1, 2, 3, 4] Y Y, (by rw [List.length_append]; simp only [List.length_cons, List.length_nil]; omega), (by rw [said_snoc, List.length_append]; exact hO79), (by rw [nos_snoc, ← own_nos]; rw [List.length_append]; exact hO84), pool_snoc hPo hPx, (by rw [acc_snoc]; exact hJ.trans (by rw [hdr, hSy]))⟩)
  refine wp_region_lit <| mv J Y Y fun a J=> mv J Y Y fun a J=> J.splitB (t := 43) Y (fun h43 J=> ?_) (fun h43 J=> ?_)
  ·refine sv' J (wy J Y Y Y) Y Y (R.fieldAddr (k := 1) Tryz.underlying112 Y nz3 (J.ev Y) Y) fun a J=> sv' J (wy J Y Y Y) Y Y (R.load one3 (J.ev Y) G .h (Y)) fun a J=> sv' J (wy J Y Y Y) Y Y (R.lss (J.ev Y) (J.ev Y)) fun a J=> pT J Y Y Y fun a J=> mv J Y Y fun a J=> J.splitD (t := 48) Y (fun h48 J=> ?_) (fun h48 J=> ?_)
   ·refine my J Y Y Y Y fun a J=> my J Y Y Y Y fun a J=> sv' J (wy J Y Y Y) Y Y (R.len Tryz.underlying110 (J.ev Y)) fun a J=> sv' J (wy J Y Y Y) Y Y (R.lss (J.ev Y) (J.ev Y)) fun a J=> pT J Y Y Y fun a J=> s0 ?_
    exact then_n (hK20' _ _ ⟨J.sub ⟨Y, Y, Y, Y, Y, Y, Y, (congrArg (fun z => some (Value.bool z)) (decide_eq_decide.2 ⟨fun h => ⟨h43, by omega, by omega⟩, fun h => by have := h.2.2; omega⟩)), trivial⟩, G.sel [0, 1, 2, 3, 4, 5] Y Y⟩)
   refine kz J Y Y Y Y Y Y fun a J=> kz J Y Y Y Y Y Y fun a J=> kz J Y Y Y Y Y Y fun a J=> kz J Y Y Y Y Y Y fun a J=> pF J Y Y Y fun a J=> s0 ?_
   exact then_n (hK20' _ _ ⟨J.sub ⟨Y, Y, Y, Y, Y, Y, Y, (congrArg (fun z => some (Value.bool z)) (decide_eq_false (fun h => by have := h.2.1; omega)).symm), trivial⟩, G.sel [0, 1, 2, 3, 4, 5] Y Y⟩)
  refine kz J Y Y Y Y Y Y fun a J=> kz J Y Y Y Y Y Y fun a J=> kz J Y Y Y Y Y Y fun a J=> pF J Y Y Y fun a J=> mv J Y Y fun a J=> kz J Y Y Y Y Y Y fun a J=> kz J Y Y Y Y Y Y fun a J=> kz J Y Y Y Y Y Y fun a J=> kz J Y Y Y Y Y Y fun a J=> pF J Y Y Y fun a J=> s0 ?_
  exact then_n (hK20' _ _ ⟨J.sub ⟨Y, Y, Y, Y, Y, Y, Y, (congrArg (fun z => some (Value.bool z)) (decide_eq_false (fun h => by rw [h.1] at h43; cases h43)).symm), trivial⟩, G.sel [0, 1, 2, 3, 4, 5] Y Y⟩)
 obtain rfl : i = o5.length := by omega
 rw [List.drop_of_length_le (Nat.le_refl _)] at hJ
 have hA := asm_i hc0 hL5 (hJ.trans rfl)
 refine wp_exit (then_x (then_x (blk_hit <| then_n (hK8 _ _ <| wp_seq_k fun K27 hK27=> wp_seq_k fun K28 hK28=> wp_region_lit <| av J Y Y fun a J=> s0 <| then_n (hK28 _ _ <| wp_block <| wp_loop_N (fun g a w=> ∃ (j : Nat), ps.length - j = g ∧ Fr 157 [(6, .slice As ps.length ds), (7, .slice An ps.length dn), (13, .int .i64 ((j : Nat) : Int))] a ∧ St w0 [] [flS ps, zs, zn] w ∧ (j ≤ ps.length) ∧ (badN (accOf ps) (accOf ps) = badN (accOf ps) ((accOf ps).drop j))) (ps.length - 0) ?_ ?_)))))
 ·exact ⟨0, Y, J.sub ⟨Y, Y, Y, trivial⟩, G.sel [0, 1, 2] Y Y, by omega, Y⟩
 rintro KL3 g a w ⟨j, hg3, J, G, hj, hbd⟩ hKL3
 refine wp_seq_k fun K29 hK29=> wp_seq_k fun K30 hK30=> wp_region_lit <| mv J Y Y fun a J=> mv J Y Y fun a J=> sw J Y Y Y (R.len Tryz.underlying110 (J.ev Y)) fun a J=> lS J Y Y Y fun a J=> s0 <| then_n (hK30 _ _ <| cD J Y (fun c7=> ?_) (fun c7=> ?_))
 ·refine wp_skip <| then_n (hK29 _ _ <| wp_seq_k fun K31 hK31=> wp_block <| wp_seq_k fun K32 hK32=> ?_)
  have hK32' : ∀ a w, (Fr 157 [(6, .slice As ps.length ds), (7, .slice An ps.length dn), (13, .int .i64 ((j : Nat) : Int)), (106, .bool (decide (¬ (ps.getD j pd).it.tg = [] ∧ plcL (accOf ps) (ps.getD j pd).it.tg 0 = none)))] a ∧ St w0 [] [flS ps, zs, zn] w) → K32 a w := by
   rintro a w ⟨J, G⟩
   refine hK32 _ _ ?_
   refine cD J Y (fun c8=> ?_) (fun c8=> ?_)
   ·have hbn := hbd.trans (bad_hit (by omega) c8)
    refine wp_seq_k fun K33 hK33=> wp_drawS G [(0, 0), (1, 0), (2, 0), (3, 1), (4, 0), (5, 0), (6, 0)] mix (by kernel_rfl) (hP.then.block.then.then.block.then) fun w G=> ?_
    have hD := G
    refine dm J Y Y Y fun a J=> dm J Y Y Y fun a J=> dv J Y Y Y Y (fun w=> R.indexO Tryz.underlying61 sz3 (J.ev Y) ((hOn.rd G (.t (.t .h))).ne (by rw [length_ints, len_nos]; omega)) (J.ev Y) (by omega) (by omega)) fun a J=> dr J Y (wn Y) Y Y hD (fun w hD=> R.loadO one3 (J.ev Y) (hOn.rd hD (.t (.t .h))) (intsO (xs := nosL ps) (i := j) (by rw [len_nos]; omega) (by omega))) fun a J=> ?_
    refine da J Y Y Y fun a J=> da J Y Y Y fun a J=> da J Y Y Y fun a J=> d0 <| then_n (hK33 _ _ <| wp_ret (blk_r (then_r (then_r (blk_r (then_r (hR _ _ _ _ _ J (run_results Tryz.results17 (.t J Y (.t J Y (.t J Y (.nil))))) ?_)))))))
    exact ⟨_, [], Y, asm_r (asm_bad3 hA hbn) Y (by rw [nos_getD]; rfl) (OwnS.nil 5 1), G.none⟩
   refine wp_skip <| blk_n <| then_n (hK31 _ _ <| wp_region_lit <| mv J Y Y fun a J=> aI J Y Y Y (by omega) fun a J=> av J Y Y fun a J=> s0 <| then_n (hKL3 (ps.length - (j + 1)) _ _ ?_ ?_))
   ·omega
   exact ⟨j + 1, Y, J.sub ⟨Y, Y, (congrArg (fun z => some (Value.int .i64 z)) (by omega)), trivial⟩, G.sel [0, 1, 2] Y Y, by omega, hbd.trans (bad_skip (by omega) c8)⟩
  refine wp_region_lit <| mv J Y Y fun a J=> mv J Y Y fun a J=> sw J Y Y Y (R.indexO Tryz.underlying110 sz112 (J.ev Y) ((hOs.rd G (.t .h)).ne (by rw [len_said]; omega)) (J.ev Y) (by omega) (by omega)) fun a J=> sw J Y Y Y (R.fieldAddrO (m := 3) Tryz.underlying112 Y nz9 (J.ev Y) ((hOs.rd G (.t .h)).ne (by rw [len_said]; omega)) Y) fun a J=> sw J Y Y Y (R.loadO one9 (J.ev Y) (hOs.rd G (.t .h)) (said_to (i := j) (by omega) (by omega))) fun a J=> sw J Y Y Y (R.as (u := .bool (decide (¬ (ps.getD j pd).it.tg = []))) (R.neqStr (J.ev Y) (J.ev Y)) (congrArg Value.bool (decide_eq_decide.2 (not_congr str_nil)))) fun a J=> mv J Y Y fun a J=> J.splitD (t := 97) Y (fun h97 J=> ?_) (fun h97 J=> ?_)
  ·refine my J Y Y Y Y fun a J=> my J Y Y Y Y fun a J=> my J Y Y Y Y fun a J=> sv' J (wy J Y Y Y) Y Y (R.indexO Tryz.underlying110 sz112 (J.ev Y) ((hOs.rd G (.t .h)).ne (by rw [len_said]; omega)) (J.ev Y) (by omega) (by omega)) fun a J=> sv' J (wy J Y Y Y) Y Y (R.fieldAddrO (m := 3) Tryz.underlying112 Y nz9 (J.ev Y) ((hOs.rd G (.t .h)).ne (by rw [len_said]; omega)) Y) fun a J=> sv' J (wy J Y Y Y) Y Y (R.loadO one9 (J.ev Y) (hOs.rd G (.t .h)) (said_to (i := j) (by omega) (by omega))) fun a J=> so (wy J Y Y Y) (O.call Y Y J ent56 (J.evs Y) G (placeOf_calls As ds ps (ps.getD j pd).it.tg w (hOs.rd G (.t .h)) hPo (pool_at hPo (by omega)).2.2.1 (by omega)) fun v s104 a w hR J G=> ?_)
   obtain ⟨rfl, rfl⟩ := hR
   refine sv' J (wy J Y Y Y) Y Y (R.as (u := .bool (decide (plcL (accOf ps) (ps.getD j pd).it.tg 0 = none))) (R.lss (J.ev Y) (J.ev Y)) (congrArg Value.bool (decide_eq_decide.2 plcV_neg))) fun a J=> pT J Y Y Y fun a J=> s0 ?_
   exact then_n (hK32' _ _ ⟨J.sub ⟨Y, Y, Y, (congrArg (fun z => some (Value.bool z)) (decide_eq_decide.2 ⟨fun h => ⟨h97, h⟩, fun h => h.2⟩)), trivial⟩, G.sel [1, 2, 3] Y Y⟩)
  refine kz J Y Y Y Y Y Y fun a J=> kz J Y Y Y Y Y Y fun a J=> kz J Y Y Y Y Y Y fun a J=> kz J Y Y Y Y Y Y fun a J=> kz J Y Y Y Y Y Y fun a J=> kz J Y Y Y Y Y Y fun a J=> kz J Y Y Y Y Y Y fun a J=> kz J Y Y Y Y Y Y fun a J=> pF J Y Y Y fun a J=> s0 ?_
  exact then_n (hK32' _ _ ⟨J.sub ⟨Y, Y, Y, (congrArg (fun z => some (Value.bool z)) (decide_eq_false (fun h => absurd h.1 h97)).symm), trivial⟩, G.sel [0, 1, 2] Y Y⟩)
 have hbn : badN (accOf ps) (accOf ps) = none := hbd.trans (bad_end (by omega))
 refine wp_exit (then_x (then_x (blk_hit <| then_n (hK27 _ _ <| wp_seq_k fun K34 hK34=> wp_region_lit <| av J Y Y fun a J=> s0 <| then_n (hK34 _ _ <| wp_seq_k fun K35 hK35=> wp_seq_k fun K36 hK36=> ?_)))))
 have G := G.cons0
 refine wp_region_lit <| av J Y Y fun a J=> s0 <| then_n (hK36 _ _ <| wp_block <| wp_loop_N (fun g a w=> ∃ (j : Nat) (B : Option Addr) (d : Nat) (z : Seg), ps.length - j = g ∧ Fr 157 [(6, .slice As ps.length ds), (14, .slice B (OB ps j).length d), (15, .int .i64 ((j : Nat) : Int))] a ∧ St w0 [] [z, flS ps, zs] w ∧ (j ≤ ps.length) ∧ (OwnS z B (OB ps j).length d (byts (OB ps j)) 5 1)) (ps.length - 0) ?_ ?_)
 ·exact ⟨0, none, 0, [], Y, J.sub ⟨Y, Y, Y, trivial⟩, G.sel [0, 1, 2] Y Y, by omega, OwnS.nil 5 1⟩
 rintro KL4 g a w ⟨j, B, d, z, hg4, J, G, hj, hO⟩ hKL4
 refine wp_seq_k fun K37 hK37=> wp_seq_k fun K38 hK38=> ?_
 have hK38' : ∀ a w, (Fr 157 [(6, .slice As ps.length ds), (14, .slice B (OB ps j).length d), (15, .int .i64 ((j : Nat) : Int)), (119, .bool (decide (j < ps.length ∧ (OB ps j).length ≤ 1024)))] a ∧ St w0 [] [z, flS ps, zs] w) → K38 a w := by
  rintro a w ⟨J, G⟩
  refine hK38 _ _ ?_
  refine cD J Y (fun c9=> ?_) (fun c9=> ?_)
  ·refine wp_skip <| then_n (hK37 _ _ <| wp_seq_k fun K39 hK39=> wp_block <| wp_seq_k fun K40 hK40=> wp_region_lit <| mv J Y Y fun a J=> mv J Y Y fun a J=> sw J Y Y Y (R.indexO Tryz.underlying110 sz112 (J.ev Y) ((hOs.rd G (.t (.t .h))).ne (by rw [len_said]; omega)) (J.ev Y) (by omega) (by omega)) fun a J=> sw J Y Y Y (R.fieldAddrO (m := 2) Tryz.underlying112 Y nz22 (J.ev Y) ((hOs.rd G (.t (.t .h))).ne (by rw [len_said]; omega)) Y) fun a J=> sw J Y Y Y (R.loadO one22 (J.ev Y) (hOs.rd G (.t (.t .h))) (said_bs (i := j) (by omega) (by omega))) fun a J=> av J Y Y fun a J=> s0 <| then_n (hK40 _ _ <| wp_seq_k fun K41 hK41=> ?_))
   have hK41' : ∀ a w, (∃ (C : Option Addr) (kc : Nat) (e2 : Nat), Fr 157 [(6, .slice As ps.length ds), (14, .slice B (OB ps j).length d), (15, .int .i64 ((j : Nat) : Int)), (16, .slice C kc e2)] a ∧ St w0 [] [z, flS ps, zs] w ∧ (Rd w C (byts (outB (accOf ps) (ps.getD j pd).it))) ∧ ((outB (accOf ps) (ps.getD j pd).it).length = kc)) → K41 a w := by
    rintro a w ⟨C, kc, e2, J, G, hRd, hkc⟩
    refine hK41 _ _ ?_
    refine wp_region_lit <| mv J Y Y fun a J=> mv J Y Y fun a J=> ?_
    have hol := out_len (all := accOf ps) (pool_at hPo (i := j) (by omega)).1
    refine so (wn Y) (O.appendO Y Y J Tryz.underlying22 inf5 Y Y (by decide) (J.ev Y) (J.ev Y) G hO (fun _=> .h) hRd (by rw [length_byts, Nat.mul_one]; exact hkc) (byts_one _) (by unfold maxLen; omega) (by omega) fun A152 c152 s152 a w hO152 J G=> ?_)
    refine av J Y Y fun a J=> s0 <| blk_n <| then_n (hK39 _ _ <| wp_region_lit <| mv J Y Y fun a J=> aI J Y Y Y (by omega) fun a J=> av J Y Y fun a J=> s0 <| then_n (hKL4 (ps.length - (j + 1)) _ _ ?_ ?_))
    ·omega
    exact ⟨j + 1, A152, c152, s152, Y, J.sub ⟨Y, (by rw [OB_succ (by omega), List.length_append, hkc]; rfl), (congrArg (fun z => some (Value.int .i64 z)) (by omega)), trivial⟩, G.sel [0, 1, 2] Y Y, by omega, (by rw [OB_succ (by omega), List.length_append, hkc, ← byts_append]; exact hO152)⟩
   refine wp_seq_k fun K42 hK42=> wp_region_lit <| mv J Y Y fun a J=> mv J Y Y fun a J=> sw J Y Y Y (R.indexO Tryz.underlying110 sz112 (J.ev Y) ((hOs.rd G (.t (.t .h))).ne (by rw [len_said]; omega)) (J.ev Y) (by omega) (by omega)) fun a J=> sw J Y Y Y (R.fieldAddrO (m := 3) Tryz.underlying112 Y nz9 (J.ev Y) ((hOs.rd G (.t (.t .h))).ne (by rw [len_said]; omega)) Y) fun a J=> sw J Y Y Y (R.loadO one9 (J.ev Y) (hOs.rd G (.t (.t .h))) (said_to (i := j) (by omega) (by omega))) fun a J=> sw J Y Y Y (R.as (u := .bool (decide (¬ (ps.getD j pd).it.tg = []))) (R.neqStr (J.ev Y) (J.ev Y)) (congrArg Value.bool (decide_eq_decide.2 (not_congr str_nil)))) fun a J=> s0 <| then_n (hK42 _ _ <| cD J Y (fun c10=> ?_) (fun c10=> ?_))
   ·obtain ⟨p, hp⟩ := bad_some hbn (acc_mem (by omega)) c10
    have hpl := plcL_le _ _ _ _ hp; have hple := len_take_le hPo ps.length (Nat.le_refl _); rw [List.take_of_length_le (by rw [len_acc]; exact Nat.le_refl _)] at hple
    have h3 := ((pool_at hPo (i := j) (by omega)).1.1 c10).1
    refine wp_seq_k fun K43 hK43=> wp_region_lit <| mv J Y Y fun a J=> mv J Y Y fun a J=> mv J Y Y fun a J=> sw J Y Y Y (R.indexO Tryz.underlying110 sz112 (J.ev Y) ((hOs.rd G (.t (.t .h))).ne (by rw [len_said]; omega)) (J.ev Y) (by omega) (by omega)) fun a J=> sw J Y Y Y (R.fieldAddrO (m := 3) Tryz.underlying112 Y nz9 (J.ev Y) ((hOs.rd G (.t (.t .h))).ne (by rw [len_said]; omega)) Y) fun a J=> sw J Y Y Y (R.loadO one9 (J.ev Y) (hOs.rd G (.t (.t .h))) (said_to (i := j) (by omega) (by omega))) fun a J=> so (wn Y) (O.call Y Y J ent56 (J.evs Y) G (placeOf_calls As ds ps (ps.getD j pd).it.tg w (hOs.rd G (.t (.t .h))) hPo (pool_at hPo (by omega)).2.2.1 (by omega)) fun v s139 a w hR J G=> ?_)
    obtain ⟨rfl, rfl⟩ := hR
    rw [hp, show plcV (some p) = ((p : Nat) : Int) from rfl] at J
    refine av J Y Y fun a J=> s0 <| then_n (hK43 _ _ <| wp_region_lit <| mv J Y Y fun a J=> sw J Y Y Y (R.indexO Tryz.underlying22 sz5 (J.ev Y) ((pool_rd hPo G (.t (.t .h)) (i := j) (by omega)).ne (by rw [length_byts]; omega)) (J.ev Y) (by omega) (by omega)) fun a J=> sw J Y Y Y (R.loadO one5 (J.ev Y) (pool_rd hPo G (.t (.t .h)) (i := j) (by omega)) (byts_get _ 0 (by omega))) fun a J=> mv J Y Y fun a J=> sw J Y Y Y (R.as (u := .int .i64 ((p / 256 : Nat) : Int)) (R.quoI (J.ev Y) (J.ev Y) (by omega)) (congrArg (Value.int .i64) (by omega))) fun a J=> sw J Y Y Y (R.convB (p := p / 256) Tryz.underlying3 Tryz.underlying5 (J.ev Y)) fun a J=> mv J Y Y fun a J=> sw J Y Y Y (R.as (u := .int .i64 ((p % 256 : Nat) : Int)) (R.remI (J.ev Y) (J.ev Y) (by omega)) (congrArg (Value.int .i64) (by omega))) fun a J=> sw J Y Y Y (R.as (u := .int .u8 ((p % 256 : Nat) : Int)) (R.convB (p := p % 256) Tryz.underlying3 Tryz.underlying5 (J.ev Y)) (congrArg (fun z : Nat=> Value.int .u8 (z : Int)) (by omega))) fun a J=> so (wn Y) (O.buildSlice (l := byts [(ps.getD j pd).it.bs.getD 0 0, p / 256 % 256, p % 256]) Y Y J Tryz.underlying22 inf5 Y Y (J.evp Y) (by decide) Y G fun b149 a w J G=> ?_))
    refine av J Y Y fun a J=> s0 ?_
    exact then_n (hK41' _ _ ⟨(some ⟨b149, 0, none⟩), 3, 3, J.sub ⟨Y, Y, Y, Y, trivial⟩, G.sel [2, 3, 4] Y Y, (by rw [out_to c10 hp]; exact Rd.own0 G .h), (by rw [out_to c10 hp]; rfl)⟩)
   refine wp_skip ?_
   exact then_n (hK41' _ _ ⟨(ps.getD j pd).A, (ps.getD j pd).it.bs.length, (ps.getD j pd).d, J.sub ⟨Y, Y, Y, Y, trivial⟩, G.sel [0, 1, 2] Y Y, (by rw [out_no (Classical.not_not.1 c10)]; exact pool_rd hPo G (.t .h) (by omega)), (by rw [out_no (Classical.not_not.1 c10)])⟩)
  have hck := asm_chk hj c9
  refine wp_exit (then_x (then_x (blk_hit <| then_n (hK35 _ _ <| wp_seq_k fun K44 hK44=> wp_seq_k fun K45 hK45=> wp_region_lit <| mv J Y Y fun a J=> so (wn Y) (O.call Y Y J ent15 (J.evs Y) G (rcheck_calls B (OB ps j).length d (OB ps j) w (hO.rd G .h) Y hO.2.1 hO.cap (OB_byt hPo j)) fun v s154 a w hR J G=> ?_)))))
  obtain ⟨rfl, rfl⟩ := hR
  refine sw J Y Y Y (R.as (u := .bool (decide (chkN (OB ps j) = false))) (R.neq (J.ev Y) (J.ev Y)) (chk_dec)) fun a J=> s0 <| then_n (hK45 _ _ <| cD J Y (fun c11=> ?_) (fun c11=> ?_))
  ·refine wp_seq_k fun K46 hK46=> wp_region_lit <| av J Y Y fun a J=> av J Y Y fun a J=> av J Y Y fun a J=> s0 <| then_n (hK46 _ _ <| wp_ret (then_r (hR _ _ _ _ _ J (run_results Tryz.results17 (.t J Y (.t J Y (.t J Y (.nil))))) ?_)))
   exact ⟨_, [], Y, asm_r (asm_bad4 hA hbn (hck.1 ▸ c11)) Y Y (OwnS.nil 5 1), G.none⟩
  refine wp_skip <| then_n (hK44 _ _ <| wp_seq_k fun K47 hK47=> wp_region_lit <| mv J Y Y fun a J=> av J Y Y fun a J=> av J Y Y fun a J=> av J Y Y fun a J=> s0 <| then_n (hK47 _ _ <| wp_ret (hR _ _ _ _ _ J (run_results Tryz.results17 (.t J Y (.t J Y (.t J Y (.nil))))) ?_)))
  have hc12 : chkN (OB ps j) = true := by (cases h : chkN (OB ps j) with | false => exact absurd h c11 | true => rfl)
  exact ⟨_, z, Y, asm_r ((asm_good4 hA hbn (hck.1 ▸ hc12)).trans (by rw [← hck.2 hc12])) Y Y hO, G.one (.t .h)⟩
 refine wp_region_lit <| mv J Y Y fun a J=> mv J Y Y fun a J=> sw J Y Y Y (R.len Tryz.underlying110 (J.ev Y)) fun a J=> lS J Y Y Y fun a J=> mv J Y Y fun a J=> J.splitD (t := 115) Y (fun h115 J=> ?_) (fun h115 J=> ?_)
 ·refine my J Y Y Y Y fun a J=> sv' J (wy J Y Y Y) Y Y (R.len Tryz.underlying22 (J.ev Y)) fun a J=> sv' J (wy J Y Y Y) Y Y (R.leq (J.ev Y) (J.ev Y)) fun a J=> pT J Y Y Y fun a J=> s0 ?_
  exact then_n (hK38' _ _ ⟨J.sub ⟨Y, Y, Y, (congrArg (fun z => some (Value.bool z)) (by first | exact (decide_eq_true (by omega)).symm | exact (decide_eq_false (by omega)).symm | exact decide_eq_decide.2 (by omega))), trivial⟩, G.sel [0, 1, 2] Y Y⟩)
 refine kz J Y Y Y Y Y Y fun a J=> kz J Y Y Y Y Y Y fun a J=> kz J Y Y Y Y Y Y fun a J=> pF J Y Y Y fun a J=> s0 ?_
 exact then_n (hK38' _ _ ⟨J.sub ⟨Y, Y, Y, (congrArg (fun z => some (Value.bool z)) (by first | exact (decide_eq_true (by omega)).symm | exact (decide_eq_false (by omega)).symm | exact decide_eq_decide.2 (by omega))), trivial⟩, G.sel [0, 1, 2] Y Y⟩)
end Go.Proofs.YtlapmbkfmbkdoaaGreatDoor
end
section
namespace Go.Proofs
def Tryz.lays146_ren : Go.Shelf.Ren := ⟨fun | 146 => 57 | 221 => 106 | 268 => 133 | 138 => 134 | 143 => 135 | 195 => 148 | 197 => 149 | 218 => 150 | 219 => 151 | 260 => 158 | 217 => 159 | 225 => 160 | 224 => 161 | 267 => 162 | 266 => 165 | 314 => 166 | n => n, fun | 9 => 9 | 31 => 108 | 3 => 3 | 4 => 4 | 0 => 0 | 105 => 189 | 21 => 21 | 5 => 5 | 46 => 126 | 119 => 200 | 139 => 203 | 138 => 202 | 146 => 204 | 51 => 195 | n => n, fun | 1 => 3 | 3 => 4 | 4 => 5 | n => n⟩
theorem Tryz.lays146 : Go.Proofs.Lays.n146 Tryz.prog Tryz.lays146_ren := {
  mixed := by kernel_rfl
  f138 := Tryz.func134.trans (congrArg some (by kernel_rfl))
  f143 := Tryz.func135.trans (congrArg some (by kernel_rfl))
  f146 := Tryz.func57.trans (congrArg some (by kernel_rfl))
  f195 := Tryz.func148.trans (congrArg some (by kernel_rfl))
  f197 := Tryz.func149.trans (congrArg some (by kernel_rfl))
  f217 := Tryz.func159.trans (congrArg some (by kernel_rfl))
  f218 := Tryz.func150.trans (congrArg some (by kernel_rfl))
  f219 := Tryz.func151.trans (congrArg some (by kernel_rfl))
  f221 := Tryz.func106.trans (congrArg some (by kernel_rfl))
  f224 := Tryz.func161.trans (congrArg some (by kernel_rfl))
  f225 := Tryz.func160.trans (congrArg some (by kernel_rfl))
  f260 := Tryz.func158.trans (congrArg some (by kernel_rfl))
  f266 := Tryz.func165.trans (congrArg some (by kernel_rfl))
  f267 := Tryz.func162.trans (congrArg some (by kernel_rfl))
  f268 := Tryz.func133.trans (congrArg some (by kernel_rfl))
  f314 := Tryz.func166.trans (congrArg some (by kernel_rfl))
  t0 := Tryz.underlying0
  a0 := Tryz.isAgg0
  z0 := Tryz.sizeOf0
  v0 := Tryz.zeroValue0
  t3 := Tryz.underlying3
  a3 := Tryz.isAgg3
  z3 := Tryz.sizeOf3
  v3 := Tryz.zeroValue3
  t4 := Tryz.underlying4
  a4 := Tryz.isAgg4
  z4 := Tryz.sizeOf4
  v4 := Tryz.zeroValue4
  t5 := Tryz.underlying5
  a5 := Tryz.isAgg5
  z5 := Tryz.sizeOf5
  v5 := Tryz.zeroValue5
  t9 := Tryz.underlying9
  a9 := Tryz.isAgg9
  z9 := Tryz.sizeOf9
  v9 := Tryz.zeroValue9
  t21 := Tryz.underlying21
  a21 := Tryz.isAgg21
  z21 := Tryz.sizeOf21
  v21 := Tryz.zeroValue21
  t31 := Tryz.underlying108
  a31 := Tryz.isAgg108
  z31 := Tryz.sizeOf108
  v31 := Tryz.zeroValue108
  t46 := Tryz.underlying126
  a46 := Tryz.isAgg126
  z46 := Tryz.sizeOf126
  v46 := Tryz.zeroValue126
  t51 := Tryz.underlying195
  a51 := Tryz.isAgg195
  z51 := Tryz.sizeOf195
  v51 := Tryz.zeroValue195
  t105 := Tryz.underlying189
  a105 := Tryz.isAgg189
  z105 := Tryz.sizeOf189
  v105 := Tryz.zeroValue189
  t119 := Tryz.underlying200
  a119 := Tryz.isAgg200
  z119 := Tryz.sizeOf200
  t138 := Tryz.underlying202
  a138 := Tryz.isAgg202
  z138 := Tryz.sizeOf202
  v138 := Tryz.zeroValue202
  t139 := Tryz.underlying203
  a139 := Tryz.isAgg203
  z139 := Tryz.sizeOf203
  v139 := Tryz.zeroValue203
  t146 := Tryz.underlying204
  a146 := Tryz.isAgg204
  z146 := Tryz.sizeOf204
  v146 := Tryz.zeroValue204
  g1 := by kernel_rfl
  g3 := by kernel_rfl
  g4 := by kernel_rfl }
def Tryz.lays145_ren : Go.Shelf.Ren := ⟨fun | 145 => 107 | 220 => 136 | 219 => 151 | 217 => 159 | 225 => 160 | 224 => 161 | 267 => 162 | 266 => 165 | 314 => 166 | n => n, fun | 9 => 9 | 4 => 4 | 59 => 146 | 3 => 3 | 5 => 5 | 46 => 126 | 146 => 204 | 51 => 195 | n => n, fun | 1 => 3 | n => n⟩
theorem Tryz.lays145 : Go.Proofs.Lays.n145 Tryz.prog Tryz.lays145_ren := {
  mixed := by kernel_rfl
  f145 := Tryz.func107.trans (congrArg some (by kernel_rfl))
  f217 := Tryz.func159.trans (congrArg some (by kernel_rfl))
  f219 := Tryz.func151.trans (congrArg some (by kernel_rfl))
  f220 := Tryz.func136.trans (congrArg some (by kernel_rfl))
  f224 := Tryz.func161.trans (congrArg some (by kernel_rfl))
  f225 := Tryz.func160.trans (congrArg some (by kernel_rfl))
  f266 := Tryz.func165.trans (congrArg some (by kernel_rfl))
  f267 := Tryz.func162.trans (congrArg some (by kernel_rfl))
  f314 := Tryz.func166.trans (congrArg some (by kernel_rfl))
  t3 := Tryz.underlying3
  a3 := Tryz.isAgg3
  z3 := Tryz.sizeOf3
  v3 := Tryz.zeroValue3
  t4 := Tryz.underlying4
  a4 := Tryz.isAgg4
  z4 := Tryz.sizeOf4
  v4 := Tryz.zeroValue4
  t5 := Tryz.underlying5
  a5 := Tryz.isAgg5
  z5 := Tryz.sizeOf5
  v5 := Tryz.zeroValue5
  t9 := Tryz.underlying9
  a9 := Tryz.isAgg9
  z9 := Tryz.sizeOf9
  v9 := Tryz.zeroValue9
  t46 := Tryz.underlying126
  a46 := Tryz.isAgg126
  z46 := Tryz.sizeOf126
  v46 := Tryz.zeroValue126
  t51 := Tryz.underlying195
  a51 := Tryz.isAgg195
  z51 := Tryz.sizeOf195
  v51 := Tryz.zeroValue195
  t59 := Tryz.underlying146
  a59 := Tryz.isAgg146
  z59 := Tryz.sizeOf146
  v59 := Tryz.zeroValue146
  t146 := Tryz.underlying204
  a146 := Tryz.isAgg204
  z146 := Tryz.sizeOf204
  v146 := Tryz.zeroValue204
  g1 := by kernel_rfl }
def Tryz.lays104_ren : Go.Shelf.Ren := ⟨fun | 104 => 110 | 211 => 137 | 207 => 152 | n => n, fun | 9 => 9 | 4 => 4 | 24 => 141 | 3 => 3 | n => n, fun | n => n⟩
theorem Tryz.lays104 : Go.Proofs.Lays.n104 Tryz.prog Tryz.lays104_ren := {
  mixed := by kernel_rfl
  f104 := Tryz.func110.trans (congrArg some (by kernel_rfl))
  f207 := Tryz.func152.trans (congrArg some (by kernel_rfl))
  f211 := Tryz.func137.trans (congrArg some (by kernel_rfl))
  t3 := Tryz.underlying3
  a3 := Tryz.isAgg3
  z3 := Tryz.sizeOf3
  v3 := Tryz.zeroValue3
  t4 := Tryz.underlying4
  a4 := Tryz.isAgg4
  z4 := Tryz.sizeOf4
  v4 := Tryz.zeroValue4
  t9 := Tryz.underlying9
  a9 := Tryz.isAgg9
  z9 := Tryz.sizeOf9
  v9 := Tryz.zeroValue9
  t24 := Tryz.underlying141
  a24 := Tryz.isAgg141
  z24 := Tryz.sizeOf141
  v24 := Tryz.zeroValue141 }
def Tryz.lays229_ren : Go.Shelf.Ren := ⟨fun | 229 => 108 | n => n, fun | 9 => 9 | 40 => 149 | 31 => 108 | 152 => 175 | 3 => 3 | 0 => 0 | 4 => 4 | 21 => 21 | 154 => 177 | n => n, fun | n => n⟩
theorem Tryz.lays229 : Go.Proofs.Lays.n229 Tryz.prog Tryz.lays229_ren := {
  mixed := by kernel_rfl
  f229 := Tryz.func108.trans (congrArg some (by kernel_rfl))
  t0 := Tryz.underlying0
  a0 := Tryz.isAgg0
  z0 := Tryz.sizeOf0
  v0 := Tryz.zeroValue0
  t3 := Tryz.underlying3
  a3 := Tryz.isAgg3
  z3 := Tryz.sizeOf3
  v3 := Tryz.zeroValue3
  t4 := Tryz.underlying4
  a4 := Tryz.isAgg4
  z4 := Tryz.sizeOf4
  v4 := Tryz.zeroValue4
  t9 := Tryz.underlying9
  a9 := Tryz.isAgg9
  z9 := Tryz.sizeOf9
  v9 := Tryz.zeroValue9
  t21 := Tryz.underlying21
  a21 := Tryz.isAgg21
  z21 := Tryz.sizeOf21
  v21 := Tryz.zeroValue21
  t31 := Tryz.underlying108
  a31 := Tryz.isAgg108
  z31 := Tryz.sizeOf108
  v31 := Tryz.zeroValue108
  t40 := Tryz.underlying149
  a40 := Tryz.isAgg149
  z40 := Tryz.sizeOf149
  v40 := Tryz.zeroValue149
  t152 := Tryz.underlying175
  a152 := Tryz.isAgg175
  z152 := Tryz.sizeOf175
  v152 := Tryz.zeroValue175
  t154 := Tryz.underlying177
  a154 := Tryz.isAgg177
  z154 := Tryz.sizeOf177
  v154 := Tryz.zeroValue177 }
end Go.Proofs
namespace Go.Proofs.YtlapmbkfmbkdoaaGreatDoor
open Go Go.Fw Go.RowKit
theorem blank_int (r : Nat) : ((r : Int) == 32 || (r : Int) == 9) = (r == 32 || r == 9) := by
  rw [Bool.eq_iff_iff]; simp only [Bool.or_eq_true, beq_iff_eq]; omega
theorem clos_at (w : World) : PredAt Tryz.prog 109 #[] encR blank w := fun W r _ => by
  unfold FnGives
  by_cases h1 : r = 32 <;> by_cases h2 : r = 9
  all_goals
    have z1 : (r : Int) = 32 ↔ r = 32 := by omega
    have z2 : (r : Int) = 9 ↔ r = 9 := by omega
    go_enter Tryz.func109, Tryz.ntmps109
    go_wp2
    all_goals first | (exfalso; omega) | (go_ret; exact ⟨by first | (simp [blank, h1, h2]; done) | (simp [blank, h1, h2]; exact blank_int r), 0, rfl⟩)
def MaxW (w : World) : Prop := ∃ m, w.cell? ⟨Tryz.lays145_ren.g 1, 0, none⟩ = some (.int .i64 m)
theorem MaxW.old {w0 w : World} {bs : List Seg} (h : MaxW w0) (hS : St w0 [] bs w) : MaxW w := by
  obtain ⟨m, hm⟩ := h
  refine ⟨m, ?_⟩
  have hlt := block_lt_of_cell hm
  have hk := hS.keep _ hlt (by simp)
  rw [← hm]
  unfold World.cell?
  simp only
  rw [hk]
theorem st_drewN (w : World) (n : Nat) : St w [] [[]] (w.drewN n) := ⟨rfl, rfl, rfl, Nat.le_refl _, fun _ _ _ => rfl, by simp, by simp, by simp [keys]⟩
theorem st_same (w : World) : St w [] [[]] w := ⟨rfl, rfl, rfl, Nat.le_refl _, fun _ _ _ => rfl, by simp, by simp, by simp [keys]⟩
theorem bys_mk (l : List UInt8) : bys ⟨l.toArray⟩ = l.map (·.toNat) := by simp [bys]
theorem cut_calls (s : ByteArray) (w0 : World) (hM : MaxW w0) (hs : s.size ≤ 1000000) : Ret Tryz.prog 107 [.string s, .string ⟨#[35]⟩] w0 [] (fun v q => ∃ u b, v = .tuple #[.string ⟨(Lib.cut s.data.toList [35]).1.toArray⟩, .string u, .bool b] ∧ q = []) := by
  obtain ⟨m, hm⟩ := hM
  refine Calls.mono (Any.strings_Cut Tryz.lays145 s ⟨#[35]⟩ m w0 (by omega) hm) ?_
  rintro e w' ⟨rfl, n, rfl⟩
  exact ⟨_, [], rfl, ⟨_, _, rfl, rfl⟩, st_drewN w0 n⟩
theorem suffix_calls (s : ByteArray) (w0 : World) (hs : s.size ≤ 1000000) : Ret Tryz.prog 110 [.string s, .string ⟨#[58]⟩] w0 [] (fun v q => v = .tuple #[.string ⟨(Lib.trimSuffix s.data.toList [58]).toArray⟩, .bool (Lib.hasSuffix s.data.toList [58])] ∧ q = []) := by
  refine Calls.mono (Any.strings_CutSuffix Tryz.lays104 s ⟨#[58]⟩ w0 (by omega)) ?_
  rintro e w' ⟨rfl, rfl⟩
  exact ⟨_, [], rfl, ⟨rfl, rfl⟩, st_same w'⟩
theorem own_of_row {w w' : World} {A n c : Nat} {xs : List Value} {E : TypeId} {sz : Nat} (h : w'.ownsRow w.heap.size E sz (.slice (some ⟨A, 0, none⟩) n c) n xs) (hb : Below w.heap.size w w') : ∃ q, OwnS q (some ⟨A, 0, none⟩) n c xs E sz ∧ St w [] [q] w' := by
  obtain ⟨h1, h2⟩ := h
  rcases h2 with ⟨h2, _⟩ | ⟨g, cap, cur, h2, h3, h4, h5, h6, h7, h8⟩
  · cases h2
  · cases h2
    have e1 : cur = (xs ++ cur.toList.drop (n * sz)).toArray := by
      rw [← h8, List.take_append_drop]
    refine ⟨[(A, Cel (xs ++ cur.toList.drop (n * sz)) E)], ⟨h1, h5, .inr ⟨A, _, rfl, rfl, ?_, h6⟩⟩, ?_⟩
    · rw [← h8, List.take_append_drop, Array.length_toList]; exact h7
    · refine ⟨hb.os, hb.tape, hb.output, hb.size, fun k hk _ => hb.block k hk, ?_, ?_, by simp [keys]⟩
      · intro p hp
        simp only [List.flatten_cons, List.flatten_nil, List.append_nil, List.mem_singleton] at hp
        subst hp
        rw [h4]
        show some (Obj.cells cur E (0, 0)) = some (Obj.cells (xs ++ cur.toList.drop (n * sz)).toArray E (0, 0))
        rw [← e1]
      · intro p hp
        simp only [List.flatten_cons, List.flatten_nil, List.append_nil, List.mem_singleton] at hp
        subst hp
        exact .inl h3
theorem strs_bys (l : List ByteArray) : strs (l.map bys) = l.map Value.string := by
  unfold strs; rw [List.map_map]
  apply List.map_congr_left
  intro a _
  simp only [Function.comp, bstr_bys]
theorem fields_calls (s : ByteArray) (w0 : World) (hs : s.size ≤ 1000000) : Ret Tryz.prog 108 [.string s, .func (.func 109) #[] #[]] w0 [] (fun v q => ∃ A, v = .slice (some ⟨A, 0, none⟩) ((Lib.goFieldsP blank s).map bys).length ((Lib.goFieldsP blank s).map bys).length ∧ OwnS q (some ⟨A, 0, none⟩) ((Lib.goFieldsP blank s).map bys).length ((Lib.goFieldsP blank s).map bys).length (strs ((Lib.goFieldsP blank s).map bys)) 9 1) := by
  refine Calls.mono (Any.strings_FieldsFunc Tryz.lays229 109 #[] (enters_of Tryz.func109 (by kernel_rfl) rfl) blank s w0 (by omega) (clos_at w0) (by kernel_rfl) (by kernel_rfl)) ?_
  rintro e w' ⟨A, rfl, _, h2, h3⟩
  obtain ⟨q, h4, h5⟩ := own_of_row h2 h3
  rw [List.length_map, strs_bys]
  exact ⟨_, q, rfl, ⟨A, rfl, h4⟩, h5⟩
theorem msplit_calls (s : ByteArray) (w0 : World) (hM : MaxW w0) (hs : s.size ≤ 1000000) : Ret Tryz.prog 57 [.string s, .string ⟨#[10]⟩] w0 [] (fun v q => ∃ A, v = .slice (some ⟨A, 0, none⟩) (linesT (bys s)).length (linesT (bys s)).length ∧ OwnS q (some ⟨A, 0, none⟩) (linesT (bys s)).length (linesT (bys s)).length (strs (linesT (bys s))) 9 1) := by
  obtain ⟨m, hm⟩ := hM
  refine Calls.mono (Any.strings_Split Tryz.lays146 (by kernel_rfl) s ⟨#[10]⟩ m w0 (by omega) hm (by decide)) ?_
  rintro e w' ⟨rfl, rfl⟩
  have hl := bys_split s
  have hn : (linesT (bys s)).length = Lib.countB s ⟨#[10]⟩ + 1 := by
    unfold linesT
    rw [← hl, List.length_map]
    exact Lib.splitB_all ⟨#[10]⟩ (by decide) 0 _ s rfl
  have hc := lines_count [] (bys s)
  rw [length_bys] at hc
  rw [hn]
  refine ⟨_, [(w0.heap.size, Cel (strs (linesT (bys s))) 9)], rfl, ⟨w0.heap.size, rfl, ?_⟩, ?_⟩
  · have := OwnS.mk (g := w0.heap.size) (n := Lib.countB s ⟨#[10]⟩ + 1) (c := Lib.countB s ⟨#[10]⟩ + 1) (cells := strs (linesT (bys s))) (rest := []) (E := 9) (sz := 1) (by rw [len_strs, hn, Nat.mul_one]) (Nat.le_refl _) (by rw [List.append_nil, len_strs, hn, Nat.mul_one]) (by unfold maxLen; rw [← hn]; unfold linesT; omega)
    rwa [List.append_nil] at this
  · have e : ((Lib.splitB ⟨#[10]⟩ 0 (Lib.countB s ⟨#[10]⟩) s).map Value.string) = strs (linesT (bys s)) := by
      unfold linesT; rw [← hl, strs_bys]
    rw [e, show Tryz.lays146_ren.t 9 = 9 from by kernel_rfl]
    exact (St.start w0).alloc _
end Go.Proofs.YtlapmbkfmbkdoaaGreatDoor
end
section
namespace Go.Proofs.YtlapmbkfmbkdoaaGreatDoor
open Go Go.Fw Go.RowKit
attribute [local irreducible] Go.Oper.wp Go.Code.wp Go.wpList Go.Fw.WL Go.Calls
theorem R.indexAgg {P : Program} {w : World} {ρ : Operand → Value} {dst : Option Tmp} {ty : TypeId} {pos : String} {af : Array Edge} {g : Option (Nat × Bool)} {x y : Operand} {T E : TypeId} {l cs : List Value} {len sz : Nat} {k : IntKind} {m : Int} (hT : P.underlying T = some (.array len E)) (ha : aggT P E = true) (hs : szT P E sz) (hx : ρ x = .agg l.toArray) (hy : ρ y = .int k m) (h0 : 0 ≤ m) (h2 : m < len)
    (hc : (l.drop (m.toNat * sz)).take sz = cs) : (execOp ρ ⟨dst, .index T x y, ty, pos, af, g⟩).run P w = .ok (.value (.agg cs.toArray)) w := by
  subst hc
  have e : l.toArray.extract (m.toNat * sz) (m.toNat * sz + sz) = ((l.drop (m.toNat * sz)).take sz).toArray := by simp
  simp only [execOp, hx, hy, Instr.index, asIntOf, run_underlying hT, h0, h2, part, run_isAgg_agg ha, run_sizeOf' hs, and_self, if_true, Sem.run_bind, Sem.run_pure, Result.andThen_ok, e]
theorem byts_o {xs : List Nat} {i off : Nat} (h : i < xs.length) (ho : off = i) : (byts xs)[off]? = some (.int .u8 ((xs.getD i 0 : Nat) : Int)) := by
  subst ho; exact byts_get xs off h
theorem cut_at {l cs : List Value} {off : Nat} (h : ∀ j v, cs[j]? = some v → l[off + j]? = some v) : (l.drop off).take cs.length = cs := by
  apply List.ext_getElem?
  intro j
  rw [List.getElem?_take]
  split
  · rename_i hj; rw [List.getElem?_drop, h j _ (List.getElem?_eq_getElem hj), List.getElem?_eq_getElem hj]
  · rename_i hj; rw [List.getElem?_eq_none (by omega)]
theorem row_cut {c : Nat} (h : c < 28) : (tabL.drop (c * 5)).take 5 = rowC (bstr (nameN c)) c := cut_at (row_nm h rfl)
theorem O.bytesOf {P : Program} {a : Act} {w w0 : World} {n : Nat} {env : Env} {d : Nat} {K : Act → World → Prop} {Q : Exit → Act → World → Prop} {dst : Option Tmp} {ty : TypeId} {pos : String} {af : Array Edge} {g : Option (Nat × Bool)} {x : Operand} {T U E : TypeId} {ks : List Nat} {bs : List Seg} {s : ByteArray}
    (hd : dst = some d) (hn : Nat.blt d n = true) (hF : Fr n env a) (hT : P.underlying T = some .string) (hU : P.underlying U = some (.slice E)) (hE : P.underlying E = some (.int .u8)) (hx : a.eval x = .string s) (hS : St w0 ks bs w)
    (h : ∀ b c o a' w', (∀ w, w.heap[b]? = some o → Rd w (some ⟨b, 0, none⟩) (byts (bys s))) → Fr n ((d, .slice (some ⟨b, 0, none⟩) s.size c) :: env) a' → St w0 ks ([(b, o)] :: bs) w' → K a' w') : Oper.wp P ⟨dst, .convert T U x, ty, pos, af, g⟩ a w K Q := by
  subst hd
  unfold Oper.wp
  have hr := run_bytes_of_string (P := P) w T U E s hT hU hE
  have : (execOp a.eval ⟨some d, .convert T U x, ty, pos, af, g⟩).run P w = .ok (.value (.slice (some ⟨w.heap.size, 0, none⟩) s.size (grownCap w s.size 0 E))) (w.drew.alloc (.cells (bytesRow s (grownCap w s.size 0 E)) E ((bytesRow s (grownCap w s.size 0 E)).size, (bytesRow s (grownCap w s.size 0 E)).size + 1))) := by
    simp only [execOp, hx, hr, Sem.run_bind, Sem.run_pure, Result.andThen_ok]
  rw [this, Oper.upon_value]
  refine h _ _ _ _ _ ?_ (hF.put hn _) (hS.drew.alloc _)
  intro w2 h2 j v hj
  refine ⟨_, rfl, ?_⟩
  have hjl : j < s.size := by
    have := (List.getElem?_eq_some_iff.1 hj).1
    rwa [length_byts, length_bys] at this
  rw [byts_get _ _ (by rw [length_bys]; exact hjl)] at hj
  obtain rfl := Option.some.inj hj
  rw [addr_add, Nat.zero_add, bys_at s j hjl]
  simp only [World.cell?, h2]
  rw [if_neg (by simp)]
  exact bytesRow_at s _ j hjl
theorem cutM_len (s : ByteArray) : (⟨(Lib.cut s.data.toList [35]).1.toArray⟩ : ByteArray).size ≤ s.size := by
  have h := cut_hash s.data.toList
  have h1 : (Lib.cut s.data.toList [35]).1.length ≤ s.data.toList.length := by
    have := congrArg List.length h
    rw [List.length_map] at this
    rw [this]
    have h2 := (List.takeWhile_sublist (l := s.data.toList.map (·.toNat)) (· != 35)).length_le
    rwa [List.length_map] at h2
  show (Lib.cut s.data.toList [35]).1.toArray.size ≤ s.data.size
  simpa using h1
set_option maxHeartbeats 1000000 in
theorem isLabel_calls (s : ByteArray) (w0 : World) : Ret Tryz.prog 111 [.string s] w0 [] (fun v q => v = .bool (okL (bys s)) ∧ q = []) := by
 refine fn_start Tryz.func111 Y Tryz.ntmps111 Y [(0, .string s)] ⟨Y, trivial⟩ ?_
 intro Q a hP J hR hN
 have G := St.start w0
 have hlen := length_bys s
 refine wp_seq_k fun K1 hK1=> wp_region_lit <| av J Y Y fun a J=> s0 <| then_n (hK1 _ _ <| wp_seq_k fun K2 hK2=> wp_seq_k fun K3 hK3=> ?_)
 have hK3' : ∀ a w, (Fr 55 [(0, .string s), (13, .bool (decide (s.size = 0 ∨ 30 < s.size)))] a ∧ St w0 [] [] w) → K3 a w := by
  rintro a w ⟨J, G⟩
  refine hK3 _ _ ?_
  refine cD J Y (fun c0=> ?_) (fun c0=> ?_)
  ·have hpn : okL (bys s) = false := okL_head (by omega)
   refine wp_seq_k fun K4 hK4=> wp_region_lit <| av J Y Y fun a J=> s0 <| then_n (hK4 _ _ <| wp_ret (then_r (hR _ _ _ _ _ J (run_results Tryz.results111 (.t J Y (.nil))) ?_)))
   exact ⟨_, [], Y, ⟨by rw [hpn]; rfl, Y⟩, G.none⟩
  refine wp_skip <| then_n (hK2 _ _ <| wp_seq_k fun K5 hK5=> wp_seq_k fun K6 hK6=> wp_region_lit <| mv J Y Y fun a J=> so (wn Y) (O.bytesOf Y Y J Tryz.underlying9 Tryz.underlying22 Tryz.underlying5 (J.ev Y) G fun b15 c15 o15 a w hRo15 J G=> ?_))
  refine sw J Y Y Y (R.len Tryz.underlying22 (J.ev Y)) fun a J=> mv J Y Y fun a J=> s0 <| then_n (hK6 _ _ <| wp_block <| wp_loop_N (fun g a w=> ∃ (i : Nat), s.size - i = g ∧ Fr 55 [(15, .slice (some ⟨b15, 0, none⟩) s.size c15), (16, .int .i64 (s.size : Int)), (17, .int .i64 ((i : Nat) : Int))] a ∧ St w0 [] [[(b15, o15)]] w ∧ (i ≤ s.size) ∧ (((bys s).take i).all labC = true) ∧ (i = 0 ∨ (97 ≤ ((bys s).getD 0 0) ∧ ((bys s).getD 0 0) ≤ 122 ∨ 65 ≤ ((bys s).getD 0 0) ∧ ((bys s).getD 0 0) ≤ 90))) (s.size - 0) ?_ ?_)
  ·exact ⟨0, Y, J.sub ⟨Y, Y, Y, trivial⟩, G.sel [0] Y Y, by omega, Y, .inl Y⟩
  rintro KL1 g a w ⟨i, hg1, J, G, hi, hal, hhd⟩ hKL1
  refine wp_seq_k fun K7 hK7=> wp_region_lit <| lS J Y Y Y fun a J=> s0 <| then_n (hK7 _ _ <| wp_seq_k fun K8 hK8=> cD J Y (fun c1=> ?_) (fun c1=> ?_))
  ·refine wp_skip <| then_n (hK8 _ _ <| wp_seq_k fun K9 hK9=> wp_block <| wp_seq_k fun K10 hK10=> wp_region_lit <| mv J Y Y fun a J=> sw J Y Y Y (R.indexO Tryz.underlying22 sz5 (J.ev Y) ((hRo15 _ (St.get G .h)).ne (by rw [length_byts, length_bys]; omega)) (J.ev Y) (by omega) (by omega)) fun a J=> sw J Y Y Y (R.loadO one5 (J.ev Y) (hRo15 _ (St.get G .h)) (byts_o (xs := bys s) (i := i) (by omega) (by omega))) fun a J=> av J Y Y fun a J=> av J Y Y fun a J=> s0 <| then_n (hK10 _ _ <| wp_seq_k fun K11 hK11=> ?_))
   have hK11' : ∀ a w, (Fr 55 [(15, .slice (some ⟨b15, 0, none⟩) s.size c15), (16, .int .i64 (s.size : Int)), (17, .int .i64 ((i : Nat) : Int)), (3, .int .i64 ((i : Nat) : Int)), (4, .int .u8 ((((bys s).getD i 0) : Nat) : Int)), (5, .bool (decide (97 ≤ ((bys s).getD i 0) ∧ ((bys s).getD i 0) ≤ 122 ∨ 65 ≤ ((bys s).getD i 0) ∧ ((bys s).getD i 0) ≤ 90)))] a ∧ St w0 [] [[(b15, o15)]] w) → K11 a w := by
    rintro a w ⟨J, G⟩
    refine hK11 _ _ ?_
    refine wp_seq_k fun K12 hK12=> ?_
    have hK12' : ∀ a w, (Fr 55 [(15, .slice (some ⟨b15, 0, none⟩) s.size c15), (16, .int .i64 (s.size : Int)), (17, .int .i64 ((i : Nat) : Int)), (53, .bool (decide (¬ (97 ≤ ((bys s).getD i 0) ∧ ((bys s).getD i 0) ≤ 122 ∨ 65 ≤ ((bys s).getD i 0) ∧ ((bys s).getD i 0) ≤ 90) ∧ (i = 0 ∨ (¬ ((bys s).getD i 0) = 95 ∧ (((bys s).getD i 0) < 48 ∨ 57 < ((bys s).getD i 0)))))))] a ∧ St w0 [] [[(b15, o15)]] w) → K12 a w := by
     rintro a w ⟨J, G⟩
     refine hK12 _ _ ?_
     refine cD J Y (fun c2=> ?_) (fun c2=> ?_)
     ·have hpn : okL (bys s) = false := by (by_cases h0 : i = 0; subst h0; exact okL_head (by omega); exact okL_bad (i := i) (by omega) (by omega))
      refine wp_seq_k fun K13 hK13=> wp_region_lit <| av J Y Y fun a J=> s0 <| then_n (hK13 _ _ <| wp_ret (blk_r (then_r (then_r (blk_r (then_r (hR _ _ _ _ _ J (run_results Tryz.results111 (.t J Y (.nil))) ?_)))))))
      exact ⟨_, [], Y, ⟨by rw [hpn]; rfl, Y⟩, G.none⟩
     refine wp_skip <| blk_n <| then_n (hK9 _ _ <| wp_region_lit <| aI J Y Y Y (by omega) fun a J=> mv J Y Y fun a J=> s0 <| then_n (hKL1 (s.size - (i + 1)) _ _ ?_ ?_))
     ·omega
     exact ⟨i + 1, Y, J.sub ⟨Y, Y, (congrArg (fun z => some (Value.int .i64 z)) (by omega)), trivial⟩, G.sel [0] Y Y, by omega, lab_step (by omega) hal (by omega), (by (by_cases h0 : i = 0; subst h0; exact .inr (by omega); exact .inr (by omega)))⟩
    refine wp_region_lit <| mv J Y Y fun a J=> ?_
    refine sw J Y Y Y ((by first | exact R.notD (J.ev Y) | exact R.not (J.ev Y))) fun a J=> ?_
    refine mv J Y Y fun a J=> J.splitD (t := 38) Y (fun h38 J=> ?_) (fun h38 J=> ?_)
    ·refine my J Y Y Y Y fun a J=> sv' J (wy J Y Y Y) Y Y (R.eql (J.ev Y) (J.ev Y)) fun a J=> my J Y Y Y Y fun a J=> J.splitD (t := 41) Y (fun h41 J=> ?_) (fun h41 J=> ?_)
     ·refine kz J Y Y Y Y Y Y fun a J=> kz J Y Y Y Y Y Y fun a J=> kz J Y Y Y Y Y Y fun a J=> ku J Y Y Y Y Y fun a J=> ku J Y Y Y Y Y fun a J=> ku J Y Y Y Y Y fun a J=> ku J Y Y Y Y Y fun a J=> ku J Y Y Y Y Y fun a J=> ku J Y Y Y Y Y fun a J=> kz J Y Y Y Y Y Y fun a J=> sv' J (wy J Y Y Y) Y Y (R.pickT (J.ev Y) (J.ev Y)) fun a J=> pT J Y Y Y fun a J=> s0 ?_
      exact then_n (hK12' _ _ ⟨J.sub ⟨Y, Y, Y, (congrArg (fun z => some (Value.bool z)) (by first | exact (decide_eq_true (by omega)).symm | exact (decide_eq_false (by omega)).symm | exact decide_eq_decide.2 (by omega))), trivial⟩, G.sel [0] Y Y⟩)
     refine my J Y Y Y Y fun a J=> sv' J (wy J Y Y Y) Y Y (R.neq (J.ev Y) (J.ev Y)) fun a J=> my J Y Y Y Y fun a J=> J.splitD (t := 44) Y (fun h44 J=> ?_) (fun h44 J=> ?_)
     ·refine my J Y Y Y Y fun a J=> sv' J (wy J Y Y Y) Y Y (R.lss (J.ev Y) (J.ev Y)) fun a J=> my J Y Y Y Y fun a J=> J.splitD (t := 47) Y (fun h47 J=> ?_) (fun h47 J=> ?_)
      ·refine kz J Y Y Y Y Y Y fun a J=> kz J Y Y Y Y Y Y fun a J=> sv' J (wy J Y Y Y) Y Y (R.pickT (J.ev Y) (J.ev Y)) fun a J=> sv' J (wy J Y Y Y) Y Y (R.pickT (J.ev Y) (J.ev Y)) fun a J=> sv' J (wy J Y Y Y) Y Y (R.pickF (J.ev Y) (J.ev Y)) fun a J=> pT J Y Y Y fun a J=> s0 ?_
       exact then_n (hK12' _ _ ⟨J.sub ⟨Y, Y, Y, (congrArg (fun z => some (Value.bool z)) (by first | exact (decide_eq_true (by omega)).symm | exact (decide_eq_false (by omega)).symm | exact decide_eq_decide.2 (by omega))), trivial⟩, G.sel [0] Y Y⟩)
      refine my J Y Y Y Y fun a J=> sv' J (wy J Y Y Y) Y Y (R.gtr (J.ev Y) (J.ev Y)) fun a J=> sv' J (wy J Y Y Y) Y Y (R.pickF (J.ev Y) (J.ev Y)) fun a J=> sv' J (wy J Y Y Y) Y Y (R.pickT (J.ev Y) (J.ev Y)) fun a J=> sv' J (wy J Y Y Y) Y Y (R.pickF (J.ev Y) (J.ev Y)) fun a J=> pT J Y Y Y fun a J=> s0 ?_
      exact then_n (hK12' _ _ ⟨J.sub ⟨Y, Y, Y, (congrArg (fun z => some (Value.bool z)) (by first | exact (decide_eq_true (by omega)).symm | exact (decide_eq_false (by omega)).symm | exact decide_eq_decide.2 (by omega))), trivial⟩, G.sel [0] Y Y⟩)
     refine kz J Y Y Y Y Y Y fun a J=> kz J Y Y Y Y Y Y fun a J=> kz J Y Y Y Y Y Y fun a J=> ku J Y Y Y Y Y fun a J=> ku J Y Y Y Y Y fun a J=> kz J Y Y Y Y Y Y fun a J=> sv' J (wy J Y Y Y) Y Y (R.pickF (J.ev Y) (J.ev Y)) fun a J=> sv' J (wy J Y Y Y) Y Y (R.pickF (J.ev Y) (J.ev Y)) fun a J=> pT J Y Y Y fun a J=> s0 ?_
     exact then_n (hK12' _ _ ⟨J.sub ⟨Y, Y, Y, (congrArg (fun z => some (Value.bool z)) (by first | exact (decide_eq_true (by omega)).symm | exact (decide_eq_false (by omega)).symm | exact decide_eq_decide.2 (by omega))), trivial⟩, G.sel [0] Y Y⟩)
    refine kz J Y Y Y Y Y Y fun a J=> kz J Y Y Y Y Y Y fun a J=> kz J Y Y Y Y Y Y fun a J=> ku J Y Y Y Y Y fun a J=> ku J Y Y Y Y Y fun a J=> ku J Y Y Y Y Y fun a J=> ku J Y Y Y Y Y fun a J=> ku J Y Y Y Y Y fun a J=> ku J Y Y Y Y Y fun a J=> ku J Y Y Y Y Y fun a J=> ku J Y Y Y Y Y fun a J=> ku J Y Y Y Y Y fun a J=> ku J Y Y Y Y Y fun a J=> kz J Y Y Y Y Y Y fun a J=> pF J Y Y Y fun a J=> s0 ?_
    exact then_n (hK12' _ _ ⟨J.sub ⟨Y, Y, Y, (congrArg (fun z => some (Value.bool z)) (by first | exact (decide_eq_true (by omega)).symm | exact (decide_eq_false (by omega)).symm | exact decide_eq_decide.2 (by omega))), trivial⟩, G.sel [0] Y Y⟩)
   refine wp_region_lit <| mv J Y Y fun a J=> sw J Y Y Y (R.geq (J.ev Y) (J.ev Y)) fun a J=> mv J Y Y fun a J=> J.splitD (t := 24) Y (fun h24 J=> ?_) (fun h24 J=> ?_)
   ·refine my J Y Y Y Y fun a J=> sv' J (wy J Y Y Y) Y Y (R.leq (J.ev Y) (J.ev Y)) fun a J=> pT J Y Y Y fun a J=> mv J Y Y fun a J=> J.splitD (t := 28) Y (fun h28 J=> ?_) (fun h28 J=> ?_)
    ·refine kz J Y Y Y Y Y Y fun a J=> kz J Y Y Y Y Y Y fun a J=> kz J Y Y Y Y Y Y fun a J=> ku J Y Y Y Y Y fun a J=> ku J Y Y Y Y Y fun a J=> kz J Y Y Y Y Y Y fun a J=> pT J Y Y Y fun a J=> av J Y Y fun a J=> s0 ?_
     exact then_n (hK11' _ _ ⟨J.sub ⟨Y, Y, Y, Y, Y, (congrArg (fun z => some (Value.bool z)) (by first | exact (decide_eq_true (by omega)).symm | exact (decide_eq_false (by omega)).symm | exact decide_eq_decide.2 (by omega))), trivial⟩, G.sel [0] Y Y⟩)
    refine my J Y Y Y Y fun a J=> sv' J (wy J Y Y Y) Y Y (R.geq (J.ev Y) (J.ev Y)) fun a J=> my J Y Y Y Y fun a J=> J.splitD (t := 31) Y (fun h31 J=> ?_) (fun h31 J=> ?_)
    ·refine my J Y Y Y Y fun a J=> sv' J (wy J Y Y Y) Y Y (R.leq (J.ev Y) (J.ev Y)) fun a J=> sv' J (wy J Y Y Y) Y Y (R.pickT (J.ev Y) (J.ev Y)) fun a J=> pF J Y Y Y fun a J=> av J Y Y fun a J=> s0 ?_
     exact then_n (hK11' _ _ ⟨J.sub ⟨Y, Y, Y, Y, Y, (congrArg (fun z => some (Value.bool z)) (by first | exact (decide_eq_true (by omega)).symm | exact (decide_eq_false (by omega)).symm | exact decide_eq_decide.2 (by omega))), trivial⟩, G.sel [0] Y Y⟩)
    refine kz J Y Y Y Y Y Y fun a J=> kz J Y Y Y Y Y Y fun a J=> sv' J (wy J Y Y Y) Y Y (R.pickF (J.ev Y) (J.ev Y)) fun a J=> pF J Y Y Y fun a J=> av J Y Y fun a J=> s0 ?_
    exact then_n (hK11' _ _ ⟨J.sub ⟨Y, Y, Y, Y, Y, (congrArg (fun z => some (Value.bool z)) (by first | exact (decide_eq_true (by omega)).symm | exact (decide_eq_false (by omega)).symm | exact decide_eq_decide.2 (by omega))), trivial⟩, G.sel [0] Y Y⟩)
   refine kz J Y Y Y Y Y Y fun a J=> kz J Y Y Y Y Y Y fun a J=> pF J Y Y Y fun a J=> mv J Y Y fun a J=> my J Y Y Y Y fun a J=> sv' J (wy J Y Y Y) Y Y (R.geq (J.ev Y) (J.ev Y)) fun a J=> my J Y Y Y Y fun a J=> J.splitD (t := 31) Y (fun h31 J=> ?_) (fun h31 J=> ?_)
   ·refine my J Y Y Y Y fun a J=> sv' J (wy J Y Y Y) Y Y (R.leq (J.ev Y) (J.ev Y)) fun a J=> sv' J (wy J Y Y Y) Y Y (R.pickT (J.ev Y) (J.ev Y)) fun a J=> pF J Y Y Y fun a J=> av J Y Y fun a J=> s0 ?_
    exact then_n (hK11' _ _ ⟨J.sub ⟨Y, Y, Y, Y, Y, (congrArg (fun z => some (Value.bool z)) (by first | exact (decide_eq_true (by omega)).symm | exact (decide_eq_false (by omega)).symm | exact decide_eq_decide.2 (by omega))), trivial⟩, G.sel [0] Y Y⟩)
   refine kz J Y Y Y Y Y Y fun a J=> kz J Y Y Y Y Y Y fun a J=> sv' J (wy J Y Y Y) Y Y (R.pickF (J.ev Y) (J.ev Y)) fun a J=> pF J Y Y Y fun a J=> av J Y Y fun a J=> s0 ?_
   exact then_n (hK11' _ _ ⟨J.sub ⟨Y, Y, Y, Y, Y, (congrArg (fun z => some (Value.bool z)) (by first | exact (decide_eq_true (by omega)).symm | exact (decide_eq_false (by omega)).symm | exact decide_eq_decide.2 (by omega))), trivial⟩, G.sel [0] Y Y⟩)
  obtain rfl : i = s.size := by omega
  have htk : (bys s).take s.size = bys s := by rw [← hlen, List.take_length]
  rw [htk] at hal
  have hpn : okL (bys s) = true := okL_good (by omega) hal
  refine wp_exit (then_x (then_x (blk_hit <| then_n (hK5 _ _ <| wp_seq_k fun K14 hK14=> wp_region_lit <| av J Y Y fun a J=> s0 <| then_n (hK14 _ _ <| wp_ret (hR _ _ _ _ _ J (run_results Tryz.results111 (.t J Y (.nil))) ?_))))))
  exact ⟨_, [], Y, ⟨by rw [hpn]; rfl, Y⟩, G.none⟩
 refine wp_region_lit <| mv J Y Y fun a J=> sw J Y Y Y (R.lenS Tryz.underlying9 (J.ev Y)) fun a J=> eL J Y Y Y fun a J=> mv J Y Y fun a J=> J.splitD (t := 9) Y (fun h9 J=> ?_) (fun h9 J=> ?_)
 ·refine kz J Y Y Y Y Y Y fun a J=> kz J Y Y Y Y Y Y fun a J=> kz J Y Y Y Y Y Y fun a J=> pT J Y Y Y fun a J=> s0 ?_
  exact then_n (hK3' _ _ ⟨J.sub ⟨Y, (congrArg (fun z => some (Value.bool z)) (by first | exact (decide_eq_true (by omega)).symm | exact (decide_eq_false (by omega)).symm | exact decide_eq_decide.2 (by omega))), trivial⟩, G.sel [] Y Y⟩)
 refine my J Y Y Y Y fun a J=> sv' J (wy J Y Y Y) Y Y (R.lenS Tryz.underlying9 (J.ev Y)) fun a J=> sv' J (wy J Y Y Y) Y Y (R.gtr (J.ev Y) (J.ev Y)) fun a J=> pF J Y Y Y fun a J=> s0 ?_
 exact then_n (hK3' _ _ ⟨J.sub ⟨Y, (congrArg (fun z => some (Value.bool z)) (by first | exact (decide_eq_true (by omega)).symm | exact (decide_eq_false (by omega)).symm | exact decide_eq_decide.2 (by omega))), trivial⟩, G.sel [] Y Y⟩)
theorem codeOf_calls (s : ByteArray) (w0 : World) : Ret Tryz.prog 112 [.string s] w0 [] (fun v q => v = .tuple #[.int .i64 (if codeN (bys s) < 28 then ((codeN (bys s) : Nat) : Int) else 0), .bool (decide (codeN (bys s) < 28))] ∧ q = []) := by
 refine fn_start Tryz.func112 Y Tryz.ntmps112 Y [(0, .string s)] ⟨Y, trivial⟩ ?_
 intro Q a hP J hR hN
 have G := St.start w0
 refine wp_seq_k fun K1 hK1=> wp_region_lit <| av J Y Y fun a J=> av J Y Y fun a J=> s0 <| then_n (hK1 _ _ <| wp_seq_k fun K2 hK2=> wp_seq_k fun K3 hK3=> wp_region_lit <| so (wn Y) (O.call Y Y J ent33 (J.evs Y) G (table_calls _) fun v s6 a w hR J G=> ?_))
 obtain ⟨rfl, rfl⟩ := hR
 refine mv J Y Y fun a J=> s0 <| then_n (hK3 _ _ <| wp_block <| wp_loop_N (fun g a w=> ∃ (i : Nat), 28 - i = g ∧ Fr 17 [(0, .string s), (6, .agg tabL.toArray), (7, .int .i64 ((i : Nat) : Int))] a ∧ St w0 [] [] w ∧ (i ≤ 28) ∧ (∀ j, j < i → nameN j ≠ bys s)) (28 - 0) ?_ ?_)
 ·exact ⟨0, Y, J.sub ⟨Y, Y, Y, trivial⟩, G.sel [] Y Y, by omega, (fun j hj => absurd hj (Nat.not_lt_zero j))⟩
 rintro KL1 g a w ⟨i, hg1, J, G, hi, hno⟩ hKL1
 refine wp_seq_k fun K4 hK4=> wp_region_lit <| lS J Y Y Y fun a J=> s0 <| then_n (hK4 _ _ <| wp_seq_k fun K5 hK5=> cD J Y (fun c1=> ?_) (fun c1=> ?_))
 ·refine wp_skip <| then_n (hK5 _ _ <| wp_seq_k fun K6 hK6=> wp_block <| wp_seq_k fun K7 hK7=> wp_region_lit <| mv J Y Y fun a J=> sw J Y Y Y (R.indexAgg (cs := rowC (bstr (nameN i)) i) Tryz.underlying73 agg72 sz72 (J.ev Y) (J.ev Y) (by omega) (by omega) (row_cut (c := i) (by omega))) fun a J=> so (wn Y) (O.alloc Y Y J ze72 Y G fun b5 a w J G=> ?_))
  refine av J Y Y fun a J=> so (wn Y) (O.storeW sz72 (J.ev Y) (J.ev Y) (Y) Y (one_row _ _) G .h (Y) fun w G=> ?_)
  refine s0 <| then_n (hK7 _ _ <| wp_seq_k fun K8 hK8=> wp_region_lit <| sw J Y Y Y (R.fieldAddr (k := 0) Tryz.underlying72 Y nz9 (J.ev Y) Y) fun a J=> sw J Y Y Y (R.load one9 (J.ev Y) G .h (Y)) fun a J=> mv J Y Y fun a J=> sw J Y Y Y (R.as (u := .bool (decide (nameN i = bys s))) (R.eqlStr (J.ev Y) (J.ev Y)) (congrArg Value.bool (decide_eq_decide.2 name_str))) fun a J=> s0 <| then_n (hK8 _ _ <| cD J Y (fun c2=> ?_) (fun c2=> ?_)))
  ·have hpn := codeN_hit (by omega) c2 hno
   refine wp_seq_k fun K9 hK9=> wp_region_lit <| mv J Y Y fun a J=> av J Y Y fun a J=> av J Y Y fun a J=> s0 <| then_n (hK9 _ _ <| wp_ret (blk_r (then_r (then_r (blk_r (then_r (hR _ _ _ _ _ J (run_results Tryz.results112 (.t J Y (.t J Y (.nil)))) ?_)))))))
   exact ⟨_, [], Y, ⟨by rw [hpn, if_pos (by omega), decide_eq_true (by omega)]; rfl, Y⟩, G.none⟩
  refine wp_skip <| blk_n <| then_n (hK6 _ _ <| wp_region_lit <| aI J Y Y Y (by omega) fun a J=> mv J Y Y fun a J=> s0 <| then_n (hKL1 (28 - (i + 1)) _ _ ?_ ?_))
  ·omega
  exact ⟨i + 1, Y, J.sub ⟨Y, Y, (congrArg (fun z => some (Value.int .i64 z)) (by omega)), trivial⟩, G.sel [] Y Y, by omega, (fun j hj => by (by_cases h : j < i; exact hno j h; have : j = i := (by omega); rw [this]; exact c2))⟩
 obtain rfl : i = 28 := by omega
 have hpn := codeN_none hno
 refine wp_exit (then_x (then_x (blk_hit <| then_n (hK2 _ _ <| wp_seq_k fun K10 hK10=> wp_region_lit <| av J Y Y fun a J=> av J Y Y fun a J=> s0 <| then_n (hK10 _ _ <| wp_ret (hR _ _ _ _ _ J (run_results Tryz.results112 (.t J Y (.t J Y (.nil)))) ?_))))))
 exact ⟨_, [], Y, ⟨by rw [hpn]; rfl, Y⟩, G.none⟩
theorem words_calls (s : ByteArray) (w0 : World) (hM : MaxW w0) (hs : s.size ≤ 1000000) : Ret Tryz.prog 58 [.string s] w0 [] (fun v q => ∃ A, v = .slice (some ⟨A, 0, none⟩) (wordsN (bys s)).length (wordsN (bys s)).length ∧ OwnS q (some ⟨A, 0, none⟩) (wordsN (bys s)).length (wordsN (bys s)).length (strs (wordsN (bys s))) 9 1) := by
 refine fn_start Tryz.func58 Y Tryz.ntmps58 Y [(0, .string s)] ⟨Y, trivial⟩ ?_
 intro Q a hP J hR hN
 have G := St.start w0
 refine wp_seq_k fun K1 hK1=> wp_region_lit <| av J Y Y fun a J=> s0 <| then_n (hK1 _ _ <| wp_seq_k fun K2 hK2=> wp_region_lit <| mv J Y Y fun a J=> so (wn Y) (O.call Y Y J ent107 (J.evs Y) G (cut_calls s _ hM hs) fun v s5 a w hR J G=> ?_))
 obtain ⟨u5, b5, rfl, rfl⟩ := hR
 refine mv J Y Y fun a J=> xv J Y Y Y fun a J=> xv J Y Y Y fun a J=> xv J Y Y Y fun a J=> av J Y Y fun a J=> s0 <| then_n (hK2 _ _ <| wp_seq_k fun K3 hK3=> wp_region_lit <| mv J Y Y fun a J=> so (wn Y) (O.call Y Y J ent108 (J.evs Y) G (fields_calls ⟨(Lib.cut s.data.toList [35]).1.toArray⟩ w (Nat.le_trans (cutM_len s) hs)) fun v s10 a w hR J G=> ?_))
 obtain ⟨A10, rfl, hO10⟩ := hR
 refine av J Y Y fun a J=> s0 <| then_n (hK3 _ _ <| wp_ret (hR _ _ _ _ _ J (run_results Tryz.results58 (.t J Y (.nil))) ?_))
 exact ⟨_, s10, Y, ⟨A10, by rw [← words_lib]; rfl, by rw [← words_lib]; exact hO10⟩, G.one .h⟩
theorem isLabel_l {xs : List Nat} (h : Byt xs) (w : World) : Ret Tryz.prog 111 [.string (bstr xs)] w [] (fun v q => v = .bool (okL xs) ∧ q = []) := by
  have := isLabel_calls (bstr xs) w; rwa [bys_bstr h] at this
theorem codeOf_l {xs : List Nat} (h : Byt xs) (w : World) : Ret Tryz.prog 112 [.string (bstr xs)] w [] (fun v q => v = .tuple #[.int .i64 (if codeN xs < 28 then ((codeN xs : Nat) : Int) else 0), .bool (decide (codeN xs < 28))] ∧ q = []) := by
  have := codeOf_calls (bstr xs) w; rwa [bys_bstr h] at this
theorem words_l {xs : List Nat} (h : Byt xs) (w : World) (hM : MaxW w) (hl : xs.length ≤ 1000000) : Ret Tryz.prog 58 [.string (bstr xs)] w [] (fun v q => ∃ A, v = .slice (some ⟨A, 0, none⟩) (wordsN xs).length (wordsN xs).length ∧ OwnS q (some ⟨A, 0, none⟩) (wordsN xs).length (wordsN xs).length (strs (wordsN xs)) 9 1) := by
  have := words_calls (bstr xs) w hM (by rw [size_bstr]; exact hl); rwa [bys_bstr h] at this
theorem parse_l {xs : List Nat} (h : Byt xs) (w : World) : Ret Tryz.prog 113 [.string (bstr xs)] w [] (fun v q => v = .tuple #[wv ((prs xs).getD 0), .int .i64 (if (prs xs).isSome then 0 else 21)] ∧ q = []) := by
  have := parse_calls (bstr xs) w; rwa [bys_bstr h] at this
theorem suffix_l {xs : List Nat} (h : Byt xs) (w : World) (hl : xs.length ≤ 1000000) : Ret Tryz.prog 110 [.string (bstr xs), .string ⟨#[58]⟩] w [] (fun v q => ∃ t, v = .tuple #[.string (bstr t), .bool (decide (xs.getLast? = some 58))] ∧ Byt t ∧ (xs.getLast? = some 58 → t = xs.dropLast) ∧ q = []) := by
  refine (suffix_calls (bstr xs) w (by rw [size_bstr]; exact hl)).mono ?_
  rintro v q ⟨rfl, rfl⟩
  obtain ⟨h1, h2⟩ := suff (bstr xs).data.toList
  have hb : (bstr xs).data.toList.map (·.toNat) = xs := bys_bstr h
  rw [hb] at h1 h2
  refine ⟨bys ⟨(Lib.trimSuffix (bstr xs).data.toList [58]).toArray⟩, by rw [bstr_bys, h1], byt_bys _, fun h3 => ?_, rfl⟩
  rw [bys_mk]
  exact h2 (by rw [h1]; exact decide_eq_true h3)
end Go.Proofs.YtlapmbkfmbkdoaaGreatDoor
end
section
namespace Go.Proofs.YtlapmbkfmbkdoaaGreatDoor
open Go Go.Fw Go.RowKit
attribute [local irreducible] Go.Oper.wp Go.Code.wp Go.wpList Go.Fw.WL Go.Calls
theorem beq_ba (a b : ByteArray) : (a == b) = decide (a = b) := by
  cases a with
  | mk x =>
    cases b with
    | mk y =>
      have h : ((⟨x⟩ : ByteArray) == ⟨y⟩) = (x == y) := rfl
      rw [h, Bool.eq_iff_iff, decide_eq_true_iff, beq_iff_eq]
      constructor
      · rintro rfl; rfl
      · intro h; cases h; rfl
theorem beq_self_ba (a : ByteArray) : (a == a) = true := by rw [beq_ba]; simp
def MapL (es : Array MapEntry) (l : List (List Nat × Nat)) : Prop := es.toList.map (fun e => (e.key, e.val)) = l.map fun x => (Value.string (bstr x.1), Value.int .i64 ((x.2 : Nat) : Int))
def BytL (l : List (List Nat × Nat)) : Prop := ∀ x ∈ l, Byt x.1
theorem MapL.nil : MapL #[] [] := rfl
theorem lkp_cons (x : List Nat × Nat) (l : List (List Nat × Nat)) (s : List Nat) : lkp (x :: l) s = if x.1 = s then some x.2 else lkp l s := by
  unfold lkp
  rw [List.find?_cons]
  by_cases h : x.1 = s
  · simp [h]
  · have : (x.1 == s) = false := by simpa using h
    rw [this, if_neg h]
theorem find_S {s : List Nat} (hs : Byt s) : ∀ (l : List (List Nat × Nat)) (es : List MapEntry) (i : Nat), BytL l → es.map (fun e => (e.key, e.val)) = l.map (fun x => (Value.string (bstr x.1), Value.int .i64 ((x.2 : Nat) : Int))) →
    (lkp l s = none → Instr.findNow .string (.string (bstr s)) es i = some none) ∧ (∀ p, lkp l s = some p → ∃ j e, Instr.findNow .string (.string (bstr s)) es i = some (some (i + j, .int .i64 ((p : Nat) : Int))) ∧ es[j]? = some e ∧ e.key = .string (bstr s))
  | [], [], i, _, _ => ⟨fun _ => rfl, fun p h => by simp [lkp] at h⟩
  | [], e :: es, i, _, h => by simp at h
  | x :: l, [], i, _, h => by simp at h
  | x :: l, e :: es, i, hB, h => by
    simp only [List.map_cons, List.cons.injEq, Prod.mk.injEq] at h
    obtain ⟨⟨hk, hv⟩, ht⟩ := h
    have ih := find_S hs l es (i + 1) (fun y hy => hB y (List.mem_cons_of_mem _ hy)) ht
    have hx : Byt x.1 := hB x List.mem_cons_self
    rw [lkp_cons]
    by_cases he : x.1 = s
    · have hb : (bstr s == bstr x.1) = true := by rw [he]; exact beq_self_ba _
      refine ⟨fun h => (by rw [if_pos he] at h; cases h), fun p hp => ?_⟩
      rw [if_pos he] at hp
      obtain rfl := Option.some.inj hp
      exact ⟨0, e, by simp only [Instr.findNow, hk, Instr.sameNow, hb, hv, Nat.add_zero], rfl, by rw [hk, he]⟩
    · have hb : (bstr s == bstr x.1) = false := by
        cases hc : (bstr s == bstr x.1) with
        | false => rfl
        | true => exact absurd (bstr_inj hs hx (of_decide_eq_true ((beq_ba _ _).symm.trans hc))).symm he
      refine ⟨fun h => ?_, fun p hp => ?_⟩
      · rw [if_neg he] at h
        simp only [Instr.findNow, hk, Instr.sameNow, hb]
        exact ih.1 h
      · rw [if_neg he] at hp
        obtain ⟨j, e2, h1, h2, h3⟩ := ih.2 p hp
        refine ⟨j + 1, e2, ?_, by simpa using h2, h3⟩
        simp only [Instr.findNow, hk, Instr.sameNow, hb]
        rw [h1, Nat.add_right_comm, Nat.add_assoc]
section
variable {P : Program} {Q : Exit → Act → World → Prop} {a : Act} {w w' w0 : World} {K : Act → World → Prop}
variable {ρ : Operand → Value} {dst : Option Tmp} {ty : TypeId} {pos : String} {af : Array Edge} {g : Option (Nat × Bool)} {x y y' : Operand} {T E Kt : TypeId}
variable {ks : List Nat} {bs : List Seg} {b : Nat} {es : Array MapEntry} {c : Nat} {l : List (List Nat × Nat)} {s : List Nat}
theorem run_checkStr (hK : P.underlying Kt = some .string) (e : Bool) (p : ByteArray) (w : World) : (Instr.checkKey e 10000 Kt (.string p)).run P w = .ok () w := by
  rw [Instr.checkKey]
  simp only [Sem.run_bind, run_underlying hK, Result.andThen_ok, Sem.run_pure]
theorem run_findStr (hK : P.underlying Kt = some .string) {k : Value} {l : List MapEntry} {r : Option (Nat × Value)} (h : Instr.findNow .string k l 0 = some r) (w : World) : (Instr.findKey Kt k l).run P w = .ok r w := by
  simp only [Instr.findKey, Sem.run_bind, run_underlying hK, Result.andThen_ok, h, Sem.run_pure]
theorem R.lookupS (hT : P.underlying T = some (.map Kt E)) (hK : P.underlying Kt = some .string) (hz : zeT P E (.int .i64 0)) (hb : w.heap[b]? = some (.map es c)) (hM : MapL es l) (hB : BytL l) (hs : Byt s) (hx : ρ x = .map (some b)) (hy : ρ y = .string (bstr s)) :
    (execOp ρ ⟨dst, .lookup T x y true, ty, pos, af, g⟩).run P w = .ok (.value (.tuple [.int .i64 (((lkp l s).getD 0 : Nat) : Int), .bool (lkp l s).isSome].toArray)) w := by
  have hf := find_S hs l es.toList 0 hB hM
  have key : (Instr.lookup T (.map (some b)) (.string (bstr s)) true).run P w = .ok (.tuple #[.int .i64 (((lkp l s).getD 0 : Nat) : Int), .bool (lkp l s).isSome]) w := by
    cases hl : lkp l s with
    | none =>
      have h1 := hf.1 hl
      simp only [Instr.lookup, Sem.run_bind, run_underlying hT, Result.andThen_ok, Sem.run_pure, MapKept.run_getObj_map hb, run_checkStr hK, run_findStr hK h1, hz.run, Option.getD_none, Option.isSome_none, if_true]
      rfl
    | some p =>
      obtain ⟨j, e, h1, _⟩ := hf.2 p hl
      simp only [Instr.lookup, Sem.run_bind, run_underlying hT, Result.andThen_ok, Sem.run_pure, MapKept.run_getObj_map hb, run_checkStr hK, run_findStr hK h1, Option.getD_some, Option.isSome_some, if_true]
  simp only [execOp, hx, hy, key, Sem.run_bind, Result.andThen_ok, Sem.run_pure]
theorem O.mapUpdateS {u : Nat} (hT : P.underlying T = some (.map Kt E)) (hK : P.underlying Kt = some .string) (hx : ρ x = .map (some b)) (hy : ρ y = .string (bstr s)) (hu : ρ y' = .int .i64 ((u : Nat) : Int)) (hρ : ρ = a.eval) (hM : MapL es l) (hB : BytL l) (hs : Byt s) (hS : St w0 ks bs w)
    {bs2 : Obj → List Seg} (hU : ∀ o, UpB bs b (.map es c) o (bs2 o))
    (h : ∀ es' c' w', (lkp l s = none → MapL es' (l ++ [(s, u)])) → St w0 ks (bs2 (.map es' c')) w' → K a w') : Oper.wp P ⟨none, .mapUpdate T x y y', ty, pos, af, g⟩ a w K Q := by
  subst hρ
  have hb := hS.get (hU (.map es c)).has
  have hf := find_S hs l es.toList 0 hB hM
  have key : ∃ es' c', (Instr.mapUpdate T (.map (some b)) (.string (bstr s)) (.int .i64 ((u : Nat) : Int))).run P w = .ok () (World.setB w b (.map es' c')) ∧ (lkp l s = none → MapL es' (l ++ [(s, u)])) := by
    cases hl : lkp l s with
    | none =>
      have h1 := hf.1 hl
      refine ⟨es.push { key := .string (bstr s), val := .int .i64 ((u : Nat) : Int), born := c }, c + 1, ?_, fun _ => ?_⟩
      · simp [Instr.mapUpdate, run_underlying hT, MapKept.run_getObj_map hb, run_checkStr hK, run_findStr hK h1, MapKept.run_setObj_map _ hb, Result.andThen, World.setB]
      · unfold MapL at *
        rw [Array.toList_push, List.map_append, List.map_append, hM]; rfl
    | some p =>
      obtain ⟨j, e, h1, h2, h3⟩ := hf.2 p hl
      have hj : es[j]? = some e := by simpa using h2
      have hks : (Instr.keyThatStays (.string (bstr s)) (.string (bstr s))).run P w = .ok (.string (bstr s)) w := by
        simp [Instr.keyThatStays, Instr.sameBits, beq_self_ba]
      refine ⟨es.modify j (fun e' => { e' with key := .string (bstr s), val := .int .i64 ((u : Nat) : Int) }), c, ?_, fun h => by cases h⟩
      simp [Instr.mapUpdate, run_underlying hT, MapKept.run_getObj_map hb, run_checkStr hK, run_findStr hK h1, hj, h3, hks, MapKept.run_setObj_map _ hb, Result.andThen, World.setB]
  obtain ⟨es', c', h1, h2⟩ := key
  unfold Oper.wp
  have : (execOp a.eval ⟨none, .mapUpdate T x y y', ty, pos, af, g⟩).run P w = .ok .skip (World.setB w b (.map es' c')) := by
    simp only [execOp, hx, hy, hu, h1, Sem.run_bind, Result.andThen_ok, Sem.run_pure]
  rw [this, Oper.upon_skip]
  exact h _ _ _ h2 (hS.setB (hU _))
end
end Go.Proofs.YtlapmbkfmbkdoaaGreatDoor
end
section
namespace Go.Proofs.YtlapmbkfmbkdoaaGreatDoor
open Go Go.Fw Go.RowKit
attribute [local irreducible] Go.Oper.wp Go.Code.wp Go.wpList Go.Fw.WL Go.Calls
def jmpC (l : List (List Nat × Nat × Nat)) : List Value := l.flatMap fun j => [.string (bstr j.1), .int .i64 ((j.2.1 : Nat) : Int), .int .i64 ((j.2.2 : Nat) : Int)]
theorem jmpC_snoc (l : List (List Nat × Nat × Nat)) (x : List Nat × Nat × Nat) : jmpC (l ++ [x]) = jmpC l ++ [.string (bstr x.1), .int .i64 ((x.2.1 : Nat) : Int), .int .i64 ((x.2.2 : Nat) : Int)] := by simp [jmpC]
def asmC (A : Option Addr) (n c : Nat) (bm : Nat) (J : Option Addr) (m d : Nat) : List Value := [.slice A n c, .map (some bm), .slice J m d]
def FB (acc : List (It × Nat)) : List Nat := flat (·.bs) acc
def AsmS (ba : Nat) (acc : List (It × Nat)) (s : Seg) : Prop := ∃ A c J d bm es cnt zc zj, s = (ba, Cel (asmC A (lenN acc) c bm J (jmps acc 0).length d) 120) :: (bm, .map es cnt) :: (zc ++ zj) ∧ OwnS zc A (lenN acc) c (byts (FB acc)) 5 1 ∧ OwnS zj J (jmps acc 0).length d (jmpC (jmps acc 0)) 124 3 ∧ MapL es (labs acc 0)
def AccOK (acc : List (It × Nat)) : Prop := ∀ x ∈ acc, ItOK x.1 ∧ Byt x.1.lab ∧ Byt x.1.tg
theorem acc_bytL {acc : List (It × Nat)} (h : AccOK acc) (p : Nat) : BytL (labs acc p) := by
  induction acc generalizing p with
  | nil => intro x hx; cases hx
  | cons y r ih =>
    intro x hx
    rw [labs] at hx
    rcases List.mem_append.1 hx with h1 | h1
    · split at h1
      · rw [List.mem_singleton.1 h1]; exact (h y List.mem_cons_self).2.1
      · cases h1
    · exact ih (fun z hz => h z (List.mem_cons_of_mem _ hz)) _ x h1
theorem acc_len {acc : List (It × Nat)} (h : AccOK acc) : lenN acc ≤ 34 * acc.length := by
  induction acc with
  | nil => exact Nat.le_refl _
  | cons y r ih =>
    have h1 := (h y List.mem_cons_self).1.2.2.2.2
    have h2 := ih fun z hz => h z (List.mem_cons_of_mem _ hz)
    rw [lenN_cons, List.length_cons]; omega
theorem jmps_len (acc : List (It × Nat)) (p : Nat) : (jmps acc p).length ≤ acc.length := by
  induction acc generalizing p with
  | nil => exact Nat.le_refl _
  | cons y r ih =>
    have := ih (p + y.1.bs.length)
    rw [jmps, List.length_append, List.length_cons]
    split <;> simp only [List.length_nil, List.length_cons] <;> omega
section
variable {w0 w : World} {ks : List Nat} {ba bm : Nat} {acc : List (It × Nat)} {A J : Option Addr} {n c m d ln cnt : Nat} {zc zj : Seg} {es : Array MapEntry} {x : It}
theorem AsmS.close (hS : St w0 ks [[(ba, Cel (asmC A n c bm J m d) 120)], [(bm, .map es cnt)], zc, zj] w) (hn : n = lenN acc) (hO : OwnS zc A n c (byts (FB acc)) 5 1) (hm : m = (jmps acc 0).length) (hJ : OwnS zj J m d (jmpC (jmps acc 0)) 124 3) (hM : MapL es (labs acc 0)) : ∃ s', AsmS ba acc s' ∧ St w0 ks [s'] w := by
  subst hn; subst hm
  exact ⟨_, ⟨A, c, J, d, bm, es, cnt, zc, zj, rfl, hO, hJ, hM⟩, hS.flat (by simp)⟩
theorem one_len (x : It) (ln : Nat) : lenN [(x, ln)] = x.bs.length := by rw [lenN_cons]; rfl
theorem close_ins (ln : Nat) (hc : ¬ x.code < 0) (ht : x.tg = []) (hS : St w0 ks [[(ba, Cel (asmC A n c bm J m d) 120)], [(bm, .map es cnt)], zc, zj] w) (hn : n = lenN acc + x.bs.length) (hO : OwnS zc A n c (byts (FB acc ++ x.bs)) 5 1) (hm : m = (jmps acc 0).length) (hJ : OwnS zj J m d (jmpC (jmps acc 0)) 124 3) (hM : MapL es (labs acc 0)) : ∃ s', AsmS ba (acc ++ [(x, ln)]) s' ∧ St w0 ks [s'] w := by
  have e1 : jmps (acc ++ [(x, ln)]) 0 = jmps acc 0 := by rw [jmps_append]; simp [jmps, ht]
  have e2 : labs (acc ++ [(x, ln)]) 0 = labs acc 0 := by rw [labs_append]; simp [labs, hc]
  have e3 : FB (acc ++ [(x, ln)]) = FB acc ++ x.bs := by unfold FB; rw [flat_append]; simp [flat]
  exact AsmS.close hS (by rw [lenN_append, one_len, hn]) (by rw [e3]; exact hO) (by rw [e1]; exact hm) (by rw [e1]; exact hJ) (by rw [e2]; exact hM)
theorem close_jmp (ln : Nat) (hc : ¬ x.code < 0) (ht : ¬ x.tg = []) (hS : St w0 ks [[(ba, Cel (asmC A n c bm J m d) 120)], [(bm, .map es cnt)], zc, zj] w) (hn : n = lenN acc + x.bs.length) (hO : OwnS zc A n c (byts (FB acc ++ x.bs)) 5 1) (hm : m = (jmps acc 0).length + 1) (hJ : OwnS zj J m d (jmpC (jmps acc 0) ++ [.string (bstr x.tg), .int .i64 ((lenN acc : Nat) : Int), .int .i64 ((ln : Nat) : Int)]) 124 3) (hM : MapL es (labs acc 0)) : ∃ s', AsmS ba (acc ++ [(x, ln)]) s' ∧ St w0 ks [s'] w := by
  have e1 : jmps (acc ++ [(x, ln)]) 0 = jmps acc 0 ++ [(x.tg, lenN acc, ln)] := by rw [jmps_append, Nat.zero_add]; simp [jmps, ht]
  have e2 : labs (acc ++ [(x, ln)]) 0 = labs acc 0 := by rw [labs_append]; simp [labs, hc]
  have e3 : FB (acc ++ [(x, ln)]) = FB acc ++ x.bs := by unfold FB; rw [flat_append]; simp [flat]
  exact AsmS.close hS (by rw [lenN_append, one_len, hn]) (by rw [e3]; exact hO) (by rw [e1, List.length_append]; exact hm) (by rw [e1, jmpC_snoc]; exact hJ) (by rw [e2]; exact hM)
theorem close_lab (ln : Nat) (s : List Nat) (hS : St w0 ks [[(ba, Cel (asmC A n c bm J m d) 120)], [(bm, .map es cnt)], zc, zj] w) (hn : n = lenN acc) (hO : OwnS zc A n c (byts (FB acc)) 5 1) (hm : m = (jmps acc 0).length) (hJ : OwnS zj J m d (jmpC (jmps acc 0)) 124 3) (hM : MapL es (labs acc 0 ++ [(s, lenN acc)])) : ∃ s', AsmS ba (acc ++ [(⟨s, -1, [], []⟩, ln)]) s' ∧ St w0 ks [s'] w := by
  have e1 : jmps (acc ++ [((⟨s, -1, [], []⟩ : It), ln)]) 0 = jmps acc 0 := by rw [jmps_append]; simp [jmps]
  have e2 : labs (acc ++ [((⟨s, -1, [], []⟩ : It), ln)]) 0 = labs acc 0 ++ [(s, lenN acc)] := by rw [labs_append, Nat.zero_add]; simp [labs]
  have e3 : FB (acc ++ [((⟨s, -1, [], []⟩ : It), ln)]) = FB acc := by unfold FB; rw [flat_append]; simp [flat]
  exact AsmS.close hS (by rw [lenN_append, one_len, hn]; rfl) (by rw [e3]; exact hO) (by rw [e1]; exact hm) (by rw [e1]; exact hJ) (by rw [e2]; exact hM)
end
def LineR (ba : Nat) (acc : List (It × Nat)) (wl : List (List Nat)) (ln : Nat) (v : Value) (s' : Seg) : Prop :=
  (v = .bool false ∧ (undN wl = none ∨ ∃ x, undN wl = some x ∧ tw acc x = true)) ∨ (v = .bool true ∧ ∃ x, undN wl = some x ∧ tw acc x = false ∧ AsmS ba (acc ++ [(x, ln)]) s')
theorem line_bad {ba : Nat} {acc : List (It × Nat)} {wl : List (List Nat)} {ln : Nat} {v : Value} {s' : Seg} (hv : v = .bool false) (h : undN wl = none) : LineR ba acc wl ln v s' := .inl ⟨hv, .inl h⟩
theorem tw_ins {acc : List (It × Nat)} {x : It} (h : ¬ x.code < 0) : tw acc x = false := by unfold tw; rw [decide_eq_false h]; rfl
theorem line_ins {ba : Nat} {acc : List (It × Nat)} {wl : List (List Nat)} {ln : Nat} {v : Value} {s' : Seg} {x : It} (hv : v = .bool true) (h : undN wl = some x) (hc : ¬ x.code < 0) (ha : AsmS ba (acc ++ [(x, ln)]) s') : LineR ba acc wl ln v s' := .inr ⟨hv, x, h, tw_ins hc, ha⟩
theorem lab_tt {n : Nat} {W t : List Nat} (h1 : n = 1) (h2 : W.getLast? = some 58) (ht : t = W.dropLast) : okL t = decide (n = 1 ∧ (lblN W).2 = true) := by
  have := (lbl_isLab W).1
  unfold isLab at this
  rw [h2] at this
  simp only [decide_true, Bool.true_and] at this
  rw [this, ht]
  simp [h1]
theorem lab_f1 {n : Nat} {W : List Nat} (h1 : ¬ n = 1) : false = decide (n = 1 ∧ (lblN W).2 = true) := (decide_eq_false fun h => h1 h.1).symm
theorem lab_f2 {n : Nat} {W : List Nat} (h2 : ¬ W.getLast? = some 58) : false = decide (n = 1 ∧ (lblN W).2 = true) := (decide_eq_false fun h => by
  have := (lbl_isLab W).1
  unfold isLab at this
  rw [decide_eq_false h2] at this
  simp only [Bool.false_and, Bool.and_false] at this
  rw [this] at h; cases h.2).symm
theorem lab_str {W t : List Nat} (h : (lblN W).2 = true) (ht : W.getLast? = some 58 → t = W.dropLast) : t = (lblN W).1 := by
  have h1 := (lbl_isLab W).1
  rw [h] at h1
  rw [(lbl_isLab W).2 h1.symm]
  apply ht
  unfold isLab at h1
  simp only [decide_true, Bool.true_and] at h1
  by_cases h2 : W.getLast? = some 58
  · exact h2
  · rw [decide_eq_false h2] at h1; cases h1
theorem wb_toB (n : Nat) : wb n 32 = toB 32 n := by
  unfold wb toB by8
  apply List.map_congr_left
  intro q hq
  have := List.mem_range.1 hq
  rw [show 32 - 1 - q = 31 - q by omega]
theorem byts_drop (l : List Nat) (j : Nat) : byts (l.drop j) = (byts l).drop j := by simp [byts, List.map_drop]
theorem dslb_0 {l : List Nat} {j off : Nat} (h : j < l.length) (ho : off = 0) : ((byts l).drop j)[off]? = some (.int .u8 ((l.getD j 0 : Nat) : Int)) := by
  subst ho; simp [byts, h]
theorem slc_nextB {b j c : Nat} (h : 1 < 32 - j) (hc : 32 ≤ c) : Value.slice (if c - j = 1 then some ⟨b, j, none⟩ else (some ⟨b, j, none⟩ : Option Addr).map (·.add (1 * 1))) (32 - j - 1) (c - j - 1) = .slice (some ⟨b, j + 1, none⟩) (32 - (j + 1)) (c - (j + 1)) := by
  rw [if_neg (by omega), Nat.sub_sub, Nat.sub_sub]; rfl
theorem cmpN_gt {x y : Nat} : cmpN x y > 0 ↔ y < x := by
  unfold cmpN; split
  · omega
  split <;> omega
theorem most_c (c : Nat) : (c = 16 ∧ mostN c = 255) ∨ (¬ c = 16 ∧ mostN c = 15) := by unfold mostN; split <;> omega
theorem least_c (c : Nat) : (c = 5 ∧ leastN c = 1) ∨ (¬ c = 5 ∧ leastN c = 0) := by unfold leastN; split <;> omega
theorem dg_c (m : Nat) : 255 < m ∨ dg m 0 = m := by rw [dg0]; omega
theorem err_21 (b : List Nat) : Value.bool (decide (¬ ((if (prs b).isSome then 0 else 21 : Int) = 0))) = .bool (decide ((prs b).isSome = false)) := by cases (prs b).isSome <;> simp
theorem neq_has (p : Prop) [Decidable p] (q : Prop) [Decidable q] : Value.bool (decide (decide p ≠ decide q)) = .bool (decide (¬ (p ↔ q))) := by
  by_cases h1 : p <;> by_cases h2 : q <;> simp [h1, h2]
theorem okLto {b : List Nat} (h : okL b = true) : ¬ b = [] := by rintro rfl; exact absurd h (by decide)
end Go.Proofs.YtlapmbkfmbkdoaaGreatDoor
end
