/- Part 2 of what the row MachineAssembles needs, with no condition beyond each lemma's own. -/
import Derived.Test.YtlapmbkfmbkdoaaGreatDoorSc1
section
namespace Go.Proofs.YtlapmbkfmbkdoaaGreatDoor
open Go Go.Fw Go.RowKit
attribute [local irreducible] Go.Oper.wp Go.Code.wp Go.wpList Go.Fw.WL Go.Calls
theorem cAt_lt {xs : List Nat} (h : Byt xs) (i : Nat) : cAt xs i < 256 := byt_getD h i
theorem cb_at {xs : List Nat} {i off : Nat} (h : i < xs.length) (ho : off = i) : (byts xs)[off]? = some (.int .u8 ((cAt xs i : Nat) : Int)) := byts_at h ho
theorem cd_at {xs : List Nat} {q i off : Nat} (h : q + i < xs.length) (ho : off = i) : (byts (xs.drop q))[off]? = some (.int .u8 ((cAt xs (q + i) : Nat) : Int)) := by
  rw [byts_at (i := i) (by rw [List.length_drop]; omega) ho]
  simp [cAt, List.getD_eq_getElem?_getD]
theorem rd_dropB {w : World} {A : Option Addr} {l : List Nat} {c : Nat} (h : Rd w A (byts l)) (hc : l.length ≤ c) (k : Nat) : Rd w (if c = k then A else A.map (·.add (k * 1))) (byts (l.drop k)) := by
  by_cases e : c = k
  · rw [if_pos e, List.drop_eq_nil_of_le (by omega)]; exact Rd.nil _ _
  · rw [if_neg e]
    intro j v hj
    rw [show byts (l.drop k) = (byts l).drop k from by simp [byts, List.map_drop], List.getElem?_drop] at hj
    obtain ⟨a, rfl, h2⟩ := h _ _ hj
    exact ⟨_, rfl, by rw [add_add, Nat.mul_one]; exact h2⟩
theorem cd0_at {xs : List Nat} {q off : Nat} (h : q < xs.length) (ho : off = 0) : (byts (xs.drop q))[off]? = some (.int .u8 ((cAt xs q : Nat) : Int)) := cd_at (q := q) (i := 0) h ho
def operN (c : Nat) : Nat := if c = 2 then 1 else if c = 4 ∨ c = 5 ∨ c = 16 then 2 else if c = 14 ∨ c = 15 then 3 else 0
theorem operN_spec (c : Nat) : (operN c = 1 ↔ c = 2) ∧ (operN c = 2 ↔ c = 4 ∨ c = 5 ∨ c = 16) ∧ (operN c = 3 ↔ c = 14 ∨ c = 15) := by
  unfold operN
  split
  · omega
  split
  · omega
  split <;> omega
theorem size_i {xs : List Nat} {p : Nat} {z : Int} (h : z = (sizeN xs p : Nat)) : Value.int .i64 z = .int .i64 ((sizeN xs p : Nat) : Int) := by rw [← h]
theorem operandOf_calls (c : Nat) (w0 : World) : Ret Tryz.prog 36 [.int .i64 (c : Nat)] w0 [] (fun v s => v = .int .i64 ((operN c : Nat) : Int) ∧ s = []) := by
 refine fn_start Tryz.func36 Y Tryz.ntmps36 Y [(0, .int .i64 (c : Nat))] ⟨Y, trivial⟩ ?_
 intro Q a hP J hR hN
 have G := St.start w0
 refine wp_seq_k fun K1 hK1=> wp_region_lit <| av J Y Y fun a J=> s0 <| then_n (hK1 _ _ <| wp_seq_k fun K2 hK2=> wp_seq_k fun K3 hK3=> wp_region_lit <| mv J Y Y fun a J=> s0 <| then_n (hK3 _ _ <| wp_block <| wp_seq_k fun K4 hK4=> wp_region_lit <| eL J Y Y Y fun a J=> av J Y Y fun a J=> s0 <| then_n (hK4 _ _ <| cD J Y (fun c1=> ?_) (fun c1=> ?_))))
 ·refine wp_seq_k fun K5 hK5=> wp_region_lit <| av J Y Y fun a J=> s0 <| then_n (hK5 _ _ <| wp_ret (blk_r (then_r (hR _ _ _ _ _ J (run_results Tryz.results36 (.t J Y (.nil))) ?_))))
  exact ⟨_, [], Y, ⟨congrArg (Value.int .i64) (by unfold operN; (repeat' split) <;> omega), Y⟩, G.none⟩
 refine wp_seq_k fun K6 hK6=> wp_seq_k fun K7 hK7=> wp_region_lit <| eL J Y Y Y fun a J=> av J Y Y fun a J=> s0 <| then_n (hK7 _ _ <| cD J Y (fun c2=> ?_) (fun c2=> ?_))
 ·have J := J.nowT (t := 6) rfl c2
  refine wp_skip <| then_n (hK6 _ _ <| cT J Y <| wp_seq_k fun K8 hK8=> wp_region_lit <| av J Y Y fun a J=> s0 <| then_n (hK8 _ _ <| wp_ret (blk_r (then_r (hR _ _ _ _ _ J (run_results Tryz.results36 (.t J Y (.nil))) ?_)))))
  exact ⟨_, [], Y, ⟨congrArg (Value.int .i64) (by unfold operN; (repeat' split) <;> omega), Y⟩, G.none⟩
 have J := J.nowF (t := 6) rfl c2
 refine wp_seq_k fun K9 hK9=> wp_region_lit <| eL J Y Y Y fun a J=> av J Y Y fun a J=> s0 <| then_n (hK9 _ _ <| cD J Y (fun c4=> ?_) (fun c4=> ?_))
 ·have J := J.nowT (t := 6) rfl c4
  refine wp_skip <| then_n (hK6 _ _ <| cT J Y <| wp_seq_k fun K10 hK10=> wp_region_lit <| av J Y Y fun a J=> s0 <| then_n (hK10 _ _ <| wp_ret (blk_r (then_r (hR _ _ _ _ _ J (run_results Tryz.results36 (.t J Y (.nil))) ?_)))))
  exact ⟨_, [], Y, ⟨congrArg (Value.int .i64) (by unfold operN; (repeat' split) <;> omega), Y⟩, G.none⟩
 have J := J.nowF (t := 6) rfl c4
 refine wp_region_lit <| eL J Y Y Y fun a J=> av J Y Y fun a J=> s0 <| then_n (hK6 _ _ <| cD J Y (fun c6=> ?_) (fun c6=> ?_))
 ·have J := J.nowT (t := 6) rfl c6
  refine wp_seq_k fun K11 hK11=> wp_region_lit <| av J Y Y fun a J=> s0 <| then_n (hK11 _ _ <| wp_ret (blk_r (then_r (hR _ _ _ _ _ J (run_results Tryz.results36 (.t J Y (.nil))) ?_))))
  exact ⟨_, [], Y, ⟨congrArg (Value.int .i64) (by unfold operN; (repeat' split) <;> omega), Y⟩, G.none⟩
 have J := J.nowF (t := 6) rfl c6
 refine wp_seq_k fun K12 hK12=> wp_seq_k fun K13 hK13=> wp_region_lit <| eL J Y Y Y fun a J=> av J Y Y fun a J=> s0 <| then_n (hK13 _ _ <| cD J Y (fun c7=> ?_) (fun c7=> ?_))
 ·have J := J.nowT (t := 10) rfl c7
  refine wp_skip <| then_n (hK12 _ _ <| cT J Y <| wp_seq_k fun K14 hK14=> wp_region_lit <| av J Y Y fun a J=> s0 <| then_n (hK14 _ _ <| wp_ret (blk_r (then_r (hR _ _ _ _ _ J (run_results Tryz.results36 (.t J Y (.nil))) ?_)))))
  exact ⟨_, [], Y, ⟨congrArg (Value.int .i64) (by unfold operN; (repeat' split) <;> omega), Y⟩, G.none⟩
 have J := J.nowF (t := 10) rfl c7
 refine wp_region_lit <| eL J Y Y Y fun a J=> av J Y Y fun a J=> s0 <| then_n (hK12 _ _ <| cD J Y (fun c9=> ?_) (fun c9=> ?_))
 ·have J := J.nowT (t := 10) rfl c9
  refine wp_seq_k fun K15 hK15=> wp_region_lit <| av J Y Y fun a J=> s0 <| then_n (hK15 _ _ <| wp_ret (blk_r (then_r (hR _ _ _ _ _ J (run_results Tryz.results36 (.t J Y (.nil))) ?_))))
  exact ⟨_, [], Y, ⟨congrArg (Value.int .i64) (by unfold operN; (repeat' split) <;> omega), Y⟩, G.none⟩
 have J := J.nowF (t := 10) rfl c9
 refine wp_skip <| blk_n <| then_n (hK2 _ _ <| wp_seq_k fun K16 hK16=> wp_region_lit <| av J Y Y fun a J=> s0 <| then_n (hK16 _ _ <| wp_ret (hR _ _ _ _ _ J (run_results Tryz.results36 (.t J Y (.nil))) ?_)))
 exact ⟨_, [], Y, ⟨congrArg (Value.int .i64) (by unfold operN; (repeat' split) <;> omega), Y⟩, G.none⟩
set_option maxHeartbeats 4000000 in
theorem size_calls (A : Option Addr) (n c : Nat) (xs : List Nat) (p : Nat) (w0 : World) (hA : Rd w0 A (byts xs)) (hn : xs.length = n) (hnc : n ≤ c) (hc : c ≤ 9223372036854775807) (hB : Byt xs) (hp : p ≤ 4611686018427387904) : Ret Tryz.prog 31 [.slice A n c, .int .i64 ((p : Nat) : Int)] w0 [] (fun v s => v = .int .i64 ((sizeN xs p : Nat) : Int) ∧ s = []) := by
 refine fn_start Tryz.func31 Y Tryz.ntmps31 Y [(0, .slice A n c), (1, .int .i64 ((p : Nat) : Int))] ⟨Y, Y, trivial⟩ ?_
 intro Q a hP J hR hN
 have G := St.start w0
 have hop := operN_spec (cAt xs p); have hb1 := cAt_lt hB p; have hb2 := cAt_lt hB (p + 1)
 refine wp_seq_k fun K1 hK1=> wp_region_lit <| av J Y Y fun a J=> s0 <| then_n (hK1 _ _ <| wp_seq_k fun K2 hK2=> wp_seq_k fun K3 hK3=> ?_)
 have hK3' : ∀ a w, (Fr 96 [(0, .slice A n c), (1, .int .i64 ((p : Nat) : Int)), (17, .bool (decide (n ≤ p ∨ 28 ≤ cAt xs p)))] a ∧ St w0 [] [] w) → K3 a w := by
  rintro a w ⟨J, G⟩
  refine hK3 _ _ ?_
  refine cD J Y (fun c1=> ?_) (fun c1=> ?_)
  ·refine wp_seq_k fun K4 hK4=> wp_region_lit <| av J Y Y fun a J=> s0 <| then_n (hK4 _ _ <| wp_ret (then_r (hR _ _ _ _ _ J (run_results Tryz.results31 (.t J Y (.nil))) ?_)))
   exact ⟨_, [], Y, ⟨size_i (by unfold sizeN; (repeat' split) <;> omega), Y⟩, G.none⟩
  refine wp_skip <| then_n (hK2 _ _ <| wp_seq_k fun K5 hK5=> wp_region_lit <| av J Y Y fun a J=> s0 <| then_n (hK5 _ _ <| wp_seq_k fun K6 hK6=> wp_region_lit <| mv J Y Y fun a J=> mv J Y Y fun a J=> aI J Y Y Y (by omega) fun a J=> sw J Y Y Y (R.sliceLo (p := p + 1) Tryz.underlying22 (J.ev Y) ((J.ev Y).trans (congrArg (Value.int .i64) (by omega))) (by omega) sz5) fun a J=> av J Y Y fun a J=> s0 <| then_n (hK6 _ _ <| wp_seq_k fun K7 hK7=> wp_seq_k fun K8 hK8=> wp_region_lit <| mv J Y Y fun a J=> mv J Y Y fun a J=> sw J Y Y Y (R.indexO Tryz.underlying22 sz5 (J.ev Y) (Rd.ne hA (by rw [length_byts]; omega)) (J.ev Y) (by omega) (by omega)) fun a J=> sw J Y Y Y (R.loadO one5 (J.ev Y) (hA.old G) (cb_at (i := p) (by omega) (by omega))) fun a J=> sw J Y Y Y (R.convI Tryz.underlying5 Tryz.underlying3 (J.ev Y) (by omega)) fun a J=> ?_)))
  refine so (wn Y) (O.call Y Y J ent36 (J.evs Y) G (operandOf_calls (cAt xs p) _) fun v s27 a w hR J G=> ?_)
  obtain ⟨rfl, rfl⟩ := hR
  refine s0 <| then_n (hK8 _ _ <| wp_block <| wp_seq_k fun K9 hK9=> wp_region_lit <| eL J Y Y Y fun a J=> av J Y Y fun a J=> s0 <| then_n (hK9 _ _ <| cD J Y (fun c2=> ?_) (fun c2=> ?_)))
  ·refine wp_seq_k fun K10 hK10=> wp_seq_k fun K11 hK11=> ?_
   have hK11' : ∀ a w, (Fr 96 [(0, .slice A n c), (1, .int .i64 ((p : Nat) : Int)), (5, .int .i64 1), (6, .slice (if c = p + 1 then A else A.map (·.add ((p + 1) * 1))) (n - (p + 1)) (c - (p + 1))), (44, .bool (decide (n ≤ p + 1 ∨ cAt xs (p + 1) < 1 ∨ 32 < cAt xs (p + 1))))] a ∧ St w0 [] [] w ∧ (operN (cAt xs p) = 1)) → K11 a w := by
    rintro a w ⟨J, G, ho⟩
    refine hK11 _ _ ?_
    refine cD J Y (fun c3=> ?_) (fun c3=> ?_)
    ·refine wp_seq_k fun K12 hK12=> wp_region_lit <| av J Y Y fun a J=> s0 <| then_n (hK12 _ _ <| wp_ret (then_r (blk_r (then_r (hR _ _ _ _ _ J (run_results Tryz.results31 (.t J Y (.nil))) ?_)))))
     exact ⟨_, [], Y, ⟨size_i (by unfold sizeN; (repeat' split) <;> omega), Y⟩, G.none⟩
    refine wp_skip <| then_n (hK10 _ _ <| wp_region_lit <| mv J Y Y fun a J=> sw J Y Y Y (R.indexO Tryz.underlying22 sz5 (J.ev Y) (Rd.ne (rd_dropB (k := p + 1) hA (by omega)) (by rw [length_byts, List.length_drop]; omega)) (J.ev Y) (by omega) (by omega)) fun a J=> sw J Y Y Y (R.loadO one5 (J.ev Y) ((rd_dropB (k := p + 1) hA (by omega)).old G) (cd0_at (q := p + 1) (by omega) (by omega))) fun a J=> sw J Y Y Y (R.convI Tryz.underlying5 Tryz.underlying3 (J.ev Y) (by omega)) fun a J=> aI J Y Y Y (by omega) fun a J=> av J Y Y fun a J=> s0 <| blk_n <| then_n (hK7 _ _ <| wp_seq_k fun K13 hK13=> wp_seq_k fun K14 hK14=> wp_region_lit <| mv J Y Y fun a J=> mv J Y Y fun a J=> sw J Y Y Y (R.len Tryz.underlying22 (J.ev Y)) fun a J=> mv J Y Y fun a J=> sw J Y Y Y (R.subI (J.ev Y) (J.ev Y) (by omega)) fun a J=> sw J Y Y Y (R.gtr (J.ev Y) (J.ev Y)) fun a J=> s0 <| then_n (hK14 _ _ <| cD J Y (fun c4=> ?_) (fun c4=> ?_))))
    ·refine wp_seq_k fun K15 hK15=> wp_region_lit <| av J Y Y fun a J=> s0 <| then_n (hK15 _ _ <| wp_ret (then_r (hR _ _ _ _ _ J (run_results Tryz.results31 (.t J Y (.nil))) ?_)))
     exact ⟨_, [], Y, ⟨size_i (by unfold sizeN; (repeat' split) <;> omega), Y⟩, G.none⟩
    refine wp_skip <| then_n (hK13 _ _ <| wp_seq_k fun K16 hK16=> wp_region_lit <| mv J Y Y fun a J=> av J Y Y fun a J=> s0 <| then_n (hK16 _ _ <| wp_ret (hR _ _ _ _ _ J (run_results Tryz.results31 (.t J Y (.nil))) ?_)))
    exact ⟨_, [], Y, ⟨size_i (by unfold sizeN; (repeat' split) <;> omega), Y⟩, G.none⟩
   refine wp_region_lit <| mv J Y Y fun a J=> sw J Y Y Y (R.len Tryz.underlying22 (J.ev Y)) fun a J=> eL J Y Y Y fun a J=> mv J Y Y fun a J=> J.splitD (t := 33) Y (fun h33 J=> ?_) (fun h33 J=> ?_)
   ·refine kz J Y Y Y Y Y Y fun a J=> kz J Y Y Y Y Y Y fun a J=> kz J Y Y Y Y Y Y fun a J=> kz J Y Y Y Y Y Y fun a J=> pT J Y Y Y fun a J=> mv J Y Y fun a J=> kz J Y Y Y Y Y Y fun a J=> kz J Y Y Y Y Y Y fun a J=> kz J Y Y Y Y Y Y fun a J=> kz J Y Y Y Y Y Y fun a J=> pT J Y Y Y fun a J=> s0 ?_
    exact then_n (hK11' _ _ ⟨J.sub ⟨Y, Y, Y, Y, (congrArg (fun z => some (Value.bool z)) (by first | exact (decide_eq_true (by omega)).symm | exact (decide_eq_false (by omega)).symm | exact decide_eq_decide.2 (by omega))), trivial⟩, G.sel [] Y Y, by omega⟩)
   refine my J Y Y Y Y fun a J=> sv' J (wy J Y Y Y) Y Y (R.indexO Tryz.underlying22 sz5 (J.ev Y) (Rd.ne (rd_dropB (k := p + 1) hA (by omega)) (by rw [length_byts, List.length_drop]; omega)) (J.ev Y) (by omega) (by omega)) fun a J=> sv' J (wy J Y Y Y) Y Y (R.loadO one5 (J.ev Y) ((rd_dropB (k := p + 1) hA (by omega)).old G) (cd0_at (q := p + 1) (by omega) (by omega))) fun a J=> sv' J (wy J Y Y Y) Y Y (R.lss (J.ev Y) (J.ev Y)) fun a J=> pF J Y Y Y fun a J=> mv J Y Y fun a J=> J.splitD (t := 39) Y (fun h39 J=> ?_) (fun h39 J=> ?_)
   ·refine kz J Y Y Y Y Y Y fun a J=> kz J Y Y Y Y Y Y fun a J=> kz J Y Y Y Y Y Y fun a J=> kz J Y Y Y Y Y Y fun a J=> pT J Y Y Y fun a J=> s0 ?_
    exact then_n (hK11' _ _ ⟨J.sub ⟨Y, Y, Y, Y, (congrArg (fun z => some (Value.bool z)) (by first | exact (decide_eq_true (by omega)).symm | exact (decide_eq_false (by omega)).symm | exact decide_eq_decide.2 (by omega))), trivial⟩, G.sel [] Y Y, by omega⟩)
   refine my J Y Y Y Y fun a J=> sv' J (wy J Y Y Y) Y Y (R.indexO Tryz.underlying22 sz5 (J.ev Y) (Rd.ne (rd_dropB (k := p + 1) hA (by omega)) (by rw [length_byts, List.length_drop]; omega)) (J.ev Y) (by omega) (by omega)) fun a J=> sv' J (wy J Y Y Y) Y Y (R.loadO one5 (J.ev Y) ((rd_dropB (k := p + 1) hA (by omega)).old G) (cd0_at (q := p + 1) (by omega) (by omega))) fun a J=> sv' J (wy J Y Y Y) Y Y (R.gtr (J.ev Y) (J.ev Y)) fun a J=> pF J Y Y Y fun a J=> s0 ?_
   exact then_n (hK11' _ _ ⟨J.sub ⟨Y, Y, Y, Y, (congrArg (fun z => some (Value.bool z)) (by first | exact (decide_eq_true (by omega)).symm | exact (decide_eq_false (by omega)).symm | exact decide_eq_decide.2 (by omega))), trivial⟩, G.sel [] Y Y, by omega⟩)
  refine wp_seq_k fun K17 hK17=> wp_region_lit <| eL J Y Y Y fun a J=> av J Y Y fun a J=> s0 <| then_n (hK17 _ _ <| cD J Y (fun c5=> ?_) (fun c5=> ?_))
  ·refine wp_seq_k fun K18 hK18=> wp_seq_k fun K19 hK19=> ?_
   have hK19' : ∀ a w, (Fr 96 [(0, .slice A n c), (1, .int .i64 ((p : Nat) : Int)), (5, .int .i64 1), (6, .slice (if c = p + 1 then A else A.map (·.add ((p + 1) * 1))) (n - (p + 1)) (c - (p + 1))), (86, .bool (decide (p + 1 < n ∧ ((cAt xs p = 4 ∧ 15 < cAt xs (p + 1)) ∨ (cAt xs p = 5 ∧ (cAt xs (p + 1) < 1 ∨ 15 < cAt xs (p + 1)))))))] a ∧ St w0 [] [] w ∧ (operN (cAt xs p) = 2)) → K19 a w := by
    rintro a w ⟨J, G, ho⟩
    refine hK19 _ _ ?_
    refine cD J Y (fun c6=> ?_) (fun c6=> ?_)
    ·refine wp_seq_k fun K20 hK20=> wp_region_lit <| av J Y Y fun a J=> s0 <| then_n (hK20 _ _ <| wp_ret (then_r (blk_r (then_r (hR _ _ _ _ _ J (run_results Tryz.results31 (.t J Y (.nil))) ?_)))))
     exact ⟨_, [], Y, ⟨size_i (by unfold sizeN; (repeat' split) <;> omega), Y⟩, G.none⟩
    refine wp_skip <| then_n (hK18 _ _ <| wp_region_lit <| av J Y Y fun a J=> s0 <| blk_n <| then_n (hK7 _ _ <| wp_seq_k fun K21 hK21=> wp_seq_k fun K22 hK22=> wp_region_lit <| mv J Y Y fun a J=> mv J Y Y fun a J=> sw J Y Y Y (R.len Tryz.underlying22 (J.ev Y)) fun a J=> mv J Y Y fun a J=> sw J Y Y Y (R.subI (J.ev Y) (J.ev Y) (by omega)) fun a J=> sw J Y Y Y (R.gtr (J.ev Y) (J.ev Y)) fun a J=> s0 <| then_n (hK22 _ _ <| cD J Y (fun c7=> ?_) (fun c7=> ?_))))
    ·refine wp_seq_k fun K23 hK23=> wp_region_lit <| av J Y Y fun a J=> s0 <| then_n (hK23 _ _ <| wp_ret (then_r (hR _ _ _ _ _ J (run_results Tryz.results31 (.t J Y (.nil))) ?_)))
     exact ⟨_, [], Y, ⟨size_i (by unfold sizeN; (repeat' split) <;> omega), Y⟩, G.none⟩
    refine wp_skip <| then_n (hK21 _ _ <| wp_seq_k fun K24 hK24=> wp_region_lit <| mv J Y Y fun a J=> av J Y Y fun a J=> s0 <| then_n (hK24 _ _ <| wp_ret (hR _ _ _ _ _ J (run_results Tryz.results31 (.t J Y (.nil))) ?_)))
    exact ⟨_, [], Y, ⟨size_i (by unfold sizeN; (repeat' split) <;> omega), Y⟩, G.none⟩
   refine wp_region_lit <| mv J Y Y fun a J=> sw J Y Y Y (R.len Tryz.underlying22 (J.ev Y)) fun a J=> sw J Y Y Y (R.gtr (J.ev Y) (J.ev Y)) fun a J=> mv J Y Y fun a J=> J.splitD (t := 55) Y (fun h55 J=> ?_) (fun h55 J=> ?_)
   ·refine my J Y Y Y Y fun a J=> my J Y Y Y Y fun a J=> sv' J (wy J Y Y Y) Y Y (R.indexO Tryz.underlying22 sz5 (J.ev Y) (Rd.ne hA (by rw [length_byts]; omega)) (J.ev Y) (by omega) (by omega)) fun a J=> sv' J (wy J Y Y Y) Y Y (R.loadO one5 (J.ev Y) (hA.old G) (cb_at (i := p) (by omega) (by omega))) fun a J=> sv' J (wy J Y Y Y) Y Y (R.eql (J.ev Y) (J.ev Y)) fun a J=> my J Y Y Y Y fun a J=> J.splitD (t := 61) Y (fun h61 J=> ?_) (fun h61 J=> ?_)
    ·refine my J Y Y Y Y fun a J=> sv' J (wy J Y Y Y) Y Y (R.indexO Tryz.underlying22 sz5 (J.ev Y) (Rd.ne (rd_dropB (k := p + 1) hA (by omega)) (by rw [length_byts, List.length_drop]; omega)) (J.ev Y) (by omega) (by omega)) fun a J=> sv' J (wy J Y Y Y) Y Y (R.loadO one5 (J.ev Y) ((rd_dropB (k := p + 1) hA (by omega)).old G) (cd0_at (q := p + 1) (by omega) (by omega))) fun a J=> sv' J (wy J Y Y Y) Y Y (R.gtr (J.ev Y) (J.ev Y)) fun a J=> sv' J (wy J Y Y Y) Y Y (R.pickT (J.ev Y) (J.ev Y)) fun a J=> my J Y Y Y Y fun a J=> J.splitD (t := 67) Y (fun h67 J=> ?_) (fun h67 J=> ?_)
     ·refine kz J Y Y Y Y Y Y fun a J=> kz J Y Y Y Y Y Y fun a J=> kz J Y Y Y Y Y Y fun a J=> kz J Y Y Y Y Y Y fun a J=> kz J Y Y Y Y Y Y fun a J=> kz J Y Y Y Y Y Y fun a J=> ku J Y Y Y Y Y fun a J=> ku J Y Y Y Y Y fun a J=> ku J Y Y Y Y Y fun a J=> ku J Y Y Y Y Y fun a J=> ku J Y Y Y Y Y fun a J=> ku J Y Y Y Y Y fun a J=> ku J Y Y Y Y Y fun a J=> ku J Y Y Y Y Y fun a J=> ku J Y Y Y Y Y fun a J=> ku J Y Y Y Y Y fun a J=> kz J Y Y Y Y Y Y fun a J=> sv' J (wy J Y Y Y) Y Y (R.pickT (J.ev Y) (J.ev Y)) fun a J=> pT J Y Y Y fun a J=> s0 ?_
      exact then_n (hK19' _ _ ⟨J.sub ⟨Y, Y, Y, Y, (congrArg (fun z => some (Value.bool z)) (by first | exact (decide_eq_true (by omega)).symm | exact (decide_eq_false (by omega)).symm | exact decide_eq_decide.2 (by omega))), trivial⟩, G.sel [] Y Y, by omega⟩)
     refine my J Y Y Y Y fun a J=> my J Y Y Y Y fun a J=> sv' J (wy J Y Y Y) Y Y (R.indexO Tryz.underlying22 sz5 (J.ev Y) (Rd.ne hA (by rw [length_byts]; omega)) (J.ev Y) (by omega) (by omega)) fun a J=> sv' J (wy J Y Y Y) Y Y (R.loadO one5 (J.ev Y) (hA.old G) (cb_at (i := p) (by omega) (by omega))) fun a J=> sv' J (wy J Y Y Y) Y Y (R.eql (J.ev Y) (J.ev Y)) fun a J=> my J Y Y Y Y fun a J=> J.splitD (t := 73) Y (fun h73 J=> ?_) (fun h73 J=> ?_)
     ·refine my J Y Y Y Y fun a J=> sv' J (wy J Y Y Y) Y Y (R.indexO Tryz.underlying22 sz5 (J.ev Y) (Rd.ne (rd_dropB (k := p + 1) hA (by omega)) (by rw [length_byts, List.length_drop]; omega)) (J.ev Y) (by omega) (by omega)) fun a J=> sv' J (wy J Y Y Y) Y Y (R.loadO one5 (J.ev Y) ((rd_dropB (k := p + 1) hA (by omega)).old G) (cd0_at (q := p + 1) (by omega) (by omega))) fun a J=> sv' J (wy J Y Y Y) Y Y (R.lss (J.ev Y) (J.ev Y)) fun a J=> my J Y Y Y Y fun a J=> J.splitD (t := 78) Y (fun h78 J=> ?_) (fun h78 J=> ?_)
      ·refine kz J Y Y Y Y Y Y fun a J=> kz J Y Y Y Y Y Y fun a J=> kz J Y Y Y Y Y Y fun a J=> kz J Y Y Y Y Y Y fun a J=> sv' J (wy J Y Y Y) Y Y (R.pickT (J.ev Y) (J.ev Y)) fun a J=> sv' J (wy J Y Y Y) Y Y (R.pickT (J.ev Y) (J.ev Y)) fun a J=> sv' J (wy J Y Y Y) Y Y (R.pickF (J.ev Y) (J.ev Y)) fun a J=> pT J Y Y Y fun a J=> s0 ?_
       exact then_n (hK19' _ _ ⟨J.sub ⟨Y, Y, Y, Y, (congrArg (fun z => some (Value.bool z)) (by first | exact (decide_eq_true (by omega)).symm | exact (decide_eq_false (by omega)).symm | exact decide_eq_decide.2 (by omega))), trivial⟩, G.sel [] Y Y, by omega⟩)
      refine my J Y Y Y Y fun a J=> sv' J (wy J Y Y Y) Y Y (R.indexO Tryz.underlying22 sz5 (J.ev Y) (Rd.ne (rd_dropB (k := p + 1) hA (by omega)) (by rw [length_byts, List.length_drop]; omega)) (J.ev Y) (by omega) (by omega)) fun a J=> sv' J (wy J Y Y Y) Y Y (R.loadO one5 (J.ev Y) ((rd_dropB (k := p + 1) hA (by omega)).old G) (cd0_at (q := p + 1) (by omega) (by omega))) fun a J=> sv' J (wy J Y Y Y) Y Y (R.gtr (J.ev Y) (J.ev Y)) fun a J=> sv' J (wy J Y Y Y) Y Y (R.pickF (J.ev Y) (J.ev Y)) fun a J=> sv' J (wy J Y Y Y) Y Y (R.pickT (J.ev Y) (J.ev Y)) fun a J=> sv' J (wy J Y Y Y) Y Y (R.pickF (J.ev Y) (J.ev Y)) fun a J=> pT J Y Y Y fun a J=> s0 ?_
      exact then_n (hK19' _ _ ⟨J.sub ⟨Y, Y, Y, Y, (congrArg (fun z => some (Value.bool z)) (by first | exact (decide_eq_true (by omega)).symm | exact (decide_eq_false (by omega)).symm | exact decide_eq_decide.2 (by omega))), trivial⟩, G.sel [] Y Y, by omega⟩)
     refine kz J Y Y Y Y Y Y fun a J=> kz J Y Y Y Y Y Y fun a J=> kz J Y Y Y Y Y Y fun a J=> kz J Y Y Y Y Y Y fun a J=> kz J Y Y Y Y Y Y fun a J=> ku J Y Y Y Y Y fun a J=> ku J Y Y Y Y Y fun a J=> ku J Y Y Y Y Y fun a J=> ku J Y Y Y Y Y fun a J=> kz J Y Y Y Y Y Y fun a J=> sv' J (wy J Y Y Y) Y Y (R.pickF (J.ev Y) (J.ev Y)) fun a J=> sv' J (wy J Y Y Y) Y Y (R.pickF (J.ev Y) (J.ev Y)) fun a J=> pT J Y Y Y fun a J=> s0 ?_
     exact then_n (hK19' _ _ ⟨J.sub ⟨Y, Y, Y, Y, (congrArg (fun z => some (Value.bool z)) (by first | exact (decide_eq_true (by omega)).symm | exact (decide_eq_false (by omega)).symm | exact decide_eq_decide.2 (by omega))), trivial⟩, G.sel [] Y Y, by omega⟩)
    refine kz J Y Y Y Y Y Y fun a J=> kz J Y Y Y Y Y Y fun a J=> kz J Y Y Y Y Y Y fun a J=> kz J Y Y Y Y Y Y fun a J=> sv' J (wy J Y Y Y) Y Y (R.pickF (J.ev Y) (J.ev Y)) fun a J=> my J Y Y Y Y fun a J=> my J Y Y Y Y fun a J=> my J Y Y Y Y fun a J=> sv' J (wy J Y Y Y) Y Y (R.indexO Tryz.underlying22 sz5 (J.ev Y) (Rd.ne hA (by rw [length_byts]; omega)) (J.ev Y) (by omega) (by omega)) fun a J=> sv' J (wy J Y Y Y) Y Y (R.loadO one5 (J.ev Y) (hA.old G) (cb_at (i := p) (by omega) (by omega))) fun a J=> sv' J (wy J Y Y Y) Y Y (R.eql (J.ev Y) (J.ev Y)) fun a J=> my J Y Y Y Y fun a J=> J.splitD (t := 73) Y (fun h73 J=> ?_) (fun h73 J=> ?_)
    ·refine my J Y Y Y Y fun a J=> sv' J (wy J Y Y Y) Y Y (R.indexO Tryz.underlying22 sz5 (J.ev Y) (Rd.ne (rd_dropB (k := p + 1) hA (by omega)) (by rw [length_byts, List.length_drop]; omega)) (J.ev Y) (by omega) (by omega)) fun a J=> sv' J (wy J Y Y Y) Y Y (R.loadO one5 (J.ev Y) ((rd_dropB (k := p + 1) hA (by omega)).old G) (cd0_at (q := p + 1) (by omega) (by omega))) fun a J=> sv' J (wy J Y Y Y) Y Y (R.lss (J.ev Y) (J.ev Y)) fun a J=> my J Y Y Y Y fun a J=> J.splitD (t := 78) Y (fun h78 J=> ?_) (fun h78 J=> ?_)
     ·refine kz J Y Y Y Y Y Y fun a J=> kz J Y Y Y Y Y Y fun a J=> kz J Y Y Y Y Y Y fun a J=> kz J Y Y Y Y Y Y fun a J=> sv' J (wy J Y Y Y) Y Y (R.pickT (J.ev Y) (J.ev Y)) fun a J=> sv' J (wy J Y Y Y) Y Y (R.pickT (J.ev Y) (J.ev Y)) fun a J=> sv' J (wy J Y Y Y) Y Y (R.pickF (J.ev Y) (J.ev Y)) fun a J=> pT J Y Y Y fun a J=> s0 ?_
      exact then_n (hK19' _ _ ⟨J.sub ⟨Y, Y, Y, Y, (congrArg (fun z => some (Value.bool z)) (by first | exact (decide_eq_true (by omega)).symm | exact (decide_eq_false (by omega)).symm | exact decide_eq_decide.2 (by omega))), trivial⟩, G.sel [] Y Y, by omega⟩)
     refine my J Y Y Y Y fun a J=> sv' J (wy J Y Y Y) Y Y (R.indexO Tryz.underlying22 sz5 (J.ev Y) (Rd.ne (rd_dropB (k := p + 1) hA (by omega)) (by rw [length_byts, List.length_drop]; omega)) (J.ev Y) (by omega) (by omega)) fun a J=> sv' J (wy J Y Y Y) Y Y (R.loadO one5 (J.ev Y) ((rd_dropB (k := p + 1) hA (by omega)).old G) (cd0_at (q := p + 1) (by omega) (by omega))) fun a J=> sv' J (wy J Y Y Y) Y Y (R.gtr (J.ev Y) (J.ev Y)) fun a J=> sv' J (wy J Y Y Y) Y Y (R.pickF (J.ev Y) (J.ev Y)) fun a J=> sv' J (wy J Y Y Y) Y Y (R.pickT (J.ev Y) (J.ev Y)) fun a J=> sv' J (wy J Y Y Y) Y Y (R.pickF (J.ev Y) (J.ev Y)) fun a J=> pT J Y Y Y fun a J=> s0 ?_
     exact then_n (hK19' _ _ ⟨J.sub ⟨Y, Y, Y, Y, (congrArg (fun z => some (Value.bool z)) (by first | exact (decide_eq_true (by omega)).symm | exact (decide_eq_false (by omega)).symm | exact decide_eq_decide.2 (by omega))), trivial⟩, G.sel [] Y Y, by omega⟩)
    refine kz J Y Y Y Y Y Y fun a J=> kz J Y Y Y Y Y Y fun a J=> kz J Y Y Y Y Y Y fun a J=> kz J Y Y Y Y Y Y fun a J=> kz J Y Y Y Y Y Y fun a J=> ku J Y Y Y Y Y fun a J=> ku J Y Y Y Y Y fun a J=> ku J Y Y Y Y Y fun a J=> ku J Y Y Y Y Y fun a J=> kz J Y Y Y Y Y Y fun a J=> sv' J (wy J Y Y Y) Y Y (R.pickF (J.ev Y) (J.ev Y)) fun a J=> sv' J (wy J Y Y Y) Y Y (R.pickF (J.ev Y) (J.ev Y)) fun a J=> pT J Y Y Y fun a J=> s0 ?_
    exact then_n (hK19' _ _ ⟨J.sub ⟨Y, Y, Y, Y, (congrArg (fun z => some (Value.bool z)) (by first | exact (decide_eq_true (by omega)).symm | exact (decide_eq_false (by omega)).symm | exact decide_eq_decide.2 (by omega))), trivial⟩, G.sel [] Y Y, by omega⟩)
   refine kz J Y Y Y Y Y Y fun a J=> kz J Y Y Y Y Y Y fun a J=> kz J Y Y Y Y Y Y fun a J=> kz J Y Y Y Y Y Y fun a J=> kz J Y Y Y Y Y Y fun a J=> kz J Y Y Y Y Y Y fun a J=> ku J Y Y Y Y Y fun a J=> ku J Y Y Y Y Y fun a J=> ku J Y Y Y Y Y fun a J=> ku J Y Y Y Y Y fun a J=> kz J Y Y Y Y Y Y fun a J=> kz J Y Y Y Y Y Y fun a J=> ku J Y Y Y Y Y fun a J=> ku J Y Y Y Y Y fun a J=> ku J Y Y Y Y Y fun a J=> ku J Y Y Y Y Y fun a J=> ku J Y Y Y Y Y fun a J=> ku J Y Y Y Y Y fun a J=> ku J Y Y Y Y Y fun a J=> ku J Y Y Y Y Y fun a J=> ku J Y Y Y Y Y fun a J=> ku J Y Y Y Y Y fun a J=> ku J Y Y Y Y Y fun a J=> ku J Y Y Y Y Y fun a J=> ?_
   refine ku J Y Y Y Y Y fun a J=> ku J Y Y Y Y Y fun a J=> ku J Y Y Y Y Y fun a J=> ku J Y Y Y Y Y fun a J=> ku J Y Y Y Y Y fun a J=> kz J Y Y Y Y Y Y fun a J=> pF J Y Y Y fun a J=> s0 ?_
   exact then_n (hK19' _ _ ⟨J.sub ⟨Y, Y, Y, Y, (congrArg (fun z => some (Value.bool z)) (by first | exact (decide_eq_true (by omega)).symm | exact (decide_eq_false (by omega)).symm | exact decide_eq_decide.2 (by omega))), trivial⟩, G.sel [] Y Y, by omega⟩)
  refine wp_seq_k fun K25 hK25=> wp_region_lit <| eL J Y Y Y fun a J=> av J Y Y fun a J=> s0 <| then_n (hK25 _ _ <| cD J Y (fun c8=> ?_) (fun c8=> ?_))
  ·refine wp_region_lit <| av J Y Y fun a J=> s0 <| blk_n <| then_n (hK7 _ _ <| wp_seq_k fun K26 hK26=> wp_seq_k fun K27 hK27=> wp_region_lit <| mv J Y Y fun a J=> mv J Y Y fun a J=> sw J Y Y Y (R.len Tryz.underlying22 (J.ev Y)) fun a J=> mv J Y Y fun a J=> sw J Y Y Y (R.subI (J.ev Y) (J.ev Y) (by omega)) fun a J=> sw J Y Y Y (R.gtr (J.ev Y) (J.ev Y)) fun a J=> s0 <| then_n (hK27 _ _ <| cD J Y (fun c9=> ?_) (fun c9=> ?_)))
   ·refine wp_seq_k fun K28 hK28=> wp_region_lit <| av J Y Y fun a J=> s0 <| then_n (hK28 _ _ <| wp_ret (then_r (hR _ _ _ _ _ J (run_results Tryz.results31 (.t J Y (.nil))) ?_)))
    exact ⟨_, [], Y, ⟨size_i (by unfold sizeN; (repeat' split) <;> omega), Y⟩, G.none⟩
   refine wp_skip <| then_n (hK26 _ _ <| wp_seq_k fun K29 hK29=> wp_region_lit <| mv J Y Y fun a J=> av J Y Y fun a J=> s0 <| then_n (hK29 _ _ <| wp_ret (hR _ _ _ _ _ J (run_results Tryz.results31 (.t J Y (.nil))) ?_)))
   exact ⟨_, [], Y, ⟨size_i (by unfold sizeN; (repeat' split) <;> omega), Y⟩, G.none⟩
  refine wp_skip <| blk_n <| then_n (hK7 _ _ <| wp_seq_k fun K30 hK30=> wp_seq_k fun K31 hK31=> wp_region_lit <| mv J Y Y fun a J=> mv J Y Y fun a J=> sw J Y Y Y (R.len Tryz.underlying22 (J.ev Y)) fun a J=> mv J Y Y fun a J=> sw J Y Y Y (R.subI (J.ev Y) (J.ev Y) (by omega)) fun a J=> sw J Y Y Y (R.gtr (J.ev Y) (J.ev Y)) fun a J=> s0 <| then_n (hK31 _ _ <| cD J Y (fun c10=> ?_) (fun c10=> ?_)))
  ·refine wp_seq_k fun K32 hK32=> wp_region_lit <| av J Y Y fun a J=> s0 <| then_n (hK32 _ _ <| wp_ret (then_r (hR _ _ _ _ _ J (run_results Tryz.results31 (.t J Y (.nil))) ?_)))
   exact ⟨_, [], Y, ⟨size_i (by unfold sizeN; (repeat' split) <;> omega), Y⟩, G.none⟩
  refine wp_skip <| then_n (hK30 _ _ <| wp_seq_k fun K33 hK33=> wp_region_lit <| mv J Y Y fun a J=> av J Y Y fun a J=> s0 <| then_n (hK33 _ _ <| wp_ret (hR _ _ _ _ _ J (run_results Tryz.results31 (.t J Y (.nil))) ?_)))
  exact ⟨_, [], Y, ⟨size_i (by unfold sizeN; (repeat' split) <;> omega), Y⟩, G.none⟩
 refine wp_region_lit <| mv J Y Y fun a J=> mv J Y Y fun a J=> sw J Y Y Y (R.len Tryz.underlying22 (J.ev Y)) fun a J=> sw J Y Y Y (R.geq (J.ev Y) (J.ev Y)) fun a J=> mv J Y Y fun a J=> J.splitD (t := 11) Y (fun h11 J=> ?_) (fun h11 J=> ?_)
 ·refine kz J Y Y Y Y Y Y fun a J=> kz J Y Y Y Y Y Y fun a J=> kz J Y Y Y Y Y Y fun a J=> kz J Y Y Y Y Y Y fun a J=> kz J Y Y Y Y Y Y fun a J=> pT J Y Y Y fun a J=> s0 ?_
  exact then_n (hK3' _ _ ⟨J.sub ⟨Y, Y, (congrArg (fun z => some (Value.bool z)) (by first | exact (decide_eq_true (by omega)).symm | exact (decide_eq_false (by omega)).symm | exact decide_eq_decide.2 (by omega))), trivial⟩, G.sel [] Y Y⟩)
 refine my J Y Y Y Y fun a J=> my J Y Y Y Y fun a J=> sv' J (wy J Y Y Y) Y Y (R.indexO Tryz.underlying22 sz5 (J.ev Y) (Rd.ne hA (by rw [length_byts]; omega)) (J.ev Y) (by omega) (by omega)) fun a J=> sv' J (wy J Y Y Y) Y Y (R.loadO one5 (J.ev Y) (hA.old G) (cb_at (i := p) (by omega) (by omega))) fun a J=> sv' J (wy J Y Y Y) Y Y (R.geq (J.ev Y) (J.ev Y)) fun a J=> pF J Y Y Y fun a J=> s0 ?_
 exact then_n (hK3' _ _ ⟨J.sub ⟨Y, Y, (congrArg (fun z => some (Value.bool z)) (by first | exact (decide_eq_true (by omega)).symm | exact (decide_eq_false (by omega)).symm | exact decide_eq_decide.2 (by omega))), trivial⟩, G.sel [] Y Y⟩)
end Go.Proofs.YtlapmbkfmbkdoaaGreatDoor
end
section
namespace Go.Fw
open Go.RowKit
section
variable {P : Program} {w : World} {ρ : Operand → Value} {dst : Option Tmp} {ty : TypeId} {pos : String} {af : Array Edge} {g : Option (Nat × Bool)} {x y : Operand} {T T' : TypeId}
theorem i64_or_nat (a b : Nat) (ha : a < 9223372036854775808) (hb : b < 9223372036854775808) : bits .or .i64 (a : Int) (b : Int) = ((a ||| b : Nat) : Int) := by
  have hx : a ||| b < 2 ^ 63 := Nat.or_lt_two_pow (by omega) (by omega)
  show IntKind.i64.wrap ((BitVec.ofInt 64 (a : Int) ||| BitVec.ofInt 64 (b : Int)).toNat : Int) = _
  rw [BitVec.toNat_or, ofInt_u64 a (by omega), ofInt_u64 b (by omega), IntWalk.i64_in _ (by omega)]
theorem R.orI {p q : Nat} (hx : ρ x = .int .i64 p) (hy : ρ y = .int .i64 q) (hp : p < 9223372036854775808) (hq : q < 9223372036854775808) :
    (execOp ρ ⟨dst, .binOp .or T x y T', ty, pos, af, g⟩).run P w = .ok (.value (.int .i64 ((p ||| q : Nat) : Int))) w := R.as (R.or hx hy) (by rw [i64_or_nat p q hp hq])
theorem R.shlI {yk : IntKind} {p m : Nat} (hx : ρ x = .int .i64 p) (hy : ρ y = .int yk m) (hm : m ≤ 64) (hr : p * 2 ^ m < 9223372036854775808) :
    (execOp ρ ⟨dst, .binOp .shl T x y T', ty, pos, af, g⟩).run P w = .ok (.value (.int .i64 ((p * 2 ^ m : Nat) : Int))) w :=
  R.as (R.shift (.inl rfl) hx hy (by
    simp only [Op.shift]
    rw [if_neg (by omega)]
    rfl)) (by
    have : min (Int.toNat (m : Int)) (IntKind.bits .i64) = m := by simp [IntKind.bits]; omega
    rw [this, IntWalk.i64_in _ (by
      have e : ((p : Int) * 2 ^ m) = ((p * 2 ^ m : Nat) : Int) := by simp
      rw [e]; omega)]
    congr 1)
end
end Go.Fw
end
section
namespace Go.Proofs.YtlapmbkfmbkdoaaGreatDoor
open Go Go.Fw Go.RowKit
attribute [local irreducible] Go.Oper.wp Go.Code.wp Go.wpList Go.Fw.WL Go.Calls
theorem plcs_mem {xs : List Nat} : ∀ (f p : Nat) (l : List Nat), plc xs f p = some l → ∀ q ∈ l, q < xs.length ∧ sizeN xs q ≠ 0
  | 0, _, _, h => by simp [plc] at h
  | f + 1, p, l, h => by
    simp only [plc] at h
    split at h
    · simp at h; subst h; simp
    split at h
    · simp at h
    · cases hr : plc xs f (p + sizeN xs p) with
      | none => rw [hr] at h; simp at h
      | some r =>
        rw [hr] at h
        simp only [Option.map_some, Option.some.injEq] at h
        subst h
        intro q hq
        rcases List.mem_cons.1 hq with rfl | hq
        · exact ⟨by omega, by assumption⟩
        · exact plcs_mem f _ r hr q hq
theorem places_mem {xs l : List Nat} (h : placesN xs = some l) : ∀ q ∈ l, q < xs.length ∧ sizeN xs q ≠ 0 := plcs_mem _ _ _ h
theorem jump_size {xs : List Nat} {p : Nat} (h : p < xs.length) (hs : sizeN xs p ≠ 0) (hj : isJump xs p = true) : p + 3 ≤ xs.length := by
  have h1 := (sizeN_le xs p).resolve_left hs
  have hj : cAt xs p = 14 ∨ cAt xs p = 15 := by simpa [isJump] using hj
  have : sizeN xs p = 3 := by
    revert hs; unfold sizeN
    repeat' split
    all_goals omega
  omega
theorem targetN_lt {xs : List Nat} (h : Byt xs) (p : Nat) : targetN xs p < 65536 := by
  have h1 := cAt_lt h (p + 1); have h2 := cAt_lt h (p + 2)
  unfold targetN; omega
def RetP (xs : List Nat) (v : Value) (s : Seg) : Prop := match placesN xs with
  | none => v = .tuple #[.slice none 0 0, .bool false] ∧ s = []
  | some l => ∃ A c, v = .tuple #[.slice A l.length c, .bool true] ∧ OwnS s A l.length c (ints l) 3 1
theorem RetP.none {xs : List Nat} (h : placesN xs = none) : RetP xs (.tuple #[.slice none 0 0, .bool false]) [] := by simp [RetP, h]
theorem RetP.some {xs l : List Nat} {A : Option Addr} {c : Nat} {s : Seg} (h : placesN xs = some l) (ho : OwnS s A l.length c (ints l) 3 1) : RetP xs (.tuple #[.slice A l.length c, .bool true]) s := by simp only [RetP, h]; exact ⟨A, c, rfl, ho⟩
theorem own_isnoc {s : Seg} {A : Option Addr} {c x : Nat} {b : List Nat} (h : OwnS s A (b.length + 1) c (ints b ++ [.int .i64 ((x : Nat) : Int)]) 3 1) : OwnS s A (b ++ [x]).length c (ints (b ++ [x])) 3 1 := by
  rw [List.length_append, List.length_singleton]
  simpa [ints] using h
theorem take_nohas {l : List Nat} {i x : Nat} (h : i < l.length) (hl : (l.take i).contains x = false) (h2 : ¬ ((l.getD i 0 : Nat) : Int) = (x : Int)) : (l.take (i + 1)).contains x = false := by
  rw [List.take_succ_eq_append_getElem h]
  rw [List.getD_eq_getElem?_getD, List.getElem?_eq_getElem h, Option.getD_some] at h2
  simp only [List.contains_eq_mem, List.mem_append, List.mem_singleton, decide_eq_false_iff_not] at hl ⊢
  rintro (h3 | h3)
  · exact hl h3
  · exact h2 (by omega)
theorem take_has {l : List Nat} {i x : Nat} (h : i < l.length) (h2 : ((l.getD i 0 : Nat) : Int) = (x : Int)) : l.contains x = true := by
  rw [List.getD_eq_getElem?_getD, List.getElem?_eq_getElem h, Option.getD_some] at h2
  have : l[i] = x := by omega
  simp only [List.contains_eq_mem, decide_eq_true_eq]
  exact this ▸ List.getElem_mem h
theorem ints_get {l : List Nat} {i off : Nat} (h : i < l.length) (ho : off = i) : (ints l)[off]? = some (.int .i64 ((l.getD i 0 : Nat) : Int)) := by
  subst ho; simp [ints, h, List.getD_eq_getElem?_getD]
theorem or8_as {xs : List Nat} {p : Nat} (h2 : cAt xs (p + 2) < 256) : cAt xs (p + 1) * 2 ^ 8 ||| cAt xs (p + 2) = targetN xs p := by
  rw [Nat.mul_comm, ← Nat.two_pow_add_eq_or_of_lt (i := 8) h2, Nat.mul_comm]; rfl
set_option maxHeartbeats 4000000 in
theorem rsize_calls (A : Option Addr) (n c : Nat) (xs : List Nat) (p : Nat) (w0 : World) (hA : Rd w0 A (byts xs)) (hn : xs.length = n) (hnc : n ≤ c) (hc : c ≤ 9223372036854775807) (hB : Byt xs) (hp : p ≤ 4611686018427387904) : Ret Tryz.prog 40 [.slice A n c, .int .i64 ((p : Nat) : Int)] w0 [] (fun v s => v = .int .i64 ((sizeN xs p : Nat) : Int) ∧ s = []) := by
 refine fn_start Tryz.func40 Y Tryz.ntmps40 Y [(0, .slice A n c), (1, .int .i64 ((p : Nat) : Int))] ⟨Y, Y, trivial⟩ ?_
 intro Q a hP J hR hN
 have G := St.start w0
 have hb1 := cAt_lt hB p; have hb2 := cAt_lt hB (p + 1)
 refine wp_seq_k fun K1 hK1=> wp_region_lit <| av J Y Y fun a J=> s0 <| then_n (hK1 _ _ <| wp_seq_k fun K2 hK2=> wp_seq_k fun K3 hK3=> ?_)
 have hK3' : ∀ a w, (Fr 118 [(0, .slice A n c), (1, .int .i64 ((p : Nat) : Int)), (22, .bool (decide (n ≤ p ∨ 28 ≤ cAt xs p)))] a ∧ St w0 [] [] w) → K3 a w := by
  rintro a w ⟨J, G⟩
  refine hK3 _ _ ?_
  refine cD J Y (fun c1=> ?_) (fun c1=> ?_)
  ·refine wp_seq_k fun K4 hK4=> wp_region_lit <| av J Y Y fun a J=> s0 <| then_n (hK4 _ _ <| wp_ret (then_r (hR _ _ _ _ _ J (run_results Tryz.results40 (.t J Y (.nil))) ?_)))
   exact ⟨_, [], Y, ⟨size_i (by unfold sizeN; (repeat' split) <;> omega), Y⟩, G.none⟩
  refine wp_skip <| then_n (hK2 _ _ <| wp_seq_k fun K5 hK5=> wp_region_lit <| mv J Y Y fun a J=> mv J Y Y fun a J=> sw J Y Y Y (R.indexO Tryz.underlying22 sz5 (J.ev Y) (Rd.ne hA (by rw [length_byts]; omega)) (J.ev Y) (by omega) (by omega)) fun a J=> sw J Y Y Y (R.loadO one5 (J.ev Y) (hA.old G) (cb_at (i := p) (by omega) (by omega))) fun a J=> sw J Y Y Y (R.convI Tryz.underlying5 Tryz.underlying3 (J.ev Y) (by omega)) fun a J=> av J Y Y fun a J=> s0 <| then_n (hK5 _ _ <| wp_seq_k fun K6 hK6=> wp_region_lit <| av J Y Y fun a J=> s0 <| then_n (hK6 _ _ <| wp_seq_k fun K7 hK7=> ?_)))
  have hK7' : ∀ a w, (∃ (m : Nat), Fr 118 [(0, .slice A n c), (1, .int .i64 ((p : Nat) : Int)), (5, .int .i64 ((cAt xs p : Nat) : Int)), (6, .int .i64 ((m : Nat) : Int))] a ∧ St w0 [] [] w ∧ ((cAt xs p = 2 ∧ ¬ (n ≤ p + 1 ∨ cAt xs (p + 1) < 1 ∨ 32 < cAt xs (p + 1)) ∧ m = 2 + cAt xs (p + 1)) ∨ (cAt xs p ≠ 2 ∧ m = 1))) → K7 a w := by
   rintro a w ⟨m, J, G, hf⟩
   refine hK7 _ _ ?_
   refine wp_seq_k fun K8 hK8=> ?_
   have hK8' : ∀ a w, (∃ (m : Nat), Fr 118 [(0, .slice A n c), (1, .int .i64 ((p : Nat) : Int)), (5, .int .i64 ((cAt xs p : Nat) : Int)), (6, .int .i64 ((m : Nat) : Int))] a ∧ St w0 [] [] w ∧ ((cAt xs p = 2 ∧ ¬ (n ≤ p + 1 ∨ cAt xs (p + 1) < 1 ∨ 32 < cAt xs (p + 1)) ∧ m = 2 + cAt xs (p + 1)) ∨ ((cAt xs p = 4 ∨ cAt xs p = 5 ∨ cAt xs p = 16) ∧ ¬ (p + 1 < n ∧ ((cAt xs p = 4 ∧ 15 < cAt xs (p + 1)) ∨ (cAt xs p = 5 ∧ (cAt xs (p + 1) < 1 ∨ 15 < cAt xs (p + 1))))) ∧ m = 2) ∨ (cAt xs p ≠ 2 ∧ cAt xs p ≠ 4 ∧ cAt xs p ≠ 5 ∧ cAt xs p ≠ 16 ∧ m = 1))) → K8 a w := by
    rintro a w ⟨m, J, G, hf⟩
    refine hK8 _ _ ?_
    refine wp_seq_k fun K9 hK9=> wp_seq_k fun K10 hK10=> ?_
    have hK10' : ∀ a w, (∃ (m : Nat), Fr 118 [(0, .slice A n c), (1, .int .i64 ((p : Nat) : Int)), (5, .int .i64 ((cAt xs p : Nat) : Int)), (6, .int .i64 ((m : Nat) : Int)), (110, .bool (decide (cAt xs p = 14 ∨ cAt xs p = 15)))] a ∧ St w0 [] [] w ∧ ((cAt xs p = 2 ∧ ¬ (n ≤ p + 1 ∨ cAt xs (p + 1) < 1 ∨ 32 < cAt xs (p + 1)) ∧ m = 2 + cAt xs (p + 1)) ∨ ((cAt xs p = 4 ∨ cAt xs p = 5 ∨ cAt xs p = 16) ∧ ¬ (p + 1 < n ∧ ((cAt xs p = 4 ∧ 15 < cAt xs (p + 1)) ∨ (cAt xs p = 5 ∧ (cAt xs (p + 1) < 1 ∨ 15 < cAt xs (p + 1))))) ∧ m = 2) ∨ (cAt xs p ≠ 2 ∧ cAt xs p ≠ 4 ∧ cAt xs p ≠ 5 ∧ cAt xs p ≠ 16 ∧ m = 1))) → K10 a w := by
     rintro a w ⟨m, J, G, hf⟩
     refine hK10 _ _ ?_
     refine cD J Y (fun c2=> ?_) (fun c2=> ?_)
     ·refine wp_region_lit <| av J Y Y fun a J=> s0 <| then_n (hK9 _ _ <| wp_seq_k fun K11 hK11=> wp_seq_k fun K12 hK12=> wp_region_lit <| mv J Y Y fun a J=> mv J Y Y fun a J=> aI J Y Y Y (by omega) fun a J=> mv J Y Y fun a J=> sw J Y Y Y (R.len Tryz.underlying22 (J.ev Y)) fun a J=> sw J Y Y Y (R.gtr (J.ev Y) (J.ev Y)) fun a J=> s0 <| then_n (hK12 _ _ <| cD J Y (fun c3=> ?_) (fun c3=> ?_)))
      ·refine wp_seq_k fun K13 hK13=> wp_region_lit <| av J Y Y fun a J=> s0 <| then_n (hK13 _ _ <| wp_ret (then_r (hR _ _ _ _ _ J (run_results Tryz.results40 (.t J Y (.nil))) ?_)))
       exact ⟨_, [], Y, ⟨size_i (by unfold sizeN; (repeat' split) <;> omega), Y⟩, G.none⟩
      refine wp_skip <| then_n (hK11 _ _ <| wp_seq_k fun K14 hK14=> wp_region_lit <| mv J Y Y fun a J=> av J Y Y fun a J=> s0 <| then_n (hK14 _ _ <| wp_ret (hR _ _ _ _ _ J (run_results Tryz.results40 (.t J Y (.nil))) ?_)))
      exact ⟨_, [], Y, ⟨size_i (by unfold sizeN; (repeat' split) <;> omega), Y⟩, G.none⟩
     refine wp_skip <| then_n (hK9 _ _ <| wp_seq_k fun K15 hK15=> wp_seq_k fun K16 hK16=> wp_region_lit <| mv J Y Y fun a J=> mv J Y Y fun a J=> aI J Y Y Y (by omega) fun a J=> mv J Y Y fun a J=> sw J Y Y Y (R.len Tryz.underlying22 (J.ev Y)) fun a J=> sw J Y Y Y (R.gtr (J.ev Y) (J.ev Y)) fun a J=> s0 <| then_n (hK16 _ _ <| cD J Y (fun c4=> ?_) (fun c4=> ?_)))
     ·refine wp_seq_k fun K17 hK17=> wp_region_lit <| av J Y Y fun a J=> s0 <| then_n (hK17 _ _ <| wp_ret (then_r (hR _ _ _ _ _ J (run_results Tryz.results40 (.t J Y (.nil))) ?_)))
      exact ⟨_, [], Y, ⟨size_i (by unfold sizeN; (repeat' split) <;> omega), Y⟩, G.none⟩
     refine wp_skip <| then_n (hK15 _ _ <| wp_seq_k fun K18 hK18=> wp_region_lit <| mv J Y Y fun a J=> av J Y Y fun a J=> s0 <| then_n (hK18 _ _ <| wp_ret (hR _ _ _ _ _ J (run_results Tryz.results40 (.t J Y (.nil))) ?_)))
     exact ⟨_, [], Y, ⟨size_i (by unfold sizeN; (repeat' split) <;> omega), Y⟩, G.none⟩
    refine wp_region_lit <| mv J Y Y fun a J=> eL J Y Y Y fun a J=> mv J Y Y fun a J=> J.splitD (t := 107) Y (fun h107 J=> ?_) (fun h107 J=> ?_)
    ·refine kz J Y Y Y Y Y Y fun a J=> kz J Y Y Y Y Y Y fun a J=> pT J Y Y Y fun a J=> s0 ?_
     exact then_n (hK10' _ _ ⟨m, J.sub ⟨Y, Y, Y, Y, (congrArg (fun z => some (Value.bool z)) (by first | exact (decide_eq_true (by omega)).symm | exact (decide_eq_false (by omega)).symm | exact decide_eq_decide.2 (by omega))), trivial⟩, G.sel [] Y Y, hf⟩)
    refine my J Y Y Y Y fun a J=> sv' J (wy J Y Y Y) Y Y (R.eql (J.ev Y) (J.ev Y)) fun a J=> pF J Y Y Y fun a J=> s0 ?_
    exact then_n (hK10' _ _ ⟨m, J.sub ⟨Y, Y, Y, Y, (congrArg (fun z => some (Value.bool z)) (by first | exact (decide_eq_true (by omega)).symm | exact (decide_eq_false (by omega)).symm | exact decide_eq_decide.2 (by omega))), trivial⟩, G.sel [] Y Y, hf⟩)
   refine wp_seq_k fun K19 hK19=> ?_
   have hK19' : ∀ a w, (∃ (m : Nat), Fr 118 [(0, .slice A n c), (1, .int .i64 ((p : Nat) : Int)), (5, .int .i64 ((cAt xs p : Nat) : Int)), (6, .int .i64 ((m : Nat) : Int)), (67, .bool (decide (cAt xs p = 4 ∨ cAt xs p = 5 ∨ cAt xs p = 16)))] a ∧ St w0 [] [] w ∧ ((cAt xs p = 2 ∧ ¬ (n ≤ p + 1 ∨ cAt xs (p + 1) < 1 ∨ 32 < cAt xs (p + 1)) ∧ m = 2 + cAt xs (p + 1)) ∨ (cAt xs p ≠ 2 ∧ m = 1))) → K19 a w := by
    rintro a w ⟨m, J, G, hf⟩
    refine hK19 _ _ ?_
    refine cD J Y (fun c5=> ?_) (fun c5=> ?_)
    ·refine wp_seq_k fun K20 hK20=> wp_region_lit <| av J Y Y fun a J=> s0 <| then_n (hK20 _ _ <| wp_seq_k fun K21 hK21=> ?_)
     have hK21' : ∀ a w, (Fr 118 [(0, .slice A n c), (1, .int .i64 ((p : Nat) : Int)), (5, .int .i64 ((cAt xs p : Nat) : Int)), (6, .int .i64 ((2 : Nat) : Int)), (104, .bool (decide (p + 1 < n ∧ ((cAt xs p = 4 ∧ 15 < cAt xs (p + 1)) ∨ (cAt xs p = 5 ∧ (cAt xs (p + 1) < 1 ∨ 15 < cAt xs (p + 1)))))))] a ∧ St w0 [] [] w) → K21 a w := by
      rintro a w ⟨J, G⟩
      refine hK21 _ _ ?_
      refine cD J Y (fun c6=> ?_) (fun c6=> ?_)
      ·refine wp_seq_k fun K22 hK22=> wp_region_lit <| av J Y Y fun a J=> s0 <| then_n (hK22 _ _ <| wp_ret (then_r (hR _ _ _ _ _ J (run_results Tryz.results40 (.t J Y (.nil))) ?_)))
       exact ⟨_, [], Y, ⟨size_i (by unfold sizeN; (repeat' split) <;> omega), Y⟩, G.none⟩
      refine wp_skip ?_
      exact then_n (hK8' _ _ ⟨2, J.sub ⟨Y, Y, Y, (congrArg (fun z => some (Value.int .i64 z)) (by omega)), trivial⟩, G.sel [] Y Y, by omega⟩)
     refine wp_region_lit <| mv J Y Y fun a J=> aI J Y Y Y (by omega) fun a J=> mv J Y Y fun a J=> sw J Y Y Y (R.len Tryz.underlying22 (J.ev Y)) fun a J=> lS J Y Y Y fun a J=> mv J Y Y fun a J=> J.splitD (t := 73) Y (fun h73 J=> ?_) (fun h73 J=> ?_)
     ·refine my J Y Y Y Y fun a J=> sv' J (wy J Y Y Y) Y Y (R.eql (J.ev Y) (J.ev Y)) fun a J=> my J Y Y Y Y fun a J=> J.splitD (t := 76) Y (fun h76 J=> ?_) (fun h76 J=> ?_)
      ·refine my J Y Y Y Y fun a J=> my J Y Y Y Y fun a J=> sv' J (wy J Y Y Y) Y Y (R.addI (J.ev Y) (J.ev Y) (by omega)) fun a J=> sv' J (wy J Y Y Y) Y Y (R.indexO Tryz.underlying22 sz5 (J.ev Y) (Rd.ne hA (by rw [length_byts]; omega)) (J.ev Y) (by omega) (by omega)) fun a J=> sv' J (wy J Y Y Y) Y Y (R.loadO one5 (J.ev Y) (hA.old G) (cb_at (i := p + 1) (by omega) (by omega))) fun a J=> sv' J (wy J Y Y Y) Y Y (R.gtr (J.ev Y) (J.ev Y)) fun a J=> sv' J (wy J Y Y Y) Y Y (R.pickT (J.ev Y) (J.ev Y)) fun a J=> my J Y Y Y Y fun a J=> J.splitD (t := 84) Y (fun h84 J=> ?_) (fun h84 J=> ?_)
       ·refine kz J Y Y Y Y Y Y fun a J=> kz J Y Y Y Y Y Y fun a J=> kz J Y Y Y Y Y Y fun a J=> ku J Y Y Y Y Y fun a J=> ku J Y Y Y Y Y fun a J=> ku J Y Y Y Y Y fun a J=> ku J Y Y Y Y Y fun a J=> ku J Y Y Y Y Y fun a J=> ku J Y Y Y Y Y fun a J=> ku J Y Y Y Y Y fun a J=> ku J Y Y Y Y Y fun a J=> ku J Y Y Y Y Y fun a J=> ku J Y Y Y Y Y fun a J=> ku J Y Y Y Y Y fun a J=> ku J Y Y Y Y Y fun a J=> ku J Y Y Y Y Y fun a J=> ku J Y Y Y Y Y fun a J=> kz J Y Y Y Y Y Y fun a J=> sv' J (wy J Y Y Y) Y Y (R.pickT (J.ev Y) (J.ev Y)) fun a J=> pT J Y Y Y fun a J=> s0 ?_
        exact then_n (hK21' _ _ ⟨J.sub ⟨Y, Y, Y, Y, (congrArg (fun z => some (Value.bool z)) (by first | exact (decide_eq_true (by omega)).symm | exact (decide_eq_false (by omega)).symm | exact decide_eq_decide.2 (by omega))), trivial⟩, G.sel [] Y Y⟩)
       refine my J Y Y Y Y fun a J=> sv' J (wy J Y Y Y) Y Y (R.eql (J.ev Y) (J.ev Y)) fun a J=> my J Y Y Y Y fun a J=> J.splitD (t := 87) Y (fun h87 J=> ?_) (fun h87 J=> ?_)
       ·refine my J Y Y Y Y fun a J=> my J Y Y Y Y fun a J=> sv' J (wy J Y Y Y) Y Y (R.addI (J.ev Y) (J.ev Y) (by omega)) fun a J=> sv' J (wy J Y Y Y) Y Y (R.indexO Tryz.underlying22 sz5 (J.ev Y) (Rd.ne hA (by rw [length_byts]; omega)) (J.ev Y) (by omega) (by omega)) fun a J=> sv' J (wy J Y Y Y) Y Y (R.loadO one5 (J.ev Y) (hA.old G) (cb_at (i := p + 1) (by omega) (by omega))) fun a J=> sv' J (wy J Y Y Y) Y Y (R.lss (J.ev Y) (J.ev Y)) fun a J=> my J Y Y Y Y fun a J=> J.splitD (t := 94) Y (fun h94 J=> ?_) (fun h94 J=> ?_)
        ·refine kz J Y Y Y Y Y Y fun a J=> kz J Y Y Y Y Y Y fun a J=> kz J Y Y Y Y Y Y fun a J=> kz J Y Y Y Y Y Y fun a J=> kz J Y Y Y Y Y Y fun a J=> kz J Y Y Y Y Y Y fun a J=> sv' J (wy J Y Y Y) Y Y (R.pickT (J.ev Y) (J.ev Y)) fun a J=> sv' J (wy J Y Y Y) Y Y (R.pickT (J.ev Y) (J.ev Y)) fun a J=> sv' J (wy J Y Y Y) Y Y (R.pickF (J.ev Y) (J.ev Y)) fun a J=> pT J Y Y Y fun a J=> s0 ?_
         exact then_n (hK21' _ _ ⟨J.sub ⟨Y, Y, Y, Y, (congrArg (fun z => some (Value.bool z)) (by first | exact (decide_eq_true (by omega)).symm | exact (decide_eq_false (by omega)).symm | exact decide_eq_decide.2 (by omega))), trivial⟩, G.sel [] Y Y⟩)
        refine my J Y Y Y Y fun a J=> my J Y Y Y Y fun a J=> sv' J (wy J Y Y Y) Y Y (R.addI (J.ev Y) (J.ev Y) (by omega)) fun a J=> sv' J (wy J Y Y Y) Y Y (R.indexO Tryz.underlying22 sz5 (J.ev Y) (Rd.ne hA (by rw [length_byts]; omega)) (J.ev Y) (by omega) (by omega)) fun a J=> sv' J (wy J Y Y Y) Y Y (R.loadO one5 (J.ev Y) (hA.old G) (cb_at (i := p + 1) (by omega) (by omega))) fun a J=> sv' J (wy J Y Y Y) Y Y (R.gtr (J.ev Y) (J.ev Y)) fun a J=> sv' J (wy J Y Y Y) Y Y (R.pickF (J.ev Y) (J.ev Y)) fun a J=> sv' J (wy J Y Y Y) Y Y (R.pickT (J.ev Y) (J.ev Y)) fun a J=> sv' J (wy J Y Y Y) Y Y (R.pickF (J.ev Y) (J.ev Y)) fun a J=> pT J Y Y Y fun a J=> s0 ?_
        exact then_n (hK21' _ _ ⟨J.sub ⟨Y, Y, Y, Y, (congrArg (fun z => some (Value.bool z)) (by first | exact (decide_eq_true (by omega)).symm | exact (decide_eq_false (by omega)).symm | exact decide_eq_decide.2 (by omega))), trivial⟩, G.sel [] Y Y⟩)
       refine kz J Y Y Y Y Y Y fun a J=> kz J Y Y Y Y Y Y fun a J=> kz J Y Y Y Y Y Y fun a J=> kz J Y Y Y Y Y Y fun a J=> kz J Y Y Y Y Y Y fun a J=> kz J Y Y Y Y Y Y fun a J=> kz J Y Y Y Y Y Y fun a J=> ku J Y Y Y Y Y fun a J=> ku J Y Y Y Y Y fun a J=> ku J Y Y Y Y Y fun a J=> ku J Y Y Y Y Y fun a J=> ku J Y Y Y Y Y fun a J=> ku J Y Y Y Y Y fun a J=> kz J Y Y Y Y Y Y fun a J=> sv' J (wy J Y Y Y) Y Y (R.pickF (J.ev Y) (J.ev Y)) fun a J=> sv' J (wy J Y Y Y) Y Y (R.pickF (J.ev Y) (J.ev Y)) fun a J=> pT J Y Y Y fun a J=> s0 ?_
       exact then_n (hK21' _ _ ⟨J.sub ⟨Y, Y, Y, Y, (congrArg (fun z => some (Value.bool z)) (by first | exact (decide_eq_true (by omega)).symm | exact (decide_eq_false (by omega)).symm | exact decide_eq_decide.2 (by omega))), trivial⟩, G.sel [] Y Y⟩)
      refine kz J Y Y Y Y Y Y fun a J=> kz J Y Y Y Y Y Y fun a J=> kz J Y Y Y Y Y Y fun a J=> kz J Y Y Y Y Y Y fun a J=> kz J Y Y Y Y Y Y fun a J=> kz J Y Y Y Y Y Y fun a J=> sv' J (wy J Y Y Y) Y Y (R.pickF (J.ev Y) (J.ev Y)) fun a J=> my J Y Y Y Y fun a J=> my J Y Y Y Y fun a J=> sv' J (wy J Y Y Y) Y Y (R.eql (J.ev Y) (J.ev Y)) fun a J=> my J Y Y Y Y fun a J=> J.splitD (t := 87) Y (fun h87 J=> ?_) (fun h87 J=> ?_)
      ·refine my J Y Y Y Y fun a J=> my J Y Y Y Y fun a J=> sv' J (wy J Y Y Y) Y Y (R.addI (J.ev Y) (J.ev Y) (by omega)) fun a J=> sv' J (wy J Y Y Y) Y Y (R.indexO Tryz.underlying22 sz5 (J.ev Y) (Rd.ne hA (by rw [length_byts]; omega)) (J.ev Y) (by omega) (by omega)) fun a J=> sv' J (wy J Y Y Y) Y Y (R.loadO one5 (J.ev Y) (hA.old G) (cb_at (i := p + 1) (by omega) (by omega))) fun a J=> sv' J (wy J Y Y Y) Y Y (R.lss (J.ev Y) (J.ev Y)) fun a J=> my J Y Y Y Y fun a J=> J.splitD (t := 94) Y (fun h94 J=> ?_) (fun h94 J=> ?_)
       ·refine kz J Y Y Y Y Y Y fun a J=> kz J Y Y Y Y Y Y fun a J=> kz J Y Y Y Y Y Y fun a J=> kz J Y Y Y Y Y Y fun a J=> kz J Y Y Y Y Y Y fun a J=> kz J Y Y Y Y Y Y fun a J=> sv' J (wy J Y Y Y) Y Y (R.pickT (J.ev Y) (J.ev Y)) fun a J=> sv' J (wy J Y Y Y) Y Y (R.pickT (J.ev Y) (J.ev Y)) fun a J=> sv' J (wy J Y Y Y) Y Y (R.pickF (J.ev Y) (J.ev Y)) fun a J=> pT J Y Y Y fun a J=> s0 ?_
        exact then_n (hK21' _ _ ⟨J.sub ⟨Y, Y, Y, Y, (congrArg (fun z => some (Value.bool z)) (by first | exact (decide_eq_true (by omega)).symm | exact (decide_eq_false (by omega)).symm | exact decide_eq_decide.2 (by omega))), trivial⟩, G.sel [] Y Y⟩)
       refine my J Y Y Y Y fun a J=> my J Y Y Y Y fun a J=> sv' J (wy J Y Y Y) Y Y (R.addI (J.ev Y) (J.ev Y) (by omega)) fun a J=> sv' J (wy J Y Y Y) Y Y (R.indexO Tryz.underlying22 sz5 (J.ev Y) (Rd.ne hA (by rw [length_byts]; omega)) (J.ev Y) (by omega) (by omega)) fun a J=> sv' J (wy J Y Y Y) Y Y (R.loadO one5 (J.ev Y) (hA.old G) (cb_at (i := p + 1) (by omega) (by omega))) fun a J=> sv' J (wy J Y Y Y) Y Y (R.gtr (J.ev Y) (J.ev Y)) fun a J=> sv' J (wy J Y Y Y) Y Y (R.pickF (J.ev Y) (J.ev Y)) fun a J=> sv' J (wy J Y Y Y) Y Y (R.pickT (J.ev Y) (J.ev Y)) fun a J=> sv' J (wy J Y Y Y) Y Y (R.pickF (J.ev Y) (J.ev Y)) fun a J=> pT J Y Y Y fun a J=> s0 ?_
       exact then_n (hK21' _ _ ⟨J.sub ⟨Y, Y, Y, Y, (congrArg (fun z => some (Value.bool z)) (by first | exact (decide_eq_true (by omega)).symm | exact (decide_eq_false (by omega)).symm | exact decide_eq_decide.2 (by omega))), trivial⟩, G.sel [] Y Y⟩)
      refine kz J Y Y Y Y Y Y fun a J=> kz J Y Y Y Y Y Y fun a J=> kz J Y Y Y Y Y Y fun a J=> kz J Y Y Y Y Y Y fun a J=> kz J Y Y Y Y Y Y fun a J=> kz J Y Y Y Y Y Y fun a J=> kz J Y Y Y Y Y Y fun a J=> ku J Y Y Y Y Y fun a J=> ku J Y Y Y Y Y fun a J=> ku J Y Y Y Y Y fun a J=> ku J Y Y Y Y Y fun a J=> ku J Y Y Y Y Y fun a J=> ku J Y Y Y Y Y fun a J=> kz J Y Y Y Y Y Y fun a J=> sv' J (wy J Y Y Y) Y Y (R.pickF (J.ev Y) (J.ev Y)) fun a J=> sv' J (wy J Y Y Y) Y Y (R.pickF (J.ev Y) (J.ev Y)) fun a J=> pT J Y Y Y fun a J=> s0 ?_
      exact then_n (hK21' _ _ ⟨J.sub ⟨Y, Y, Y, Y, (congrArg (fun z => some (Value.bool z)) (by first | exact (decide_eq_true (by omega)).symm | exact (decide_eq_false (by omega)).symm | exact decide_eq_decide.2 (by omega))), trivial⟩, G.sel [] Y Y⟩)
     refine kz J Y Y Y Y Y Y fun a J=> kz J Y Y Y Y Y Y fun a J=> kz J Y Y Y Y Y Y fun a J=> ku J Y Y Y Y Y fun a J=> ku J Y Y Y Y Y fun a J=> ku J Y Y Y Y Y fun a J=> ku J Y Y Y Y Y fun a J=> ku J Y Y Y Y Y fun a J=> ku J Y Y Y Y Y fun a J=> kz J Y Y Y Y Y Y fun a J=> kz J Y Y Y Y Y Y fun a J=> ku J Y Y Y Y Y fun a J=> ku J Y Y Y Y Y fun a J=> ku J Y Y Y Y Y fun a J=> ku J Y Y Y Y Y fun a J=> ku J Y Y Y Y Y fun a J=> ku J Y Y Y Y Y fun a J=> ku J Y Y Y Y Y fun a J=> ku J Y Y Y Y Y fun a J=> ku J Y Y Y Y Y fun a J=> ku J Y Y Y Y Y fun a J=> ku J Y Y Y Y Y fun a J=> ku J Y Y Y Y Y fun a J=> ku J Y Y Y Y Y fun a J=> ?_
     refine ku J Y Y Y Y Y fun a J=> ku J Y Y Y Y Y fun a J=> ku J Y Y Y Y Y fun a J=> ku J Y Y Y Y Y fun a J=> ku J Y Y Y Y Y fun a J=> kz J Y Y Y Y Y Y fun a J=> pF J Y Y Y fun a J=> s0 ?_
     exact then_n (hK21' _ _ ⟨J.sub ⟨Y, Y, Y, Y, (congrArg (fun z => some (Value.bool z)) (by first | exact (decide_eq_true (by omega)).symm | exact (decide_eq_false (by omega)).symm | exact decide_eq_decide.2 (by omega))), trivial⟩, G.sel [] Y Y⟩)
    refine wp_skip ?_
    exact then_n (hK8' _ _ ⟨m, J.sub ⟨Y, Y, Y, (congrArg (fun z => some (Value.int .i64 z)) (by omega)), trivial⟩, G.sel [] Y Y, by omega⟩)
   refine wp_region_lit <| mv J Y Y fun a J=> eL J Y Y Y fun a J=> mv J Y Y fun a J=> J.splitD (t := 60) Y (fun h60 J=> ?_) (fun h60 J=> ?_)
   ·refine kz J Y Y Y Y Y Y fun a J=> kz J Y Y Y Y Y Y fun a J=> pT J Y Y Y fun a J=> mv J Y Y fun a J=> kz J Y Y Y Y Y Y fun a J=> kz J Y Y Y Y Y Y fun a J=> pT J Y Y Y fun a J=> s0 ?_
    exact then_n (hK19' _ _ ⟨m, J.sub ⟨Y, Y, Y, Y, (congrArg (fun z => some (Value.bool z)) (by first | exact (decide_eq_true (by omega)).symm | exact (decide_eq_false (by omega)).symm | exact decide_eq_decide.2 (by omega))), trivial⟩, G.sel [] Y Y, hf⟩)
   refine my J Y Y Y Y fun a J=> sv' J (wy J Y Y Y) Y Y (R.eql (J.ev Y) (J.ev Y)) fun a J=> pF J Y Y Y fun a J=> mv J Y Y fun a J=> J.splitD (t := 64) Y (fun h64 J=> ?_) (fun h64 J=> ?_)
   ·refine kz J Y Y Y Y Y Y fun a J=> kz J Y Y Y Y Y Y fun a J=> pT J Y Y Y fun a J=> s0 ?_
    exact then_n (hK19' _ _ ⟨m, J.sub ⟨Y, Y, Y, Y, (congrArg (fun z => some (Value.bool z)) (by first | exact (decide_eq_true (by omega)).symm | exact (decide_eq_false (by omega)).symm | exact decide_eq_decide.2 (by omega))), trivial⟩, G.sel [] Y Y, hf⟩)
   refine my J Y Y Y Y fun a J=> sv' J (wy J Y Y Y) Y Y (R.eql (J.ev Y) (J.ev Y)) fun a J=> pF J Y Y Y fun a J=> s0 ?_
   exact then_n (hK19' _ _ ⟨m, J.sub ⟨Y, Y, Y, Y, (congrArg (fun z => some (Value.bool z)) (by first | exact (decide_eq_true (by omega)).symm | exact (decide_eq_false (by omega)).symm | exact decide_eq_decide.2 (by omega))), trivial⟩, G.sel [] Y Y, hf⟩)
  refine wp_seq_k fun K23 hK23=> wp_region_lit <| mv J Y Y fun a J=> eL J Y Y Y fun a J=> s0 <| then_n (hK23 _ _ <| cD J Y (fun c7=> ?_) (fun c7=> ?_))
  ·refine wp_seq_k fun K24 hK24=> wp_seq_k fun K25 hK25=> ?_
   have hK25' : ∀ a w, (Fr 118 [(0, .slice A n c), (1, .int .i64 ((p : Nat) : Int)), (5, .int .i64 ((cAt xs p : Nat) : Int)), (50, .bool (decide (n ≤ p + 1 ∨ cAt xs (p + 1) < 1 ∨ 32 < cAt xs (p + 1))))] a ∧ St w0 [] [] w) → K25 a w := by
    rintro a w ⟨J, G⟩
    refine hK25 _ _ ?_
    refine cD J Y (fun c8=> ?_) (fun c8=> ?_)
    ·refine wp_seq_k fun K26 hK26=> wp_region_lit <| av J Y Y fun a J=> s0 <| then_n (hK26 _ _ <| wp_ret (then_r (then_r (hR _ _ _ _ _ J (run_results Tryz.results40 (.t J Y (.nil))) ?_))))
     exact ⟨_, [], Y, ⟨size_i (by unfold sizeN; (repeat' split) <;> omega), Y⟩, G.none⟩
    refine wp_skip <| then_n (hK24 _ _ <| wp_region_lit <| mv J Y Y fun a J=> mv J Y Y fun a J=> aI J Y Y Y (by omega) fun a J=> sw J Y Y Y (R.indexO Tryz.underlying22 sz5 (J.ev Y) (Rd.ne hA (by rw [length_byts]; omega)) (J.ev Y) (by omega) (by omega)) fun a J=> sw J Y Y Y (R.loadO one5 (J.ev Y) (hA.old G) (cb_at (i := p + 1) (by omega) (by omega))) fun a J=> sw J Y Y Y (R.convI Tryz.underlying5 Tryz.underlying3 (J.ev Y) (by omega)) fun a J=> aI J Y Y Y (by omega) fun a J=> av J Y Y fun a J=> s0 ?_)
    exact then_n (hK7' _ _ ⟨2 + cAt xs (p + 1), J.sub ⟨Y, Y, Y, (congrArg (fun z => some (Value.int .i64 z)) (by omega)), trivial⟩, G.sel [] Y Y, by omega⟩)
   refine wp_region_lit <| mv J Y Y fun a J=> aI J Y Y Y (by omega) fun a J=> mv J Y Y fun a J=> sw J Y Y Y (R.len Tryz.underlying22 (J.ev Y)) fun a J=> sw J Y Y Y (R.geq (J.ev Y) (J.ev Y)) fun a J=> mv J Y Y fun a J=> J.splitD (t := 35) Y (fun h35 J=> ?_) (fun h35 J=> ?_)
   ·refine kz J Y Y Y Y Y Y fun a J=> kz J Y Y Y Y Y Y fun a J=> kz J Y Y Y Y Y Y fun a J=> kz J Y Y Y Y Y Y fun a J=> kz J Y Y Y Y Y Y fun a J=> kz J Y Y Y Y Y Y fun a J=> pT J Y Y Y fun a J=> mv J Y Y fun a J=> kz J Y Y Y Y Y Y fun a J=> kz J Y Y Y Y Y Y fun a J=> kz J Y Y Y Y Y Y fun a J=> kz J Y Y Y Y Y Y fun a J=> kz J Y Y Y Y Y Y fun a J=> kz J Y Y Y Y Y Y fun a J=> pT J Y Y Y fun a J=> s0 ?_
    exact then_n (hK25' _ _ ⟨J.sub ⟨Y, Y, Y, (congrArg (fun z => some (Value.bool z)) (by first | exact (decide_eq_true (by omega)).symm | exact (decide_eq_false (by omega)).symm | exact decide_eq_decide.2 (by omega))), trivial⟩, G.sel [] Y Y⟩)
   refine my J Y Y Y Y fun a J=> my J Y Y Y Y fun a J=> sv' J (wy J Y Y Y) Y Y (R.addI (J.ev Y) (J.ev Y) (by omega)) fun a J=> sv' J (wy J Y Y Y) Y Y (R.indexO Tryz.underlying22 sz5 (J.ev Y) (Rd.ne hA (by rw [length_byts]; omega)) (J.ev Y) (by omega) (by omega)) fun a J=> sv' J (wy J Y Y Y) Y Y (R.loadO one5 (J.ev Y) (hA.old G) (cb_at (i := p + 1) (by omega) (by omega))) fun a J=> sv' J (wy J Y Y Y) Y Y (R.lss (J.ev Y) (J.ev Y)) fun a J=> pF J Y Y Y fun a J=> mv J Y Y fun a J=> J.splitD (t := 43) Y (fun h43 J=> ?_) (fun h43 J=> ?_)
   ·refine kz J Y Y Y Y Y Y fun a J=> kz J Y Y Y Y Y Y fun a J=> kz J Y Y Y Y Y Y fun a J=> kz J Y Y Y Y Y Y fun a J=> kz J Y Y Y Y Y Y fun a J=> kz J Y Y Y Y Y Y fun a J=> pT J Y Y Y fun a J=> s0 ?_
    exact then_n (hK25' _ _ ⟨J.sub ⟨Y, Y, Y, (congrArg (fun z => some (Value.bool z)) (by first | exact (decide_eq_true (by omega)).symm | exact (decide_eq_false (by omega)).symm | exact decide_eq_decide.2 (by omega))), trivial⟩, G.sel [] Y Y⟩)
   refine my J Y Y Y Y fun a J=> my J Y Y Y Y fun a J=> sv' J (wy J Y Y Y) Y Y (R.addI (J.ev Y) (J.ev Y) (by omega)) fun a J=> sv' J (wy J Y Y Y) Y Y (R.indexO Tryz.underlying22 sz5 (J.ev Y) (Rd.ne hA (by rw [length_byts]; omega)) (J.ev Y) (by omega) (by omega)) fun a J=> sv' J (wy J Y Y Y) Y Y (R.loadO one5 (J.ev Y) (hA.old G) (cb_at (i := p + 1) (by omega) (by omega))) fun a J=> sv' J (wy J Y Y Y) Y Y (R.gtr (J.ev Y) (J.ev Y)) fun a J=> pF J Y Y Y fun a J=> s0 ?_
   exact then_n (hK25' _ _ ⟨J.sub ⟨Y, Y, Y, (congrArg (fun z => some (Value.bool z)) (by first | exact (decide_eq_true (by omega)).symm | exact (decide_eq_false (by omega)).symm | exact decide_eq_decide.2 (by omega))), trivial⟩, G.sel [] Y Y⟩)
  refine wp_skip ?_
  exact then_n (hK7' _ _ ⟨1, J.sub ⟨Y, Y, Y, (congrArg (fun z => some (Value.int .i64 z)) (by omega)), trivial⟩, G.sel [] Y Y, by omega⟩)
 refine wp_region_lit <| mv J Y Y fun a J=> lS J Y Y Y fun a J=> mv J Y Y fun a J=> J.splitD (t := 9) Y (fun h9 J=> ?_) (fun h9 J=> ?_)
 ·refine kz J Y Y Y Y Y Y fun a J=> kz J Y Y Y Y Y Y fun a J=> kz J Y Y Y Y Y Y fun a J=> kz J Y Y Y Y Y Y fun a J=> pT J Y Y Y fun a J=> mv J Y Y fun a J=> kz J Y Y Y Y Y Y fun a J=> kz J Y Y Y Y Y Y fun a J=> kz J Y Y Y Y Y Y fun a J=> kz J Y Y Y Y Y Y fun a J=> kz J Y Y Y Y Y Y fun a J=> kz J Y Y Y Y Y Y fun a J=> pT J Y Y Y fun a J=> s0 ?_
  exact then_n (hK3' _ _ ⟨J.sub ⟨Y, Y, (congrArg (fun z => some (Value.bool z)) (by first | exact (decide_eq_true (by omega)).symm | exact (decide_eq_false (by omega)).symm | exact decide_eq_decide.2 (by omega))), trivial⟩, G.sel [] Y Y⟩)
 refine my J Y Y Y Y fun a J=> my J Y Y Y Y fun a J=> sv' J (wy J Y Y Y) Y Y (R.len Tryz.underlying22 (J.ev Y)) fun a J=> sv' J (wy J Y Y Y) Y Y (R.geq (J.ev Y) (J.ev Y)) fun a J=> pF J Y Y Y fun a J=> mv J Y Y fun a J=> J.splitD (t := 15) Y (fun h15 J=> ?_) (fun h15 J=> ?_)
 ·refine kz J Y Y Y Y Y Y fun a J=> kz J Y Y Y Y Y Y fun a J=> kz J Y Y Y Y Y Y fun a J=> kz J Y Y Y Y Y Y fun a J=> kz J Y Y Y Y Y Y fun a J=> kz J Y Y Y Y Y Y fun a J=> pT J Y Y Y fun a J=> s0 ?_
  exact then_n (hK3' _ _ ⟨J.sub ⟨Y, Y, (congrArg (fun z => some (Value.bool z)) (by first | exact (decide_eq_true (by omega)).symm | exact (decide_eq_false (by omega)).symm | exact decide_eq_decide.2 (by omega))), trivial⟩, G.sel [] Y Y⟩)
 refine my J Y Y Y Y fun a J=> my J Y Y Y Y fun a J=> sv' J (wy J Y Y Y) Y Y (R.indexO Tryz.underlying22 sz5 (J.ev Y) (Rd.ne hA (by rw [length_byts]; omega)) (J.ev Y) (by omega) (by omega)) fun a J=> sv' J (wy J Y Y Y) Y Y (R.loadO one5 (J.ev Y) (hA.old G) (cb_at (i := p) (by omega) (by omega))) fun a J=> sv' J (wy J Y Y Y) Y Y (R.convI Tryz.underlying5 Tryz.underlying3 (J.ev Y) (by omega)) fun a J=> sv' J (wy J Y Y Y) Y Y (R.geq (J.ev Y) (J.ev Y)) fun a J=> pF J Y Y Y fun a J=> s0 ?_
 exact then_n (hK3' _ _ ⟨J.sub ⟨Y, Y, (congrArg (fun z => some (Value.bool z)) (by first | exact (decide_eq_true (by omega)).symm | exact (decide_eq_false (by omega)).symm | exact decide_eq_decide.2 (by omega))), trivial⟩, G.sel [] Y Y⟩)
theorem rtarget_calls (A : Option Addr) (n c : Nat) (xs : List Nat) (p : Nat) (w0 : World) (hA : Rd w0 A (byts xs)) (hn : xs.length = n) (hnc : n ≤ c) (hc : c ≤ 9223372036854775807) (hB : Byt xs) (hp : p + 3 ≤ n) : Ret Tryz.prog 30 [.slice A n c, .int .i64 ((p : Nat) : Int)] w0 [] (fun v s => v = .int .i64 ((targetN xs p : Nat) : Int) ∧ s = []) := by
 refine fn_start Tryz.func30 Y Tryz.ntmps30 Y [(0, .slice A n c), (1, .int .i64 ((p : Nat) : Int))] ⟨Y, Y, trivial⟩ ?_
 intro Q a hP J hR hN
 have G := St.start w0
 have hb1 := cAt_lt hB (p + 1); have hb2 := cAt_lt hB (p + 2)
 refine wp_seq_k fun K1 hK1=> wp_region_lit <| av J Y Y fun a J=> s0 <| then_n (hK1 _ _ <| wp_seq_k fun K2 hK2=> wp_drawS G [(0, 0), (1, 0), (2, 0), (3, 0), (4, 1), (5, 0), (6, 0), (7, 0), (8, 0), (9, 0), (10, 0), (11, 1), (12, 0), (13, 0), (14, 0)] mix (by kernel_rfl) (hP.then) fun w G=> ?_)
 have hD := G
 refine dm J Y Y Y fun a J=> dm J Y Y Y fun a J=> dv J Y Y Y Y (fun w=> R.addI (J.ev Y) (J.ev Y) (by omega)) fun a J=> dv J Y Y Y Y (fun w=> R.indexO Tryz.underlying22 sz5 (J.ev Y) (Rd.ne hA (by rw [length_byts]; omega)) (J.ev Y) (by omega) (by omega)) fun a J=> ds J Y Y Y Y hD (fun w hD=> R.loadO one5 (J.ev Y) (hA.old hD) (cb_at (i := p + 1) (by omega) (by omega))) fun a J=> ?_
 refine dv J Y Y Y Y (fun w=> R.convI Tryz.underlying5 Tryz.underlying3 (J.ev Y) (by omega)) fun a J=> dv J Y Y Y Y (fun w=> R.mulI (J.ev Y) (J.ev Y) (by omega)) fun a J=> dm J Y Y Y fun a J=> dm J Y Y Y fun a J=> dv J Y Y Y Y (fun w=> R.addI (J.ev Y) (J.ev Y) (by omega)) fun a J=> dv J Y Y Y Y (fun w=> R.indexO Tryz.underlying22 sz5 (J.ev Y) (Rd.ne hA (by rw [length_byts]; omega)) (J.ev Y) (by omega) (by omega)) fun a J=> ds J Y Y Y Y hD (fun w hD=> R.loadO one5 (J.ev Y) (hA.old hD) (cb_at (i := p + 2) (by omega) (by omega))) fun a J=> ?_
 refine dv J Y Y Y Y (fun w=> R.convI Tryz.underlying5 Tryz.underlying3 (J.ev Y) (by omega)) fun a J=> dv J Y Y Y Y (fun w=> R.addI (J.ev Y) (J.ev Y) (by omega)) fun a J=> da J Y Y Y fun a J=> d0 <| then_n (hK2 _ _ <| wp_ret (hR _ _ _ _ _ J (run_results Tryz.results30 (.t J Y (.nil))) ?_))
 exact ⟨_, [], Y, ⟨congrArg (Value.int .i64) (by unfold targetN; omega), Y⟩, G.none⟩
theorem target_calls (A : Option Addr) (n c : Nat) (xs : List Nat) (p : Nat) (w0 : World) (hA : Rd w0 A (byts xs)) (hn : xs.length = n) (hnc : n ≤ c) (hc : c ≤ 9223372036854775807) (hB : Byt xs) (hp : p + 3 ≤ n) : Ret Tryz.prog 32 [.slice A n c, .int .i64 ((p : Nat) : Int)] w0 [] (fun v s => v = .int .i64 ((targetN xs p : Nat) : Int) ∧ s = []) := by
 refine fn_start Tryz.func32 Y Tryz.ntmps32 Y [(0, .slice A n c), (1, .int .i64 ((p : Nat) : Int))] ⟨Y, Y, trivial⟩ ?_
 intro Q a hP J hR hN
 have G := St.start w0
 have hb1 := cAt_lt hB (p + 1); have hb2 := cAt_lt hB (p + 2)
 refine wp_seq_k fun K1 hK1=> wp_region_lit <| av J Y Y fun a J=> s0 <| then_n (hK1 _ _ <| wp_seq_k fun K2 hK2=> wp_drawS G [(0, 0), (1, 0), (2, 0), (3, 0), (4, 1), (5, 0), (6, 0), (7, 0), (8, 0), (9, 0), (10, 0), (11, 1), (12, 0), (13, 0), (14, 0)] mix (by kernel_rfl) (hP.then) fun w G=> ?_)
 have hD := G
 refine dm J Y Y Y fun a J=> dm J Y Y Y fun a J=> dv J Y Y Y Y (fun w=> R.addI (J.ev Y) (J.ev Y) (by omega)) fun a J=> dv J Y Y Y Y (fun w=> R.indexO Tryz.underlying22 sz5 (J.ev Y) (Rd.ne hA (by rw [length_byts]; omega)) (J.ev Y) (by omega) (by omega)) fun a J=> ds J Y Y Y Y hD (fun w hD=> R.loadO one5 (J.ev Y) (hA.old hD) (cb_at (i := p + 1) (by omega) (by omega))) fun a J=> ?_
 refine dv J Y Y Y Y (fun w=> R.convI Tryz.underlying5 Tryz.underlying3 (J.ev Y) (by omega)) fun a J=> dv J Y Y Y Y (fun w=> R.shlI (m := 8) (J.ev Y) (J.ev Y) (by decide) (by omega)) fun a J=> dm J Y Y Y fun a J=> dm J Y Y Y fun a J=> dv J Y Y Y Y (fun w=> R.addI (J.ev Y) (J.ev Y) (by omega)) fun a J=> dv J Y Y Y Y (fun w=> R.indexO Tryz.underlying22 sz5 (J.ev Y) (Rd.ne hA (by rw [length_byts]; omega)) (J.ev Y) (by omega) (by omega)) fun a J=> ds J Y Y Y Y hD (fun w hD=> R.loadO one5 (J.ev Y) (hA.old hD) (cb_at (i := p + 2) (by omega) (by omega))) fun a J=> ?_
 refine dv J Y Y Y Y (fun w=> R.convI Tryz.underlying5 Tryz.underlying3 (J.ev Y) (by omega)) fun a J=> dv J Y Y Y Y (fun w=> R.as (u := .int .i64 ((targetN xs p : Nat) : Int)) (R.orI (J.ev Y) (J.ev Y) (by omega) (by omega)) (congrArg (fun z : Nat=> Value.int .i64 (z : Int)) (or8_as hb2))) fun a J=> da J Y Y Y fun a J=> d0 <| then_n (hK2 _ _ <| wp_ret (hR _ _ _ _ _ J (run_results Tryz.results32 (.t J Y (.nil))) ?_))
 exact ⟨_, [], Y, ⟨Y, Y⟩, G.none⟩
theorem among_calls (A : Option Addr) (n c x : Nat) (l : List Nat) (w0 : World) (hA : Rd w0 A (ints l)) (hn : l.length = n) (hc : n ≤ 9223372036854775807) : Ret Tryz.prog 52 [.slice A n c, .int .i64 ((x : Nat) : Int)] w0 [] (fun v s => v = .bool (l.contains x) ∧ s = []) := by
 refine fn_start Tryz.func52 Y Tryz.ntmps52 Y [(0, .slice A n c), (1, .int .i64 ((x : Nat) : Int))] ⟨Y, Y, trivial⟩ ?_
 intro Q a hP J hR hN
 have G := St.start w0
 refine wp_seq_k fun K1 hK1=> wp_region_lit <| av J Y Y fun a J=> s0 <| then_n (hK1 _ _ <| wp_seq_k fun K2 hK2=> wp_seq_k fun K3 hK3=> wp_region_lit <| av J Y Y fun a J=> s0 <| then_n (hK3 _ _ <| wp_block <| wp_loop_N (fun g a w=> ∃ (i : Nat), n - i = g ∧ Fr 18 [(0, .slice A n c), (1, .int .i64 ((x : Nat) : Int)), (5, .int .i64 ((i : Nat) : Int))] a ∧ St w0 [] [] w ∧ (i ≤ n) ∧ ((l.take i).contains x = false)) (n - 0) ?_ ?_))
 ·exact ⟨0, Y, J.sub ⟨Y, Y, Y, trivial⟩, G.sel [] Y Y, by omega, Y⟩
 rintro KL1 g a w ⟨i, hg1, J, G, hi, hl⟩ hKL1
 refine wp_seq_k fun K4 hK4=> wp_seq_k fun K5 hK5=> wp_region_lit <| mv J Y Y fun a J=> mv J Y Y fun a J=> sw J Y Y Y (R.len Tryz.underlying61 (J.ev Y)) fun a J=> lS J Y Y Y fun a J=> s0 <| then_n (hK5 _ _ <| cD J Y (fun c1=> ?_) (fun c1=> ?_))
 ·refine wp_skip <| then_n (hK4 _ _ <| wp_seq_k fun K6 hK6=> wp_block <| wp_seq_k fun K7 hK7=> wp_region_lit <| mv J Y Y fun a J=> mv J Y Y fun a J=> sw J Y Y Y (R.indexO Tryz.underlying61 sz3 (J.ev Y) (Rd.ne hA (by rw [length_ints]; omega)) (J.ev Y) (by omega) (by omega)) fun a J=> sw J Y Y Y (R.loadO one3 (J.ev Y) (hA.old G) (ints_get (i := i) (by omega) (by omega))) fun a J=> mv J Y Y fun a J=> eL J Y Y Y fun a J=> s0 <| then_n (hK7 _ _ <| cD J Y (fun c2=> ?_) (fun c2=> ?_)))
  ·refine wp_seq_k fun K8 hK8=> wp_region_lit <| av J Y Y fun a J=> s0 <| then_n (hK8 _ _ <| wp_ret (blk_r (then_r (then_r (blk_r (then_r (hR _ _ _ _ _ J (run_results Tryz.results52 (.t J Y (.nil))) ?_)))))))
   exact ⟨_, [], Y, ⟨congrArg Value.bool (take_has (i := i) (by omega) c2).symm, Y⟩, G.none⟩
  refine wp_skip <| blk_n <| then_n (hK6 _ _ <| wp_region_lit <| mv J Y Y fun a J=> aI J Y Y Y (by omega) fun a J=> av J Y Y fun a J=> s0 <| then_n (hKL1 (n - (i + 1)) _ _ ?_ ?_))
  ·omega
  exact ⟨i + 1, Y, J.sub ⟨Y, Y, (congrArg (fun z => some (Value.int .i64 z)) (by omega)), trivial⟩, G.sel [] Y Y, by omega, take_nohas (by omega) hl c2⟩
 obtain rfl : i = n := by omega
 have htk : l.take i = l := List.take_of_length_le (by omega)
 rw [htk] at hl
 refine wp_exit (then_x (then_x (blk_hit <| then_n (hK2 _ _ <| wp_seq_k fun K9 hK9=> wp_region_lit <| av J Y Y fun a J=> s0 <| then_n (hK9 _ _ <| wp_ret (hR _ _ _ _ _ J (run_results Tryz.results52 (.t J Y (.nil))) ?_))))))
 exact ⟨_, [], Y, ⟨congrArg Value.bool hl.symm, Y⟩, G.none⟩
end Go.Proofs.YtlapmbkfmbkdoaaGreatDoor
end
section
namespace Go.Proofs.YtlapmbkfmbkdoaaGreatDoor
open Go Go.Fw Go.RowKit
attribute [local irreducible] Go.Oper.wp Go.Code.wp Go.wpList Go.Fw.WL Go.Calls
theorem plcs_cons {xs : List Nat} {p : Nat} {r : List Nat} (h : p < xs.length) (hr : plcs xs p = some r) : ∃ r', sizeN xs p ≠ 0 ∧ r = p :: r' ∧ plcs xs (p + sizeN xs p) = some r' := by
  by_cases hs : sizeN xs p = 0
  · rw [plcs_bad h hs] at hr; simp at hr
  · rw [plcs_next h hs] at hr
    cases hq : plcs xs (p + sizeN xs p) with
    | none => rw [hq] at hr; simp at hr
    | some r' => rw [hq] at hr; simp at hr; exact ⟨r', hs, hr.symm, rfl⟩
theorem plcs_step {xs l : List Nat} {i : Nat} (h : i < xs.length) (hs : sizeN xs i ≠ 0) (hp : plcs xs 0 = (plcs xs i).map (l ++ ·)) : plcs xs 0 = (plcs xs (i + sizeN xs i)).map ((l ++ [i]) ++ ·) := by
  rw [hp, plcs_next h hs, Option.map_map]
  congr 1; funext r; simp
theorem isJump_of {xs : List Nat} {q : Nat} (h : cAt xs q = 14 ∨ cAt xs q = 15) : isJump xs q = true := by simpa [isJump] using h
def okJ (xs l : List Nat) (q : Nat) : Bool := !isJump xs q || l.contains (targetN xs q)
theorem okJ_j {xs l : List Nat} {q : Nat} (h : cAt xs q = 14 ∨ cAt xs q = 15) : okJ xs l q = l.contains (targetN xs q) := by
  have : isJump xs q = true := by simpa [isJump] using h
  simp [okJ, this]
theorem okJ_n {xs l : List Nat} {q : Nat} (h : ¬ (cAt xs q = 14 ∨ cAt xs q = 15)) : okJ xs l q = true := by
  have : isJump xs q = false := by simpa [isJump] using h
  simp [okJ, this]
theorem okJ_far {xs l : List Nat} {q : Nat} (h : cAt xs q = 14 ∨ cAt xs q = 15) (hl : placesN xs = some l) (hf : xs.length ≤ targetN xs q) : okJ xs l q = false := by
  rw [okJ_j h]
  cases hc : l.contains (targetN xs q) with
  | false => rfl
  | true =>
    have := (places_mem hl _ (by simpa using hc)).1
    omega
def chkV (xs : List Nat) : Value := .int .i64 (if chkN xs then 0 else 100)
theorem chk_len {xs : List Nat} (h : xs.length < 1 ∨ 1024 < xs.length) : chkV xs = .int .i64 100 := by
  have : chkN xs = false := by
    unfold chkN
    rcases h with h | h
    · have : ¬ 1 ≤ xs.length := by omega
      simp [this]
    · have : ¬ xs.length ≤ 1024 := by omega
      simp [this]
  rw [chkV, this]; rfl
theorem chk_none {xs : List Nat} (h : placesN xs = none) : chkV xs = .int .i64 100 := by
  have : chkN xs = false := by simp [chkN, h]
  rw [chkV, this]; rfl
theorem chk_bad {xs l : List Nat} {q : Nat} (h : placesN xs = some l) (hq : q ∈ l) (hb : okJ xs l q = false) : chkV xs = .int .i64 100 := by
  have : chkN xs = false := by
    simp only [chkN, h]
    cases hc : (l.all fun p => !isJump xs p || l.contains (targetN xs p)) with
    | false => simp
    | true =>
      have h2 := List.all_eq_true.1 hc q hq
      change okJ xs l q = true at h2
      rw [hb] at h2; simp at h2
  rw [chkV, this]; rfl
theorem chk_ok {xs l : List Nat} (h1 : ¬ (xs.length < 1 ∨ 1024 < xs.length)) (h : placesN xs = some l) (ha : l.all (okJ xs l) = true) : chkV xs = .int .i64 0 := by
  have : chkN xs = true := by
    have h2 : 1 ≤ xs.length := by omega
    have h3 : xs.length ≤ 1024 := by omega
    simp only [chkN, h, h2, h3, decide_true, Bool.true_and]
    exact ha
  rw [chkV, this]; rfl
theorem all_snoc {l : List Nat} {f : Nat → Bool} {q : Nat} (h : l.all f = true) (hq : f q = true) : (l ++ [q]).all f = true := by simp only [List.all_append, h, List.all_cons, hq, List.all_nil, Bool.and_self]
theorem all_take {l : List Nat} {f : Nat → Bool} {i : Nat} (hi : i < l.length) (h : (l.take i).all f = true) (hq : f (l.getD i 0) = true) : (l.take (i + 1)).all f = true := by
  rw [List.take_succ_eq_append_getElem hi]
  exact all_snoc h (by simpa [List.getD_eq_getElem?_getD, hi] using hq)
theorem getD_mem {l : List Nat} {i : Nat} (h : i < l.length) : l.getD i 0 ∈ l := by
  rw [List.getD_eq_getElem?_getD, List.getElem?_eq_getElem h]; exact List.getElem_mem h
def begs (l : List Nat) : List Value := (List.range 1025).map fun j => .bool (l.contains j)
theorem length_begs (l : List Nat) : (begs l).length = 1025 := by simp [begs]
theorem begs_at {l : List Nat} {j off : Nat} (h : j < 1025) (ho : off = j) : (begs l)[off]? = some (.bool (l.contains j)) := by subst ho; simp [begs, h]
theorem begs_set {l : List Nat} {i off : Nat} (ho : off = i) : (begs l).set off (.bool true) = begs (l ++ [i]) := by
  subst ho
  apply List.ext_getElem?
  intro j
  rw [List.getElem?_set]
  by_cases hj : j < 1025
  · rw [begs_at hj rfl, begs_at hj rfl, length_begs]
    by_cases e : off = j
    · subst e; simp [hj]
    · rw [if_neg e]
      have : ¬ j = off := fun h => e h.symm
      simp [this]
  · rw [List.getElem?_eq_none (by rw [length_begs]; omega), List.getElem?_eq_none (by rw [length_begs]; omega)]
    by_cases e : off = j
    · rw [if_pos e, if_neg (by rw [length_begs]; omega)]
    · rw [if_neg e]
theorem ze59b : zeT Tryz.prog 106 (.agg (begs []).toArray) := by unfold zeT; kernel_rfl
theorem places_calls (A : Option Addr) (n c : Nat) (xs : List Nat) (w0 : World) (hA : Rd w0 A (byts xs)) (hn : xs.length = n) (hnc : n ≤ c) (hc : c ≤ 9223372036854775807) (hB : Byt xs) (hn2 : n ≤ 1024) : Ret Tryz.prog 24 [.slice A n c] w0 [] (fun v s => RetP xs v s) := by
 refine fn_start Tryz.func24 Y Tryz.ntmps24 Y [(0, .slice A n c)] ⟨Y, trivial⟩ ?_
 intro Q a hP J hR hN
 have G := St.start w0
 refine wp_seq_k fun K1 hK1=> wp_region_lit <| av J Y Y fun a J=> av J Y Y fun a J=> s0 <| then_n (hK1 _ _ <| wp_seq_k fun K2 hK2=> wp_region_lit <| av J Y Y fun a J=> s0 <| then_n (hK2 _ _ <| wp_seq_k fun K3 hK3=> ?_))
 have G := G.cons0
 refine wp_region_lit <| av J Y Y fun a J=> s0 <| then_n (hK3 _ _ <| wp_seq_k fun K4 hK4=> wp_block <| wp_loop_N (fun g a w=> ∃ (i : Nat) (A2 : Option Addr) (e : Nat) (z : Seg) (l : List Nat), n - i = g ∧ Fr 24 [(0, .slice A n c), (4, .slice A2 l.length e), (5, .int .i64 ((i : Nat) : Int))] a ∧ St w0 [] [z] w ∧ (i ≤ n) ∧ (plcs xs 0 = (plcs xs i).map (l ++ ·)) ∧ (l.length ≤ i) ∧ (OwnS z A2 l.length e (ints l) 3 1)) (n - 0) ?_ ?_)
 ·exact ⟨0, none, 0, [], [], Y, J.sub ⟨Y, Y, Y, trivial⟩, G.sel [0] Y Y, by omega, by simp, Nat.le_refl _, OwnS.nil 3 1⟩
 rintro KL1 g a w ⟨i, A2, e, z, l, hg1, J, G, hi, hp, hll, hO⟩ hKL1
 refine wp_seq_k fun K5 hK5=> wp_seq_k fun K6 hK6=> wp_region_lit <| mv J Y Y fun a J=> mv J Y Y fun a J=> sw J Y Y Y (R.len Tryz.underlying22 (J.ev Y)) fun a J=> lS J Y Y Y fun a J=> s0 <| then_n (hK6 _ _ <| cD J Y (fun c1=> ?_) (fun c1=> ?_))
 ·have hsz := sizeN_le xs i
  refine wp_skip <| then_n (hK5 _ _ <| wp_block <| wp_seq_k fun K7 hK7=> wp_region_lit <| mv J Y Y fun a J=> mv J Y Y fun a J=> so (wn Y) (O.call Y Y J ent40 (J.evs Y) G (rsize_calls A n c xs (i) w (hA.old G) hn hnc hc hB (by omega)) fun v s13 a w hR J G=> ?_))
  obtain ⟨rfl, rfl⟩ := hR
  refine av J Y Y fun a J=> s0 <| then_n (hK7 _ _ <| wp_seq_k fun K8 hK8=> wp_seq_k fun K9 hK9=> wp_region_lit <| mv J Y Y fun a J=> eL J Y Y Y fun a J=> s0 <| then_n (hK9 _ _ <| cD J Y (fun c2=> ?_) (fun c2=> ?_)))
  ·have hpl : placesN xs = none := by (have := hp; rw [plcs_bad (p := i) (by omega) (by omega)] at this; exact this)
   refine wp_seq_k fun K10 hK10=> wp_region_lit <| av J Y Y fun a J=> av J Y Y fun a J=> s0 <| then_n (hK10 _ _ <| wp_ret (then_r (blk_r (then_r (blk_r (then_r (hR _ _ _ _ _ J (run_results Tryz.results24 (.t J Y (.t J Y (.nil)))) ?_)))))))
   exact ⟨_, [], Y, RetP.none hpl, G.none⟩
  have hs : sizeN xs i ≠ 0 := by omega
  refine wp_skip <| then_n (hK8 _ _ <| wp_seq_k fun K11 hK11=> wp_region_lit <| mv J Y Y fun a J=> mv J Y Y fun a J=> so (wn Y) (O.buildSlice (l := [_]) Y Y J Tryz.underlying61 inf3 Y Y (J.evp Y) (by decide) Y G fun b18 a w J G=> ?_))
  refine so (wn Y) (O.append Y Y J Tryz.underlying61 inf3 Y Y (by decide) (J.ev Y) (J.ev Y) G hO (fun _=> (.t (.t .h))) (Rd.own0 G .h) (Y) (by simp [Value.oneCell']) (by unfold maxLen; omega) (by omega) fun A19 c19 s19 a w hO19 J G=> ?_)
  refine av J Y Y fun a J=> s0 <| then_n (hK11 _ _ <| wp_region_lit <| mv J Y Y fun a J=> mv J Y Y fun a J=> aI J Y Y Y (by omega) fun a J=> av J Y Y fun a J=> s0 <| blk_n <| then_n (hKL1 (n - (i + sizeN xs i)) _ _ ?_ ?_))
  ·omega
  exact ⟨i + sizeN xs i, A19, c19, s19, l ++ [i], Y, J.sub ⟨Y, (by rw [List.length_append]; rfl), (congrArg (fun z => some (Value.int .i64 z)) (by omega)), trivial⟩, G.sel [2] Y Y, by have := (sizeN_le xs i).resolve_left hs; omega, plcs_step (by omega) hs hp, by rw [List.length_append, List.length_singleton]; omega, own_isnoc hO19⟩
 have hpl : placesN xs = some l := by (have := hp; rw [plcs_end (p := i) (by omega)] at this; exact this.trans (by simp))
 refine wp_exit (then_x (then_x (blk_hit <| then_n (hK4 _ _ <| wp_seq_k fun K12 hK12=> wp_region_lit <| mv J Y Y fun a J=> av J Y Y fun a J=> av J Y Y fun a J=> s0 <| then_n (hK12 _ _ <| wp_ret (hR _ _ _ _ _ J (run_results Tryz.results24 (.t J Y (.t J Y (.nil)))) ?_))))))
 exact ⟨_, z, Y, RetP.some hpl hO, G.one .h⟩
theorem places_none (A : Option Addr) (n c : Nat) (xs : List Nat) (w0 : World) (hA : Rd w0 A (byts xs)) (hn : xs.length = n) (hnc : n ≤ c) (hc : c ≤ 9223372036854775807) (hB : Byt xs) (hn2 : n ≤ 1024) (h : placesN xs = none) : Ret Tryz.prog 24 [.slice A n c] w0 [] (fun v s => v = .tuple #[.slice none 0 0, .bool false] ∧ s = []) := by
  have := places_calls A n c xs w0 hA hn hnc hc hB hn2
  simpa only [RetP, h] using this
theorem places_some (A : Option Addr) (n c : Nat) (xs l : List Nat) (w0 : World) (hA : Rd w0 A (byts xs)) (hn : xs.length = n) (hnc : n ≤ c) (hc : c ≤ 9223372036854775807) (hB : Byt xs) (hn2 : n ≤ 1024) (h : placesN xs = some l) : Ret Tryz.prog 24 [.slice A n c] w0 [] (fun v s => ∃ A c, v = .tuple #[.slice A l.length c, .bool true] ∧ OwnS s A l.length c (ints l) 3 1) := by
  have := places_calls A n c xs w0 hA hn hnc hc hB hn2
  simpa only [RetP, h] using this
theorem rcheck_none (A : Option Addr) (n c : Nat) (xs : List Nat) (w0 : World) (hA : Rd w0 A (byts xs)) (hn : xs.length = n) (hnc : n ≤ c) (hc : c ≤ 9223372036854775807) (hB : Byt xs) (hpl : placesN xs = none) : Ret Tryz.prog 15 [.slice A n c] w0 [] (fun v s => v = chkV xs ∧ s = []) := by
 refine fn_start Tryz.func15 Y Tryz.ntmps15 Y [(0, .slice A n c)] ⟨Y, trivial⟩ ?_
 intro Q a hP J hR hN
 have G := St.start w0
 refine wp_seq_k fun K1 hK1=> wp_region_lit <| av J Y Y fun a J=> s0 <| then_n (hK1 _ _ <| wp_seq_k fun K2 hK2=> wp_seq_k fun K3 hK3=> ?_)
 have hK3' : ∀ a w, (Fr 53 [(0, .slice A n c), (14, .bool (decide (n < 1 ∨ 1024 < n)))] a ∧ St w0 [] [] w) → K3 a w := by
  rintro a w ⟨J, G⟩
  refine hK3 _ _ ?_
  refine cD J Y (fun c1=> ?_) (fun c1=> ?_)
  ·refine wp_seq_k fun K4 hK4=> wp_region_lit <| av J Y Y fun a J=> s0 <| then_n (hK4 _ _ <| wp_ret (then_r (hR _ _ _ _ _ J (run_results Tryz.results15 (.t J Y (.nil))) ?_)))
   exact ⟨_, [], Y, ⟨(chk_len (by omega)).symm, Y⟩, G.none⟩
  refine wp_skip <| then_n (hK2 _ _ <| wp_seq_k fun K5 hK5=> wp_region_lit <| mv J Y Y fun a J=> so (wn Y) (O.call Y Y J ent24 (J.evs Y) G (places_none A n c xs w (hA.old G) hn hnc hc hB (by omega) hpl) fun v s17 a w hR J G=> ?_))
  obtain ⟨rfl, rfl⟩ := hR
  refine mv J Y Y fun a J=> xv J Y Y Y fun a J=> xv J Y Y Y fun a J=> av J Y Y fun a J=> av J Y Y fun a J=> s0 <| then_n (hK5 _ _ <| wp_seq_k fun K6 hK6=> wp_seq_k fun K7 hK7=> wp_region_lit <| mv J Y Y fun a J=> ?_)
  refine sw J Y Y Y ((by first | exact R.notD (J.ev Y) | exact R.not (J.ev Y))) fun a J=> ?_
  refine s0 <| then_n (hK7 _ _ <| cT J Y <| wp_seq_k fun K8 hK8=> wp_region_lit <| av J Y Y fun a J=> s0 <| then_n (hK8 _ _ <| wp_ret (then_r (hR _ _ _ _ _ J (run_results Tryz.results15 (.t J Y (.nil))) ?_))))
  exact ⟨_, [], Y, ⟨(chk_none hpl).symm, Y⟩, G.none⟩
 refine wp_region_lit <| mv J Y Y fun a J=> sw J Y Y Y (R.len Tryz.underlying22 (J.ev Y)) fun a J=> lS J Y Y Y fun a J=> mv J Y Y fun a J=> J.splitD (t := 10) Y (fun h10 J=> ?_) (fun h10 J=> ?_)
 ·refine kz J Y Y Y Y Y Y fun a J=> kz J Y Y Y Y Y Y fun a J=> kz J Y Y Y Y Y Y fun a J=> pT J Y Y Y fun a J=> s0 ?_
  exact then_n (hK3' _ _ ⟨J.sub ⟨Y, (congrArg (fun z => some (Value.bool z)) (by first | exact (decide_eq_true (by omega)).symm | exact (decide_eq_false (by omega)).symm | exact decide_eq_decide.2 (by omega))), trivial⟩, G.sel [] Y Y⟩)
 refine my J Y Y Y Y fun a J=> sv' J (wy J Y Y Y) Y Y (R.len Tryz.underlying22 (J.ev Y)) fun a J=> sv' J (wy J Y Y Y) Y Y (R.gtr (J.ev Y) (J.ev Y)) fun a J=> pF J Y Y Y fun a J=> s0 ?_
 exact then_n (hK3' _ _ ⟨J.sub ⟨Y, (congrArg (fun z => some (Value.bool z)) (by first | exact (decide_eq_true (by omega)).symm | exact (decide_eq_false (by omega)).symm | exact decide_eq_decide.2 (by omega))), trivial⟩, G.sel [] Y Y⟩)
set_option maxHeartbeats 1000000 in
theorem rcheck_some (A : Option Addr) (n c : Nat) (xs : List Nat) (l : List Nat) (w0 : World) (hA : Rd w0 A (byts xs)) (hn : xs.length = n) (hnc : n ≤ c) (hc : c ≤ 9223372036854775807) (hB : Byt xs) (hpl : placesN xs = some l) : Ret Tryz.prog 15 [.slice A n c] w0 [] (fun v s => v = chkV xs ∧ s = []) := by
 refine fn_start Tryz.func15 Y Tryz.ntmps15 Y [(0, .slice A n c)] ⟨Y, trivial⟩ ?_
 intro Q a hP J hR hN
 have G := St.start w0
 refine wp_seq_k fun K1 hK1=> wp_region_lit <| av J Y Y fun a J=> s0 <| then_n (hK1 _ _ <| wp_seq_k fun K2 hK2=> wp_seq_k fun K3 hK3=> ?_)
 have hK3' : ∀ a w, (Fr 53 [(0, .slice A n c), (14, .bool (decide (n < 1 ∨ 1024 < n)))] a ∧ St w0 [] [] w) → K3 a w := by
  rintro a w ⟨J, G⟩
  refine hK3 _ _ ?_
  refine cD J Y (fun c1=> ?_) (fun c1=> ?_)
  ·refine wp_seq_k fun K4 hK4=> wp_region_lit <| av J Y Y fun a J=> s0 <| then_n (hK4 _ _ <| wp_ret (then_r (hR _ _ _ _ _ J (run_results Tryz.results15 (.t J Y (.nil))) ?_)))
   exact ⟨_, [], Y, ⟨(chk_len (by omega)).symm, Y⟩, G.none⟩
  refine wp_skip <| then_n (hK2 _ _ <| wp_seq_k fun K5 hK5=> wp_region_lit <| mv J Y Y fun a J=> so (wn Y) (O.call Y Y J ent24 (J.evs Y) G (places_some A n c xs l w (hA.old G) hn hnc hc hB (by omega) hpl) fun v s17 a w hR J G=> ?_))
  obtain ⟨A17, c17, rfl, hO17⟩ := hR
  refine mv J Y Y fun a J=> xv J Y Y Y fun a J=> xv J Y Y Y fun a J=> av J Y Y fun a J=> av J Y Y fun a J=> s0 <| then_n (hK5 _ _ <| wp_seq_k fun K6 hK6=> wp_seq_k fun K7 hK7=> wp_region_lit <| mv J Y Y fun a J=> ?_)
  refine sw J Y Y Y ((by first | exact R.notD (J.ev Y) | exact R.not (J.ev Y))) fun a J=> ?_
  refine s0 <| then_n (hK7 _ _ <| cF J Y <| wp_skip <| then_n (hK6 _ _ <| wp_seq_k fun K8 hK8=> wp_seq_k fun K9 hK9=> wp_region_lit <| av J Y Y fun a J=> s0 <| then_n (hK9 _ _ <| wp_block <| wp_loop_N (fun g a w=> ∃ (i : Nat), l.length - i = g ∧ Fr 53 [(0, .slice A n c), (3, .slice A17 l.length c17), (5, .int .i64 ((i : Nat) : Int))] a ∧ St w0 [] [s17] w ∧ (i ≤ l.length) ∧ ((l.take i).all (okJ xs l) = true)) (l.length - 0) ?_ ?_)))
  ·exact ⟨0, Y, J.sub ⟨Y, Y, Y, trivial⟩, G.sel [0] Y Y, by omega, Y⟩
  rintro KL1 g a w ⟨i, hg1, J, G, hi, ha⟩ hKL1
  have hc17 : c17 ≤ 9223372036854775807 := hO17.cap; have hn17 := hO17.2.1
  refine wp_seq_k fun K10 hK10=> wp_seq_k fun K11 hK11=> wp_region_lit <| mv J Y Y fun a J=> mv J Y Y fun a J=> sw J Y Y Y (R.len Tryz.underlying61 (J.ev Y)) fun a J=> lS J Y Y Y fun a J=> s0 <| then_n (hK11 _ _ <| cD J Y (fun c2=> ?_) (fun c2=> ?_))
  ·have hq := places_mem hpl _ (getD_mem (l := l) (i := i) (by omega)); have hq1 := hq.1; have hq2 := hq.2; have hb := cAt_lt hB (l.getD i 0)
   refine wp_skip <| then_n (hK10 _ _ <| wp_seq_k fun K12 hK12=> wp_block <| wp_seq_k fun K13 hK13=> wp_region_lit <| mv J Y Y fun a J=> mv J Y Y fun a J=> mv J Y Y fun a J=> sw J Y Y Y (R.indexO Tryz.underlying61 sz3 (J.ev Y) ((hO17.rd G .h).ne (by rw [length_ints]; omega)) (J.ev Y) (by omega) (by omega)) fun a J=> sw J Y Y Y (R.loadO one3 (J.ev Y) (hO17.rd G .h) (ints_get (i := i) (by omega) (by omega))) fun a J=> sw J Y Y Y (R.indexO Tryz.underlying22 sz5 (J.ev Y) (Rd.ne hA (by rw [length_byts]; omega)) (J.ev Y) (by omega) (by omega)) fun a J=> sw J Y Y Y (R.loadO one5 (J.ev Y) (hA.old G) (cb_at (i := (l.getD i 0)) (by omega) (by omega))) fun a J=> sw J Y Y Y (R.convI Tryz.underlying5 Tryz.underlying3 (J.ev Y) (by omega)) fun a J=> av J Y Y fun a J=> s0 <| then_n (hK13 _ _ <| wp_seq_k fun K14 hK14=> ?_))
   have hK14' : ∀ a w, (Fr 53 [(0, .slice A n c), (3, .slice A17 l.length c17), (5, .int .i64 ((i : Nat) : Int)), (52, .bool (!okJ xs l (l.getD i 0)))] a ∧ St w0 [] [s17] w) → K14 a w := by
    rintro a w ⟨J, G⟩
    refine hK14 _ _ ?_
    refine cS J Y (fun c3=> ?_) (fun c3=> ?_)
    ·have hok : okJ xs l (l.getD i 0) = false := by simpa using c3
     refine wp_seq_k fun K15 hK15=> wp_region_lit <| av J Y Y fun a J=> s0 <| then_n (hK15 _ _ <| wp_ret (blk_r (then_r (then_r (blk_r (then_r (hR _ _ _ _ _ J (run_results Tryz.results15 (.t J Y (.nil))) ?_)))))))
     exact ⟨_, [], Y, ⟨(chk_bad hpl (getD_mem (i := i) (by omega)) hok).symm, Y⟩, G.none⟩
    have hok : okJ xs l (l.getD i 0) = true := by simpa using c3
    refine wp_skip <| blk_n <| then_n (hK12 _ _ <| wp_region_lit <| mv J Y Y fun a J=> aI J Y Y Y (by omega) fun a J=> av J Y Y fun a J=> s0 <| then_n (hKL1 (l.length - (i + 1)) _ _ ?_ ?_))
    ·omega
    exact ⟨i + 1, Y, J.sub ⟨Y, Y, (congrArg (fun z => some (Value.int .i64 z)) (by omega)), trivial⟩, G.sel [0] Y Y, by omega, all_take (by omega) ha hok⟩
   refine wp_region_lit <| mv J Y Y fun a J=> eL J Y Y Y fun a J=> mv J Y Y fun a J=> J.splitD (t := 38) Y (fun h38 J=> ?_) (fun h38 J=> ?_)
   ·refine kz J Y Y Y Y Y Y fun a J=> kz J Y Y Y Y Y Y fun a J=> pT J Y Y Y fun a J=> mv J Y Y fun a J=> my J Y Y Y Y fun a J=> my J Y Y Y Y fun a J=> my J Y Y Y Y fun a J=> my J Y Y Y Y fun a J=> sv' J (wy J Y Y Y) Y Y (R.indexO Tryz.underlying61 sz3 (J.ev Y) ((hO17.rd G .h).ne (by rw [length_ints]; omega)) (J.ev Y) (by omega) (by omega)) fun a J=> sv' J (wy J Y Y Y) Y Y (R.loadO one3 (J.ev Y) (hO17.rd G .h) (ints_get (i := i) (by omega) (by omega))) fun a J=> so (wy J Y Y Y) (O.call Y Y J ent30 (J.evs Y) G (rtarget_calls A n c xs (l.getD i 0) w (hA.old G) hn hnc hc hB (by have := (jump_size (xs := xs) (p := (l.getD i 0)) (by omega) hq2 (isJump_of (by omega))); omega)) fun v s49 a w hR J G=> ?_)
    obtain ⟨rfl, rfl⟩ := hR
    refine so (wy J Y Y Y) (O.call Y Y J ent52 (J.evs Y) G (among_calls A17 l.length c17 (targetN xs (l.getD i 0)) l w (hO17.rd G (.t .h)) Y (by have := hO17.2.1; have := hO17.cap; omega)) fun v s50 a w hR J G=> ?_)
    obtain ⟨rfl, rfl⟩ := hR
    refine sv' J (wy J Y Y Y) Y Y ((by first | exact R.notD (J.ev Y) | exact R.not (J.ev Y))) fun a J=> ?_
    refine pT J Y Y Y fun a J=> s0 ?_
    exact then_n (hK14' _ _ ⟨J.sub ⟨Y, Y, Y, (by first | (rw [okJ_j (by omega)]; rfl) | (rw [okJ_n (by omega)]; rfl)), trivial⟩, G.sel [2] Y Y⟩)
   refine my J Y Y Y Y fun a J=> sv' J (wy J Y Y Y) Y Y (R.eql (J.ev Y) (J.ev Y)) fun a J=> pF J Y Y Y fun a J=> mv J Y Y fun a J=> J.splitD (t := 42) Y (fun h42 J=> ?_) (fun h42 J=> ?_)
   ·refine my J Y Y Y Y fun a J=> my J Y Y Y Y fun a J=> my J Y Y Y Y fun a J=> my J Y Y Y Y fun a J=> sv' J (wy J Y Y Y) Y Y (R.indexO Tryz.underlying61 sz3 (J.ev Y) ((hO17.rd G .h).ne (by rw [length_ints]; omega)) (J.ev Y) (by omega) (by omega)) fun a J=> sv' J (wy J Y Y Y) Y Y (R.loadO one3 (J.ev Y) (hO17.rd G .h) (ints_get (i := i) (by omega) (by omega))) fun a J=> so (wy J Y Y Y) (O.call Y Y J ent30 (J.evs Y) G (rtarget_calls A n c xs (l.getD i 0) w (hA.old G) hn hnc hc hB (by have := (jump_size (xs := xs) (p := (l.getD i 0)) (by omega) hq2 (isJump_of (by omega))); omega)) fun v s49 a w hR J G=> ?_)
    obtain ⟨rfl, rfl⟩ := hR
    refine so (wy J Y Y Y) (O.call Y Y J ent52 (J.evs Y) G (among_calls A17 l.length c17 (targetN xs (l.getD i 0)) l w (hO17.rd G (.t .h)) Y (by have := hO17.2.1; have := hO17.cap; omega)) fun v s50 a w hR J G=> ?_)
    obtain ⟨rfl, rfl⟩ := hR
    refine sv' J (wy J Y Y Y) Y Y ((by first | exact R.notD (J.ev Y) | exact R.not (J.ev Y))) fun a J=> ?_
    refine pT J Y Y Y fun a J=> s0 ?_
    exact then_n (hK14' _ _ ⟨J.sub ⟨Y, Y, Y, (by first | (rw [okJ_j (by omega)]; rfl) | (rw [okJ_n (by omega)]; rfl)), trivial⟩, G.sel [2] Y Y⟩)
   refine kz J Y Y Y Y Y Y fun a J=> kz J Y Y Y Y Y Y fun a J=> kz J Y Y Y Y Y Y fun a J=> kz J Y Y Y Y Y Y fun a J=> kz J Y Y Y Y Y Y fun a J=> kz J Y Y Y Y Y Y fun a J=> kz J Y Y Y Y Y Y fun a J=> kz J Y Y Y Y Y Y fun a J=> kz J Y Y Y Y Y Y fun a J=> pF J Y Y Y fun a J=> s0 ?_
   exact then_n (hK14' _ _ ⟨J.sub ⟨Y, Y, Y, (by first | (rw [okJ_j (by omega)]; rfl) | (rw [okJ_n (by omega)]; rfl)), trivial⟩, G.sel [0] Y Y⟩)
  obtain rfl : i = l.length := by omega
  rw [List.take_length] at ha
  refine wp_exit (then_x (then_x (blk_hit <| then_n (hK8 _ _ <| wp_seq_k fun K16 hK16=> wp_region_lit <| av J Y Y fun a J=> s0 <| then_n (hK16 _ _ <| wp_ret (hR _ _ _ _ _ J (run_results Tryz.results15 (.t J Y (.nil))) ?_))))))
  exact ⟨_, [], Y, ⟨(chk_ok (by omega) hpl ha).symm, Y⟩, G.none⟩
 refine wp_region_lit <| mv J Y Y fun a J=> sw J Y Y Y (R.len Tryz.underlying22 (J.ev Y)) fun a J=> lS J Y Y Y fun a J=> mv J Y Y fun a J=> J.splitD (t := 10) Y (fun h10 J=> ?_) (fun h10 J=> ?_)
 ·refine kz J Y Y Y Y Y Y fun a J=> kz J Y Y Y Y Y Y fun a J=> kz J Y Y Y Y Y Y fun a J=> pT J Y Y Y fun a J=> s0 ?_
  exact then_n (hK3' _ _ ⟨J.sub ⟨Y, (congrArg (fun z => some (Value.bool z)) (by first | exact (decide_eq_true (by omega)).symm | exact (decide_eq_false (by omega)).symm | exact decide_eq_decide.2 (by omega))), trivial⟩, G.sel [] Y Y⟩)
 refine my J Y Y Y Y fun a J=> sv' J (wy J Y Y Y) Y Y (R.len Tryz.underlying22 (J.ev Y)) fun a J=> sv' J (wy J Y Y Y) Y Y (R.gtr (J.ev Y) (J.ev Y)) fun a J=> pF J Y Y Y fun a J=> s0 ?_
 exact then_n (hK3' _ _ ⟨J.sub ⟨Y, (congrArg (fun z => some (Value.bool z)) (by first | exact (decide_eq_true (by omega)).symm | exact (decide_eq_false (by omega)).symm | exact decide_eq_decide.2 (by omega))), trivial⟩, G.sel [] Y Y⟩)
theorem rcheck_calls (A : Option Addr) (n c : Nat) (xs : List Nat) (w0 : World) (hA : Rd w0 A (byts xs)) (hn : xs.length = n) (hnc : n ≤ c) (hc : c ≤ 9223372036854775807) (hB : Byt xs) : Ret Tryz.prog 15 [.slice A n c] w0 [] (fun v s => v = chkV xs ∧ s = []) := by
  cases h : placesN xs with
  | none => exact rcheck_none A n c xs w0 hA hn hnc hc hB h
  | some l => exact rcheck_some A n c xs l w0 hA hn hnc hc hB h
set_option maxHeartbeats 1000000 in
theorem check_calls (A : Option Addr) (n c : Nat) (xs : List Nat) (w0 : World) (hA : Rd w0 A (byts xs)) (hn : xs.length = n) (hnc : n ≤ c) (hc : c ≤ 9223372036854775807) (hB : Byt xs) : Ret Tryz.prog 14 [.slice A n c] w0 [] (fun v s => v = chkV xs ∧ s = []) := by
 refine fn_start Tryz.func14 Y Tryz.ntmps14 Y [(0, .slice A n c)] ⟨Y, trivial⟩ ?_
 intro Q a hP J hR hN
 have G := St.start w0
 refine wp_seq_k fun K1 hK1=> wp_region_lit <| av J Y Y fun a J=> s0 <| then_n (hK1 _ _ <| wp_seq_k fun K2 hK2=> wp_seq_k fun K3 hK3=> ?_)
 have hK3' : ∀ a w, (Fr 64 [(0, .slice A n c), (15, .bool (decide (n = 0 ∨ 1024 < n)))] a ∧ St w0 [] [] w) → K3 a w := by
  rintro a w ⟨J, G⟩
  refine hK3 _ _ ?_
  refine cD J Y (fun c1=> ?_) (fun c1=> ?_)
  ·refine wp_seq_k fun K4 hK4=> wp_region_lit <| av J Y Y fun a J=> s0 <| then_n (hK4 _ _ <| wp_ret (then_r (hR _ _ _ _ _ J (run_results Tryz.results14 (.t J Y (.nil))) ?_)))
   exact ⟨_, [], Y, ⟨(chk_len (by omega)).symm, Y⟩, G.none⟩
  refine wp_skip <| then_n (hK2 _ _ <| wp_seq_k fun K5 hK5=> wp_region_lit <| so (wn Y) (O.alloc Y Y J ze59b Y G fun b3 a w J G=> ?_))
  refine s0 <| then_n (hK5 _ _ <| wp_seq_k fun K6 hK6=> wp_seq_k fun K7 hK7=> wp_region_lit <| av J Y Y fun a J=> s0 <| then_n (hK7 _ _ <| wp_block <| wp_loop_N (fun g a w=> ∃ (i : Nat) (l : List Nat), n - i = g ∧ Fr 64 [(0, .slice A n c), (3, .pointer (some ⟨b3, 0, none⟩)), (4, .int .i64 ((i : Nat) : Int))] a ∧ St w0 [] [[(b3, Cel (begs l) 106)]] w ∧ (i ≤ n) ∧ (plcs xs 0 = (plcs xs i).map (l ++ ·))) (n - 0) ?_ ?_))
  ·exact ⟨0, [], Y, J.sub ⟨Y, Y, Y, trivial⟩, G.sel [0] Y Y, by omega, by simp⟩
  rintro KL1 g a w ⟨i, l, hg1, J, G, hi, hp⟩ hKL1
  refine wp_seq_k fun K8 hK8=> wp_seq_k fun K9 hK9=> wp_region_lit <| mv J Y Y fun a J=> mv J Y Y fun a J=> sw J Y Y Y (R.len Tryz.underlying22 (J.ev Y)) fun a J=> lS J Y Y Y fun a J=> s0 <| then_n (hK9 _ _ <| cD J Y (fun c2=> ?_) (fun c2=> ?_))
  ·have hsz := sizeN_le xs i
   refine wp_skip <| then_n (hK8 _ _ <| wp_block <| wp_seq_k fun K10 hK10=> wp_region_lit <| mv J Y Y fun a J=> mv J Y Y fun a J=> so (wn Y) (O.call Y Y J ent31 (J.evs Y) G (size_calls A n c xs (i) w (hA.old G) hn hnc hc hB (by omega)) fun v s22 a w hR J G=> ?_))
   obtain ⟨rfl, rfl⟩ := hR
   refine av J Y Y fun a J=> s0 <| then_n (hK10 _ _ <| wp_seq_k fun K11 hK11=> wp_seq_k fun K12 hK12=> wp_region_lit <| mv J Y Y fun a J=> eL J Y Y Y fun a J=> s0 <| then_n (hK12 _ _ <| cD J Y (fun c3=> ?_) (fun c3=> ?_)))
   ·have hpl : placesN xs = none := by (have := hp; rw [plcs_bad (p := i) (by omega) (by omega)] at this; exact this)
    refine wp_seq_k fun K13 hK13=> wp_region_lit <| av J Y Y fun a J=> s0 <| then_n (hK13 _ _ <| wp_ret (then_r (blk_r (then_r (blk_r (then_r (hR _ _ _ _ _ J (run_results Tryz.results14 (.t J Y (.nil))) ?_)))))))
    exact ⟨_, [], Y, ⟨(chk_none hpl).symm, Y⟩, G.none⟩
   have hs : sizeN xs i ≠ 0 := by omega
   refine wp_skip <| then_n (hK11 _ _ <| wp_seq_k fun K14 hK14=> wp_region_lit <| mv J Y Y fun a J=> sw J Y Y Y (R.indexA Tryz.underlying106 sz4 (J.ev Y) (J.ev Y) (by omega) (by omega)) fun a J=> so (wn Y) (O.store sz4 (J.ev Y) (J.ev Y) Y Y G (.t .h) (begs_set (i := i) (by omega)) (by rw [length_begs]; omega) fun w G=> ?_))
   refine s0 <| then_n (hK14 _ _ <| wp_region_lit <| mv J Y Y fun a J=> mv J Y Y fun a J=> aI J Y Y Y (by omega) fun a J=> av J Y Y fun a J=> s0 <| blk_n <| then_n (hKL1 (n - (i + sizeN xs i)) _ _ ?_ ?_))
   ·omega
   exact ⟨i + sizeN xs i, l ++ [i], Y, J.sub ⟨Y, Y, (congrArg (fun z => some (Value.int .i64 z)) (by omega)), trivial⟩, G.sel [1] Y Y, by have := (sizeN_le xs i).resolve_left hs; omega, plcs_step (by omega) hs hp⟩
  have hpl : placesN xs = some l := by (have := hp; rw [plcs_end (p := i) (by omega)] at this; exact this.trans (by simp))
  refine wp_exit (then_x (then_x (blk_hit <| then_n (hK6 _ _ <| wp_seq_k fun K15 hK15=> wp_seq_k fun K16 hK16=> wp_region_lit <| av J Y Y fun a J=> s0 <| then_n (hK16 _ _ <| wp_block <| wp_loop_N (fun g a w=> ∃ (j : Nat) (m : List Nat) (r : List Nat), n - j = g ∧ Fr 64 [(0, .slice A n c), (3, .pointer (some ⟨b3, 0, none⟩)), (6, .int .i64 ((j : Nat) : Int))] a ∧ St w0 [] [[(b3, Cel (begs l) 106)]] w ∧ (j ≤ n) ∧ (plcs xs j = some r) ∧ (l = m ++ r) ∧ (m.all (okJ xs l) = true)) (n - 0) ?_ ?_)))))
  ·exact ⟨0, [], l, Y, J.sub ⟨Y, Y, Y, trivial⟩, G.sel [0] Y Y, by omega, hpl, Y, Y⟩
  rintro KL2 g a w ⟨j, m, r, hg2, J, G, hj, hr, hlr, hm⟩ hKL2
  refine wp_seq_k fun K17 hK17=> wp_seq_k fun K18 hK18=> wp_region_lit <| mv J Y Y fun a J=> mv J Y Y fun a J=> sw J Y Y Y (R.len Tryz.underlying22 (J.ev Y)) fun a J=> lS J Y Y Y fun a J=> s0 <| then_n (hK18 _ _ <| cD J Y (fun c4=> ?_) (fun c4=> ?_))
  ·obtain ⟨r', hs2, rfl, hr2⟩ := plcs_cons (by omega) hr
   have hb := cAt_lt hB j; have htl := targetN_lt hB j; have hsz := sizeN_le xs j
   refine wp_skip <| then_n (hK17 _ _ <| wp_seq_k fun K19 hK19=> ?_)
   have hK19' : ∀ a w, (Fr 64 [(0, .slice A n c), (3, .pointer (some ⟨b3, 0, none⟩)), (6, .int .i64 ((j : Nat) : Int))] a ∧ St w0 [] [[(b3, Cel (begs l) 106)]] w ∧ (okJ xs l j = true)) → K19 a w := by
    rintro a w ⟨J, G, hok⟩
    refine hK19 _ _ ?_
    refine wp_region_lit <| mv J Y Y fun a J=> mv J Y Y fun a J=> mv J Y Y fun a J=> so (wn Y) (O.call Y Y J ent31 (J.evs Y) G (size_calls A n c xs (j) w (hA.old G) hn hnc hc hB (by omega)) fun v s37 a w hR J G=> ?_)
    obtain ⟨rfl, rfl⟩ := hR
    refine aI J Y Y Y (by omega) fun a J=> av J Y Y fun a J=> s0 <| then_n (hKL2 (n - (j + sizeN xs j)) _ _ ?_ ?_)
    ·omega
    exact ⟨j + sizeN xs j, m ++ [j], r', Y, J.sub ⟨Y, Y, (congrArg (fun z => some (Value.int .i64 z)) (by omega)), trivial⟩, G.sel [1] Y Y, by have := (sizeN_le xs j).resolve_left hs2; omega, hr2, by rw [hlr]; simp, all_snoc hm hok⟩
   refine wp_block <| wp_seq_k fun K20 hK20=> wp_seq_k fun K21 hK21=> ?_
   have hK21' : ∀ a w, (Fr 64 [(0, .slice A n c), (3, .pointer (some ⟨b3, 0, none⟩)), (6, .int .i64 ((j : Nat) : Int)), (50, .bool (decide (cAt xs j ≠ 14 ∧ cAt xs j ≠ 15)))] a ∧ St w0 [] [[(b3, Cel (begs l) 106)]] w) → K21 a w := by
    rintro a w ⟨J, G⟩
    refine hK21 _ _ ?_
    refine cD J Y (fun c5=> ?_) (fun c5=> ?_)
    ·refine wp_exit (then_x (blk_hit ?_))
     exact then_n (hK19' _ _ ⟨J.sub ⟨Y, Y, Y, trivial⟩, G.sel [0] Y Y, okJ_n (by omega)⟩)
    refine wp_skip <| then_n (hK20 _ _ <| wp_seq_k fun K22 hK22=> wp_region_lit <| mv J Y Y fun a J=> mv J Y Y fun a J=> so (wn Y) (O.call Y Y J ent32 (J.evs Y) G (target_calls A n c xs j w (hA.old G) hn hnc hc hB (by have := (jump_size (xs := xs) (p := j) (by omega) hs2 (isJump_of (by omega))); omega)) fun v s53 a w hR J G=> ?_))
    obtain ⟨rfl, rfl⟩ := hR
    refine av J Y Y fun a J=> s0 <| then_n (hK22 _ _ <| wp_seq_k fun K23 hK23=> ?_)
    have hK23' : ∀ a w, (Fr 64 [(0, .slice A n c), (3, .pointer (some ⟨b3, 0, none⟩)), (6, .int .i64 ((j : Nat) : Int)), (63, .bool (!okJ xs l j))] a ∧ St w0 [] [[(b3, Cel (begs l) 106)]] w) → K23 a w := by
     rintro a w ⟨J, G⟩
     refine hK23 _ _ ?_
     refine cS J Y (fun c6=> ?_) (fun c6=> ?_)
     ·have hok : okJ xs l j = false := by simpa using c6
      refine wp_seq_k fun K24 hK24=> wp_region_lit <| av J Y Y fun a J=> s0 <| then_n (hK24 _ _ <| wp_ret (blk_r (then_r (then_r (blk_r (then_r (hR _ _ _ _ _ J (run_results Tryz.results14 (.t J Y (.nil))) ?_)))))))
      exact ⟨_, [], Y, ⟨(chk_bad hpl (by rw [hlr]; simp) hok).symm, Y⟩, G.none⟩
     have hok : okJ xs l j = true := by simpa using c6
     refine wp_skip <| blk_n ?_
     exact then_n (hK19' _ _ ⟨J.sub ⟨Y, Y, Y, trivial⟩, G.sel [0] Y Y, hok⟩)
    refine wp_region_lit <| mv J Y Y fun a J=> mv J Y Y fun a J=> sw J Y Y Y (R.len Tryz.underlying22 (J.ev Y)) fun a J=> sw J Y Y Y (R.geq (J.ev Y) (J.ev Y)) fun a J=> mv J Y Y fun a J=> J.splitD (t := 58) Y (fun h58 J=> ?_) (fun h58 J=> ?_)
    ·refine kz J Y Y Y Y Y Y fun a J=> kz J Y Y Y Y Y Y fun a J=> kz J Y Y Y Y Y Y fun a J=> kz J Y Y Y Y Y Y fun a J=> pT J Y Y Y fun a J=> s0 ?_
     exact then_n (hK23' _ _ ⟨J.sub ⟨Y, Y, Y, (by first | (rw [okJ_far (by omega) hpl (by omega)]; rfl) | (rw [okJ_j (by omega)]; rfl)), trivial⟩, G.sel [1] Y Y⟩)
    refine my J Y Y Y Y fun a J=> sv' J (wy J Y Y Y) Y Y (R.indexA Tryz.underlying106 sz4 (J.ev Y) (J.ev Y) (by omega) (by omega)) fun a J=> sv' J (wy J Y Y Y) Y Y (R.load one4 (J.ev Y) G (.t .h) (begs_at (j := targetN xs j) (by omega) (by omega))) fun a J=> ?_
    refine sv' J (wy J Y Y Y) Y Y ((by first | exact R.notD (J.ev Y) | exact R.not (J.ev Y))) fun a J=> ?_
    refine pF J Y Y Y fun a J=> s0 ?_
    exact then_n (hK23' _ _ ⟨J.sub ⟨Y, Y, Y, (by first | (rw [okJ_far (by omega) hpl (by omega)]; rfl) | (rw [okJ_j (by omega)]; rfl)), trivial⟩, G.sel [1] Y Y⟩)
   refine wp_region_lit <| mv J Y Y fun a J=> mv J Y Y fun a J=> sw J Y Y Y (R.indexO Tryz.underlying22 sz5 (J.ev Y) (Rd.ne hA (by rw [length_byts]; omega)) (J.ev Y) (by omega) (by omega)) fun a J=> sw J Y Y Y (R.loadO one5 (J.ev Y) (hA.old G) (cb_at (i := j) (by omega) (by omega))) fun a J=> sw J Y Y Y (R.neq (J.ev Y) (J.ev Y)) fun a J=> mv J Y Y fun a J=> J.splitD (t := 44) Y (fun h44 J=> ?_) (fun h44 J=> ?_)
   ·refine my J Y Y Y Y fun a J=> my J Y Y Y Y fun a J=> sv' J (wy J Y Y Y) Y Y (R.indexO Tryz.underlying22 sz5 (J.ev Y) (Rd.ne hA (by rw [length_byts]; omega)) (J.ev Y) (by omega) (by omega)) fun a J=> sv' J (wy J Y Y Y) Y Y (R.loadO one5 (J.ev Y) (hA.old G) (cb_at (i := j) (by omega) (by omega))) fun a J=> sv' J (wy J Y Y Y) Y Y (R.neq (J.ev Y) (J.ev Y)) fun a J=> pT J Y Y Y fun a J=> s0 ?_
    exact then_n (hK21' _ _ ⟨J.sub ⟨Y, Y, Y, (congrArg (fun z => some (Value.bool z)) (by first | exact (decide_eq_true (by omega)).symm | exact (decide_eq_false (by omega)).symm | exact decide_eq_decide.2 (by omega))), trivial⟩, G.sel [0] Y Y⟩)
   refine kz J Y Y Y Y Y Y fun a J=> kz J Y Y Y Y Y Y fun a J=> kz J Y Y Y Y Y Y fun a J=> kz J Y Y Y Y Y Y fun a J=> kz J Y Y Y Y Y Y fun a J=> pF J Y Y Y fun a J=> s0 ?_
   exact then_n (hK21' _ _ ⟨J.sub ⟨Y, Y, Y, (congrArg (fun z => some (Value.bool z)) (by first | exact (decide_eq_true (by omega)).symm | exact (decide_eq_false (by omega)).symm | exact decide_eq_decide.2 (by omega))), trivial⟩, G.sel [0] Y Y⟩)
  have hre : r = [] := by (rw [plcs_end (p := j) (by omega)] at hr; simpa using hr.symm)
  subst hre
  rw [List.append_nil] at hlr
  subst hlr
  refine wp_exit (then_x (then_x (blk_hit <| then_n (hK15 _ _ <| wp_seq_k fun K25 hK25=> wp_region_lit <| av J Y Y fun a J=> s0 <| then_n (hK25 _ _ <| wp_ret (hR _ _ _ _ _ J (run_results Tryz.results14 (.t J Y (.nil))) ?_))))))
  exact ⟨_, [], Y, ⟨(chk_ok (by omega) hpl hm).symm, Y⟩, G.none⟩
 refine wp_region_lit <| mv J Y Y fun a J=> sw J Y Y Y (R.len Tryz.underlying22 (J.ev Y)) fun a J=> eL J Y Y Y fun a J=> mv J Y Y fun a J=> J.splitD (t := 11) Y (fun h11 J=> ?_) (fun h11 J=> ?_)
 ·refine kz J Y Y Y Y Y Y fun a J=> kz J Y Y Y Y Y Y fun a J=> kz J Y Y Y Y Y Y fun a J=> pT J Y Y Y fun a J=> s0 ?_
  exact then_n (hK3' _ _ ⟨J.sub ⟨Y, (congrArg (fun z => some (Value.bool z)) (by first | exact (decide_eq_true (by omega)).symm | exact (decide_eq_false (by omega)).symm | exact decide_eq_decide.2 (by omega))), trivial⟩, G.sel [] Y Y⟩)
 refine my J Y Y Y Y fun a J=> sv' J (wy J Y Y Y) Y Y (R.len Tryz.underlying22 (J.ev Y)) fun a J=> sv' J (wy J Y Y Y) Y Y (R.gtr (J.ev Y) (J.ev Y)) fun a J=> pF J Y Y Y fun a J=> s0 ?_
 exact then_n (hK3' _ _ ⟨J.sub ⟨Y, (congrArg (fun z => some (Value.bool z)) (by first | exact (decide_eq_true (by omega)).symm | exact (decide_eq_false (by omega)).symm | exact decide_eq_decide.2 (by omega))), trivial⟩, G.sel [] Y Y⟩)
end Go.Proofs.YtlapmbkfmbkdoaaGreatDoor
end
section
namespace Go.Fw
open Go.RowKit Go.Proofs.YtlapmbkfmbkdoaaGreatDoor
def RdK (w : World) (ks : List Nat) (A : Option Addr) (cs : List Value) : Prop := Rd w A cs ∧ ∀ a, A = some a → cs ≠ [] → a.block ∉ ks
section
variable {w0 w w' : World} {ks ks' : List Nat} {bs bs' : List Seg} {s s1 s2 s' t : Seg} {A : Option Addr} {cs : List Value} {b off : Nat} {l : List Value} {E : TypeId}
theorem RdK.old (h : RdK w0 ks A cs) (hs : St w0 ks bs w) : Rd w A cs := by
  intro j v hj
  obtain ⟨a, ha, hc⟩ := h.1 j v hj
  refine ⟨a, ha, ?_⟩
  rw [World.cell?_of_block (w := w0)]
  · exact hc
  · refine hs.keep _ (lt_of_cell hc) ?_
    rw [add_block]
    exact h.2 a ha (by intro e; subst e; simp at hj)
end
section
variable {P : Program} {ops : Array Oper} {Q : Exit → Act → World → Prop} {a : Act} {w w' w0 : World} {n : Nat} {env : Env} {d : Nat} {v z : Value} {K : Act → World → Prop}
variable {dst : Option Tmp} {ty : TypeId} {pos : String} {af : Array Edge} {g : Option (Nat × Bool)}
variable {ks : List Nat} {bs bs' : List Seg} {s : Seg}
theorem Ret.mono {f : FuncId} {vs : List Value} {R R' : Value → Seg → Prop} (h : Ret P f vs w ks R) (hr : ∀ v s, R v s → R' v s) : Ret P f vs w ks R' := by
  refine Calls.mono h ?_
  rintro e w' ⟨v, s', he, hR, hs⟩
  exact ⟨v, s', he, hr _ _ hR, hs⟩
end
end Go.Fw
end
section
namespace Go.Fw
open Go.RowKit Go.Proofs.YtlapmbkfmbkdoaaGreatDoor
section
variable {w0 w : World} {ks : List Nat} {bs : List Seg} {stk : List Nat} {s sg : Seg} {A : Option Addr} {c n : Nat}
end
end Go.Fw
end
section
namespace Go.Fw
open Go.RowKit Go.Proofs.YtlapmbkfmbkdoaaGreatDoor
section
variable {P : Program} {ops : Array Oper} {Q : Exit → Act → World → Prop} {a : Act} {w w' w0 : World} {env : Env} {d N : Nat} {K : Act → World → Prop}
variable {ρ : Operand → Value} {dst : Option Tmp} {ty : TypeId} {pos : String} {af : Array Edge} {g : Option (Nat × Bool)} {x y z : Operand} {T E T1 T2 : TypeId}
variable {ks : List Nat} {bs bs' : List Seg} {b n sz c m c2 o p q : Nat} {l l' cs : List Value} {B A : Option Addr} {k k2 : IntKind}
end
end Go.Fw
end
section
namespace Go.Proofs.YtlapmbkfmbkdoaaGreatDoor
open Go Go.Fw Go.RowKit
attribute [local irreducible] Go.Oper.wp Go.Code.wp Go.wpList Go.Fw.WL Go.Calls
end Go.Proofs.YtlapmbkfmbkdoaaGreatDoor
end
section
namespace Go.Proofs.YtlapmbkfmbkdoaaGreatDoor
open Go Go.Fw Go.RowKit
attribute [local irreducible] Go.Oper.wp Go.Code.wp Go.wpList Go.Fw.WL Go.Calls
end Go.Proofs.YtlapmbkfmbkdoaaGreatDoor
end
section
namespace Go.Proofs.YtlapmbkfmbkdoaaGreatDoor
open Go Go.Fw Go.RowKit
attribute [local irreducible] Go.Oper.wp Go.Code.wp Go.wpList Go.Fw.WL Go.Calls
end Go.Proofs.YtlapmbkfmbkdoaaGreatDoor
end
section
namespace Go.Proofs.YtlapmbkfmbkdoaaGreatDoor
open Go Go.Fw Go.RowKit
attribute [local irreducible] Go.Oper.wp Go.Code.wp Go.wpList Go.Fw.WL Go.Calls
end Go.Proofs.YtlapmbkfmbkdoaaGreatDoor
end
section
namespace Go.Proofs.YtlapmbkfmbkdoaaGreatDoor
open Go Go.Fw Go.RowKit
attribute [local irreducible] Go.Oper.wp Go.Code.wp Go.wpList Go.Fw.WL Go.Calls
end Go.Proofs.YtlapmbkfmbkdoaaGreatDoor
end
section
namespace Go.Proofs.YtlapmbkfmbkdoaaGreatDoor
open Go Go.Fw Go.RowKit
attribute [local irreducible] Go.Oper.wp Go.Code.wp Go.wpList Go.Fw.WL Go.Calls
theorem own_open3 {s : Seg} {A : Option Addr} {n c : Nat} {cells : List Value} {E : TypeId} {sz : Nat} (h : OwnS s A n c cells E sz) (hn : 0 < n) : ∃ g rest, A = some ⟨g, 0, none⟩ ∧ s = [(g, Cel (cells ++ rest) E)] ∧ n ≤ c ∧ (cells ++ rest).length = c * sz ∧ c ≤ maxLen := by
  obtain ⟨_, h2, h3⟩ := h
  rcases h3 with ⟨rfl, rfl, rfl⟩ | ⟨g, rest, rfl, rfl, h4, h5⟩
  · omega
  · exact ⟨g, rest, rfl, rfl, h2, h4, h5⟩
end Go.Proofs.YtlapmbkfmbkdoaaGreatDoor
end
section
namespace Go.Proofs.YtlapmbkfmbkdoaaGreatDoor
open Go Go.Fw Go.RowKit
attribute [local irreducible] Go.Oper.wp Go.Code.wp Go.wpList Go.Fw.WL Go.Calls
end Go.Proofs.YtlapmbkfmbkdoaaGreatDoor
end
section
namespace Go.Proofs.YtlapmbkfmbkdoaaGreatDoor
open Go Go.Fw Go.RowKit
attribute [local irreducible] Go.Oper.wp Go.Code.wp Go.wpList Go.Fw.WL Go.Calls
end Go.Proofs.YtlapmbkfmbkdoaaGreatDoor
end
section
namespace Go.Proofs.YtlapmbkfmbkdoaaGreatDoor
open Go Go.Fw Go.RowKit
attribute [local irreducible] Go.Oper.wp Go.Code.wp Go.wpList Go.Fw.WL Go.Calls
end Go.Proofs.YtlapmbkfmbkdoaaGreatDoor
end
section
namespace Go.Proofs.YtlapmbkfmbkdoaaGreatDoor
open Go Go.Fw Go.RowKit
section
variable {stk stk' : List Nat} {s1 s2 : Seg} {vb k : Nat} {u : Nat → Nat} {w0 : World} {vs : List Value} {val : Nat}
end
end Go.Proofs.YtlapmbkfmbkdoaaGreatDoor
end
section
namespace Go.Proofs.YtlapmbkfmbkdoaaGreatDoor
open Go Go.Fw Go.RowKit
attribute [local irreducible] Go.Oper.wp Go.Code.wp Go.wpList Go.Fw.WL Go.Calls
def tabR : List (List Value) := [[.string ⟨#[115, 116, 111, 112]⟩, .int .i64 1, .int .i64 0, .int .i64 0, .func (.func 63) #[] #[]],
  [.string ⟨#[100, 111, 110, 101]⟩, .int .i64 1, .int .i64 1, .int .i64 0, .func (.func 64) #[] #[]],
  [.string ⟨#[112, 117, 115, 104]⟩, .int .i64 1, .int .i64 0, .int .i64 1, .func (.func 65) #[] #[]],
  [.string ⟨#[112, 111, 112]⟩, .int .i64 1, .int .i64 1, .int .i64 0, .func (.func 66) #[] #[]],
  [.string ⟨#[100, 117, 112]⟩, .int .i64 1, .int .i64 0, .int .i64 1, .func (.func 67) #[] #[]],
  [.string ⟨#[115, 119, 97, 112]⟩, .int .i64 1, .int .i64 0, .int .i64 0, .func (.func 68) #[] #[]],
  [.string ⟨#[97, 100, 100]⟩, .int .i64 2, .int .i64 2, .int .i64 1, .func (.func 69) #[] #[]],
  [.string ⟨#[115, 117, 98]⟩, .int .i64 2, .int .i64 2, .int .i64 1, .func (.func 70) #[] #[]],
  [.string ⟨#[109, 117, 108]⟩, .int .i64 5, .int .i64 2, .int .i64 1, .func (.func 71) #[] #[]],
  [.string ⟨#[100, 105, 118]⟩, .int .i64 10, .int .i64 2, .int .i64 1, .func (.func 72) #[] #[]],
  [.string ⟨#[109, 111, 100]⟩, .int .i64 10, .int .i64 2, .int .i64 1, .func (.func 73) #[] #[]],
  [.string ⟨#[108, 101, 115, 115]⟩, .int .i64 2, .int .i64 2, .int .i64 1, .func (.func 74) #[] #[]],
  [.string ⟨#[115, 97, 109, 101]⟩, .int .i64 2, .int .i64 2, .int .i64 1, .func (.func 75) #[] #[]],
  [.string ⟨#[110, 111, 116]⟩, .int .i64 2, .int .i64 1, .int .i64 1, .func (.func 76) #[] #[]],
  [.string ⟨#[106, 117, 109, 112]⟩, .int .i64 5, .int .i64 0, .int .i64 0, .func (.func 77) #[] #[]],
  [.string ⟨#[119, 104, 101, 110]⟩, .int .i64 5, .int .i64 1, .int .i64 0, .func (.func 78) #[] #[]],
  [.string ⟨#[97, 114, 103]⟩, .int .i64 2, .int .i64 0, .int .i64 1, .func (.func 79) #[] #[]],
  [.string ⟨#[97, 114, 103, 115]⟩, .int .i64 2, .int .i64 0, .int .i64 1, .func (.func 80) #[] #[]],
  [.string ⟨#[99, 97, 108, 108, 101, 114]⟩, .int .i64 2, .int .i64 0, .int .i64 1, .func (.func 81) #[] #[]],
  [.string ⟨#[115, 101, 108, 102]⟩, .int .i64 2, .int .i64 0, .int .i64 1, .func (.func 82) #[] #[]],
  [.string ⟨#[116, 111, 107, 101, 110]⟩, .int .i64 2, .int .i64 0, .int .i64 1, .func (.func 83) #[] #[]],
  [.string ⟨#[97, 109, 111, 117, 110, 116]⟩, .int .i64 2, .int .i64 0, .int .i64 1, .func (.func 84) #[] #[]],
  [.string ⟨#[116, 105, 109, 101]⟩, .int .i64 2, .int .i64 0, .int .i64 1, .func (.func 85) #[] #[]],
  [.string ⟨#[103, 97, 115]⟩, .int .i64 2, .int .i64 0, .int .i64 1, .func (.func 86) #[] #[]],
  [.string ⟨#[108, 111, 97, 100]⟩, .int .i64 200, .int .i64 1, .int .i64 1, .func (.func 87) #[] #[]],
  [.string ⟨#[115, 97, 118, 101]⟩, .int .i64 200, .int .i64 2, .int .i64 0, .func (.func 88) #[] #[]],
  [.string ⟨#[104, 97, 118, 101]⟩, .int .i64 200, .int .i64 2, .int .i64 1, .func (.func 89) #[] #[]],
  [.string ⟨#[115, 101, 110, 100]⟩, .int .i64 500, .int .i64 3, .int .i64 0, .func (.func 90) #[] #[]]]
def tabL : List Value := tabR.flatten
def rowC (nm : ByteArray) (c : Nat) : List Value := [.string nm, .int .i64 ((priceN c : Nat) : Int), .int .i64 ((takesN c : Nat) : Int), .int .i64 ((laysN c : Nat) : Int), .func (.func (63 + c)) #[] #[]]
theorem flat_at {l : List (List Value)} {k m : Nat} {r : List Value} (hl : ∀ x ∈ l, x.length = m) (hk : l[k]? = some r) : ∀ j v, r[j]? = some v → l.flatten[k * m + j]? = some v := by
  induction l generalizing k with
  | nil => simp at hk
  | cons x l ih =>
    have hx := hl x (by simp)
    intro j v hj
    cases k with
    | zero =>
      simp only [List.getElem?_cons_zero, Option.some.injEq] at hk
      subst hk
      rw [List.flatten_cons, Nat.zero_mul, Nat.zero_add, List.getElem?_append_left]
      · exact hj
      · rcases Nat.lt_or_ge j x.length with h | h
        · exact h
        · rw [List.getElem?_eq_none h] at hj; simp at hj
    | succ k =>
      rw [List.flatten_cons, List.getElem?_append_right (by rw [hx, Nat.add_mul]; omega), hx, show (k + 1) * m + j - m = k * m + j by rw [Nat.add_mul]; omega]
      exact ih (fun y hy => hl y (by simp [hy])) (by simpa using hk) j v hj
theorem one_row (nm : ByteArray) (c : Nat) : ∀ v ∈ rowC nm c, v.oneCell' = true := by simp [rowC, Value.oneCell']
theorem one_tab : ∀ v ∈ tabL, v.oneCell' = true := by decide +kernel
set_option maxHeartbeats 4000000 in
theorem table_calls  (w0 : World) : Ret Tryz.prog 33 [] w0 [] (fun v s => v = .agg tabL.toArray ∧ s = []) := by
 refine fn_start Tryz.func33 Y Tryz.ntmps33 Y [] trivial ?_
 intro Q a hP J hR hN
 have G := St.start w0
 refine wp_seq_k fun K1 hK1=> wp_region_lit <| so (wn Y) (O.alloc Y Y J ze73 Y G fun b0 a w J G=> ?_)
 refine s0 <| then_n (hK1 _ _ <| wp_seq_k fun K2 hK2=> wp_region_lit <| sw J Y Y Y (R.buildStr (l := [.string ⟨#[115, 116, 111, 112]⟩, .int .i64 1, .int .i64 0, .int .i64 0, .func (.func 63) #[] #[]]) Tryz.underlying72 ze72 pl72 (J.evp Y) (by kernel_rfl)) fun a J=> sw J Y Y Y (R.buildStr (l := [.string ⟨#[100, 111, 110, 101]⟩, .int .i64 1, .int .i64 1, .int .i64 0, .func (.func 64) #[] #[]]) Tryz.underlying72 ze72 pl72 (J.evp Y) (by kernel_rfl)) fun a J=> sw J Y Y Y (R.buildStr (l := [.string ⟨#[112, 117, 115, 104]⟩, .int .i64 1, .int .i64 0, .int .i64 1, .func (.func 65) #[] #[]]) Tryz.underlying72 ze72 pl72 (J.evp Y) (by kernel_rfl)) fun a J=> sw J Y Y Y (R.buildStr (l := [.string ⟨#[112, 111, 112]⟩, .int .i64 1, .int .i64 1, .int .i64 0, .func (.func 66) #[] #[]]) Tryz.underlying72 ze72 pl72 (J.evp Y) (by kernel_rfl)) fun a J=> sw J Y Y Y (R.buildStr (l := [.string ⟨#[100, 117, 112]⟩, .int .i64 1, .int .i64 0, .int .i64 1, .func (.func 67) #[] #[]]) Tryz.underlying72 ze72 pl72 (J.evp Y) (by kernel_rfl)) fun a J=> sw J Y Y Y (R.buildStr (l := [.string ⟨#[115, 119, 97, 112]⟩, .int .i64 1, .int .i64 0, .int .i64 0, .func (.func 68) #[] #[]]) Tryz.underlying72 ze72 pl72 (J.evp Y) (by kernel_rfl)) fun a J=> sw J Y Y Y (R.buildStr (l := [.string ⟨#[97, 100, 100]⟩, .int .i64 2, .int .i64 2, .int .i64 1, .func (.func 69) #[] #[]]) Tryz.underlying72 ze72 pl72 (J.evp Y) (by kernel_rfl)) fun a J=> sw J Y Y Y (R.buildStr (l := [.string ⟨#[115, 117, 98]⟩, .int .i64 2, .int .i64 2, .int .i64 1, .func (.func 70) #[] #[]]) Tryz.underlying72 ze72 pl72 (J.evp Y) (by kernel_rfl)) fun a J=> sw J Y Y Y (R.buildStr (l := [.string ⟨#[109, 117, 108]⟩, .int .i64 5, .int .i64 2, .int .i64 1, .func (.func 71) #[] #[]]) Tryz.underlying72 ze72 pl72 (J.evp Y) (by kernel_rfl)) fun a J=> sw J Y Y Y (R.buildStr (l := [.string ⟨#[100, 105, 118]⟩, .int .i64 10, .int .i64 2, .int .i64 1, .func (.func 72) #[] #[]]) Tryz.underlying72 ze72 pl72 (J.evp Y) (by kernel_rfl)) fun a J=> sw J Y Y Y (R.buildStr (l := [.string ⟨#[109, 111, 100]⟩, .int .i64 10, .int .i64 2, .int .i64 1, .func (.func 73) #[] #[]]) Tryz.underlying72 ze72 pl72 (J.evp Y) (by kernel_rfl)) fun a J=> sw J Y Y Y (R.buildStr (l := [.string ⟨#[108, 101, 115, 115]⟩, .int .i64 2, .int .i64 2, .int .i64 1, .func (.func 74) #[] #[]]) Tryz.underlying72 ze72 pl72 (J.evp Y) (by kernel_rfl)) fun a J=> sw J Y Y Y (R.buildStr (l := [.string ⟨#[115, 97, 109, 101]⟩, .int .i64 2, .int .i64 2, .int .i64 1, .func (.func 75) #[] #[]]) Tryz.underlying72 ze72 pl72 (J.evp Y) (by kernel_rfl)) fun a J=> sw J Y Y Y (R.buildStr (l := [.string ⟨#[110, 111, 116]⟩, .int .i64 2, .int .i64 1, .int .i64 1, .func (.func 76) #[] #[]]) Tryz.underlying72 ze72 pl72 (J.evp Y) (by kernel_rfl)) fun a J=> sw J Y Y Y (R.buildStr (l := [.string ⟨#[106, 117, 109, 112]⟩, .int .i64 5, .int .i64 0, .int .i64 0, .func (.func 77) #[] #[]]) Tryz.underlying72 ze72 pl72 (J.evp Y) (by kernel_rfl)) fun a J=> sw J Y Y Y (R.buildStr (l := [.string ⟨#[119, 104, 101, 110]⟩, .int .i64 5, .int .i64 1, .int .i64 0, .func (.func 78) #[] #[]]) Tryz.underlying72 ze72 pl72 (J.evp Y) (by kernel_rfl)) fun a J=> sw J Y Y Y (R.buildStr (l := [.string ⟨#[97, 114, 103]⟩, .int .i64 2, .int .i64 0, .int .i64 1, .func (.func 79) #[] #[]]) Tryz.underlying72 ze72 pl72 (J.evp Y) (by kernel_rfl)) fun a J=> sw J Y Y Y (R.buildStr (l := [.string ⟨#[97, 114, 103, 115]⟩, .int .i64 2, .int .i64 0, .int .i64 1, .func (.func 80) #[] #[]]) Tryz.underlying72 ze72 pl72 (J.evp Y) (by kernel_rfl)) fun a J=> sw J Y Y Y (R.buildStr (l := [.string ⟨#[99, 97, 108, 108, 101, 114]⟩, .int .i64 2, .int .i64 0, .int .i64 1, .func (.func 81) #[] #[]]) Tryz.underlying72 ze72 pl72 (J.evp Y) (by kernel_rfl)) fun a J=> sw J Y Y Y (R.buildStr (l := [.string ⟨#[115, 101, 108, 102]⟩, .int .i64 2, .int .i64 0, .int .i64 1, .func (.func 82) #[] #[]]) Tryz.underlying72 ze72 pl72 (J.evp Y) (by kernel_rfl)) fun a J=> ?_)
 refine sw J Y Y Y (R.buildStr (l := [.string ⟨#[116, 111, 107, 101, 110]⟩, .int .i64 2, .int .i64 0, .int .i64 1, .func (.func 83) #[] #[]]) Tryz.underlying72 ze72 pl72 (J.evp Y) (by kernel_rfl)) fun a J=> sw J Y Y Y (R.buildStr (l := [.string ⟨#[97, 109, 111, 117, 110, 116]⟩, .int .i64 2, .int .i64 0, .int .i64 1, .func (.func 84) #[] #[]]) Tryz.underlying72 ze72 pl72 (J.evp Y) (by kernel_rfl)) fun a J=> sw J Y Y Y (R.buildStr (l := [.string ⟨#[116, 105, 109, 101]⟩, .int .i64 2, .int .i64 0, .int .i64 1, .func (.func 85) #[] #[]]) Tryz.underlying72 ze72 pl72 (J.evp Y) (by kernel_rfl)) fun a J=> sw J Y Y Y (R.buildStr (l := [.string ⟨#[103, 97, 115]⟩, .int .i64 2, .int .i64 0, .int .i64 1, .func (.func 86) #[] #[]]) Tryz.underlying72 ze72 pl72 (J.evp Y) (by kernel_rfl)) fun a J=> sw J Y Y Y (R.buildStr (l := [.string ⟨#[108, 111, 97, 100]⟩, .int .i64 200, .int .i64 1, .int .i64 1, .func (.func 87) #[] #[]]) Tryz.underlying72 ze72 pl72 (J.evp Y) (by kernel_rfl)) fun a J=> sw J Y Y Y (R.buildStr (l := [.string ⟨#[115, 97, 118, 101]⟩, .int .i64 200, .int .i64 2, .int .i64 0, .func (.func 88) #[] #[]]) Tryz.underlying72 ze72 pl72 (J.evp Y) (by kernel_rfl)) fun a J=> sw J Y Y Y (R.buildStr (l := [.string ⟨#[104, 97, 118, 101]⟩, .int .i64 200, .int .i64 2, .int .i64 1, .func (.func 89) #[] #[]]) Tryz.underlying72 ze72 pl72 (J.evp Y) (by kernel_rfl)) fun a J=> sw J Y Y Y (R.buildStr (l := [.string ⟨#[115, 101, 110, 100]⟩, .int .i64 500, .int .i64 3, .int .i64 0, .func (.func 90) #[] #[]]) Tryz.underlying72 ze72 pl72 (J.evp Y) (by kernel_rfl)) fun a J=> sw J Y Y Y (R.buildArr (l := tabL) Tryz.underlying73 ze73 sz72 (J.evp Y) (by kernel_rfl)) fun a J=> so (wn Y) (O.storeW sz73 (J.ev Y) (J.ev Y) (Y) Y (one_tab) G .h (Y) fun w G=> ?_)
 refine s0 <| then_n (hK2 _ _ <| wp_ret (hR _ _ _ _ _ J (run_results Tryz.results33 (.cw J Y agg73 G .h sz73 (Y) (.nil))) ?_))
 exact ⟨_, [], Y, ⟨Y, Y⟩, G.none⟩
end Go.Proofs.YtlapmbkfmbkdoaaGreatDoor
end
section
namespace Go.Proofs.YtlapmbkfmbkdoaaGreatDoor
open Go Go.Fw Go.RowKit
attribute [local irreducible] Go.Oper.wp Go.Code.wp Go.wpList Go.Fw.WL Go.Calls
end Go.Proofs.YtlapmbkfmbkdoaaGreatDoor
end
section
namespace Go.Proofs.YtlapmbkfmbkdoaaGreatDoor
open Go Go.Fw Go.RowKit
attribute [local irreducible] Go.Oper.wp Go.Code.wp Go.wpList Go.Fw.WL Go.Calls
theorem chk_len2 {xs : List Nat} (h : chkN xs = true) : xs.length ≤ 1024 := by
  unfold chkN at h
  simp only [Bool.and_eq_true, decide_eq_true_eq] at h
  exact h.1.2
end Go.Proofs.YtlapmbkfmbkdoaaGreatDoor
end
section
namespace Go.Proofs.YtlapmbkfmbkdoaaGreatDoor
open Go Go.Fw Go.RowKit
end Go.Proofs.YtlapmbkfmbkdoaaGreatDoor
end
section
namespace Go.Proofs.YtlapmbkfmbkdoaaGreatDoor
open Go Go.Fw Go.RowKit
attribute [local irreducible] Go.Oper.wp Go.Code.wp Go.wpList Go.Fw.WL Go.Calls
end Go.Proofs.YtlapmbkfmbkdoaaGreatDoor
end
section
namespace Go.Proofs.YtlapmbkfmbkdoaaGreatDoor
open Go Go.Fw Go.RowKit
attribute [local irreducible] Go.Oper.wp Go.Code.wp Go.wpList Go.Fw.WL Go.Calls
end Go.Proofs.YtlapmbkfmbkdoaaGreatDoor
end
section
namespace Go.Proofs.YtlapmbkfmbkdoaaGreatDoor
open Go Go.Fw Go.RowKit
attribute [local irreducible] Go.Oper.wp Go.Code.wp Go.wpList Go.Fw.WL Go.Calls
theorem RdK.ownS {w0 w : World} {ks : List Nat} {t s : Seg} {A : Option Addr} {n c sz : Nat} {cells : List Value} {E : TypeId} (hS : St w0 ks [t, s] w) (hO : OwnS t A n c cells E sz) : RdK w (s.map (·.1)) A cells := by
  refine ⟨hO.rd hS .h, fun a ha _ hm => ?_⟩
  obtain ⟨_, _, h3⟩ := hO
  rcases h3 with ⟨h5, h6, h7⟩ | ⟨g, rest, rfl, rfl, _, _⟩
  · simp_all
  · simp only [Option.some.injEq] at ha
    subst ha
    have hn := hS.nodup
    simp only [keys, List.flatten_cons, List.flatten_nil, List.append_nil, List.map_append] at hn
    exact (List.nodup_append.1 hn).2.2 _ (List.mem_map_of_mem (List.mem_singleton.2 rfl)) _ hm rfl
end Go.Proofs.YtlapmbkfmbkdoaaGreatDoor
end
section
namespace Go.Proofs.YtlapmbkfmbkdoaaGreatDoor
open Go Go.Fw Go.RowKit
attribute [local irreducible] Go.Oper.wp Go.Code.wp Go.wpList Go.Fw.WL Go.Calls
end Go.Proofs.YtlapmbkfmbkdoaaGreatDoor
end
section
namespace Go.Fw
section
variable {P : Program} {w : World} {T E : TypeId} {d : Nat}
end
end Go.Fw
namespace Go.Proofs.YtlapmbkfmbkdoaaGreatDoor
open Go Go.Fw Go.RowKit
end Go.Proofs.YtlapmbkfmbkdoaaGreatDoor
end
section
namespace Go.Proofs.YtlapmbkfmbkdoaaGreatDoor
open Go Go.Fw Go.RowKit
end Go.Proofs.YtlapmbkfmbkdoaaGreatDoor
end
section
namespace Go.Proofs.YtlapmbkfmbkdoaaGreatDoor
open Go Go.Fw Go.RowKit
attribute [local irreducible] Go.Oper.wp Go.Code.wp Go.wpList Go.Fw.WL Go.Calls
end Go.Proofs.YtlapmbkfmbkdoaaGreatDoor
end
section
namespace Go.Proofs.YtlapmbkfmbkdoaaGreatDoor
open Go Go.Fw Go.RowKit
theorem dg_ord {V d i : Nat} (hV : V % 2 ^ (8 * i + 8) = 0) (hd : d < 256) : ∀ k, (if k = i / 8 then dg V (i / 8) ||| (d * 2 ^ (8 * (i % 8)) % 18446744073709551616) else dg V k) = dg (V + d * 2 ^ (8 * i)) k := by
  intro k
  have hi : 8 * i = 64 * (i / 8) + 8 * (i % 8) := by omega
  have hm : i % 8 < 8 := Nat.mod_lt _ (by decide)
  generalize i / 8 = j at *
  generalize i % 8 = r at *
  rw [hi] at hV ⊢
  have h64 : (18446744073709551616 : Nat) = 2 ^ 64 := by decide
  have hB : ∀ k, (18446744073709551616 : Nat) ^ k = 2 ^ (64 * k) := fun k => by rw [h64, ← Nat.pow_mul]
  have hRp : 0 < 2 ^ (8 * r) := Nat.pow_pos (by decide)
  have hR : 2 ^ (8 * r) ≤ 72057594037927936 := by
    have : 2 ^ (8 * r) ≤ 2 ^ 56 := Nat.pow_le_pow_right (by decide) (by omega)
    exact this
  obtain ⟨H, rfl⟩ : ∃ H, V = 2 ^ (64 * j) * (2 ^ (8 * r + 8) * H) := ⟨V / 2 ^ (64 * j + 8 * r + 8), by
    rw [← Nat.mul_assoc, ← Nat.pow_add, show 64 * j + (8 * r + 8) = 64 * j + 8 * r + 8 by omega]
    have := Nat.div_add_mod V (2 ^ (64 * j + 8 * r + 8))
    omega⟩
  have e : ∀ Z, 2 ^ (64 * j) * Z + d * 2 ^ (64 * j + 8 * r) = 2 ^ (64 * j) * (Z + d * 2 ^ (8 * r)) := fun Z => by
    rw [Nat.mul_add, Nat.pow_add, Nat.mul_left_comm d]
  rw [e]
  have h8 : 2 ^ (8 * r + 8) = 2 ^ (8 * r) * 256 := by rw [Nat.pow_add]
  have hdr : d * 2 ^ (8 * r) < 2 ^ (8 * r + 8) := by
    rw [h8, Nat.mul_comm]; exact Nat.mul_lt_mul_of_pos_left hd hRp
  have h88 : 2 ^ (8 * r + 8) ≤ 18446744073709551616 := by rw [h8]; omega
  by_cases hk : k = j
  · subst hk
    rw [if_pos rfl]
    unfold dg
    rw [hB, Nat.mul_div_cancel_left _ (Nat.pow_pos (by decide)), Nat.mul_div_cancel_left _ (Nat.pow_pos (by decide)), Nat.mod_eq_of_lt (by omega : d * 2 ^ (8 * r) < 18446744073709551616)]
    have e64 : (18446744073709551616 : Nat) = 2 ^ (8 * r + 8) * 2 ^ (56 - 8 * r) := by rw [← Nat.pow_add, show 8 * r + 8 + (56 - 8 * r) = 64 by omega]
    have e1 : 2 ^ (8 * r + 8) * H % 18446744073709551616 = 2 ^ (8 * r + 8) * (H % 2 ^ (56 - 8 * r)) := by rw [e64, Nat.mul_mod_mul_left]
    have hY := Nat.mod_lt H (Nat.pow_pos (n := 56 - 8 * r) (by decide : 0 < 2))
    have hs : 2 ^ (8 * r + 8) * (H % 2 ^ (56 - 8 * r)) + d * 2 ^ (8 * r) < 18446744073709551616 := by
      have : 2 ^ (8 * r + 8) * (H % 2 ^ (56 - 8 * r) + 1) ≤ 2 ^ (8 * r + 8) * 2 ^ (56 - 8 * r) := Nat.mul_le_mul_left _ hY
      rw [Nat.mul_add, Nat.mul_one, ← e64] at this
      omega
    rw [e1, ← Nat.two_pow_add_eq_or_of_lt hdr, Nat.add_mod, e1, Nat.mod_eq_of_lt (by omega : d * 2 ^ (8 * r) < 18446744073709551616), Nat.mod_eq_of_lt hs]
  · rw [if_neg hk]
    unfold dg
    rw [hB]
    rcases Nat.lt_or_gt_of_ne hk with h | h
    · obtain ⟨m, rfl⟩ : ∃ m, j = k + 1 + m := ⟨j - k - 1, by omega⟩
      have hz : ∀ Z, 2 ^ (64 * (k + 1 + m)) * Z / 2 ^ (64 * k) % 18446744073709551616 = 0 := fun Z => by
        rw [show 64 * (k + 1 + m) = 64 * k + (64 + 64 * m) by omega, Nat.pow_add, Nat.mul_assoc, Nat.mul_div_cancel_left _ (Nat.pow_pos (by decide)), Nat.pow_add, ← h64, Nat.mul_assoc, Nat.mul_mod_right]
      rw [hz, hz]
    · obtain ⟨m, rfl⟩ : ∃ m, k = j + 1 + m := ⟨k - j - 1, by omega⟩
      have hq : ∀ Z, 2 ^ (64 * j) * Z / 2 ^ (64 * (j + 1 + m)) = Z / 2 ^ (64 * (m + 1)) := fun Z => by
        rw [show 64 * (j + 1 + m) = 64 * j + 64 * (m + 1) by omega, Nat.pow_add, ← Nat.div_div_eq_div_mul, Nat.mul_div_cancel_left _ (Nat.pow_pos (by decide))]
      have hq2 : ∀ t, t < 2 ^ (8 * r + 8) → (2 ^ (8 * r + 8) * H + t) / 2 ^ (64 * (m + 1)) = H / 2 ^ (64 * (m + 1) - (8 * r + 8)) := fun t ht => by
        have e4 : (2 : Nat) ^ (64 * (m + 1)) = 2 ^ (8 * r + 8) * 2 ^ (64 * (m + 1) - (8 * r + 8)) := by rw [← Nat.pow_add]; congr 1; omega
        rw [e4, ← Nat.div_div_eq_div_mul, Nat.mul_add_div (Nat.pow_pos (by decide)), Nat.div_eq_of_lt ht, Nat.add_zero]
      have h0 := hq2 0 (Nat.pow_pos (by decide))
      rw [Nat.add_zero] at h0
      rw [hq, hq, hq2 _ hdr, h0]
theorem wc_ord {V d i off : Nat} (hV : V % 2 ^ (8 * i + 8) = 0) (hd : d < 256) (ho : off = i / 8) : (wc V).set off (.int .u64 ((dg V (i / 8) ||| (d * 2 ^ (8 * (i % 8)) % 18446744073709551616) : Nat) : Int)) = wc (V + d * 2 ^ (8 * i)) := by
  rw [← cells4_dg, ← cells4_dg, cells4_set (f := dg V) (k := i / 8) (v := dg V (i / 8) ||| (d * 2 ^ (8 * (i % 8)) % 18446744073709551616)) ho]
  exact cells4_congr fun k _ => dg_ord hV hd k
theorem p2_256 (k : Nat) : (2 : Nat) ^ (8 * k) = 256 ^ k := by rw [Nat.pow_mul]
def upN (l : List Nat) (i : Nat) : Nat := numB (l.take i) * 256 ^ (l.length - i)
theorem upN_0 (l : List Nat) : upN l 0 = 0 := by simp [upN, numB]
theorem upN_all (l : List Nat) : upN l l.length = numB l := by simp [upN]
theorem upN_mod {l : List Nat} {i : Nat} (h : i < l.length) : upN l i % 2 ^ (8 * (l.length - 1 - i) + 8) = 0 := by
  have e : 8 * (l.length - 1 - i) + 8 = 8 * (l.length - i) := by omega
  rw [e, p2_256, upN, Nat.mul_mod_left]
theorem upN_succ {l : List Nat} {i : Nat} (h : i < l.length) : upN l i + l.getD i 0 * 2 ^ (8 * (l.length - 1 - i)) = upN l (i + 1) := by
  have hg : l.getD i 0 = l[i] := by rw [List.getD_eq_getElem?_getD, List.getElem?_eq_getElem h]; rfl
  rw [p2_256, upN, upN, take_snoc l i h, numB_snoc, hg, Nat.add_mul, show l.length - i = (l.length - (i + 1)) + 1 by omega, Nat.pow_succ, show l.length - 1 - i = l.length - (i + 1) by omega]
  congr 1
  rw [Nat.mul_comm (256 ^ (l.length - (i + 1))) 256, Nat.mul_assoc]
theorem upN_at {l : List Nat} {i k off : Nat} (ho : off = k) (h : k < 4) : (wc (upN l i))[off]? = some (.int .u64 ((dg (upN l i) k : Nat) : Int)) := by
  have := wc_at (upN l i) k h
  subst ho
  simpa using this
theorem dig_40 {x i : Nat} (h : i < 32) : dg x (3 - i / 8) / 2 ^ (56 - 8 * (i % 8)) &&& 255 = x / 256 ^ (31 - i) % 256 := by
  have e : (255 : Nat) = 2 ^ 8 - 1 := by decide
  have h2 : 56 - 8 * (i % 8) = 8 * (7 - i % 8) := by omega
  rw [e, Nat.and_two_pow_sub_one_eq_mod, h2, show (2 : Nat) ^ 8 = 256 from rfl, dg_by8 _ _ _ (by omega)]
  unfold by8
  rw [show 8 * (3 - i / 8) + (7 - i % 8) = 31 - i by omega]
theorem toB_0 (k : Nat) : List.replicate k 0 = toB k 0 := by
  unfold toB
  apply List.ext_getElem?
  intro i
  by_cases h : i < k
  · simp [h]
  · simp [h]
theorem setB_take (S t : Nat) : setB (S % 256 ^ t) t (S / 256 ^ t % 256) = S % 256 ^ (t + 1) := by
  rw [setB_three, Nat.mod_mod, Nat.div_eq_of_lt (Nat.lt_of_lt_of_le (Nat.mod_lt _ (p256_pos t)) (Nat.pow_le_pow_right (by decide) (by omega))), Nat.zero_mul, Nat.add_zero, Nat.pow_succ, Nat.mod_mul, Nat.mul_comm (S / 256 ^ t % 256)]
theorem ints_getB {k n i off : Nat} (h : i < k) (ho : off = i) : (ints (toB k n))[off]? = some (.int .i64 ((n / 256 ^ (k - 1 - i) % 256 : Nat) : Int)) := by
  subst ho; simp [ints, toB_at h]
theorem ints_setB {k V t e off : Nat} {v : Value} (ht : t < k) (he : e < 256) (ho : off = k - 1 - t) (hv : v = .int .i64 ((e : Nat) : Int)) : (ints (toB k V)).set off v = ints (toB k (setB V t e)) := by
  subst hv; subst ho
  rw [← toB_set ht he]; simp [ints, List.map_set]
theorem who_next {v n i : Nat} (h : v < 256 ^ (n - i)) (hi : i < n) (hd : v / 256 ^ (n - 1 - i) % 256 = 0) : v < 256 ^ (n - (i + 1)) := by
  rw [show n - i = (n - 1 - i) + 1 by omega, Nat.pow_succ] at h
  have h2 : v / 256 ^ (n - 1 - i) < 256 := Nat.div_lt_of_lt_mul h
  have h3 : v / 256 ^ (n - 1 - i) = 0 := by
    generalize v / 256 ^ (n - 1 - i) = z at *
    omega
  rw [show n - (i + 1) = n - 1 - i by omega]
  exact Nat.lt_of_div_eq_zero (p256_pos _) h3
theorem who_bad {v n i : Nat} (hi : i < n - 32) (hd : v / 256 ^ (n - 1 - i) % 256 ≠ 0) : ¬ v < 256 ^ 32 := by
  intro h
  have : v / 256 ^ (n - 1 - i) = 0 := Nat.div_eq_of_lt (Nat.lt_of_lt_of_le h (Nat.pow_le_pow_right (by decide) (by omega)))
  rw [this] at hd; exact hd rfl
theorem intsD {xs : List Nat} {i : Nat} (h : i < xs.length) : (ints xs)[i]? = some (.int .i64 ((xs.getD i 0 : Nat) : Int)) := by simp [ints, List.getD_eq_getElem?_getD, h]
end Go.Proofs.YtlapmbkfmbkdoaaGreatDoor
end
section
namespace Go.Proofs.YtlapmbkfmbkdoaaGreatDoor
open Go Go.Fw Go.ChangeShapes Go.RowKit
section
variable {H : Type} {enc : TypeId × Value → H} {w : World} {base fuel : Nat} {spare : Nat → Bool} {held : Bool} {cs : List Value} {x : DataW H × List MemPlace}
end
end Go.Proofs.YtlapmbkfmbkdoaaGreatDoor
end
section
namespace Go.Proofs.YtlapmbkfmbkdoaaGreatDoor
open Go Go.Fw Go.RowKit
attribute [local irreducible] Go.Oper.wp Go.Code.wp Go.wpList Go.Fw.WL Go.Calls
end Go.Proofs.YtlapmbkfmbkdoaaGreatDoor
end
section
namespace Go.Proofs.YtlapmbkfmbkdoaaGreatDoor
open Go Go.Fw Go.RowKit
attribute [local irreducible] Go.Oper.wp Go.Code.wp Go.wpList Go.Fw.WL Go.Calls
theorem rd_app {w : World} {A : Option Addr} {xs ys : List Value} (h : Rd w A (xs ++ ys)) : Rd w A xs := by
  have := h.sub xs.length
  rwa [List.take_left] at this
end Go.Proofs.YtlapmbkfmbkdoaaGreatDoor
end
section
namespace Go.Proofs.YtlapmbkfmbkdoaaGreatDoor
open Go Go.Fw Go.RowKit
attribute [local irreducible] Go.Oper.wp Go.Code.wp Go.wpList Go.Fw.WL Go.Calls
def RetB (n x : Nat) (v : Value) (s : Seg) : Prop := ∃ b, v = .slice (some ⟨b, 0, none⟩) n n ∧ s = [(b, Cel (ints (toB n x)) 3)]
theorem ints_getT {k n t off : Nat} (h : t < k) (ho : off = k - 1 - t) : (ints (toB k n))[off]? = some (.int .i64 ((n / 256 ^ t % 256 : Nat) : Int)) := by
  have := ints_getB (k := k) (n := n) (i := off) (off := off) (by omega) rfl
  rwa [ho, show k - 1 - (k - 1 - t) = t by omega, ← ho] at this
theorem intsO {xs : List Nat} {i off : Nat} (h : i < xs.length) (ho : off = i) : (ints xs)[off]? = some (.int .i64 ((xs.getD i 0 : Nat) : Int)) := by subst ho; exact intsD h
theorem count_wc {n : Nat} (h : n < 18446744073709551616) : [Value.int .u64 ((n % 18446744073709551616 : Nat) : Int), .int .u64 0, .int .u64 0, .int .u64 0] = wc n := by
  have h0 : dg n 0 = n := by rw [dg0]; omega
  have h1 : dg n 1 = 0 := by rw [dg1]; omega
  have h2 : dg n 2 = 0 := by rw [dg2]; omega
  have h3 : dg n 3 = 0 := by rw [dg3]; omega
  simp only [wc, h0, h1, h2, h3, Nat.mod_eq_of_lt h]; rfl
theorem dig_calls (x : Nat) (w0 : World) : Ret Tryz.prog 61 [wv x] w0 [] (RetB 32 x) := by
 refine fn_start Tryz.func61 Y Tryz.ntmps61 Y [(0, wv x)] ⟨Y, trivial⟩ ?_
 intro Q a hP J hR hN
 have G := St.start w0
 refine wp_seq_k fun K1 hK1=> wp_region_lit <| so (wn Y) (O.box Y Y J (J.ev Y) Y G fun b1 a w J G=> ?_)
 refine av J Y Y fun a J=> s0 <| then_n (hK1 _ _ <| wp_seq_k fun K2 hK2=> wp_region_lit <| so (wn Y) (O.makeSlice Y Y J Tryz.underlying61 inf3 Y Y (J.ev Y) (J.ev Y) (by omega) (by omega) (by omega) (by omega) G fun b5 a w J G=> ?_))
 rw [show zeros [Value.int .i64 0] (Int.toNat 32) = mki 32 (fun i => x / 256 ^ (31 - i) % 256) 0 from mki_0 32 _] at G
 refine av J Y Y fun a J=> s0 <| then_n (hK2 _ _ <| wp_seq_k fun K3 hK3=> wp_seq_k fun K4 hK4=> wp_region_lit <| av J Y Y fun a J=> s0 <| then_n (hK4 _ _ <| wp_block <| wp_loop_N (fun g a w=> ∃ (i : Nat), 32 - i = g ∧ Fr 26 [(1, .pointer (some ⟨b1, 0, none⟩)), (3, .slice (some ⟨b5, 0, none⟩) 32 32), (4, .int .i64 ((i : Nat) : Int))] a ∧ St w0 [] [[(b5, Cel (mki 32 (fun i=> x / 256 ^ (31 - i) % 256) i) 3)], [(b1, Cel (wc x) 32)]] w ∧ (i ≤ 32)) (32 - 0) ?_ ?_))
 ·exact ⟨0, Y, J.sub ⟨Y, Y, Y, trivial⟩, G.sel [0, 1] Y Y, by omega⟩
 rintro KL1 g a w ⟨i, hg1, J, G, hi⟩ hKL1
 refine wp_seq_k fun K5 hK5=> wp_seq_k fun K6 hK6=> wp_region_lit <| mv J Y Y fun a J=> lS J Y Y Y fun a J=> s0 <| then_n (hK6 _ _ <| cD J Y (fun c1=> ?_) (fun c1=> ?_))
 ·refine wp_skip <| then_n (hK5 _ _ <| wp_seq_k fun K7 hK7=> wp_block <| wp_region_lit <| mv J Y Y fun a J=> mv J Y Y fun a J=> mv J Y Y fun a J=> sw J Y Y Y (R.quoI (J.ev Y) (J.ev Y) (by omega)) fun a J=> sw J Y Y Y (R.subI (J.ev Y) (J.ev Y) (by omega)) fun a J=> sw J Y Y Y (R.indexA Tryz.underlying32 sz30 (J.ev Y) (J.ev Y) (by omega) (by omega)) fun a J=> sw J Y Y Y (R.load one30 (J.ev Y) G (.t .h) ((by (have h9 := wc_at x (3 - i / 8) (by omega)); simpa using (show (wc x)[((3 : Int) - (i : Int) / 8).toNat * 1]? = _ by rw [show ((3 : Int) - (i : Int) / 8).toNat * 1 = 0 + ((3 - i / 8 : Nat) : Int).toNat * 1 by omega]; exact h9)))) fun a J=> mv J Y Y fun a J=> sw J Y Y Y (R.remI (J.ev Y) (J.ev Y) (by omega)) fun a J=> sw J Y Y Y (R.mulI (J.ev Y) (J.ev Y) (by omega)) fun a J=> sw J Y Y Y (R.subI (J.ev Y) (J.ev Y) (by omega)) fun a J=> sw J Y Y Y (R.shrU (m := 56 - 8 * (i % 8)) (J.ev Y) ((J.ev Y).trans (congrArg (Value.int .i64) (by omega))) (by omega)) fun a J=> sw J Y Y Y (R.as (u := .int .u64 ((x / 256 ^ (31 - i) % 256 : Nat) : Int)) (R.andU (J.ev Y) (J.ev Y) (Nat.lt_of_le_of_lt (Nat.div_le_self _ _) (dg_lt _ _)) (by decide)) (congrArg (fun z : Nat=> Value.int .u64 (z : Int)) (dig_40 (by omega)))) fun a J=> sw J Y Y Y (R.convI Tryz.underlying30 Tryz.underlying3 (J.ev Y) (by omega)) fun a J=> sw J Y Y Y (R.indexS Tryz.underlying61 sz3 (J.ev Y) (J.ev Y) (by omega) (by omega)) fun a J=> so (wn Y) (O.store sz3 (J.ev Y) (J.ev Y) Y Y G .h (mki_at 32 (fun i=> x / 256 ^ (31 - i) % 256) i _ Y) (by rw [length_mki]; omega) fun w G=> ?_))
  refine s0 <| blk_n <| then_n (hK7 _ _ <| wp_region_lit <| mv J Y Y fun a J=> aI J Y Y Y (by omega) fun a J=> av J Y Y fun a J=> s0 <| then_n (hKL1 (32 - (i + 1)) _ _ ?_ ?_))
  ·omega
  exact ⟨i + 1, Y, J.sub ⟨Y, Y, Y, trivial⟩, G.sel [0, 1] Y Y, by omega⟩
 obtain rfl : i = 32 := by omega
 rw [mki_all] at G
 refine wp_exit (then_x (then_x (blk_hit <| then_n (hK3 _ _ <| wp_seq_k fun K8 hK8=> wp_region_lit <| mv J Y Y fun a J=> av J Y Y fun a J=> s0 <| then_n (hK8 _ _ <| wp_ret (hR _ _ _ _ _ J (run_results Tryz.results61 (.t J Y (.nil))) ?_))))))
 exact ⟨_, _, Y, ⟨_, Y, Y⟩, G.one .h⟩
theorem number_calls (A : Option Addr) (c : Nat) (xs : List Nat) (w0 : World) (hA : Rd w0 A (ints xs)) (hB : Byt xs) (hl : xs.length ≤ 32) : Ret Tryz.prog 29 [.slice A xs.length c] w0 [] (fun v s => v = wv (numB xs) ∧ s = []) := by
 refine fn_start Tryz.func29 Y Tryz.ntmps29 Y [(0, .slice A xs.length c)] ⟨Y, trivial⟩ ?_
 intro Q a hP J hR hN
 have G := St.start w0
 refine wp_seq_k fun K1 hK1=> wp_region_lit <| so (wn Y) (O.alloc Y Y J ze32 Y G fun b2 a w J G=> ?_)
 refine s0 <| then_n (hK1 _ _ <| wp_seq_k fun K2 hK2=> wp_region_lit <| so (wn Y) (O.alloc Y Y J ze32 Y G fun b3 a w J G=> ?_))
 refine s0 <| then_n (hK2 _ _ <| wp_seq_k fun K3 hK3=> wp_seq_k fun K4 hK4=> wp_region_lit <| av J Y Y fun a J=> s0 <| then_n (hK4 _ _ <| wp_block <| wp_loop_N (fun g a w=> ∃ (i : Nat), xs.length - i = g ∧ Fr 33 [(0, .slice A xs.length c), (2, .pointer (some ⟨b2, 0, none⟩)), (3, .pointer (some ⟨b3, 0, none⟩)), (4, .int .i64 ((i : Nat) : Int))] a ∧ St w0 [] [[(b3, Cel (wc (upN xs i)) 32)], [(b2, Cel ([.int .u64 0, .int .u64 0, .int .u64 0, .int .u64 0]) 32)]] w ∧ (i ≤ xs.length)) (xs.length - 0) ?_ ?_))
 ·exact ⟨0, Y, J.sub ⟨Y, Y, Y, Y, trivial⟩, G.sel [0, 1] Y (by rw [upN_0]; rfl), by omega⟩
 rintro KL1 g a w ⟨i, hg1, J, G, hi⟩ hKL1
 refine wp_seq_k fun K5 hK5=> wp_seq_k fun K6 hK6=> wp_region_lit <| mv J Y Y fun a J=> mv J Y Y fun a J=> sw J Y Y Y (R.len Tryz.underlying61 (J.ev Y)) fun a J=> lS J Y Y Y fun a J=> s0 <| then_n (hK6 _ _ <| cD J Y (fun c1=> ?_) (fun c1=> ?_))
 ·refine wp_skip <| then_n (hK5 _ _ <| wp_seq_k fun K7 hK7=> wp_block <| wp_seq_k fun K8 hK8=> wp_region_lit <| mv J Y Y fun a J=> sw J Y Y Y (R.len Tryz.underlying61 (J.ev Y)) fun a J=> sw J Y Y Y (R.subI (J.ev Y) (J.ev Y) (by omega)) fun a J=> mv J Y Y fun a J=> sw J Y Y Y (R.subI (J.ev Y) (J.ev Y) (by omega)) fun a J=> av J Y Y fun a J=> s0 <| then_n (hK8 _ _ <| wp_drawS G [(0, 0), (1, 0), (2, 0), (3, 1), (4, 0), (5, 0), (6, 0), (7, 1), (8, 0), (9, 0), (10, 0), (11, 0), (12, 0), (13, 0), (14, 0), (15, 3)] mix (by kernel_rfl) (hP.then.block.then.then.block) fun w G=> ?_))
  have hD := G
  refine dm J Y Y Y fun a J=> dv J Y Y Y Y (fun w=> R.quoI (J.ev Y) (J.ev Y) (by omega)) fun a J=> dv J Y Y Y Y (fun w=> R.indexA Tryz.underlying32 sz30 (J.ev Y) (J.ev Y) (by omega) (by omega)) fun a J=> ds J Y Y Y Y hD (fun w hD=> R.load one30 (J.ev Y) hD .h (upN_at (k := (xs.length - 1 - i) / 8) (by omega) (by omega))) fun a J=> ?_
  refine dm J Y Y Y fun a J=> dm J Y Y Y fun a J=> dv J Y Y Y Y (fun w=> R.indexO Tryz.underlying61 sz3 (J.ev Y) (Rd.ne hA (by rw [length_ints]; omega)) (J.ev Y) (by omega) (by omega)) fun a J=> ds J Y Y Y Y hD (fun w hD=> R.loadO one3 (J.ev Y) (hA.old hD) (intsO (i := i) (by omega) (by omega))) fun a J=> ?_
  refine dv J Y Y Y Y (fun w=> R.as (u := .int .u64 ((xs.getD i 0 : Nat) : Int)) (R.convU Tryz.underlying3 Tryz.underlying30 (J.ev Y)) (congrArg (fun z : Nat=> Value.int .u64 (z : Int)) (Nat.mod_eq_of_lt (by have := byt_getD hB i; omega)))) fun a J=> dm J Y Y Y fun a J=> dv J Y Y Y Y (fun w=> R.remI (J.ev Y) (J.ev Y) (by omega)) fun a J=> dv J Y Y Y Y (fun w=> R.mulI (J.ev Y) (J.ev Y) (by omega)) fun a J=> dv J Y Y Y Y (fun w=> R.shlU (m := 8 * ((xs.length - 1 - i) % 8)) (J.ev Y) ((J.ev Y).trans (congrArg (Value.int .i64) (by omega))) (by omega)) fun a J=> dv J Y Y Y Y (fun w=> R.orU (J.ev Y) (J.ev Y) (dg_lt _ _) (Nat.mod_lt _ (by decide))) fun a J=> dv J Y Y Y Y (fun w=> R.indexA Tryz.underlying32 sz30 (J.ev Y) (J.ev Y) (by omega) (by omega)) fun a J=> dw Y (wn Y) (O.store sz30 (J.ev Y) (J.ev Y) Y Y G .h (wc_ord (V := upN xs i) (i := xs.length - 1 - i) (upN_mod (by omega)) (byt_getD hB i) (by omega)) (by show _ < 4; omega) fun w G=> ?_)
  rw [upN_succ (by omega)] at G
  refine d0 <| blk_n <| then_n (hK7 _ _ <| wp_region_lit <| mv J Y Y fun a J=> aI J Y Y Y (by omega) fun a J=> av J Y Y fun a J=> s0 <| then_n (hKL1 (xs.length - (i + 1)) _ _ ?_ ?_))
  ·omega
  exact ⟨i + 1, Y, J.sub ⟨Y, Y, Y, (congrArg (fun z => some (Value.int .i64 z)) (by omega)), trivial⟩, G.sel [0, 1] Y Y, by omega⟩
 obtain rfl : i = xs.length := by omega
 rw [upN_all] at G
 refine wp_exit (then_x (then_x (blk_hit <| then_n (hK3 _ _ <| wp_seq_k fun K9 hK9=> wp_region_lit <| sw J Y Y Y (R.loadW agg32 (J.ev Y) G .h sz32 (Y)) fun a J=> so (wn Y) (O.storeW sz32 (J.ev Y) (J.ev Y) (Y) Y (by simp [Value.oneCell']) G (.t .h) (Y) fun w G=> ?_)))))
 refine s0 <| then_n (hK9 _ _ <| wp_ret (hR _ _ _ _ _ J (run_results Tryz.results29 (.cw J Y agg32 G (.t .h) sz32 (Y) (.nil))) ?_))
 exact ⟨_, [], Y, ⟨Y, Y⟩, G.none⟩
theorem rcount_calls (n : Nat) (w0 : World) (hn : n < 18446744073709551616) : Ret Tryz.prog 60 [.int .i64 ((n : Nat) : Int)] w0 [] (fun v s => v = wv (n) ∧ s = []) := by
 refine fn_start Tryz.func60 Y Tryz.ntmps60 Y [(0, .int .i64 ((n : Nat) : Int))] ⟨Y, trivial⟩ ?_
 intro Q a hP J hR hN
 have G := St.start w0
 refine wp_seq_k fun K1 hK1=> wp_region_lit <| so (wn Y) (O.alloc Y Y J ze32 Y G fun b2 a w J G=> ?_)
 refine s0 <| then_n (hK1 _ _ <| wp_seq_k fun K2 hK2=> wp_region_lit <| mv J Y Y fun a J=> sw J Y Y Y (R.convU Tryz.underlying3 Tryz.underlying30 (J.ev Y)) fun a J=> sw J Y Y Y (R.buildArr (l := [_, _, _, _]) Tryz.underlying32 ze32 sz30 (J.evp Y) Y) fun a J=> so (wn Y) (O.storeW sz32 (J.ev Y) (J.ev Y) (Y) Y (by simp [Value.oneCell']) G .h (Y) fun w G=> ?_))
 refine s0 <| then_n (hK2 _ _ <| wp_ret (hR _ _ _ _ _ J (run_results Tryz.results60 (.cw J Y agg32 G .h sz32 (Y) (.nil))) ?_))
 exact ⟨_, [], Y, ⟨congrArg (fun l : List Value => Value.agg l.toArray) (count_wc (by omega)), Y⟩, G.none⟩
end Go.Proofs.YtlapmbkfmbkdoaaGreatDoor
end
section
namespace Go.Proofs.YtlapmbkfmbkdoaaGreatDoor
open Go Go.Fw Go.RowKit
attribute [local irreducible] Go.Oper.wp Go.Code.wp Go.wpList Go.Fw.WL Go.Calls
theorem R.mulN {P : Program} {ρ : Operand → Value} {w : World} {dst : Option Tmp} {ty : TypeId} {pos : String} {af : Array Edge} {g : Option (Nat × Bool)} {x y : Operand} {T T' : TypeId} {p q : Nat} (hx : ρ x = .int .i64 ((p : Nat) : Int)) (hy : ρ y = .int .i64 ((q : Nat) : Int)) (h : p * q ≤ 1000000) :
    (execOp ρ ⟨dst, .binOp .mul T x y T', ty, pos, af, g⟩).run P w = .ok (.value (.int .i64 ((p * q : Nat) : Int))) w := by
  have := R.mulI (P := P) (w := w) (dst := dst) (ty := ty) (pos := pos) (af := af) (g := g) (T := T) (T' := T') hx hy (by rw [← Int.natCast_mul]; omega)
  rw [this, Int.natCast_mul]
theorem sum_lt33 {x y : Nat} (hx : x < 256 ^ 32) (hy : y < 256 ^ 32) : x + y < 256 ^ (32 + 1) := by
  have h33 : (256 : Nat) ^ (32 + 1) = 256 * 256 ^ 32 := by rw [Nat.pow_succ, Nat.mul_comm]
  omega
theorem plus_calls (A B : Option Addr) (c d x y : Nat) (w0 : World) (hA : Rd w0 A (ints (toB 32 x))) (hB : Rd w0 B (ints (toB 32 y))) (hx : x < 256 ^ 32) (hy : y < 256 ^ 32) : Ret Tryz.prog 95 [.slice A 32 c, .slice B 32 d] w0 [] (RetB 33 (x + y)) := by
 refine fn_start Tryz.func95 Y Tryz.ntmps95 Y [(0, .slice A 32 c), (1, .slice B 32 d)] ⟨Y, Y, trivial⟩ ?_
 intro Q a hP J hR hN
 have G := St.start w0
 refine wp_seq_k fun K1 hK1=> wp_region_lit <| av J Y Y fun a J=> s0 <| then_n (hK1 _ _ <| wp_seq_k fun K2 hK2=> wp_region_lit <| mv J Y Y fun a J=> sw J Y Y Y (R.len Tryz.underlying61 (J.ev Y)) fun a J=> aI J Y Y Y (by omega) fun a J=> so (wn Y) (O.makeSlice Y Y J Tryz.underlying61 inf3 Y Y (J.ev Y) (J.ev Y) (by omega) (by omega) (by omega) (by omega) G fun b12 a w J G=> ?_))
 rw [show zeros [Value.int .i64 0] (Int.toNat (((32 : Nat) : Int) + 1)) = ints (toB 33 ((x + y) % 256 ^ 0)) from by (rw [Nat.pow_zero, Nat.mod_one, ← toB_0]; exact zeros_ints 33)] at G
 refine av J Y Y fun a J=> s0 <| then_n (hK2 _ _ <| wp_seq_k fun K3 hK3=> wp_region_lit <| av J Y Y fun a J=> s0 <| then_n (hK3 _ _ <| wp_seq_k fun K4 hK4=> wp_seq_k fun K5 hK5=> wp_region_lit <| mv J Y Y fun a J=> sw J Y Y Y (R.len Tryz.underlying61 (J.ev Y)) fun a J=> sw J Y Y Y (R.subI (J.ev Y) (J.ev Y) (by omega)) fun a J=> av J Y Y fun a J=> s0 <| then_n (hK5 _ _ <| wp_block <| wp_loop_N (fun g a w=> ∃ (t : Nat), 32 - t = g ∧ Fr 43 [(0, .slice A 32 c), (1, .slice B 32 d), (5, .slice (some ⟨b12, 0, none⟩) 33 33), (6, .int .i64 ((cyB x y t : Nat) : Int)), (7, .int .i64 (31 - ((t : Nat) : Int)))] a ∧ St w0 [] [[(b12, Cel (ints (toB 33 ((x + y) % 256 ^ t))) 3)]] w ∧ (t ≤ 32)) (32 - 0) ?_ ?_)))
 ·exact ⟨0, Y, J.sub ⟨Y, Y, Y, (by rw [cyB_0]; rfl), Y, trivial⟩, G.sel [0] Y Y, by omega⟩
 rintro KL1 g a w ⟨t, hg1, J, G, ht⟩ hKL1
 have hdx : x / 256 ^ t % 256 < 256 := Nat.mod_lt _ (by decide); have hdy : y / 256 ^ t % 256 < 256 := Nat.mod_lt _ (by decide); have hcy := cyB_le x y t
 refine wp_seq_k fun K6 hK6=> wp_seq_k fun K7 hK7=> wp_region_lit <| mv J Y Y fun a J=> sw J Y Y Y (R.geq (J.ev Y) (J.ev Y)) fun a J=> s0 <| then_n (hK7 _ _ <| cD J Y (fun c1=> ?_) (fun c1=> ?_))
 ·refine wp_skip <| then_n (hK6 _ _ <| wp_seq_k fun K8 hK8=> wp_block <| wp_seq_k fun K9 hK9=> wp_drawS G [(0, 0), (1, 0), (2, 0), (3, 1), (4, 0), (5, 0), (6, 0), (7, 1), (8, 0), (9, 0), (10, 0), (11, 0)] mix (by kernel_rfl) (hP.then.block.then.then.block.then) fun w G=> ?_)
  have hD := G
  refine dm J Y Y Y fun a J=> dm J Y Y Y fun a J=> dv J Y Y Y Y (fun w=> R.indexO Tryz.underlying61 sz3 (J.ev Y) (Rd.ne hA (by rw [length_ints, length_toB]; omega)) (J.ev Y) (by omega) (by omega)) fun a J=> ds J Y Y Y Y hD (fun w hD=> R.loadO one3 (J.ev Y) (hA.old hD) (ints_getT (t := t) (by omega) (by omega))) fun a J=> ?_
  refine dm J Y Y Y fun a J=> dm J Y Y Y fun a J=> dv J Y Y Y Y (fun w=> R.indexO Tryz.underlying61 sz3 (J.ev Y) (Rd.ne hB (by rw [length_ints, length_toB]; omega)) (J.ev Y) (by omega) (by omega)) fun a J=> ds J Y Y Y Y hD (fun w hD=> R.loadO one3 (J.ev Y) (hB.old hD) (ints_getT (t := t) (by omega) (by omega))) fun a J=> ?_
  refine dv J Y Y Y Y (fun w=> R.addI (J.ev Y) (J.ev Y) (by omega)) fun a J=> dm J Y Y Y fun a J=> dv J Y Y Y Y (fun w=> R.addI (J.ev Y) (J.ev Y) (by omega)) fun a J=> da J Y Y Y fun a J=> d0 <| then_n (hK9 _ _ <| wp_seq_k fun K10 hK10=> wp_region_lit <| mv J Y Y fun a J=> mv J Y Y fun a J=> aI J Y Y Y (by omega) fun a J=> mv J Y Y fun a J=> sw J Y Y Y (R.remI (J.ev Y) (J.ev Y) (by omega)) fun a J=> sw J Y Y Y (R.indexS Tryz.underlying61 sz3 (J.ev Y) (J.ev Y) (by omega) (by omega)) fun a J=> so (wn Y) (O.store sz3 (J.ev Y) (J.ev Y) Y Y G .h (ints_setB (k := 33) (t := t) (e := (x + y) / 256 ^ t % 256) (by omega) (Nat.mod_lt _ (by decide)) (by omega) (congrArg (Value.int .i64) (by have := plus_dig x y t; omega))) (by rw [length_ints, length_toB]; omega) fun w G=> ?_))
  rw [setB_take] at G
  refine s0 <| then_n (hK10 _ _ <| wp_region_lit <| mv J Y Y fun a J=> sw J Y Y Y (R.quoI (J.ev Y) (J.ev Y) (by omega)) fun a J=> av J Y Y fun a J=> s0 <| blk_n <| then_n (hK8 _ _ <| wp_region_lit <| mv J Y Y fun a J=> sw J Y Y Y (R.subI (J.ev Y) (J.ev Y) (by omega)) fun a J=> av J Y Y fun a J=> s0 <| then_n (hKL1 (32 - (t + 1)) _ _ ?_ ?_)))
  ·omega
  exact ⟨t + 1, Y, J.sub ⟨Y, Y, Y, (congrArg (fun z => some (Value.int .i64 z)) (by have := plus_cy x y t; omega)), (congrArg (fun z => some (Value.int .i64 z)) (by omega)), trivial⟩, G.sel [0] Y Y, by omega⟩
 obtain rfl : t = 32 := by omega
 refine wp_exit (then_x (then_x (blk_hit <| then_n (hK4 _ _ <| wp_seq_k fun K11 hK11=> wp_region_lit <| mv J Y Y fun a J=> mv J Y Y fun a J=> sw J Y Y Y (R.indexS Tryz.underlying61 sz3 (J.ev Y) (J.ev Y) (by omega) (by omega)) fun a J=> so (wn Y) (O.store sz3 (J.ev Y) (J.ev Y) Y Y G .h (ints_setB (k := 33) (t := 32) (e := (x + y) / 256 ^ 32 % 256) (by omega) (Nat.mod_lt _ (by decide)) (by omega) (by rw [cyB_top hx hy])) (by rw [length_ints, length_toB]; omega) fun w G=> ?_)))))
 rw [setB_take, Nat.mod_eq_of_lt (sum_lt33 hx hy)] at G
 refine s0 <| then_n (hK11 _ _ <| wp_seq_k fun K12 hK12=> wp_region_lit <| mv J Y Y fun a J=> av J Y Y fun a J=> s0 <| then_n (hK12 _ _ <| wp_ret (hR _ _ _ _ _ J (run_results Tryz.results95 (.t J Y (.nil))) ?_)))
 exact ⟨_, _, Y, ⟨_, Y, Y⟩, G.one .h⟩
theorem wholly_calls (A : Option Addr) (n c v : Nat) (w0 : World) (hA : Rd w0 A (ints (toB n v))) (hn : 32 ≤ n ∧ n ≤ 64) (hv : v < 256 ^ n) : Ret Tryz.prog 96 [.slice A n c] w0 [] (fun u s => u = .bool (decide (v < 256 ^ 32)) ∧ s = []) := by
 refine fn_start Tryz.func96 Y Tryz.ntmps96 Y [(0, .slice A n c)] ⟨Y, trivial⟩ ?_
 intro Q a hP J hR hN
 have G := St.start w0
 refine wp_seq_k fun K1 hK1=> wp_region_lit <| av J Y Y fun a J=> s0 <| then_n (hK1 _ _ <| wp_seq_k fun K2 hK2=> wp_seq_k fun K3 hK3=> wp_region_lit <| av J Y Y fun a J=> s0 <| then_n (hK3 _ _ <| wp_block <| wp_loop_N (fun g a w=> ∃ (i : Nat), n - i = g ∧ Fr 16 [(0, .slice A n c), (3, .int .i64 ((i : Nat) : Int))] a ∧ St w0 [] [] w ∧ (i ≤ n - 32) ∧ (v < 256 ^ (n - i))) (n - 0) ?_ ?_))
 ·exact ⟨0, Y, J.sub ⟨Y, Y, trivial⟩, G.sel [] Y Y, by omega, hv⟩
 rintro KL1 g a w ⟨i, hg1, J, G, hi, hvi⟩ hKL1
 have hdd : v / 256 ^ (n - 1 - i) % 256 < 256 := Nat.mod_lt _ (by decide)
 refine wp_seq_k fun K4 hK4=> wp_seq_k fun K5 hK5=> wp_region_lit <| mv J Y Y fun a J=> mv J Y Y fun a J=> sw J Y Y Y (R.len Tryz.underlying61 (J.ev Y)) fun a J=> sw J Y Y Y (R.subI (J.ev Y) (J.ev Y) (by omega)) fun a J=> lS J Y Y Y fun a J=> s0 <| then_n (hK5 _ _ <| cD J Y (fun c1=> ?_) (fun c1=> ?_))
 ·refine wp_skip <| then_n (hK4 _ _ <| wp_seq_k fun K6 hK6=> wp_block <| wp_seq_k fun K7 hK7=> wp_region_lit <| mv J Y Y fun a J=> mv J Y Y fun a J=> sw J Y Y Y (R.indexO Tryz.underlying61 sz3 (J.ev Y) (Rd.ne hA (by rw [length_ints, length_toB]; omega)) (J.ev Y) (by omega) (by omega)) fun a J=> sw J Y Y Y (R.loadO one3 (J.ev Y) (hA.old G) (ints_getB (i := i) (by omega) (by omega))) fun a J=> sw J Y Y Y (R.neq (J.ev Y) (J.ev Y)) fun a J=> s0 <| then_n (hK7 _ _ <| cD J Y (fun c2=> ?_) (fun c2=> ?_)))
  ·refine wp_seq_k fun K8 hK8=> wp_region_lit <| av J Y Y fun a J=> s0 <| then_n (hK8 _ _ <| wp_ret (blk_r (then_r (then_r (blk_r (then_r (hR _ _ _ _ _ J (run_results Tryz.results96 (.t J Y (.nil))) ?_)))))))
   exact ⟨_, [], Y, ⟨by rw [decide_eq_false (who_bad (n := n) (i := i) (by omega) (by omega))]; rfl, Y⟩, G.none⟩
  refine wp_skip <| blk_n <| then_n (hK6 _ _ <| wp_region_lit <| mv J Y Y fun a J=> aI J Y Y Y (by omega) fun a J=> av J Y Y fun a J=> s0 <| then_n (hKL1 (n - (i + 1)) _ _ ?_ ?_))
  ·omega
  exact ⟨i + 1, Y, J.sub ⟨Y, (congrArg (fun z => some (Value.int .i64 z)) (by omega)), trivial⟩, G.sel [] Y Y, by omega, who_next hvi (by omega) (by omega)⟩
 refine wp_exit (then_x (then_x (blk_hit <| then_n (hK2 _ _ <| wp_seq_k fun K9 hK9=> wp_region_lit <| av J Y Y fun a J=> s0 <| then_n (hK9 _ _ <| wp_ret (hR _ _ _ _ _ J (run_results Tryz.results96 (.t J Y (.nil))) ?_))))))
 exact ⟨_, [], Y, ⟨by rw [decide_eq_true (by rwa [show n - i = 32 by omega] at hvi)]; rfl, Y⟩, G.none⟩
end Go.Proofs.YtlapmbkfmbkdoaaGreatDoor
end
section
namespace Go.Proofs.YtlapmbkfmbkdoaaGreatDoor
open Go Go.Fw Go.RowKit
attribute [local irreducible] Go.Oper.wp Go.Code.wp Go.wpList Go.Fw.WL Go.Calls
theorem rd_tail {w : World} {b n j v : Nat} (h : Rd w (some ⟨b, 0, none⟩) (ints (toB (n + j) v))) : Rd w (some ⟨b, j, none⟩) (ints (toB n v)) := by
  intro i u hu
  have e : (ints (toB (n + j) v))[j + i]? = some u := by
    have hd : toB n v = (toB (n + j) v).drop j := by rw [toB_drop j (by omega), Nat.add_sub_cancel]
    rw [hd] at hu
    unfold ints at hu ⊢
    rw [List.getElem?_map, List.getElem?_drop] at hu
    rw [List.getElem?_map]; exact hu
  obtain ⟨a, ha, hc⟩ := h (j + i) u e
  refine ⟨_, rfl, ?_⟩
  simp only [Option.some.injEq] at ha
  subst ha
  by_cases hi : i = 0 <;> by_cases hj : j = 0 <;> simp_all [Addr.add]
set_option maxHeartbeats 1000000 in
theorem timesB_calls (A B : Option Addr) (c d x y : Nat) (w0 : World) (hA : Rd w0 A (ints (toB 32 x))) (hB : Rd w0 B (ints (toB 32 y))) (hx : x < 256 ^ 32) (hy : y < 256 ^ 32) : Ret Tryz.prog 99 [.slice A 32 c, .slice B 32 d] w0 [] (RetB 64 (x * y)) := by
 refine fn_start Tryz.func99 Y Tryz.ntmps99 Y [(0, .slice A 32 c), (1, .slice B 32 d)] ⟨Y, Y, trivial⟩ ?_
 intro Q a hP J hR hN
 have G := St.start w0
 refine wp_seq_k fun K1 hK1=> wp_region_lit <| av J Y Y fun a J=> s0 <| then_n (hK1 _ _ <| wp_seq_k fun K2 hK2=> wp_region_lit <| so (wn Y) (O.makeSlice Y Y J Tryz.underlying61 inf3 Y Y (J.ev Y) (J.ev Y) (by omega) (by omega) (by omega) (by omega) G fun b10 a w J G=> ?_))
 rw [show zeros [Value.int .i64 0] (Int.toNat 64) = ints (toB 64 (x % 256 ^ 0 * y)) from by (rw [Nat.pow_zero, Nat.mod_one, Nat.zero_mul, ← toB_0]; exact zeros_ints 64)] at G
 refine av J Y Y fun a J=> s0 <| then_n (hK2 _ _ <| wp_seq_k fun K3 hK3=> wp_seq_k fun K4 hK4=> wp_region_lit <| av J Y Y fun a J=> s0 <| then_n (hK4 _ _ <| wp_block <| wp_loop_N (fun g a w=> ∃ (t : Nat), 32 - t = g ∧ Fr 56 [(0, .slice A 32 c), (1, .slice B 32 d), (5, .slice (some ⟨b10, 0, none⟩) 64 64), (6, .int .i64 (31 - ((t : Nat) : Int)))] a ∧ St w0 [] [[(b10, Cel (ints (toB 64 (x % 256 ^ t * y))) 3)]] w ∧ (t ≤ 32)) (32 - 0) ?_ ?_))
 ·exact ⟨0, Y, J.sub ⟨Y, Y, Y, Y, trivial⟩, G.sel [0] Y Y, by omega⟩
 rintro KL1 g a w ⟨t, hg1, J, G, ht⟩ hKL1
 refine wp_seq_k fun K5 hK5=> wp_seq_k fun K6 hK6=> wp_region_lit <| mv J Y Y fun a J=> sw J Y Y Y (R.geq (J.ev Y) (J.ev Y)) fun a J=> s0 <| then_n (hK6 _ _ <| cD J Y (fun c1=> ?_) (fun c1=> ?_))
 ·refine wp_skip <| then_n (hK5 _ _ <| wp_seq_k fun K7 hK7=> wp_block <| wp_seq_k fun K8 hK8=> wp_region_lit <| av J Y Y fun a J=> s0 <| then_n (hK8 _ _ <| wp_seq_k fun K9 hK9=> wp_seq_k fun K10 hK10=> wp_region_lit <| av J Y Y fun a J=> s0 <| then_n (hK10 _ _ <| wp_block <| wp_loop_N (fun g a w=> ∃ (u : Nat) (V : Nat) (cc : Nat), 32 - u = g ∧ Fr 56 [(0, .slice A 32 c), (1, .slice B 32 d), (5, .slice (some ⟨b10, 0, none⟩) 64 64), (6, .int .i64 (31 - ((t : Nat) : Int))), (7, .int .i64 ((cc : Nat) : Int)), (8, .int .i64 (31 - ((u : Nat) : Int)))] a ∧ St w0 [] [[(b10, Cel (ints (toB 64 (V))) 3)]] w ∧ (u ≤ 32) ∧ (V + cc * 256 ^ (t + u) = x % 256 ^ t * y + x / 256 ^ t % 256 * (y % 256 ^ u) * 256 ^ t) ∧ (cc < 256) ∧ (V < 256 ^ (t + 32))) (32 - 0) ?_ ?_)))
  ·exact ⟨0, x % 256 ^ t * y, 0, Y, J.sub ⟨Y, Y, Y, Y, Y, Y, trivial⟩, G.sel [0] Y Y, by omega, (by rw [Nat.pow_zero, Nat.mod_one]; simp), by decide, rows_lt hy⟩
  rintro KL2 g a w ⟨u, V, cc, hg2, J, G, hu, hv, hcc, hV⟩ hKL2
  have hdx : x / 256 ^ t % 256 < 256 := Nat.mod_lt _ (by decide); have hdy : y / 256 ^ u % 256 < 256 := Nat.mod_lt _ (by decide); have hdv : V / 256 ^ (t + u) % 256 < 256 := Nat.mod_lt _ (by decide); have hmu : x / 256 ^ t % 256 * (y / 256 ^ u % 256) ≤ 255 * 255 := Nat.mul_le_mul (by omega) (by omega)
  refine wp_seq_k fun K11 hK11=> wp_seq_k fun K12 hK12=> wp_region_lit <| mv J Y Y fun a J=> sw J Y Y Y (R.geq (J.ev Y) (J.ev Y)) fun a J=> s0 <| then_n (hK12 _ _ <| cD J Y (fun c2=> ?_) (fun c2=> ?_))
  ·refine wp_skip <| then_n (hK11 _ _ <| wp_seq_k fun K13 hK13=> wp_block <| wp_seq_k fun K14 hK14=> wp_drawS G [(0, 0), (1, 0), (2, 0), (3, 0), (4, 0), (5, 0), (6, 1), (7, 0), (8, 0), (9, 0), (10, 1), (11, 0), (12, 0), (13, 0), (14, 1), (15, 0), (16, 0), (17, 0), (18, 0), (19, 0)] mix (by kernel_rfl) (hP.then.block.then.then.block.then.block.then.then.block.then) fun w G=> ?_)
   have hD := G
   refine dm J Y Y Y fun a J=> dm J Y Y Y fun a J=> dm J Y Y Y fun a J=> dv J Y Y Y Y (fun w=> R.addI (J.ev Y) (J.ev Y) (by omega)) fun a J=> dv J Y Y Y Y (fun w=> R.addI (J.ev Y) (J.ev Y) (by omega)) fun a J=> dv J Y Y Y Y (fun w=> R.indexS Tryz.underlying61 sz3 (J.ev Y) (J.ev Y) (by omega) (by omega)) fun a J=> ds J Y Y Y Y hD (fun w hD=> R.load one3 (J.ev Y) hD .h (ints_getT (t := t + u) (by omega) (by omega))) fun a J=> ?_
   refine dm J Y Y Y fun a J=> dm J Y Y Y fun a J=> dv J Y Y Y Y (fun w=> R.indexO Tryz.underlying61 sz3 (J.ev Y) (Rd.ne hA (by rw [length_ints, length_toB]; omega)) (J.ev Y) (by omega) (by omega)) fun a J=> ds J Y Y Y Y hD (fun w hD=> R.loadO one3 (J.ev Y) (hA.old hD) (ints_getT (t := t) (by omega) (by omega))) fun a J=> ?_
   refine dm J Y Y Y fun a J=> dm J Y Y Y fun a J=> dv J Y Y Y Y (fun w=> R.indexO Tryz.underlying61 sz3 (J.ev Y) (Rd.ne hB (by rw [length_ints, length_toB]; omega)) (J.ev Y) (by omega) (by omega)) fun a J=> ds J Y Y Y Y hD (fun w hD=> R.loadO one3 (J.ev Y) (hB.old hD) (ints_getT (t := u) (by omega) (by omega))) fun a J=> ?_
   refine dv J Y Y Y Y (fun w=> R.mulN (p := x / 256 ^ t % 256) (q := y / 256 ^ u % 256) (J.ev Y) (J.ev Y) (by omega)) fun a J=> dv J Y Y Y Y (fun w=> R.addI (J.ev Y) (J.ev Y) (by omega)) fun a J=> dm J Y Y Y fun a J=> dv J Y Y Y Y (fun w=> R.addI (J.ev Y) (J.ev Y) (by omega)) fun a J=> da J Y Y Y fun a J=> d0 <| then_n (hK14 _ _ <| wp_seq_k fun K15 hK15=> wp_region_lit <| mv J Y Y fun a J=> mv J Y Y fun a J=> mv J Y Y fun a J=> aI J Y Y Y (by omega) fun a J=> aI J Y Y Y (by omega) fun a J=> mv J Y Y fun a J=> sw J Y Y Y (R.remI (J.ev Y) (J.ev Y) (by omega)) fun a J=> sw J Y Y Y (R.indexS Tryz.underlying61 sz3 (J.ev Y) (J.ev Y) (by omega) (by omega)) fun a J=> so (wn Y) (O.store sz3 (J.ev Y) (J.ev Y) Y Y G .h (ints_setB (k := 64) (t := t + u) (e := (V / 256 ^ (t + u) % 256 + x / 256 ^ t % 256 * (y / 256 ^ u % 256) + cc) % 256) (by omega) (Nat.mod_lt _ (by decide)) (by omega) (congrArg (Value.int .i64) (by omega))) (by rw [length_ints, length_toB]; omega) fun w G=> ?_))
   refine s0 <| then_n (hK15 _ _ <| wp_region_lit <| mv J Y Y fun a J=> sw J Y Y Y (R.quoI (J.ev Y) (J.ev Y) (by omega)) fun a J=> av J Y Y fun a J=> s0 <| blk_n <| then_n (hK13 _ _ <| wp_region_lit <| mv J Y Y fun a J=> sw J Y Y Y (R.subI (J.ev Y) (J.ev Y) (by omega)) fun a J=> av J Y Y fun a J=> s0 <| then_n (hKL2 (32 - (u + 1)) _ _ ?_ ?_)))
   ·omega
   exact ⟨u + 1, setB V (t + u) ((V / 256 ^ (t + u) % 256 + x / 256 ^ t % 256 * (y / 256 ^ u % 256) + cc) % 256), (V / 256 ^ (t + u) % 256 + x / 256 ^ t % 256 * (y / 256 ^ u % 256) + cc) / 256, Y, J.sub ⟨Y, Y, Y, Y, (congrArg (fun z => some (Value.int .i64 z)) (by omega)), (congrArg (fun z => some (Value.int .i64 z)) (by omega)), trivial⟩, G.sel [0] Y Y, by omega, row_step hv, row_carry hdv hdx hdy hcc, setB_lt hV (by omega) (Nat.mod_lt _ (by decide))⟩
  obtain rfl : u = 32 := by omega
  have hre := row_end hy hv hV hcc
  refine wp_exit (then_x (then_x (blk_hit <| then_n (hK9 _ _ <| wp_region_lit <| mv J Y Y fun a J=> mv J Y Y fun a J=> sw J Y Y Y (R.indexS Tryz.underlying61 sz3 (J.ev Y) (J.ev Y) (by omega) (by omega)) fun a J=> sw J Y Y Y (R.load one3 (J.ev Y) G .h (ints_getT (t := t + 32) (by omega) (by omega))) fun a J=> mv J Y Y fun a J=> aI J Y Y Y (by omega) fun a J=> sw J Y Y Y (R.indexS Tryz.underlying61 sz3 (J.ev Y) (J.ev Y) (by omega) (by omega)) fun a J=> so (wn Y) (O.store sz3 (J.ev Y) (J.ev Y) Y Y G .h (ints_setB (k := 64) (t := t + 32) (e := cc) (by omega) hcc (by omega) (congrArg (Value.int .i64) (by have := hre.1; omega))) (by rw [length_ints, length_toB]; omega) fun w G=> ?_)))))
  rw [hre.2, rows_next] at G
  refine s0 <| blk_n <| then_n (hK7 _ _ <| wp_region_lit <| mv J Y Y fun a J=> sw J Y Y Y (R.subI (J.ev Y) (J.ev Y) (by omega)) fun a J=> av J Y Y fun a J=> s0 <| then_n (hKL1 (32 - (t + 1)) _ _ ?_ ?_))
  ·omega
  exact ⟨t + 1, Y, J.sub ⟨Y, Y, Y, (congrArg (fun z => some (Value.int .i64 z)) (by omega)), trivial⟩, G.sel [0] Y Y, by omega⟩
 obtain rfl : t = 32 := by omega
 rw [Nat.mod_eq_of_lt hx] at G
 refine wp_exit (then_x (then_x (blk_hit <| then_n (hK3 _ _ <| wp_seq_k fun K16 hK16=> wp_region_lit <| mv J Y Y fun a J=> av J Y Y fun a J=> s0 <| then_n (hK16 _ _ <| wp_ret (hR _ _ _ _ _ J (run_results Tryz.results99 (.t J Y (.nil))) ?_))))))
 exact ⟨_, _, Y, ⟨_, Y, Y⟩, G.one .h⟩
end Go.Proofs.YtlapmbkfmbkdoaaGreatDoor
end
section
namespace Go.Proofs.YtlapmbkfmbkdoaaGreatDoor
open Go Go.Fw Go.RowKit
attribute [local irreducible] Go.Oper.wp Go.Code.wp Go.wpList Go.Fw.WL Go.Calls
theorem number32 (A : Option Addr) (c v : Nat) (w0 : World) (hA : Rd w0 A (ints (toB 32 v))) : Ret Tryz.prog 29 [.slice A 32 c] w0 [] (fun u s => u = wv (v % 256 ^ 32) ∧ s = []) := by
  have := number_calls A c (toB 32 v) w0 hA toB_lt (by rw [length_toB]; decide)
  rwa [length_toB, numB_toB] at this
theorem M256 : (256 : Nat) ^ 32 = 115792089237316195423570985008687907853269984665640564039457584007913129639936 := by decide
end Go.Proofs.YtlapmbkfmbkdoaaGreatDoor
end
section
namespace Go.Proofs.YtlapmbkfmbkdoaaGreatDoor
open Go Go.Fw Go.RowKit
section
variable {stk : List Nat} {left p : Nat}
end
end Go.Proofs.YtlapmbkfmbkdoaaGreatDoor
end
section
namespace Go.Proofs.YtlapmbkfmbkdoaaGreatDoor
open Go Go.Fw Go.RowKit
attribute [local irreducible] Go.Oper.wp Go.Code.wp Go.wpList Go.Fw.WL Go.Calls
theorem chk_dec {xs : List Nat} : Value.bool (decide (¬ ((if chkN xs then 0 else 100 : Int) = 0))) = .bool (decide (chkN xs = false)) := by cases chkN xs <;> simp
end Go.Proofs.YtlapmbkfmbkdoaaGreatDoor
end
section
namespace Go.Proofs.YtlapmbkfmbkdoaaGreatDoor
open Go Go.Fw Go.RowKit
attribute [local irreducible] Go.Oper.wp Go.Code.wp Go.wpList Go.Fw.WL Go.Calls
def namesL : List (List Nat) := [[115, 116, 111, 112], [100, 111, 110, 101], [112, 117, 115, 104], [112, 111, 112], [100, 117, 112], [115, 119, 97, 112], [97, 100, 100], [115, 117, 98], [109, 117, 108], [100, 105, 118], [109, 111, 100], [108, 101, 115, 115], [115, 97, 109, 101], [110, 111, 116], [106, 117, 109, 112], [119, 104, 101, 110], [97, 114, 103], [97, 114, 103, 115], [99, 97, 108, 108, 101, 114], [115, 101, 108, 102], [116, 111, 107, 101, 110], [97, 109, 111, 117, 110, 116], [116, 105, 109, 101], [103, 97, 115], [108, 111, 97, 100], [115, 97, 118, 101], [104, 97, 118, 101], [115, 101, 110, 100]]
def strs (l : List (List Nat)) : List Value := l.map fun x => .string (bstr x)
def nameN (c : Nat) : List Nat := namesL.getD c []
theorem strs_at {l : List (List Nat)} {i off : Nat} (h : i < l.length) (ho : off = i) : (strs l)[off]? = some (.string (bstr (l.getD i []))) := by
  subst ho; simp [strs, List.getD_eq_getElem?_getD, h]
theorem name_calls (m : Nat) (w0 : World) (hm : m < 28) : Ret Tryz.prog 27 [.int .i64 ((m : Nat) : Int)] w0 [] (fun v s => v = .string (bstr (nameN m)) ∧ s = []) := by
 refine fn_start Tryz.func27 Y Tryz.ntmps27 Y [(0, .int .i64 ((m : Nat) : Int))] ⟨Y, trivial⟩ ?_
 intro Q a hP J hR hN
 have G := St.start w0
 refine wp_seq_k fun K1 hK1=> wp_region_lit <| av J Y Y fun a J=> s0 <| then_n (hK1 _ _ <| wp_seq_k fun K2 hK2=> wp_region_lit <| so (wn Y) (O.buildSlice (l := strs namesL) Y Y J Tryz.underlying108 inf9 Y Y (J.evp Y) (by decide) Y G fun b4 a w J G=> ?_))
 refine av J Y Y fun a J=> s0 <| then_n (hK2 _ _ <| wp_seq_k fun K3 hK3=> wp_seq_k fun K4 hK4=> wp_region_lit <| mv J Y Y fun a J=> sw J Y Y Y (R.as (u := .bool false) (R.lss (p := ((m : Nat) : Int)) (q := 0) (J.ev Y) (J.ev Y)) (congrArg Value.bool (decide_eq_false (by omega)))) fun a J=> mv J Y Y fun a J=> my J Y Y Y Y fun a J=> sv' J (wy J Y Y Y) Y Y (R.as (u := .bool false) (R.geq (p := ((m : Nat) : Int)) (q := 28) (J.ev Y) (J.ev Y)) (congrArg Value.bool (decide_eq_false (by omega)))) fun a J=> pF J Y Y Y fun a J=> s0 <| then_n (hK4 _ _ <| cF J Y <| wp_skip <| then_n (hK3 _ _ <| wp_seq_k fun K5 hK5=> wp_region_lit <| mv J Y Y fun a J=> mv J Y Y fun a J=> sw J Y Y Y (R.indexS Tryz.underlying108 sz9 (J.ev Y) (J.ev Y) (by omega) (by omega)) fun a J=> sw J Y Y Y (R.load one9 (J.ev Y) G .h (strs_at (i := m) hm (by omega))) fun a J=> av J Y Y fun a J=> ?_)))
 refine s0 <| then_n (hK5 _ _ <| wp_ret (hR _ _ _ _ _ J (run_results Tryz.results27 (.t J Y (.nil))) ?_))
 exact ⟨_, [], Y, ⟨Y, Y⟩, G.none⟩
end Go.Proofs.YtlapmbkfmbkdoaaGreatDoor
end
section
namespace Go.Proofs.YtlapmbkfmbkdoaaGreatDoor
open Go Go.Fw Go.RowKit
attribute [local irreducible] Go.Oper.wp Go.Code.wp Go.wpList Go.Fw.WL Go.Calls
end Go.Proofs.YtlapmbkfmbkdoaaGreatDoor
end
section
namespace Go.Proofs.YtlapmbkfmbkdoaaGreatDoor
open Go Go.Fw Go.RowKit
attribute [local irreducible] Go.Oper.wp Go.Code.wp Go.wpList Go.Fw.WL Go.Calls
end Go.Proofs.YtlapmbkfmbkdoaaGreatDoor
end
section
namespace Go.Proofs
end Go.Proofs
namespace Go.Proofs.YtlapmbkfmbkdoaaGreatDoor
open Go Go.Fw Go.RowKit
end Go.Proofs.YtlapmbkfmbkdoaaGreatDoor
end
section
namespace Go.Proofs.YtlapmbkfmbkdoaaGreatDoor
open Go Go.Fw Go.RowKit
attribute [local irreducible] Go.Oper.wp Go.Code.wp Go.wpList Go.Fw.WL Go.Calls
section
variable {P : Program} {w0 w : World} {ks : List Nat} {bs : List Seg} {ρ : Operand → Value} {dst : Option Tmp} {ty : TypeId} {pos : String} {af : Array Edge} {g : Option (Nat × Bool)} {x y : Operand} {T T' E : TypeId}
end
end Go.Proofs.YtlapmbkfmbkdoaaGreatDoor
end
section
namespace Go.Proofs.YtlapmbkfmbkdoaaGreatDoor
open Go Go.Fw Go.RowKit
attribute [local irreducible] Go.Oper.wp Go.Code.wp Go.wpList Go.Fw.WL Go.Calls
theorem row_name {c : Nat} (h : c < 28) : tabR[c]? = some (rowC (bstr (nameN c)) c) := by
  have hcases : c = 0 ∨ c = 1 ∨ c = 2 ∨ c = 3 ∨ c = 4 ∨ c = 5 ∨ c = 6 ∨ c = 7 ∨ c = 8 ∨ c = 9 ∨ c = 10 ∨ c = 11 ∨ c = 12 ∨ c = 13 ∨ c = 14 ∨ c = 15 ∨ c = 16 ∨ c = 17 ∨ c = 18 ∨ c = 19 ∨ c = 20 ∨ c = 21 ∨ c = 22 ∨ c = 23 ∨ c = 24 ∨ c = 25 ∨ c = 26 ∨ c = 27 := by omega
  rcases hcases with rfl | rfl | rfl | rfl | rfl | rfl | rfl | rfl | rfl | rfl | rfl | rfl | rfl | rfl | rfl | rfl | rfl | rfl | rfl | rfl | rfl | rfl | rfl | rfl | rfl | rfl | rfl | rfl <;> exact rfl
theorem row_nm {c off : Nat} (h : c < 28) (ho : off = c * 5) : ∀ j v, (rowC (bstr (nameN c)) c)[j]? = some v → tabL[off + j]? = some v := by
  subst ho
  exact flat_at (by decide +kernel) (row_name h)
end Go.Proofs.YtlapmbkfmbkdoaaGreatDoor
end
section
namespace Go.Proofs.YtlapmbkfmbkdoaaGreatDoor
open Go Go.Fw Go.RowKit
attribute [local irreducible] Go.Oper.wp Go.Code.wp Go.wpList Go.Fw.WL Go.Calls
end Go.Proofs.YtlapmbkfmbkdoaaGreatDoor
end
section
namespace Go.Proofs.YtlapmbkfmbkdoaaGreatDoor
open Go Go.Fw Go.RowKit
attribute [local irreducible] Go.Oper.wp Go.Code.wp Go.wpList Go.Fw.WL Go.Calls
theorem sameBytes_eq (A B : Option Addr) (n c d : Nat) (xs : List Nat) (w0 : World) (hA : Rd w0 A (byts xs)) (hB : Rd w0 B (byts xs)) (hn : xs.length = n) : Ret Tryz.prog 19 [.slice A n c, .slice B n d] w0 [] (fun v s => v = .bool true ∧ s = []) := by
 refine fn_start Tryz.func19 Y Tryz.ntmps19 Y [(0, .slice A n c), (1, .slice B n d)] ⟨Y, Y, trivial⟩ ?_
 intro Q a hP J hR hN
 have G := St.start w0
 refine wp_seq_k fun K1 hK1=> wp_region_lit <| av J Y Y fun a J=> s0 <| then_n (hK1 _ _ <| wp_seq_k fun K2 hK2=> wp_region_lit <| mv J Y Y fun a J=> sw J Y Y Y (R.convStr Tryz.underlying22 Tryz.underlying5 Tryz.underlying9 (J.ev Y) (hA.old G) hn) fun a J=> mv J Y Y fun a J=> sw J Y Y Y (R.convStr Tryz.underlying22 Tryz.underlying5 Tryz.underlying9 (J.ev Y) (hB.old G) hn) fun a J=> sw J Y Y Y (R.as (u := .bool true) (R.eqlStr (J.ev Y) (J.ev Y)) (congrArg Value.bool (decide_eq_true (Y)))) fun a J=> av J Y Y fun a J=> s0 <| then_n (hK2 _ _ <| wp_ret (hR _ _ _ _ _ J (run_results Tryz.results19 (.t J Y (.nil))) ?_)))
 exact ⟨_, [], Y, ⟨Y, Y⟩, G.none⟩
end Go.Proofs.YtlapmbkfmbkdoaaGreatDoor
end
section
namespace Go.Proofs.YtlapmbkfmbkdoaaGreatDoor
open Go Go.Fw Go.RowKit
attribute [local irreducible] Go.Oper.wp Go.Code.wp Go.wpList Go.Fw.WL Go.Calls
end Go.Proofs.YtlapmbkfmbkdoaaGreatDoor
end
section
namespace Go.Proofs.YtlapmbkfmbkdoaaGreatDoor
open Go Go.Fw Go.RowKit
attribute [local irreducible] Go.Oper.wp Go.Code.wp Go.wpList Go.Fw.WL Go.Calls
theorem parse_calls (s : ByteArray) (w0 : World) : Ret Tryz.prog 113 [.string s] w0 [] (fun v q => v = prsW (bys s) ∧ q = []) := by
 refine fn_start Tryz.func113 Y Tryz.ntmps113 Y [(0, .string s)] ⟨Y, trivial⟩ ?_
 intro Q a hP J hR hN
 have G := St.start w0
 have hlen := length_bys s
 refine wp_seq_k fun K1 hK1=> wp_region_lit <| so (wn Y) (O.alloc Y Y J ze32 Y G fun b2 a w J G=> ?_)
 refine av J Y Y fun a J=> s0 <| then_n (hK1 _ _ <| wp_seq_k fun K2 hK2=> wp_region_lit <| so (wn Y) (O.alloc Y Y J ze32 Y G fun b4 a w J G=> ?_))
 refine s0 <| then_n (hK2 _ _ <| wp_seq_k fun K3 hK3=> wp_seq_k fun K4 hK4=> ?_)
 have hK4' : ∀ a w, (Fr 61 [(0, .string s), (2, .pointer (some ⟨b2, 0, none⟩)), (4, .pointer (some ⟨b4, 0, none⟩)), (18, .bool (decide (s.size = 0 ∨ ((bys s).getD 0 0 = 48 ∧ ¬ s.size = 1))))] a ∧ St w0 [] [[(b4, Cel (wc 0) 32)], [(b2, Cel (wc 0) 32)]] w) → K4 a w := by
  rintro a w ⟨J, G⟩
  refine hK4 _ _ ?_
  refine cD J Y (fun hz=> ?_) (fun hz=> ?_)
  ·have hpn := prs_bad0 (hlen.symm ▸ hz)
   refine wp_seq_k fun K5 hK5=> wp_region_lit <| sw J Y Y Y (R.loadW agg32 (J.ev Y) G .h sz32 (Y)) fun a J=> so (wn Y) (O.storeW sz32 (J.ev Y) (J.ev Y) (Y) Y (by simp [Value.oneCell']) G (.t .h) (Y) fun w G=> ?_)
   refine av J Y Y fun a J=> s0 <| then_n (hK5 _ _ <| wp_ret (then_r (hR _ _ _ _ _ J (run_results Tryz.results113 (.cw J Y agg32 G (.t .h) sz32 (Y) (.t J Y (.nil)))) ?_)))
   exact ⟨_, [], Y, ⟨by rw [prsW, hpn]; rfl, Y⟩, G.none⟩
  have hnz := hz
  refine wp_skip <| then_n (hK3 _ _ <| wp_seq_k fun K6 hK6=> wp_seq_k fun K7 hK7=> wp_region_lit <| mv J Y Y fun a J=> sw J Y Y Y (R.lenS Tryz.underlying9 (J.ev Y)) fun a J=> mv J Y Y fun a J=> s0 <| then_n (hK7 _ _ <| wp_block <| wp_loop_N (fun g a w=> ∃ (i : Nat), s.size - i = g ∧ Fr 61 [(0, .string s), (2, .pointer (some ⟨b2, 0, none⟩)), (4, .pointer (some ⟨b4, 0, none⟩)), (21, .int .i64 (s.size : Int)), (22, .int .i64 (i : Nat))] a ∧ St w0 [] [[(b4, Cel (wc (num ((bys s).take i))) 32)], [(b2, Cel (wc 0) 32)]] w ∧ (i ≤ s.size) ∧ (allD ((bys s).take i) = true) ∧ (num ((bys s).take i) < 115792089237316195423570985008687907853269984665640564039457584007913129639936) ∧ (i = 0 ∨ s.size = 1 ∨ 10 ^ i ≤ 10 * num ((bys s).take i))) (s.size - 0) ?_ ?_))
  ·exact ⟨0, Y, J.sub ⟨Y, Y, Y, Y, Y, trivial⟩, G.sel [0, 1] Y Y, by omega, Y, by show num [] < _; decide, by omega⟩
  rintro KL1 g a w ⟨i, hg1, J, G, hi, hal, hnm, hgr⟩ hKL1
  refine wp_seq_k fun K8 hK8=> wp_region_lit <| lS J Y Y Y fun a J=> s0 <| then_n (hK8 _ _ <| wp_seq_k fun K9 hK9=> cD J Y (fun c2=> ?_) (fun c2=> ?_))
  ·refine wp_skip <| then_n (hK9 _ _ <| wp_seq_k fun K10 hK10=> wp_block <| wp_seq_k fun K11 hK11=> wp_region_lit <| mv J Y Y fun a J=> av J Y Y fun a J=> s0 <| then_n (hK11 _ _ <| wp_seq_k fun K12 hK12=> wp_seq_k fun K13 hK13=> ?_))
   have hK13' : ∀ a w, (Fr 61 [(0, .string s), (2, .pointer (some ⟨b2, 0, none⟩)), (4, .pointer (some ⟨b4, 0, none⟩)), (21, .int .i64 (s.size : Int)), (22, .int .i64 (i : Nat)), (5, .int .i64 (i : Nat)), (34, .bool (decide (((bys s).getD i 0) < 48 ∨ 57 < ((bys s).getD i 0))))] a ∧ St w0 [] [[(b4, Cel (wc (num ((bys s).take i))) 32)], [(b2, Cel (wc 0) 32)]] w) → K13 a w := by
    rintro a w ⟨J, G⟩
    refine hK13 _ _ ?_
    refine cD J Y (fun c3=> ?_) (fun c3=> ?_)
    ·have hpn := prs_badD (allD_bad (bys s) i (by omega) c3)
     refine wp_seq_k fun K14 hK14=> wp_region_lit <| sw J Y Y Y (R.buildArr (l := [_, _, _, _]) Tryz.underlying32 ze32 sz30 (J.evp Y) Y) fun a J=> so (wn Y) (O.storeW sz32 (J.ev Y) (J.ev Y) (Y) Y (by simp [Value.oneCell']) G (.t .h) (Y) fun w G=> ?_)
     refine av J Y Y fun a J=> s0 <| then_n (hK14 _ _ <| wp_ret (then_r (blk_r (then_r (then_r (blk_r (then_r (hR _ _ _ _ _ J (run_results Tryz.results113 (.cw J Y agg32 G (.t .h) sz32 (Y) (.t J Y (.nil)))) ?_))))))))
     exact ⟨_, [], Y, ⟨by rw [prsW, hpn]; rfl, Y⟩, G.none⟩
    have hnj := num_take (bys s) i (by omega)
    have hbb := byt_bys s
    have hi7 : i < s.size ∧ 48 ≤ ((bys s).getD i 0) := ⟨by omega, by omega⟩
    refine wp_skip <| then_n (hK12 _ _ <| wp_seq_k fun K15 hK15=> ?_)
    have hK15' : ∀ a w, (∃ (b6 : Nat), Fr 61 [(0, .string s), (2, .pointer (some ⟨b2, 0, none⟩)), (4, .pointer (some ⟨b4, 0, none⟩)), (21, .int .i64 (s.size : Int)), (22, .int .i64 (i : Nat)), (5, .int .i64 (i : Nat)), (6, .pointer (some ⟨b6, 0, none⟩)), (7, .int .i64 (if num ((bys s).take i) * 10 < 115792089237316195423570985008687907853269984665640564039457584007913129639936 then 0 else 22))] a ∧ St w0 [] [[(b6, Cel (wc (if num ((bys s).take i) * 10 < 115792089237316195423570985008687907853269984665640564039457584007913129639936 then num ((bys s).take i) * 10 else 0)) 32)], [(b4, Cel (wc (num ((bys s).take i))) 32)], [(b2, Cel (wc 0) 32)]] w) → K15 a w := by
     rintro a w ⟨b6, J, G⟩
     refine hK15 _ _ ?_
     refine wp_seq_k fun K16 hK16=> ?_
     have hK16' : ∀ a w, (Fr 61 [(0, .string s), (2, .pointer (some ⟨b2, 0, none⟩)), (4, .pointer (some ⟨b4, 0, none⟩)), (21, .int .i64 (s.size : Int)), (22, .int .i64 (i : Nat)), (5, .int .i64 (i : Nat)), (6, .pointer (some ⟨b6, 0, none⟩)), (7, .int .i64 (if num ((bys s).take (i + 1)) < 115792089237316195423570985008687907853269984665640564039457584007913129639936 then 0 else 22))] a ∧ St w0 [] [[(b6, Cel (wc (if num ((bys s).take (i + 1)) < 115792089237316195423570985008687907853269984665640564039457584007913129639936 then num ((bys s).take (i + 1)) else 0)) 32)], [(b4, Cel (wc (num ((bys s).take i))) 32)], [(b2, Cel (wc 0) 32)]] w) → K16 a w := by
      rintro a w ⟨J, G⟩
      refine hK16 _ _ ?_
      refine wp_seq_k fun K17 hK17=> wp_seq_k fun K18 hK18=> wp_region_lit <| mv J Y Y fun a J=> sw J Y Y Y (R.neq (J.ev Y) (J.ev Y)) fun a J=> s0 <| then_n (hK18 _ _ <| cD J Y (fun c5=> ?_) (fun c5=> ?_))
      ·have hbig : ¬ num ((bys s).take (i + 1)) < 115792089237316195423570985008687907853269984665640564039457584007913129639936 := fun h => by rw [if_pos h] at c5; omega
       have hpn := prs_big (Nat.le_trans (Nat.le_of_not_lt hbig) (num_take_le (bys s) (i + 1)))
       refine wp_seq_k fun K19 hK19=> wp_region_lit <| sw J Y Y Y (R.buildArr (l := [_, _, _, _]) Tryz.underlying32 ze32 sz30 (J.evp Y) Y) fun a J=> so (wn Y) (O.storeW sz32 (J.ev Y) (J.ev Y) (Y) Y (by simp [Value.oneCell']) G (.t (.t .h)) (Y) fun w G=> ?_)
       refine av J Y Y fun a J=> s0 <| then_n (hK19 _ _ <| wp_ret (then_r (blk_r (then_r (then_r (blk_r (then_r (hR _ _ _ _ _ J (run_results Tryz.results113 (.cw J Y agg32 G (.t (.t .h)) sz32 (Y) (.t J Y (.nil)))) ?_))))))))
       exact ⟨_, [], Y, ⟨by rw [prsW, hpn]; rfl, Y⟩, G.none⟩
      have hsm : num ((bys s).take (i + 1)) < 115792089237316195423570985008687907853269984665640564039457584007913129639936 := by (by_cases h : num ((bys s).take (i + 1)) < 115792089237316195423570985008687907853269984665640564039457584007913129639936; exact h; rw [if_neg h] at c5; omega)
      rw [if_pos hsm] at G
      refine wp_skip <| then_n (hK17 _ _ <| wp_region_lit <| sw J Y Y Y (R.loadW agg32 (J.ev Y) G .h sz32 (Y)) fun a J=> so (wn Y) (O.storeW sz32 (J.ev Y) (J.ev Y) (Y) Y (by simp [Value.oneCell']) G (.t .h) (Y) fun w G=> ?_))
      refine s0 <| blk_n <| then_n (hK10 _ _ <| wp_region_lit ?_)
      have hi9 : i + 1 ≤ 9223372036854775807 := by (rcases hgr with h | h | h; omega; omega; have := few_chr hnm h; omega)
      refine aI J Y Y Y (by omega) fun a J=> mv J Y Y fun a J=> s0 <| then_n (hKL1 (s.size - (i + 1)) _ _ ?_ ?_)
      ·omega
      exact ⟨i + 1, Y, J.sub ⟨Y, Y, Y, Y, Y, trivial⟩, G.sel [1, 2] Y Y, by omega, allD_take _ i (by omega) hal (by omega), by omega, num_grows hlen hnz hi7 hnj hgr⟩
     refine wp_seq_k fun K20 hK20=> wp_region_lit <| mv J Y Y fun a J=> eL J Y Y Y fun a J=> s0 <| then_n (hK20 _ _ <| cD J Y (fun c4=> ?_) (fun c4=> ?_))
     ·have hfit : num ((bys s).take i) * 10 < 115792089237316195423570985008687907853269984665640564039457584007913129639936 := by (by_cases h : num ((bys s).take i) * 10 < 115792089237316195423570985008687907853269984665640564039457584007913129639936; exact h; rw [if_neg h] at c4; omega)
      rw [if_pos hfit] at G
      refine wp_drawS G [(0, 1), (1, 0), (2, 0), (3, 0), (4, 0), (5, 0), (6, 2), (7, 2), (8, 0), (9, 0), (10, 0), (11, 3), (12, 0)] mix (by kernel_rfl) (hP.then.block.then.then.block.then) fun w G=> ?_
      have hD := G
      refine ds J Y Y Y Y hD (fun w hD=> R.loadW agg32 (J.ev Y) hD .h sz32 (Y)) fun a J=> ?_
      refine dm J Y Y Y fun a J=> dm J Y Y Y fun a J=> dv J Y Y Y Y (fun w=> R.as (u := .int .u8 ((((bys s).getD i 0) : Nat) : Int)) (R.chr Tryz.underlying9 (J.ev Y) (J.ev Y) (by omega) (by omega)) (Y)) fun a J=> dv J Y Y Y Y (fun w=> R.as (u := .int .u8 ((((bys s).getD i 0) - 48 : Nat) : Int)) (R.sub (k := .u8) (p := ((((bys s).getD i 0) : Nat) : Int)) (q := 48) (J.ev Y) (J.ev Y)) (congrArg (fun z : Int=> Value.int .u8 z) (by rw [IntKind.wrap_u8']; omega))) fun a J=> dv J Y Y Y Y (fun w=> R.as (u := .int .u64 ((((bys s).getD i 0) - 48 : Nat) : Int)) (R.convU Tryz.underlying5 Tryz.underlying30 (J.ev Y)) (congrArg (fun z : Nat=> Value.int .u64 (z : Int)) (by omega))) fun a J=> dl Y (wn Y) (O.call Y Y J ent116 (J.evs Y) G (of_calls (((bys s).getD i 0) - 48) _ (by omega)) fun v s51 a w hR J G=> ⟨fun hD=> G.tail, ?_⟩)
      obtain ⟨rfl, rfl⟩ := hR
      have hD := G.tail
      refine dl Y (wn Y) (O.call Y Y J ent119 (J.evs Y) G (add_calls (num ((bys s).take i) * 10) (((bys s).getD i 0) - 48) _ hfit (by omega)) fun v s52 a w hR J G=> ⟨fun hD=> G.tail.tail, ?_⟩)
      obtain ⟨rfl, rfl⟩ := hR
      have hD := G.tail.tail
      refine dm J Y Y Y fun a J=> dx J Y Y Y Y fun a J=> dx J Y Y Y Y fun a J=> dw Y (wn Y) (O.storeW sz32 (J.ev Y) (J.ev Y) (Y) Y (by simp [Value.oneCell']) G (.t (.t .h)) (Y) fun w G=> ?_)
      refine da J Y Y Y fun a J=> d0 ?_
      exact then_n (hK16' _ _ ⟨J.sub ⟨Y, Y, Y, Y, Y, Y, Y, (by rw [hnj]; rfl), trivial⟩, G.sel [2, 3, 4] Y (by rw [hnj]; rfl)⟩)
     have hno : ¬ num ((bys s).take i) * 10 < 115792089237316195423570985008687907853269984665640564039457584007913129639936 := fun h => by rw [if_pos h] at c4; omega
     refine wp_skip ?_
     exact then_n (hK16' _ _ ⟨J.sub ⟨Y, Y, Y, Y, Y, Y, Y, (by rw [if_neg (show ¬ num ((bys s).take i) * 10 < 115792089237316195423570985008687907853269984665640564039457584007913129639936 by omega), if_neg (show ¬ num ((bys s).take (i + 1)) < 115792089237316195423570985008687907853269984665640564039457584007913129639936 by omega)]; rfl), trivial⟩, G.sel [0, 1, 2] Y (by rw [if_neg (show ¬ num ((bys s).take i) * 10 < 115792089237316195423570985008687907853269984665640564039457584007913129639936 by omega), if_neg (show ¬ num ((bys s).take (i + 1)) < 115792089237316195423570985008687907853269984665640564039457584007913129639936 by omega)]; rfl)⟩)
    refine wp_drawN G (G.sel [0, 1] Y Y) [(0, 1), (1, 2), (2, 2), (3, 0), (4, 0), (5, 0), (6, 2), (7, 3), (8, 0)] (.node [(0, 1)] (.node [(1, 2)] (.leaf [(2, 2), (3, 0), (4, 0), (5, 0), (6, 2), (7, 3), (8, 0)]) (.leaf [(6, 2), (2, 2), (3, 0), (4, 0), (5, 0), (7, 3), (8, 0)])) (.leaf [(6, 2), (1, 2), (2, 2), (3, 0), (4, 0), (5, 0), (7, 3), (8, 0)])) mix (by kernel_rfl) (hP.then.block.then.then.block.then) fun w G hD=> ?_
    refine ds J Y Y Y Y hD (fun w hD=> R.loadW agg32 (J.ev Y) hD .h sz32 (Y)) fun a J=> ?_
    refine d0 <| ⟨?_, ?_⟩
    ·refine dl Y (wn Y) (O.call Y Y J ent116 (J.evs Y) G (of_calls 10 _ (by decide)) fun v s38 a w hR J G=> ⟨fun hD=> G.tail, ?_⟩)
     obtain ⟨rfl, rfl⟩ := hR
     have hD := G.tail
     refine d0 <| ⟨?_, ?_⟩
     ·refine dl Y (wn Y) (O.call Y Y J ent121 (J.evs Y) G (mul_calls (num ((bys s).take i)) 10 _ hnm (by decide)) fun v s39 a w hR J G=> ⟨fun hD=> G.tail.tail, ?_⟩)
      obtain ⟨rfl, rfl⟩ := hR
      have hD := G.tail.tail
      refine dm J Y Y Y fun a J=> dx J Y Y Y Y fun a J=> dx J Y Y Y Y fun a J=> dl Y (wn Y) (O.alloc Y Y J ze32 Y G fun b6 a w J G=> ⟨fun hD=> G.tail.tail.tail, ?_⟩)
      have hD := G.tail.tail.tail
      refine dw Y (wn Y) (O.storeW sz32 (J.ev Y) (J.ev Y) (Y) Y (by simp [Value.oneCell']) G .h (Y) fun w G=> ?_)
      refine da J Y Y Y fun a J=> d0 ?_
      exact then_n (hK15' _ _ ⟨b6, J.sub ⟨Y, Y, Y, Y, Y, Y, Y, Y, trivial⟩, G.sel [0, 3, 4] Y Y⟩)
     refine dl Y (wn Y) (O.alloc Y Y J ze32 Y G fun b6 a w J G=> ⟨fun hD=> G.tail.tail, ?_⟩)
     have hD := G.tail.tail
     refine dl Y (wn Y) (O.call Y Y J ent121 (J.evs Y) G (mul_calls (num ((bys s).take i)) 10 _ hnm (by decide)) fun v s39 a w hR J G=> ⟨fun hD=> G.tail.tail.tail, ?_⟩)
     obtain ⟨rfl, rfl⟩ := hR
     have hD := G.tail.tail.tail
     refine dm J Y Y Y fun a J=> dx J Y Y Y Y fun a J=> dx J Y Y Y Y fun a J=> dw Y (wn Y) (O.storeW sz32 (J.ev Y) (J.ev Y) (Y) Y (by simp [Value.oneCell']) G (.t .h) (Y) fun w G=> ?_)
     refine da J Y Y Y fun a J=> d0 ?_
     exact then_n (hK15' _ _ ⟨b6, J.sub ⟨Y, Y, Y, Y, Y, Y, Y, Y, trivial⟩, G.sel [1, 3, 4] Y Y⟩)
    refine dl Y (wn Y) (O.alloc Y Y J ze32 Y G fun b6 a w J G=> ⟨fun hD=> G.tail, ?_⟩)
    have hD := G.tail
    refine dl Y (wn Y) (O.call Y Y J ent116 (J.evs Y) G (of_calls 10 _ (by decide)) fun v s38 a w hR J G=> ⟨fun hD=> G.tail.tail, ?_⟩)
    obtain ⟨rfl, rfl⟩ := hR
    have hD := G.tail.tail
    refine dl Y (wn Y) (O.call Y Y J ent121 (J.evs Y) G (mul_calls (num ((bys s).take i)) 10 _ hnm (by decide)) fun v s39 a w hR J G=> ⟨fun hD=> G.tail.tail.tail, ?_⟩)
    obtain ⟨rfl, rfl⟩ := hR
    have hD := G.tail.tail.tail
    refine dm J Y Y Y fun a J=> dx J Y Y Y Y fun a J=> dx J Y Y Y Y fun a J=> dw Y (wn Y) (O.storeW sz32 (J.ev Y) (J.ev Y) (Y) Y (by simp [Value.oneCell']) G (.t (.t .h)) (Y) fun w G=> ?_)
    refine da J Y Y Y fun a J=> d0 ?_
    exact then_n (hK15' _ _ ⟨b6, J.sub ⟨Y, Y, Y, Y, Y, Y, Y, Y, trivial⟩, G.sel [2, 3, 4] Y Y⟩)
   refine wp_region_lit <| mv J Y Y fun a J=> mv J Y Y fun a J=> sw J Y Y Y (R.as (u := .int .u8 ((((bys s).getD i 0) : Nat) : Int)) (R.chr Tryz.underlying9 (J.ev Y) (J.ev Y) (by omega) (by omega)) (Y)) fun a J=> lS J Y Y Y fun a J=> mv J Y Y fun a J=> J.splitD (t := 29) Y (fun h29 J=> ?_) (fun h29 J=> ?_)
   ·refine kz J Y Y Y Y Y Y fun a J=> kz J Y Y Y Y Y Y fun a J=> kz J Y Y Y Y Y Y fun a J=> kz J Y Y Y Y Y Y fun a J=> pT J Y Y Y fun a J=> s0 ?_
    exact then_n (hK13' _ _ ⟨J.sub ⟨Y, Y, Y, Y, Y, Y, (congrArg (fun z => some (Value.bool z)) (by first | exact (decide_eq_true (by omega)).symm | exact (decide_eq_false (by omega)).symm | exact decide_eq_decide.2 (by omega))), trivial⟩, G.sel [0, 1] Y Y⟩)
   refine my J Y Y Y Y fun a J=> my J Y Y Y Y fun a J=> sv' J (wy J Y Y Y) Y Y (R.as (u := .int .u8 ((((bys s).getD i 0) : Nat) : Int)) (R.chr Tryz.underlying9 (J.ev Y) (J.ev Y) (by omega) (by omega)) (Y)) fun a J=> sv' J (wy J Y Y Y) Y Y (R.gtr (J.ev Y) (J.ev Y)) fun a J=> pF J Y Y Y fun a J=> s0 ?_
   exact then_n (hK13' _ _ ⟨J.sub ⟨Y, Y, Y, Y, Y, Y, (congrArg (fun z => some (Value.bool z)) (by first | exact (decide_eq_true (by omega)).symm | exact (decide_eq_false (by omega)).symm | exact decide_eq_decide.2 (by omega))), trivial⟩, G.sel [0, 1] Y Y⟩)
  obtain rfl : i = s.size := by omega
  have htk : (bys s).take s.size = bys s := by rw [← hlen, List.take_length]
  rw [htk] at G hal hnm
  have hpn := prs_good (hlen.symm ▸ hnz) hal hnm
  refine wp_exit (then_x (then_x (blk_hit <| then_n (hK6 _ _ <| wp_seq_k fun K21 hK21=> wp_region_lit <| sw J Y Y Y (R.loadW agg32 (J.ev Y) G .h sz32 (Y)) fun a J=> so (wn Y) (O.storeW sz32 (J.ev Y) (J.ev Y) (Y) Y (by simp [Value.oneCell']) G (.t .h) (Y) fun w G=> ?_)))))
  refine av J Y Y fun a J=> s0 <| then_n (hK21 _ _ <| wp_ret (hR _ _ _ _ _ J (run_results Tryz.results113 (.cw J Y agg32 G (.t .h) sz32 (Y) (.t J Y (.nil)))) ?_))
  exact ⟨_, [], Y, ⟨by rw [prsW, hpn]; rfl, Y⟩, G.none⟩
 refine wp_region_lit <| mv J Y Y fun a J=> sw J Y Y Y (R.as (u := .bool (decide (s.size = 0))) (R.eqlStr (J.ev Y) (J.ev Y)) (congrArg Value.bool (decide_eq_decide.2 (str_0 s)))) fun a J=> mv J Y Y fun a J=> J.splitD (t := 10) Y (fun h10 J=> ?_) (fun h10 J=> ?_)
 ·refine kz J Y Y Y Y Y Y fun a J=> kz J Y Y Y Y Y Y fun a J=> kz J Y Y Y Y Y Y fun a J=> kz J Y Y Y Y Y Y fun a J=> ku J Y Y Y Y Y fun a J=> ku J Y Y Y Y Y fun a J=> kz J Y Y Y Y Y Y fun a J=> pT J Y Y Y fun a J=> s0 ?_
  exact then_n (hK4' _ _ ⟨J.sub ⟨Y, Y, Y, (congrArg (fun z => some (Value.bool z)) (by first | exact (decide_eq_true (by omega)).symm | exact (decide_eq_false (by omega)).symm | exact decide_eq_decide.2 (by omega))), trivial⟩, G.sel [0, 1] Y Y⟩)
 refine my J Y Y Y Y fun a J=> sv' J (wy J Y Y Y) Y Y (R.as (u := .int .u8 (((bys s).getD 0 0 : Nat) : Int)) (R.chr Tryz.underlying9 (J.ev Y) (J.ev Y) (by omega) (by simp only [Int.toNat_zero]; omega)) (Y)) fun a J=> sv' J (wy J Y Y Y) Y Y (R.eql (p := (((bys s).getD 0 0 : Nat) : Int)) (q := 48) (J.ev Y) (J.ev Y)) fun a J=> my J Y Y Y Y fun a J=> J.splitD (t := 14) Y (fun h14 J=> ?_) (fun h14 J=> ?_)
 ·refine my J Y Y Y Y fun a J=> sv' J (wy J Y Y Y) Y Y (R.as (u := .bool (decide (¬ s.size = 1))) (R.neqStr (J.ev Y) (J.ev Y)) (congrArg Value.bool (decide_eq_decide.2 (not_congr (str_1 s (by omega) (by omega)))))) fun a J=> sv' J (wy J Y Y Y) Y Y (R.pickT (J.ev Y) (J.ev Y)) fun a J=> pF J Y Y Y fun a J=> s0 ?_
  exact then_n (hK4' _ _ ⟨J.sub ⟨Y, Y, Y, (congrArg (fun z => some (Value.bool z)) (by first | exact (decide_eq_true (by omega)).symm | exact (decide_eq_false (by omega)).symm | exact decide_eq_decide.2 (by omega))), trivial⟩, G.sel [0, 1] Y Y⟩)
 refine kz J Y Y Y Y Y Y fun a J=> kz J Y Y Y Y Y Y fun a J=> sv' J (wy J Y Y Y) Y Y (R.pickF (J.ev Y) (J.ev Y)) fun a J=> pF J Y Y Y fun a J=> s0 ?_
 exact then_n (hK4' _ _ ⟨J.sub ⟨Y, Y, Y, (congrArg (fun z => some (Value.bool z)) (by first | exact (decide_eq_true (by omega)).symm | exact (decide_eq_false (by omega)).symm | exact decide_eq_decide.2 (by omega))), trivial⟩, G.sel [0, 1] Y Y⟩)
end Go.Proofs.YtlapmbkfmbkdoaaGreatDoor
end
