/- Part 6 of what the row MachineThereAndBack needs, with no condition beyond each lemma's own. -/
import Derived.Test.YtlapmbkfmbkdoaaGreatDoorSf5
section
namespace Go.Proofs.YtlapmbkfmbkdoaaGreatDoor
open Go Go.Fw Go.RowKit
attribute [local irreducible] Go.Oper.wp Go.Code.wp Go.wpList Go.Fw.WL Go.Calls
theorem parse_calls (s : ByteArray) (w0 : World) : Ret Tryz.prog 113 [.string s] w0 [] (fun v q => v = prsW (bys s) ∧ q = []) := by
 refine fn_start Tryz.func113 Y Tryz.ntmps113 Y [(0, .string s)] ⟨Y, trivial⟩ ?_
 intro Q a hP J hR hN
 have G := St.start w0
 have hlen := length_bys s
 refine wp_seq_k fun K1 hK1=> wp_region_lit <| so (wn Y) (O.alloc Y Y J ze32 Y G fun b2 a w J G=> ?_)
 refine av J Y Y fun a J=> s0 <| then_n (hK1 _ _ <| wp_seq_k fun K2 hK2=> wp_region_lit <| so (wn Y) (O.alloc Y Y J ze32 Y G fun b4 a w J G=> ?_))
 refine s0 <| then_n (hK2 _ _ <| wp_seq_k fun K3 hK3=> wp_seq_k fun K4 hK4=> ?_)
 have hK4' : ∀ a w, (Fr 61 [(0, .string s), (2, .pointer (some ⟨b2, 0, none⟩)), (4, .pointer (some ⟨b4, 0, none⟩)), (18, .bool (decide (s.size = 0 ∨ ((bys s).getD 0 0 = 48 ∧ ¬ s.size = 1))))] a ∧ St w0 [] [[(b4, Cel (wc 0) 32)], [(b2, Cel (wc 0) 32)]] w) → K4 a w := by
  rintro a w ⟨J, G⟩
  refine hK4 _ _ ?_
  refine cD J Y (fun hz=> ?_) (fun hz=> ?_)
  ·have hpn := prs_bad0 (hlen.symm ▸ hz)
   refine wp_seq_k fun K5 hK5=> wp_region_lit <| sw J Y Y Y (R.loadW agg32 (J.ev Y) G .h sz32 (Y)) fun a J=> so (wn Y) (O.storeW sz32 (J.ev Y) (J.ev Y) (Y) Y (by simp [Value.oneCell']) G (.t .h) (Y) fun w G=> ?_)
   refine av J Y Y fun a J=> s0 <| then_n (hK5 _ _ <| wp_ret (then_r (hR _ _ _ _ _ J (run_results Tryz.results113 (.cw J Y agg32 G (.t .h) sz32 (Y) (.t J Y (.nil)))) ?_)))
   exact ⟨_, [], Y, ⟨by rw [prsW, hpn]; rfl, Y⟩, G.none⟩
  have hnz := hz
  refine wp_skip <| then_n (hK3 _ _ <| wp_seq_k fun K6 hK6=> wp_seq_k fun K7 hK7=> wp_region_lit <| mv J Y Y fun a J=> sw J Y Y Y (R.lenS Tryz.underlying9 (J.ev Y)) fun a J=> mv J Y Y fun a J=> s0 <| then_n (hK7 _ _ <| wp_block <| wp_loop_N (fun g a w=> ∃ (i : Nat), s.size - i = g ∧ Fr 61 [(0, .string s), (2, .pointer (some ⟨b2, 0, none⟩)), (4, .pointer (some ⟨b4, 0, none⟩)), (21, .int .i64 (s.size : Int)), (22, .int .i64 (i : Nat))] a ∧ St w0 [] [[(b4, Cel (wc (num ((bys s).take i))) 32)], [(b2, Cel (wc 0) 32)]] w ∧ (i ≤ s.size) ∧ (allD ((bys s).take i) = true) ∧ (num ((bys s).take i) < 115792089237316195423570985008687907853269984665640564039457584007913129639936) ∧ (i = 0 ∨ s.size = 1 ∨ 10 ^ i ≤ 10 * num ((bys s).take i))) (s.size - 0) ?_ ?_))
  ·exact ⟨0, Y, J.sub ⟨Y, Y, Y, Y, Y, trivial⟩, G.sel [0, 1] Y Y, by omega, Y, by show num [] < _; decide, by omega⟩
  rintro KL1 g a w ⟨i, hg1, J, G, hi, hal, hnm, hgr⟩ hKL1
  refine wp_seq_k fun K8 hK8=> wp_region_lit <| lS J Y Y Y fun a J=> s0 <| then_n (hK8 _ _ <| wp_seq_k fun K9 hK9=> cD J Y (fun c2=> ?_) (fun c2=> ?_))
  ·refine wp_skip <| then_n (hK9 _ _ <| wp_seq_k fun K10 hK10=> wp_block <| wp_seq_k fun K11 hK11=> wp_region_lit <| mv J Y Y fun a J=> av J Y Y fun a J=> s0 <| then_n (hK11 _ _ <| wp_seq_k fun K12 hK12=> wp_seq_k fun K13 hK13=> ?_))
   have hK13' : ∀ a w, (Fr 61 [(0, .string s), (2, .pointer (some ⟨b2, 0, none⟩)), (4, .pointer (some ⟨b4, 0, none⟩)), (21, .int .i64 (s.size : Int)), (22, .int .i64 (i : Nat)), (5, .int .i64 (i : Nat)), (34, .bool (decide (((bys s).getD i 0) < 48 ∨ 57 < ((bys s).getD i 0))))] a ∧ St w0 [] [[(b4, Cel (wc (num ((bys s).take i))) 32)], [(b2, Cel (wc 0) 32)]] w) → K13 a w := by
    rintro a w ⟨J, G⟩
    refine hK13 _ _ ?_
    refine cD J Y (fun c3=> ?_) (fun c3=> ?_)
    ·have hpn := prs_badD (allD_bad (bys s) i (by omega) c3)
     refine wp_seq_k fun K14 hK14=> wp_region_lit <| sw J Y Y Y (R.buildArr (l := [_, _, _, _]) Tryz.underlying32 ze32 sz30 (J.evp Y) Y) fun a J=> so (wn Y) (O.storeW sz32 (J.ev Y) (J.ev Y) (Y) Y (by simp [Value.oneCell']) G (.t .h) (Y) fun w G=> ?_)
     refine av J Y Y fun a J=> s0 <| then_n (hK14 _ _ <| wp_ret (then_r (blk_r (then_r (then_r (blk_r (then_r (hR _ _ _ _ _ J (run_results Tryz.results113 (.cw J Y agg32 G (.t .h) sz32 (Y) (.t J Y (.nil)))) ?_))))))))
     exact ⟨_, [], Y, ⟨by rw [prsW, hpn]; rfl, Y⟩, G.none⟩
    have hnj := num_take (bys s) i (by omega)
    have hbb := byt_bys s
    have hi7 : i < s.size ∧ 48 ≤ ((bys s).getD i 0) := ⟨by omega, by omega⟩
    refine wp_skip <| then_n (hK12 _ _ <| wp_seq_k fun K15 hK15=> ?_)
    have hK15' : ∀ a w, (∃ (b6 : Nat), Fr 61 [(0, .string s), (2, .pointer (some ⟨b2, 0, none⟩)), (4, .pointer (some ⟨b4, 0, none⟩)), (21, .int .i64 (s.size : Int)), (22, .int .i64 (i : Nat)), (5, .int .i64 (i : Nat)), (6, .pointer (some ⟨b6, 0, none⟩)), (7, .int .i64 (if num ((bys s).take i) * 10 < 115792089237316195423570985008687907853269984665640564039457584007913129639936 then 0 else 22))] a ∧ St w0 [] [[(b6, Cel (wc (if num ((bys s).take i) * 10 < 115792089237316195423570985008687907853269984665640564039457584007913129639936 then num ((bys s).take i) * 10 else 0)) 32)], [(b4, Cel (wc (num ((bys s).take i))) 32)], [(b2, Cel (wc 0) 32)]] w) → K15 a w := by
     rintro a w ⟨b6, J, G⟩
     refine hK15 _ _ ?_
     refine wp_seq_k fun K16 hK16=> ?_
     have hK16' : ∀ a w, (Fr 61 [(0, .string s), (2, .pointer (some ⟨b2, 0, none⟩)), (4, .pointer (some ⟨b4, 0, none⟩)), (21, .int .i64 (s.size : Int)), (22, .int .i64 (i : Nat)), (5, .int .i64 (i : Nat)), (6, .pointer (some ⟨b6, 0, none⟩)), (7, .int .i64 (if num ((bys s).take (i + 1)) < 115792089237316195423570985008687907853269984665640564039457584007913129639936 then 0 else 22))] a ∧ St w0 [] [[(b6, Cel (wc (if num ((bys s).take (i + 1)) < 115792089237316195423570985008687907853269984665640564039457584007913129639936 then num ((bys s).take (i + 1)) else 0)) 32)], [(b4, Cel (wc (num ((bys s).take i))) 32)], [(b2, Cel (wc 0) 32)]] w) → K16 a w := by
      rintro a w ⟨J, G⟩
      refine hK16 _ _ ?_
      refine wp_seq_k fun K17 hK17=> wp_seq_k fun K18 hK18=> wp_region_lit <| mv J Y Y fun a J=> sw J Y Y Y (R.neq (J.ev Y) (J.ev Y)) fun a J=> s0 <| then_n (hK18 _ _ <| cD J Y (fun c5=> ?_) (fun c5=> ?_))
      ·have hbig : ¬ num ((bys s).take (i + 1)) < 115792089237316195423570985008687907853269984665640564039457584007913129639936 := fun h => by rw [if_pos h] at c5; omega
       have hpn := prs_big (Nat.le_trans (Nat.le_of_not_lt hbig) (num_take_le (bys s) (i + 1)))
       refine wp_seq_k fun K19 hK19=> wp_region_lit <| sw J Y Y Y (R.buildArr (l := [_, _, _, _]) Tryz.underlying32 ze32 sz30 (J.evp Y) Y) fun a J=> so (wn Y) (O.storeW sz32 (J.ev Y) (J.ev Y) (Y) Y (by simp [Value.oneCell']) G (.t (.t .h)) (Y) fun w G=> ?_)
       refine av J Y Y fun a J=> s0 <| then_n (hK19 _ _ <| wp_ret (then_r (blk_r (then_r (then_r (blk_r (then_r (hR _ _ _ _ _ J (run_results Tryz.results113 (.cw J Y agg32 G (.t (.t .h)) sz32 (Y) (.t J Y (.nil)))) ?_))))))))
       exact ⟨_, [], Y, ⟨by rw [prsW, hpn]; rfl, Y⟩, G.none⟩
      have hsm : num ((bys s).take (i + 1)) < 115792089237316195423570985008687907853269984665640564039457584007913129639936 := by (by_cases h : num ((bys s).take (i + 1)) < 115792089237316195423570985008687907853269984665640564039457584007913129639936; exact h; rw [if_neg h] at c5; omega)
      rw [if_pos hsm] at G
      refine wp_skip <| then_n (hK17 _ _ <| wp_region_lit <| sw J Y Y Y (R.loadW agg32 (J.ev Y) G .h sz32 (Y)) fun a J=> so (wn Y) (O.storeW sz32 (J.ev Y) (J.ev Y) (Y) Y (by simp [Value.oneCell']) G (.t .h) (Y) fun w G=> ?_))
      refine s0 <| blk_n <| then_n (hK10 _ _ <| wp_region_lit ?_)
      have hi9 : i + 1 ≤ 9223372036854775807 := by (rcases hgr with h | h | h; omega; omega; have := few_chr hnm h; omega)
      refine aI J Y Y Y (by omega) fun a J=> mv J Y Y fun a J=> s0 <| then_n (hKL1 (s.size - (i + 1)) _ _ ?_ ?_)
      ·omega
      exact ⟨i + 1, Y, J.sub ⟨Y, Y, Y, Y, Y, trivial⟩, G.sel [1, 2] Y Y, by omega, allD_take _ i (by omega) hal (by omega), by omega, num_grows hlen hnz hi7 hnj hgr⟩
     refine wp_seq_k fun K20 hK20=> wp_region_lit <| mv J Y Y fun a J=> eL J Y Y Y fun a J=> s0 <| then_n (hK20 _ _ <| cD J Y (fun c4=> ?_) (fun c4=> ?_))
     ·have hfit : num ((bys s).take i) * 10 < 115792089237316195423570985008687907853269984665640564039457584007913129639936 := by (by_cases h : num ((bys s).take i) * 10 < 115792089237316195423570985008687907853269984665640564039457584007913129639936; exact h; rw [if_neg h] at c4; omega)
      rw [if_pos hfit] at G
      refine wp_drawS G [(0, 1), (1, 0), (2, 0), (3, 0), (4, 0), (5, 0), (6, 2), (7, 2), (8, 0), (9, 0), (10, 0), (11, 3), (12, 0)] mix (by kernel_rfl) (hP.then.block.then.then.block.then) fun w G=> ?_
      have hD := G
      refine ds J Y Y Y Y hD (fun w hD=> R.loadW agg32 (J.ev Y) hD .h sz32 (Y)) fun a J=> ?_
      refine dm J Y Y Y fun a J=> dm J Y Y Y fun a J=> dv J Y Y Y Y (fun w=> R.as (u := .int .u8 ((((bys s).getD i 0) : Nat) : Int)) (R.chr Tryz.underlying9 (J.ev Y) (J.ev Y) (by omega) (by omega)) (Y)) fun a J=> dv J Y Y Y Y (fun w=> R.as (u := .int .u8 ((((bys s).getD i 0) - 48 : Nat) : Int)) (R.sub (k := .u8) (p := ((((bys s).getD i 0) : Nat) : Int)) (q := 48) (J.ev Y) (J.ev Y)) (congrArg (fun z : Int=> Value.int .u8 z) (by rw [IntKind.wrap_u8']; omega))) fun a J=> dv J Y Y Y Y (fun w=> R.as (u := .int .u64 ((((bys s).getD i 0) - 48 : Nat) : Int)) (R.convU Tryz.underlying5 Tryz.underlying30 (J.ev Y)) (congrArg (fun z : Nat=> Value.int .u64 (z : Int)) (by omega))) fun a J=> dl Y (wn Y) (O.call Y Y J ent116 (J.evs Y) G (of_calls (((bys s).getD i 0) - 48) _ (by omega)) fun v s51 a w hR J G=> ⟨fun hD=> G.tail, ?_⟩)
      obtain ⟨rfl, rfl⟩ := hR
      have hD := G.tail
      refine dl Y (wn Y) (O.call Y Y J ent119 (J.evs Y) G (add_calls (num ((bys s).take i) * 10) (((bys s).getD i 0) - 48) _ hfit (by omega)) fun v s52 a w hR J G=> ⟨fun hD=> G.tail.tail, ?_⟩)
      obtain ⟨rfl, rfl⟩ := hR
      have hD := G.tail.tail
      refine dm J Y Y Y fun a J=> dx J Y Y Y Y fun a J=> dx J Y Y Y Y fun a J=> dw Y (wn Y) (O.storeW sz32 (J.ev Y) (J.ev Y) (Y) Y (by simp [Value.oneCell']) G (.t (.t .h)) (Y) fun w G=> ?_)
      refine da J Y Y Y fun a J=> d0 ?_
      exact then_n (hK16' _ _ ⟨J.sub ⟨Y, Y, Y, Y, Y, Y, Y, (by rw [hnj]; rfl), trivial⟩, G.sel [2, 3, 4] Y (by rw [hnj]; rfl)⟩)
     have hno : ¬ num ((bys s).take i) * 10 < 115792089237316195423570985008687907853269984665640564039457584007913129639936 := fun h => by rw [if_pos h] at c4; omega
     refine wp_skip ?_
     exact then_n (hK16' _ _ ⟨J.sub ⟨Y, Y, Y, Y, Y, Y, Y, (by rw [if_neg (show ¬ num ((bys s).take i) * 10 < 115792089237316195423570985008687907853269984665640564039457584007913129639936 by omega), if_neg (show ¬ num ((bys s).take (i + 1)) < 115792089237316195423570985008687907853269984665640564039457584007913129639936 by omega)]; rfl), trivial⟩, G.sel [0, 1, 2] Y (by rw [if_neg (show ¬ num ((bys s).take i) * 10 < 115792089237316195423570985008687907853269984665640564039457584007913129639936 by omega), if_neg (show ¬ num ((bys s).take (i + 1)) < 115792089237316195423570985008687907853269984665640564039457584007913129639936 by omega)]; rfl)⟩)
    refine wp_drawN G (G.sel [0, 1] Y Y) [(0, 1), (1, 2), (2, 2), (3, 0), (4, 0), (5, 0), (6, 2), (7, 3), (8, 0)] (.node [(0, 1)] (.node [(1, 2)] (.leaf [(2, 2), (3, 0), (4, 0), (5, 0), (6, 2), (7, 3), (8, 0)]) (.leaf [(6, 2), (2, 2), (3, 0), (4, 0), (5, 0), (7, 3), (8, 0)])) (.leaf [(6, 2), (1, 2), (2, 2), (3, 0), (4, 0), (5, 0), (7, 3), (8, 0)])) mix (by kernel_rfl) (hP.then.block.then.then.block.then) fun w G hD=> ?_
    refine ds J Y Y Y Y hD (fun w hD=> R.loadW agg32 (J.ev Y) hD .h sz32 (Y)) fun a J=> ?_
    refine d0 <| ⟨?_, ?_⟩
    ·refine dl Y (wn Y) (O.call Y Y J ent116 (J.evs Y) G (of_calls 10 _ (by decide)) fun v s38 a w hR J G=> ⟨fun hD=> G.tail, ?_⟩)
     obtain ⟨rfl, rfl⟩ := hR
     have hD := G.tail
     refine d0 <| ⟨?_, ?_⟩
     ·refine dl Y (wn Y) (O.call Y Y J ent121 (J.evs Y) G (mul_calls (num ((bys s).take i)) 10 _ hnm (by decide)) fun v s39 a w hR J G=> ⟨fun hD=> G.tail.tail, ?_⟩)
      obtain ⟨rfl, rfl⟩ := hR
      have hD := G.tail.tail
      refine dm J Y Y Y fun a J=> dx J Y Y Y Y fun a J=> dx J Y Y Y Y fun a J=> dl Y (wn Y) (O.alloc Y Y J ze32 Y G fun b6 a w J G=> ⟨fun hD=> G.tail.tail.tail, ?_⟩)
      have hD := G.tail.tail.tail
      refine dw Y (wn Y) (O.storeW sz32 (J.ev Y) (J.ev Y) (Y) Y (by simp [Value.oneCell']) G .h (Y) fun w G=> ?_)
      refine da J Y Y Y fun a J=> d0 ?_
      exact then_n (hK15' _ _ ⟨b6, J.sub ⟨Y, Y, Y, Y, Y, Y, Y, Y, trivial⟩, G.sel [0, 3, 4] Y Y⟩)
     refine dl Y (wn Y) (O.alloc Y Y J ze32 Y G fun b6 a w J G=> ⟨fun hD=> G.tail.tail, ?_⟩)
     have hD := G.tail.tail
     refine dl Y (wn Y) (O.call Y Y J ent121 (J.evs Y) G (mul_calls (num ((bys s).take i)) 10 _ hnm (by decide)) fun v s39 a w hR J G=> ⟨fun hD=> G.tail.tail.tail, ?_⟩)
     obtain ⟨rfl, rfl⟩ := hR
     have hD := G.tail.tail.tail
     refine dm J Y Y Y fun a J=> dx J Y Y Y Y fun a J=> dx J Y Y Y Y fun a J=> dw Y (wn Y) (O.storeW sz32 (J.ev Y) (J.ev Y) (Y) Y (by simp [Value.oneCell']) G (.t .h) (Y) fun w G=> ?_)
     refine da J Y Y Y fun a J=> d0 ?_
     exact then_n (hK15' _ _ ⟨b6, J.sub ⟨Y, Y, Y, Y, Y, Y, Y, Y, trivial⟩, G.sel [1, 3, 4] Y Y⟩)
    refine dl Y (wn Y) (O.alloc Y Y J ze32 Y G fun b6 a w J G=> ⟨fun hD=> G.tail, ?_⟩)
    have hD := G.tail
    refine dl Y (wn Y) (O.call Y Y J ent116 (J.evs Y) G (of_calls 10 _ (by decide)) fun v s38 a w hR J G=> ⟨fun hD=> G.tail.tail, ?_⟩)
    obtain ⟨rfl, rfl⟩ := hR
    have hD := G.tail.tail
    refine dl Y (wn Y) (O.call Y Y J ent121 (J.evs Y) G (mul_calls (num ((bys s).take i)) 10 _ hnm (by decide)) fun v s39 a w hR J G=> ⟨fun hD=> G.tail.tail.tail, ?_⟩)
    obtain ⟨rfl, rfl⟩ := hR
    have hD := G.tail.tail.tail
    refine dm J Y Y Y fun a J=> dx J Y Y Y Y fun a J=> dx J Y Y Y Y fun a J=> dw Y (wn Y) (O.storeW sz32 (J.ev Y) (J.ev Y) (Y) Y (by simp [Value.oneCell']) G (.t (.t .h)) (Y) fun w G=> ?_)
    refine da J Y Y Y fun a J=> d0 ?_
    exact then_n (hK15' _ _ ⟨b6, J.sub ⟨Y, Y, Y, Y, Y, Y, Y, Y, trivial⟩, G.sel [2, 3, 4] Y Y⟩)
   refine wp_region_lit <| mv J Y Y fun a J=> mv J Y Y fun a J=> sw J Y Y Y (R.as (u := .int .u8 ((((bys s).getD i 0) : Nat) : Int)) (R.chr Tryz.underlying9 (J.ev Y) (J.ev Y) (by omega) (by omega)) (Y)) fun a J=> lS J Y Y Y fun a J=> mv J Y Y fun a J=> J.splitD (t := 29) Y (fun h29 J=> ?_) (fun h29 J=> ?_)
   ·refine kz J Y Y Y Y Y Y fun a J=> kz J Y Y Y Y Y Y fun a J=> kz J Y Y Y Y Y Y fun a J=> kz J Y Y Y Y Y Y fun a J=> pT J Y Y Y fun a J=> s0 ?_
    exact then_n (hK13' _ _ ⟨J.sub ⟨Y, Y, Y, Y, Y, Y, (congrArg (fun z => some (Value.bool z)) (by first | exact (decide_eq_true (by omega)).symm | exact (decide_eq_false (by omega)).symm | exact decide_eq_decide.2 (by omega))), trivial⟩, G.sel [0, 1] Y Y⟩)
   refine my J Y Y Y Y fun a J=> my J Y Y Y Y fun a J=> sv' J (wy J Y Y Y) Y Y (R.as (u := .int .u8 ((((bys s).getD i 0) : Nat) : Int)) (R.chr Tryz.underlying9 (J.ev Y) (J.ev Y) (by omega) (by omega)) (Y)) fun a J=> sv' J (wy J Y Y Y) Y Y (R.gtr (J.ev Y) (J.ev Y)) fun a J=> pF J Y Y Y fun a J=> s0 ?_
   exact then_n (hK13' _ _ ⟨J.sub ⟨Y, Y, Y, Y, Y, Y, (congrArg (fun z => some (Value.bool z)) (by first | exact (decide_eq_true (by omega)).symm | exact (decide_eq_false (by omega)).symm | exact decide_eq_decide.2 (by omega))), trivial⟩, G.sel [0, 1] Y Y⟩)
  obtain rfl : i = s.size := by omega
  have htk : (bys s).take s.size = bys s := by rw [← hlen, List.take_length]
  rw [htk] at G hal hnm
  have hpn := prs_good (hlen.symm ▸ hnz) hal hnm
  refine wp_exit (then_x (then_x (blk_hit <| then_n (hK6 _ _ <| wp_seq_k fun K21 hK21=> wp_region_lit <| sw J Y Y Y (R.loadW agg32 (J.ev Y) G .h sz32 (Y)) fun a J=> so (wn Y) (O.storeW sz32 (J.ev Y) (J.ev Y) (Y) Y (by simp [Value.oneCell']) G (.t .h) (Y) fun w G=> ?_)))))
  refine av J Y Y fun a J=> s0 <| then_n (hK21 _ _ <| wp_ret (hR _ _ _ _ _ J (run_results Tryz.results113 (.cw J Y agg32 G (.t .h) sz32 (Y) (.t J Y (.nil)))) ?_))
  exact ⟨_, [], Y, ⟨by rw [prsW, hpn]; rfl, Y⟩, G.none⟩
 refine wp_region_lit <| mv J Y Y fun a J=> sw J Y Y Y (R.as (u := .bool (decide (s.size = 0))) (R.eqlStr (J.ev Y) (J.ev Y)) (congrArg Value.bool (decide_eq_decide.2 (str_0 s)))) fun a J=> mv J Y Y fun a J=> J.splitD (t := 10) Y (fun h10 J=> ?_) (fun h10 J=> ?_)
 ·refine kz J Y Y Y Y Y Y fun a J=> kz J Y Y Y Y Y Y fun a J=> kz J Y Y Y Y Y Y fun a J=> kz J Y Y Y Y Y Y fun a J=> ku J Y Y Y Y Y fun a J=> ku J Y Y Y Y Y fun a J=> kz J Y Y Y Y Y Y fun a J=> pT J Y Y Y fun a J=> s0 ?_
  exact then_n (hK4' _ _ ⟨J.sub ⟨Y, Y, Y, (congrArg (fun z => some (Value.bool z)) (by first | exact (decide_eq_true (by omega)).symm | exact (decide_eq_false (by omega)).symm | exact decide_eq_decide.2 (by omega))), trivial⟩, G.sel [0, 1] Y Y⟩)
 refine my J Y Y Y Y fun a J=> sv' J (wy J Y Y Y) Y Y (R.as (u := .int .u8 (((bys s).getD 0 0 : Nat) : Int)) (R.chr Tryz.underlying9 (J.ev Y) (J.ev Y) (by omega) (by simp only [Int.toNat_zero]; omega)) (Y)) fun a J=> sv' J (wy J Y Y Y) Y Y (R.eql (p := (((bys s).getD 0 0 : Nat) : Int)) (q := 48) (J.ev Y) (J.ev Y)) fun a J=> my J Y Y Y Y fun a J=> J.splitD (t := 14) Y (fun h14 J=> ?_) (fun h14 J=> ?_)
 ·refine my J Y Y Y Y fun a J=> sv' J (wy J Y Y Y) Y Y (R.as (u := .bool (decide (¬ s.size = 1))) (R.neqStr (J.ev Y) (J.ev Y)) (congrArg Value.bool (decide_eq_decide.2 (not_congr (str_1 s (by omega) (by omega)))))) fun a J=> sv' J (wy J Y Y Y) Y Y (R.pickT (J.ev Y) (J.ev Y)) fun a J=> pF J Y Y Y fun a J=> s0 ?_
  exact then_n (hK4' _ _ ⟨J.sub ⟨Y, Y, Y, (congrArg (fun z => some (Value.bool z)) (by first | exact (decide_eq_true (by omega)).symm | exact (decide_eq_false (by omega)).symm | exact decide_eq_decide.2 (by omega))), trivial⟩, G.sel [0, 1] Y Y⟩)
 refine kz J Y Y Y Y Y Y fun a J=> kz J Y Y Y Y Y Y fun a J=> sv' J (wy J Y Y Y) Y Y (R.pickF (J.ev Y) (J.ev Y)) fun a J=> pF J Y Y Y fun a J=> s0 ?_
 exact then_n (hK4' _ _ ⟨J.sub ⟨Y, Y, Y, (congrArg (fun z => some (Value.bool z)) (by first | exact (decide_eq_true (by omega)).symm | exact (decide_eq_false (by omega)).symm | exact decide_eq_decide.2 (by omega))), trivial⟩, G.sel [0, 1] Y Y⟩)
end Go.Proofs.YtlapmbkfmbkdoaaGreatDoor
end
section
namespace Go.Proofs.YtlapmbkfmbkdoaaGreatDoor
open Go Go.Fw Go.RowKit
def isLet (c : Nat) : Bool := decide (97 ≤ c ∧ c ≤ 122 ∨ 65 ≤ c ∧ c ≤ 90)
def labC (c : Nat) : Bool := decide ((97 ≤ c ∧ c ≤ 122 ∨ 65 ≤ c ∧ c ≤ 90) ∨ (48 ≤ c ∧ c ≤ 57) ∨ c = 95)
def okL (s : List Nat) : Bool := Nat.ble 1 s.length && (Nat.ble s.length 30 && (isLet (s.getD 0 0) && s.all labC))
def spl10 : List Nat → List Nat → List (List Nat)
  | cur, [] => [cur]
  | cur, c :: r => if c = 10 then cur :: spl10 [] r else spl10 (cur ++ [c]) r
def clo (cur : List Nat) : List (List Nat) := if cur = [] then [] else [cur]
def fld : List Nat → List Nat → List (List Nat)
  | cur, [] => clo cur
  | cur, c :: r => if c = 35 then clo cur else if c = 32 ∨ c = 9 then clo cur ++ fld [] r else fld (cur ++ [c]) r
def wordsN (l : List Nat) : List (List Nat) := fld [] l
def codeN (s : List Nat) : Nat := namesL.findIdx (· == s)
structure It where
  lab : List Nat
  code : Int
  bs : List Nat
  tg : List Nat
def trim0 : List Nat → List Nat
  | [] => []
  | c :: r => if c = 0 ∧ r ≠ [] then trim0 r else c :: r
def isLab (a : List Nat) (r : List (List Nat)) : Bool := decide (r = []) && (decide (a.getLast? = some 58) && okL a.dropLast)
def lblN (xs : List Nat) : List Nat × Bool := if xs.length < 2 ∨ 31 < xs.length ∨ ¬ xs.getD (xs.length - 1) 0 = 58 then ([], false) else (xs.take (xs.length - 1), okL (xs.take (xs.length - 1)))
abbrev hasP (c : Nat) : Prop := c = 2 ∨ c = 4 ∨ c = 5 ∨ c = 16 ∨ c = 14 ∨ c = 15
def mostN (c : Nat) : Nat := if c = 16 then 255 else 15
def leastN (c : Nat) : Nat := if c = 5 then 1 else 0
def pshN (n : Nat) : List Nat := 2 :: (trim0 (toB 32 n)).length :: trim0 (toB 32 n)
def insM (c n : Nat) (b : List Nat) : Option It :=
  if 2 < n ∨ 28 ≤ c ∨ ¬ (hasP c ↔ n = 2) then none else
  if ¬ hasP c then some ⟨[], c, [c], []⟩ else
  if c = 14 ∨ c = 15 then (if okL b = true then some ⟨[], c, [c, 0, 0], b⟩ else none) else
  match prs b with
  | none => none
  | some m => if c = 2 then some ⟨[], c, pshN m, []⟩ else if mostN c < m ∨ m < leastN c then none else some ⟨[], c, [c, m], []⟩
def undN (ws : List (List Nat)) : Option It :=
  if ws.length = 1 ∧ (lblN (ws.getD 0 [])).2 = true then some ⟨(lblN (ws.getD 0 [])).1, -1, [], []⟩ else insM (codeN (ws.getD 0 [])) ws.length (ws.getD 1 [])
def isL (x : It) (s : List Nat) : Bool := decide (x.code < 0) && x.lab == s
def tw (acc : List (It × Nat)) (x : It) : Bool := decide (x.code < 0) && acc.any fun y => isL y.1 x.lab
def sayN : List (List Nat) → Nat → List (It × Nat) → Nat ⊕ List (It × Nat)
  | [], _, acc => .inr acc
  | l :: r, i, acc => if wordsN l = [] then sayN r (i + 1) acc else
    match undN (wordsN l) with
    | none => .inl (i + 1)
    | some x => if tw acc x then .inl (i + 1) else sayN r (i + 1) (acc ++ [(x, i + 1)])
def plcL : List (It × Nat) → List Nat → Nat → Option Nat
  | [], _, _ => none
  | x :: r, s, p => if isL x.1 s then some p else plcL r s (p + x.1.bs.length)
def badN (all : List (It × Nat)) : List (It × Nat) → Option Nat
  | [] => none
  | x :: r => if x.1.tg ≠ [] ∧ plcL all x.1.tg 0 = none then some x.2 else badN all r
def outB (all : List (It × Nat)) (x : It) : List Nat := if x.tg = [] then x.bs else [x.bs.getD 0 0, (plcL all x.tg 0).getD 0 / 256 % 256, (plcL all x.tg 0).getD 0 % 256]
def flat (f : It → List Nat) (l : List (It × Nat)) : List Nat := l.flatMap fun x => f x.1
def lenN (l : List (It × Nat)) : Nat := (flat (·.bs) l).length
def jmps : List (It × Nat) → Nat → List (List Nat × Nat × Nat)
  | [], _ => []
  | x :: r, p => (if x.1.tg = [] then [] else [(x.1.tg, p, x.2)]) ++ jmps r (p + x.1.bs.length)
def labs : List (It × Nat) → Nat → List (List Nat × Nat)
  | [], _ => []
  | x :: r, p => (if x.1.code < 0 then [(x.1.lab, p)] else []) ++ labs r (p + x.1.bs.length)
def put2 (c : List Nat) (at' p : Nat) : List Nat := (c.set (at' + 1) (p / 256 % 256)).set (at' + 2) (p % 256)
def lkp (l : List (List Nat × Nat)) (s : List Nat) : Option Nat := (l.find? fun x => x.1 == s).map (·.2)
def patN (l : List (List Nat × Nat)) : List (List Nat × Nat × Nat) → List Nat → Nat ⊕ List Nat
  | [], c => .inr c
  | j :: r, c => match lkp l j.1 with
    | none => .inl j.2.2
    | some p => patN l r (put2 c j.2.1 (min p 1024))
def ItOK (x : It) : Prop := (x.tg ≠ [] → x.bs.length = 3 ∧ ¬ x.code < 0) ∧ (x.code < 0 → x.bs = [] ∧ x.tg = []) ∧ (¬ x.code < 0 → 0 < x.bs.length) ∧ Byt x.bs ∧ x.bs.length ≤ 34
theorem lenN_append (a b : List (It × Nat)) : lenN (a ++ b) = lenN a + lenN b := by simp [lenN, flat]
theorem flat_append (f : It → List Nat) (a b : List (It × Nat)) : flat f (a ++ b) = flat f a ++ flat f b := by simp [flat]
theorem flat_cons (f : It → List Nat) (x : It × Nat) (b : List (It × Nat)) : flat f (x :: b) = f x.1 ++ flat f b := by simp [flat]
theorem lenN_cons (x : It × Nat) (b : List (It × Nat)) : lenN (x :: b) = x.1.bs.length + lenN b := by simp [lenN, flat_cons]
theorem jmps_append (a b : List (It × Nat)) (p : Nat) : jmps (a ++ b) p = jmps a p ++ jmps b (p + lenN a) := by
  induction a generalizing p with
  | nil => simp [jmps, lenN, flat]
  | cons x a ih => rw [List.cons_append, jmps, jmps, ih, lenN_cons, List.append_assoc, Nat.add_assoc]
theorem labs_append (a b : List (It × Nat)) (p : Nat) : labs (a ++ b) p = labs a p ++ labs b (p + lenN a) := by
  induction a generalizing p with
  | nil => simp [labs, lenN, flat]
  | cons x a ih => rw [List.cons_append, labs, labs, ih, lenN_cons, List.append_assoc, Nat.add_assoc]
theorem lkp_labs (a : List (It × Nat)) (s : List Nat) (p : Nat) : lkp (labs a p) s = plcL a s p := by
  induction a generalizing p with
  | nil => rfl
  | cons x a ih =>
    rw [labs, plcL, ← ih]
    unfold isL lkp
    by_cases h : x.1.code < 0
    · rw [if_pos h, List.cons_append, List.nil_append, List.find?_cons]
      by_cases h2 : x.1.lab == s
      · simp [h, h2]
      · have h3 : (x.1.lab == s) = false := by simpa using h2
        simp only [h3]
        simp [h]
    · simp [h]
theorem tw_lkp (acc : List (It × Nat)) (x : It) (p : Nat) : tw acc x = (decide (x.code < 0) && (lkp (labs acc p) x.lab).isSome) := by
  rw [lkp_labs]
  unfold tw
  congr 1
  induction acc generalizing p with
  | nil => rfl
  | cons y r ih =>
    rw [List.any_cons, plcL, ih (p + y.1.bs.length)]
    by_cases h : isL y.1 x.lab = true
    · simp [h]
    · have : isL y.1 x.lab = false := by simpa using h
      simp [this]
theorem put2_len (c : List Nat) (q p : Nat) : (put2 c q p).length = c.length := by simp [put2]
theorem put2_mid (pre a b : List Nat) (h : a.length = 3) (p : Nat) : put2 (pre ++ (a ++ b)) pre.length p = pre ++ ([a.getD 0 0, p / 256 % 256, p % 256] ++ b) := by
  match a, h with
  | [x, y, z], _ =>
    unfold put2
    have e1 : ∀ (a b : List Nat) (i v : Nat), (a ++ b).set (a.length + i) v = a ++ b.set i v := fun a b i v => by
      rw [List.set_append, if_neg (by omega), Nat.add_sub_cancel_left]
    rw [e1, e1]; rfl
def outM (all : List (It × Nat)) (x : It) : List Nat := if x.tg = [] then x.bs else [x.bs.getD 0 0, min ((plcL all x.tg 0).getD 0) 1024 / 256 % 256, min ((plcL all x.tg 0).getD 0) 1024 % 256]
theorem pat_all (all : List (It × Nat)) : ∀ (l : List (It × Nat)) (pre : List Nat), (∀ x ∈ l, ItOK x.1) → patN (labs all 0) (jmps l pre.length) (pre ++ flat (·.bs) l) = match badN all l with
    | some k => .inl k
    | none => .inr (pre ++ flat (outM all) l)
  | [], pre, _ => rfl
  | x :: l, pre, h => by
    have hx := h x List.mem_cons_self
    have ih := fun pre => pat_all all l pre fun y hy => h y (List.mem_cons_of_mem _ hy)
    rw [jmps, badN, flat_cons, flat_cons]
    by_cases ht : x.1.tg = []
    · rw [if_pos ht, if_neg (by simp [ht]), List.nil_append, outM, if_pos ht]
      have := ih (pre ++ x.1.bs)
      rw [List.length_append] at this
      rw [← List.append_assoc, ← List.append_assoc, this]
    · rw [if_neg ht, List.cons_append, List.nil_append, patN, lkp_labs]
      cases hp : plcL all x.1.tg 0 with
      | none => simp only; rw [if_pos ⟨ht, trivial⟩]
      | some p =>
        simp only
        rw [if_neg (by simp)]
        have h3 := (hx.1 ht).1
        rw [put2_mid pre x.1.bs _ h3]
        have := ih (pre ++ [x.1.bs.getD 0 0, min p 1024 / 256 % 256, min p 1024 % 256])
        rw [List.length_append] at this
        rw [h3, ← List.append_assoc]
        simp only [List.length_cons, List.length_nil, Nat.zero_add] at this
        rw [this]
        simp only [outM, if_neg ht, hp, Option.getD_some, ← List.append_assoc]
theorem plcL_le (l : List (It × Nat)) (s : List Nat) : ∀ p q, plcL l s p = some q → q ≤ p + lenN l := by
  induction l with
  | nil => intro p q h; simp [plcL] at h
  | cons x r ih =>
    intro p q h
    rw [plcL] at h
    rw [lenN_cons]
    split at h
    · simp only [Option.some.injEq] at h; omega
    · have := ih _ _ h; omega
theorem outM_outB (all : List (It × Nat)) (h : lenN all ≤ 1024) (x : It) : outM all x = outB all x := by
  unfold outM outB
  have : (plcL all x.tg 0).getD 0 ≤ 1024 := by
    cases hp : plcL all x.tg 0 with
    | none => exact Nat.zero_le _
    | some q => have := plcL_le all x.tg 0 q hp; simp only [Option.getD_some]; omega
  rw [Nat.min_eq_left this]
theorem len_outM (all : List (It × Nat)) : ∀ (l : List (It × Nat)), (∀ x ∈ l, ItOK x.1) → (flat (outM all) l).length = lenN l
  | [], _ => rfl
  | x :: l, h => by
    have hx := h x List.mem_cons_self
    rw [flat_cons, lenN_cons, List.length_append, len_outM all l fun y hy => h y (List.mem_cons_of_mem _ hy)]
    unfold outM
    split
    · rfl
    · rename_i h3; rw [(hx.1 h3).1]; rfl
theorem len_outB (all : List (It × Nat)) : ∀ (l : List (It × Nat)), (∀ x ∈ l, ItOK x.1) → (flat (outB all) l).length = lenN l
  | [], _ => rfl
  | x :: l, h => by
    have hx := h x List.mem_cons_self
    rw [flat_cons, lenN_cons, List.length_append, len_outB all l fun y hy => h y (List.mem_cons_of_mem _ hy)]
    unfold outB
    split
    · rfl
    · rename_i h3; rw [(hx.1 h3).1]; rfl
theorem index_cons1 (b c : UInt8) (l : List UInt8) : Lib.index (b :: l) [c] = if b = c then 0 else if Lib.index l [c] = -1 then -1 else Lib.index l [c] + 1 := by
  rw [Lib.index]
  by_cases h : b = c
  · subst h; simp [List.isPrefixOf]
  · have hp : ([c] : List UInt8).isPrefixOf (b :: l) = false := by simp [List.isPrefixOf, Ne.symm h]
    rw [hp, if_neg (by simp), if_neg h]
    by_cases h2 : Lib.index l [c] = -1
    · rw [if_pos h2, if_pos (beq_iff_eq.2 h2)]
    · rw [if_neg h2, if_neg (fun e => h2 (beq_iff_eq.1 e))]
theorem splK (l : List UInt8) : ∃ h t, Lib.splitK [10] 0 (Lib.count l [10]) l = h :: t ∧ ∀ cur, spl10 cur (l.map (·.toNat)) = (cur ++ h.map (·.toNat)) :: t.map (·.map (·.toNat)) := by
  induction l with
  | nil => exact ⟨[], [], by rw [Lib.count_miss (by simp [Lib.index])]; rfl, fun cur => by simp [spl10]⟩
  | cons b l ih =>
    obtain ⟨h, t, e, hs⟩ := ih
    by_cases hb : b = 10
    · subst hb
      have hix : Lib.index (10 :: l) [10] = ((0 : Nat) : Int) := by rw [index_cons1]; simp
      have hm : ¬ (Lib.index (10 :: l) [10] == -1) = true := by rw [hix]; decide
      refine ⟨[], h :: t, ?_, fun cur => ?_⟩
      · rw [Lib.count_hit (by simp) hix, Nat.add_comm 1, Lib.splitK, if_neg hm, hix]
        simp only [Int.toNat_natCast, List.length_cons, List.length_nil, Nat.zero_add, List.drop_succ_cons, List.drop_zero, Nat.add_zero, List.take_zero]
        rw [e]
      · have e1 : (10 : UInt8).toNat = 10 := rfl
        rw [List.map_cons, spl10, e1, if_pos rfl, hs []]
        simp
    · have hne : ¬ b.toNat = 10 := fun h => hb (UInt8.toNat_inj.1 h)
      by_cases hm : Lib.index l [10] = -1
      · have hm2 : Lib.index (b :: l) [10] = -1 := by rw [index_cons1, if_neg hb, if_pos hm]
        have e2 : h = l ∧ t = [] := by
          rw [Lib.count_miss hm] at e
          simpa [Lib.splitK, eq_comm] using e
        obtain ⟨rfl, rfl⟩ := e2
        refine ⟨b :: h, [], by rw [Lib.count_miss hm2]; rfl, fun cur => ?_⟩
        rw [List.map_cons, spl10, if_neg hne, hs]
        simp
      · have hge := Lib.index_ge l [10]
        obtain ⟨j, hj⟩ : ∃ j : Nat, Lib.index l [10] = j := ⟨(Lib.index l [10]).toNat, by omega⟩
        have hj2 : Lib.index (b :: l) [10] = ((j + 1 : Nat) : Int) := by rw [index_cons1, if_neg hb, if_neg hm, hj]; omega
        rw [Lib.count_hit (by simp) hj, Nat.add_comm 1, Lib.splitK, if_neg (fun e => by have := beq_iff_eq.1 e; omega), hj] at e
        simp only [Int.toNat_natCast, Nat.add_zero, List.length_cons, List.length_nil, Nat.zero_add, List.cons.injEq] at e
        obtain ⟨e1, e2⟩ := e
        refine ⟨b :: h, t, ?_, fun cur => ?_⟩
        · rw [Lib.count_hit (by simp) hj2, Nat.add_comm 1, Lib.splitK, if_neg (fun e => by have := beq_iff_eq.1 e; omega), hj2]
          simp only [Int.toNat_natCast, Nat.add_zero, List.length_cons, List.length_nil, Nat.zero_add, List.take_succ_cons, List.drop_succ_cons]
          rw [e1, e2]
        · rw [List.map_cons, spl10, if_neg hne, hs]
          simp
theorem bys_split (s : ByteArray) : (Lib.splitB ⟨#[10]⟩ 0 (Lib.countB s ⟨#[10]⟩) s).map bys = spl10 [] (bys s) := by
  obtain ⟨h, t, e, hs⟩ := splK s.data.toList
  have := Lib.splitB_data ⟨#[10]⟩ 0 (Lib.countB s ⟨#[10]⟩) s
  have e2 : (Lib.splitB ⟨#[10]⟩ 0 (Lib.countB s ⟨#[10]⟩) s).map bys = ((Lib.splitB ⟨#[10]⟩ 0 (Lib.countB s ⟨#[10]⟩) s).map (·.data.toList)).map (·.map (·.toNat)) := by
    rw [List.map_map]; rfl
  rw [e2, this]
  have e3 : Lib.splitK [10] 0 (Lib.count s.data.toList [10]) s.data.toList = h :: t := e
  rw [show (⟨#[10]⟩ : ByteArray).data.toList = [10] from rfl]
  show (Lib.splitK [10] 0 (Lib.count s.data.toList [10]) s.data.toList).map _ = _
  rw [e3]
  unfold bys
  rw [hs []]
  simp
theorem cut_hash (l : List UInt8) : ((Lib.cut l [35]).1.map (·.toNat)) = (l.map (·.toNat)).takeWhile (· != 35) := by
  have key : ∀ l : List UInt8, (Lib.cut l [35]).1 = l.takeWhile (· != 35) := by
    intro l
    induction l with
    | nil => simp [Lib.cut, Lib.index]
    | cons b l ih =>
      unfold Lib.cut at ih ⊢
      rw [index_cons1]
      by_cases h : b = 35
      · subst h; simp
      · have e : (b :: l).takeWhile (· != 35) = b :: l.takeWhile (· != 35) := by rw [List.takeWhile_cons, if_pos (by simpa using h)]
        rw [if_neg h, e, ← ih]
        have hge := Lib.index_ge l [35]
        by_cases hm : Lib.index l [35] = -1
        · rw [if_pos hm, if_neg (by decide), if_neg (by omega)]
        · rw [if_neg hm, if_pos (by omega), if_pos (by omega)]
          have : (Lib.index l [35] + 1).toNat = (Lib.index l [35]).toNat + 1 := by omega
          rw [this]; rfl
  rw [key]
  induction l with
  | nil => rfl
  | cons b l ih =>
    rw [List.map_cons, List.takeWhile_cons, List.takeWhile_cons]
    by_cases h : b = 35
    · subst h; rfl
    · have h2 : ¬ b.toNat = 35 := fun e => h (UInt8.toNat_inj.1 e)
      rw [if_pos (by simpa using h), if_pos (by simpa using h2), List.map_cons, ih]
theorem fld_cut (cur l : List Nat) : fld cur (l.takeWhile (· != 35)) = fld cur l := by
  induction l generalizing cur with
  | nil => rfl
  | cons c l ih =>
    rw [List.takeWhile_cons]
    by_cases h : c = 35
    · rw [if_neg (by simp [h]), fld, fld, if_pos h]
    · rw [if_pos (by simpa using h), fld, fld, if_neg h, if_neg h, ih, ih]
theorem suff (l : List UInt8) : Lib.hasSuffix l [58] = decide ((l.map (·.toNat)).getLast? = some 58) ∧ (Lib.hasSuffix l [58] = true → (Lib.trimSuffix l [58]).map (·.toNat) = (l.map (·.toNat)).dropLast) := by
  have h1 : Lib.hasSuffix l [58] = decide ((l.map (·.toNat)).getLast? = some 58) := by
    unfold Lib.hasSuffix
    rw [Bool.eq_iff_iff, List.isSuffixOf_iff_suffix, decide_eq_true_iff, List.getLast?_map]
    constructor
    · rintro ⟨t, rfl⟩; simp
    · intro h
      rw [Option.map_eq_some_iff] at h
      obtain ⟨a, ha, hb⟩ := h
      have : a = 58 := UInt8.toNat_inj.1 hb
      subst this
      obtain ⟨ys, rfl⟩ := List.getLast?_eq_some_iff.1 ha
      exact ⟨ys, rfl⟩
  refine ⟨h1, fun h => ?_⟩
  unfold Lib.trimSuffix
  rw [if_pos h, List.dropLast_eq_take, List.map_take, List.length_map]
  rfl
def blank (r : Nat) : Bool := r == 32 || r == 9
theorem dec_hi (n b0 b1 b2 b3 : Nat) (h : 128 ≤ b0) : 128 ≤ (Lib.decodeN n b0 b1 b2 b3).1 ∧ ((Lib.decodeN n b0 b1 b2 b3).2 = 1 ∨ ((Lib.decodeN n b0 b1 b2 b3).2 = 2 ∧ 128 ≤ b1) ∨ ((Lib.decodeN n b0 b1 b2 b3).2 = 3 ∧ 128 ≤ b1 ∧ 128 ≤ b2) ∨ ((Lib.decodeN n b0 b1 b2 b3).2 = 4 ∧ 128 ≤ b1 ∧ 128 ≤ b2 ∧ 128 ≤ b3)) := by
  unfold Lib.decodeN
  repeat' split
  all_goals refine ⟨?_, ?_⟩
  all_goals first
    | (show 128 ≤ _; omega)
    | exact .inl rfl
    | exact .inr (.inl ⟨rfl, by omega⟩)
    | exact .inr (.inr (.inl ⟨rfl, by omega, by omega⟩))
    | exact .inr (.inr (.inr ⟨rfl, by omega, by omega, by omega⟩))
theorem bys_getD (s : ByteArray) (i : Nat) : (s.data.toList.getD i 0).toNat = (bys s).getD i 0 := by
  unfold bys
  rw [List.getD_eq_getElem?_getD, List.getD_eq_getElem?_getD, List.getElem?_map]
  cases s.data.toList[i]? <;> rfl
theorem bys_extract (s : ByteArray) (a b : Nat) : bys (s.extract a b) = ((bys s).drop a).take (b - a) := by
  unfold bys
  rw [Lib.extract_data, List.map_take, List.map_drop]
theorem fld_skip : ∀ (k : Nat) (l cur : List Nat), (∀ i, i < k → i < l.length ∧ l.getD i 0 ≠ 35 ∧ l.getD i 0 ≠ 32 ∧ l.getD i 0 ≠ 9) → fld cur l = fld (cur ++ l.take k) (l.drop k)
  | 0, l, cur, _ => by simp
  | k + 1, [], cur, h => by have := (h 0 (by omega)).1; simp at this
  | k + 1, c :: l, cur, h => by
    obtain ⟨_, h1, h2, h3⟩ := h 0 (by omega)
    simp only [List.getD_cons_zero] at h1 h2 h3
    rw [fld, if_neg h1, if_neg (by omega), fld_skip k l (cur ++ [c]) fun i hi => by
      have := h (i + 1) (by omega)
      simp only [List.length_cons, List.getD_cons_succ] at this
      exact ⟨by omega, this.2⟩]
    simp
def openP (s : ByteArray) (st : Option Nat) (pos : Nat) : List Nat := match st with
  | some a => ((bys s).drop a).take (pos - a)
  | none => []
theorem openP_grow (s : ByteArray) (a pos k : Nat) (h : a ≤ pos) : openP s (some a) pos ++ ((bys s).drop pos).take k = openP s (some a) (pos + k) := by
  have e : (bys s).drop pos = ((bys s).drop a).drop (pos - a) := by rw [List.drop_drop]; congr 1; omega
  show ((bys s).drop a).take (pos - a) ++ _ = ((bys s).drop a).take (pos + k - a)
  rw [e, show pos + k - a = (pos - a) + k by omega, List.take_add]
theorem clo_open (s : ByteArray) (a pos : Nat) (h : a < pos) (hp : pos ≤ s.size) : clo (openP s (some a) pos) = [openP s (some a) pos] := by
  unfold clo
  rw [if_neg]
  intro h0
  have := congrArg List.length h0
  unfold openP at this
  rw [List.length_take, List.length_drop, length_bys] at this
  simp at this
  omega
theorem flds_end (s : ByteArray) (pos : Nat) (st : Option Nat) (acc : List (Nat × Nat)) (hp : pos = s.size) (hst : ∀ a, st = some a → a < pos) : (Lib.closeSpans s (acc, st)).map (fun x => bys (s.extract x.1 x.2)) = acc.map (fun x => bys (s.extract x.1 x.2)) ++ fld (openP s st pos) ((bys s).drop pos) := by
  subst hp
  rw [List.drop_of_length_le (by rw [length_bys]; exact Nat.le_refl _), fld]
  cases st with
  | none => simp [Lib.closeSpans, openP, clo]
  | some a =>
    rw [clo_open s a _ (hst a rfl) (Nat.le_refl _)]
    simp only [Lib.closeSpans, List.map_append, List.map_cons, List.map_nil, bys_extract]
    rfl
theorem flds (s : ByteArray) (h35 : ∀ i, i < s.size → (bys s).getD i 0 ≠ 35) : ∀ (f pos : Nat) (st : Option Nat) (acc : List (Nat × Nat)), s.size ≤ pos + f → pos ≤ s.size → (∀ a, st = some a → a < pos) →
    (Lib.closeSpans s (Lib.spansFromP blank s f pos st acc)).map (fun x => bys (s.extract x.1 x.2)) = acc.map (fun x => bys (s.extract x.1 x.2)) ++ fld (openP s st pos) ((bys s).drop pos)
  | 0, pos, st, acc, h1, h2, h3 => flds_end s pos st acc (by omega) h3
  | f + 1, pos, st, acc, h1, h2, h3 => by
    by_cases hp : pos < s.size
    · have hlen : pos < (bys s).length := by rw [length_bys]; exact hp
      have hd : (bys s).drop pos = (bys s).getD pos 0 :: (bys s).drop (pos + 1) := by
        rw [List.getD_eq_getElem?_getD, List.getElem?_eq_getElem hlen]; exact List.drop_eq_getElem_cons hlen
      rw [Lib.spansFromP.eq_def]
      simp only [hp, if_true]
      rw [Lib.decode_N, bys_getD, bys_getD, bys_getD, bys_getD, ← Lib.size_eq]
      have hwn := Lib.decodeN_le_n' (s.size - pos) ((bys s).getD pos 0) ((bys s).getD (pos + 1) 0) ((bys s).getD (pos + 2) 0) ((bys s).getD (pos + 3) 0) (by omega)
      by_cases hb : (bys s).getD pos 0 < 128
      · rw [Lib.decodeN_ascii _ _ _ _ _ hb]
        simp only
        by_cases hbl : blank ((bys s).getD pos 0) = true
        · rw [if_pos hbl]
          have hbl2 : (bys s).getD pos 0 = 32 ∨ (bys s).getD pos 0 = 9 := by simpa [blank] using hbl
          rw [hd, fld, if_neg (h35 pos hp), if_pos hbl2]
          cases st with
          | none =>
            simp only
            rw [flds s h35 f (pos + 1) none acc (by omega) (by omega) (fun a h => by cases h)]
            simp [openP, clo]
          | some a =>
            simp only
            rw [flds s h35 f (pos + 1) none _ (by omega) (by omega) (fun a h => by cases h), clo_open s a pos (h3 a rfl) h2]
            simp only [List.map_append, List.map_cons, List.map_nil, bys_extract, List.append_assoc]
            rfl
        · rw [if_neg hbl]
          have hbl2 : ¬ ((bys s).getD pos 0 = 32 ∨ (bys s).getD pos 0 = 9) := by simpa [blank] using hbl
          rw [hd, fld, if_neg (h35 pos hp), if_neg hbl2]
          have e1 : ((bys s).drop pos).take 1 = [(bys s).getD pos 0] := by rw [hd]; rfl
          cases st with
          | none =>
            simp only
            rw [flds s h35 f (pos + 1) (some pos) acc (by omega) (by omega) (fun a h => by cases h; omega), ← openP_grow s pos pos 1 (Nat.le_refl _), e1]
            simp [openP]
          | some a =>
            simp only
            rw [flds s h35 f (pos + 1) (some a) acc (by omega) (by omega) (fun b h => by cases h; have := h3 a rfl; omega), ← openP_grow s a pos 1 (by have := h3 a rfl; omega), e1]
      · obtain ⟨hr, hk⟩ := dec_hi (s.size - pos) ((bys s).getD pos 0) ((bys s).getD (pos + 1) 0) ((bys s).getD (pos + 2) 0) ((bys s).getD (pos + 3) 0) (by omega)
        generalize Lib.decodeN (s.size - pos) ((bys s).getD pos 0) ((bys s).getD (pos + 1) 0) ((bys s).getD (pos + 2) 0) ((bys s).getD (pos + 3) 0) = rk at hr hk hwn ⊢
        obtain ⟨r, k⟩ := rk
        simp only at hr hk hwn ⊢
        have hk1 : 1 ≤ k := by omega
        have hbl : ¬ blank r = true := by simp [blank]; omega
        rw [if_neg hbl]
        have hall : ∀ i, i < k → i < ((bys s).drop pos).length ∧ ((bys s).drop pos).getD i 0 ≠ 35 ∧ ((bys s).drop pos).getD i 0 ≠ 32 ∧ ((bys s).drop pos).getD i 0 ≠ 9 := by
          intro i hi
          have e : ((bys s).drop pos).getD i 0 = (bys s).getD (pos + i) 0 := by
            rw [List.getD_eq_getElem?_getD, List.getD_eq_getElem?_getD, List.getElem?_drop]
          have : 128 ≤ (bys s).getD (pos + i) 0 := by
            have h4 : i = 0 ∨ i = 1 ∨ i = 2 ∨ i = 3 := by omega
            rcases h4 with rfl | rfl | rfl | rfl
            · rw [Nat.add_zero]; omega
            · omega
            · omega
            · omega
          rw [e, List.length_drop, length_bys]
          omega
        rw [fld_skip k _ _ hall, List.drop_drop]
        cases st with
        | none =>
          simp only
          rw [flds s h35 f (pos + k) (some pos) acc (by omega) (by omega) (fun a h => by cases h; omega), ← openP_grow s pos pos k (Nat.le_refl _)]
          simp [openP]
        | some a =>
          simp only
          rw [flds s h35 f (pos + k) (some a) acc (by omega) (by omega) (fun b h => by cases h; have := h3 a rfl; omega), ← openP_grow s a pos k (by have := h3 a rfl; omega)]
    · rw [Lib.spansFromP_end _ _ _ _ _ _ hp]
      exact flds_end s pos st acc (by omega) h3
theorem words_lib (s : ByteArray) : (Lib.goFieldsP blank ⟨(Lib.cut s.data.toList [35]).1.toArray⟩).map bys = wordsN (bys s) := by
  have hc : bys ⟨(Lib.cut s.data.toList [35]).1.toArray⟩ = (bys s).takeWhile (· != 35) := cut_hash s.data.toList
  have hg : ∀ t : ByteArray, (Lib.goFieldsP blank t).map bys = (Lib.closeSpans t (Lib.spansFromP blank t t.size 0 none [])).map (fun x => bys (t.extract x.1 x.2)) := fun t => by
    unfold Lib.goFieldsP Lib.spansOfP
    rw [List.map_map]; rfl
  rw [hg, flds _ (fun i hi => by
    rw [hc]
    rw [← length_bys, hc] at hi
    have := List.all_eq_true.1 (List.all_takeWhile (p := (· != 35)) (l := bys s)) _ (List.getElem_mem hi)
    rw [List.getD_eq_getElem?_getD, List.getElem?_eq_getElem hi]
    simpa using this) _ 0 none [] (by omega) (Nat.zero_le _) (fun a h => by cases h)]
  rw [hc]
  simp only [List.map_nil, List.nil_append, List.drop_zero, openP]
  exact fld_cut [] (bys s)
section
variable {P : Program} {w : World} {ρ : Operand → Value} {dst : Option Tmp} {ty : TypeId} {pos : String} {af : Array Edge} {g : Option (Nat × Bool)} {x y z : Operand} {T : TypeId}
end
theorem take_snoc {α : Type} (d : α) (xs : List α) (i : Nat) (h : i < xs.length) : xs.take (i + 1) = xs.take i ++ [xs.getD i d] := by
  rw [List.take_succ_eq_append_getElem h, List.getD_eq_getElem?_getD, List.getElem?_eq_getElem h]; rfl
theorem drop_cons {α : Type} (d : α) (xs : List α) (i : Nat) (h : i < xs.length) : xs.drop i = xs.getD i d :: xs.drop (i + 1) := by
  rw [List.getD_eq_getElem?_getD, List.getElem?_eq_getElem h]; exact List.drop_eq_getElem_cons h
theorem okL_head {xs : List Nat} (h : xs.length < 1 ∨ 30 < xs.length ∨ ¬ (97 ≤ xs.getD 0 0 ∧ xs.getD 0 0 ≤ 122 ∨ 65 ≤ xs.getD 0 0 ∧ xs.getD 0 0 ≤ 90)) : okL xs = false := by
  unfold okL isLet
  rcases h with h | h | h
  · have : Nat.ble 1 xs.length = false := by rw [← Bool.not_eq_true, Nat.ble_eq]; omega
    rw [this]; rfl
  · have : Nat.ble xs.length 30 = false := by rw [← Bool.not_eq_true, Nat.ble_eq]; omega
    rw [this]; simp
  · rw [decide_eq_false h]; simp
theorem okL_bad {xs : List Nat} {i : Nat} (hi : i < xs.length) (h : ¬ ((97 ≤ xs.getD i 0 ∧ xs.getD i 0 ≤ 122 ∨ 65 ≤ xs.getD i 0 ∧ xs.getD i 0 ≤ 90) ∨ (48 ≤ xs.getD i 0 ∧ xs.getD i 0 ≤ 57) ∨ xs.getD i 0 = 95)) : okL xs = false := by
  have : xs.all labC = false := by
    rw [Bool.eq_false_iff]; intro ha
    have := List.all_eq_true.1 ha (xs.getD i 0) (by rw [List.getD_eq_getElem?_getD, List.getElem?_eq_getElem hi]; exact List.getElem_mem hi)
    exact h (of_decide_eq_true this)
  unfold okL
  rw [this]; simp
theorem okL_good {xs : List Nat} (h : ¬ (xs.length < 1 ∨ 30 < xs.length ∨ ¬ (97 ≤ xs.getD 0 0 ∧ xs.getD 0 0 ≤ 122 ∨ 65 ≤ xs.getD 0 0 ∧ xs.getD 0 0 ≤ 90))) (ha : xs.all labC = true) : okL xs = true := by
  have h1 : 1 ≤ xs.length ∧ xs.length ≤ 30 ∧ (97 ≤ xs.getD 0 0 ∧ xs.getD 0 0 ≤ 122 ∨ 65 ≤ xs.getD 0 0 ∧ xs.getD 0 0 ≤ 90) := by omega
  unfold okL isLet
  rw [ha, decide_eq_true h1.2.2, show Nat.ble 1 xs.length = true from by rw [Nat.ble_eq]; exact h1.1, show Nat.ble xs.length 30 = true from by rw [Nat.ble_eq]; exact h1.2.1]; rfl
theorem lab_step {xs : List Nat} {i : Nat} (hi : i < xs.length) (ha : (xs.take i).all labC = true) (h : (97 ≤ xs.getD i 0 ∧ xs.getD i 0 ≤ 122 ∨ 65 ≤ xs.getD i 0 ∧ xs.getD i 0 ≤ 90) ∨ (48 ≤ xs.getD i 0 ∧ xs.getD i 0 ≤ 57) ∨ xs.getD i 0 = 95) : (xs.take (i + 1)).all labC = true := by
  rw [take_snoc 0 xs i hi, List.all_append, ha]
  simp only [List.all_cons, List.all_nil, Bool.and_true, Bool.true_and]
  exact decide_eq_true h
theorem byt_take {xs : List Nat} (h : Byt xs) (k : Nat) : Byt (xs.take k) := fun b hb => h b (List.mem_of_mem_take hb)
theorem byt_drop {xs : List Nat} (h : Byt xs) (k : Nat) : Byt (xs.drop k) := fun b hb => h b (List.mem_of_mem_drop hb)
theorem last_getD {xs : List Nat} (h : 0 < xs.length) : xs.getLast? = some (xs.getD (xs.length - 1) 0) := by
  rw [List.getLast?_eq_getElem?, List.getD_eq_getElem?_getD, List.getElem?_eq_getElem (by omega)]; rfl
theorem lbl_isLab (xs : List Nat) : (lblN xs).2 = isLab xs [] ∧ (isLab xs [] = true → (lblN xs).1 = xs.dropLast) := by
  unfold lblN isLab
  simp only [decide_true, Bool.true_and]
  by_cases h0 : 0 < xs.length
  · rw [last_getD h0]
    by_cases h : xs.length < 2 ∨ 31 < xs.length ∨ ¬ xs.getD (xs.length - 1) 0 = 58
    · rw [if_pos h]
      have hf : (decide (some (xs.getD (xs.length - 1) 0) = some 58) && okL xs.dropLast) = false := by
        by_cases h2 : xs.getD (xs.length - 1) 0 = 58
        · have : okL xs.dropLast = false := okL_head (by rw [List.length_dropLast]; omega)
          rw [this]; simp
        · have : ¬ some (xs.getD (xs.length - 1) 0) = some 58 := fun e => h2 (Option.some.inj e)
          rw [decide_eq_false this]; rfl
      rw [hf]
      exact ⟨rfl, fun h => by cases h⟩
    · rw [if_neg h]
      have h2 : xs.getD (xs.length - 1) 0 = 58 := by omega
      rw [h2, List.dropLast_eq_take]
      simp
  · have : xs = [] := by
      cases xs with
      | nil => rfl
      | cons a l => simp at h0
    subst this
    simp
theorem codeN_hit {xs : List Nat} {i : Nat} (hi : i < 28) (h : nameN i = xs) (hn : ∀ j, j < i → nameN j ≠ xs) : codeN xs = i := by
  unfold codeN
  have hl : namesL.length = 28 := rfl
  rw [List.findIdx_eq (by omega)]
  refine ⟨?_, fun j hj => ?_⟩
  · rw [← h]; unfold nameN; rw [List.getD_eq_getElem?_getD, List.getElem?_eq_getElem (by omega)]; simp
  · have := hn j hj
    unfold nameN at this
    rw [List.getD_eq_getElem?_getD, List.getElem?_eq_getElem (by omega)] at this
    simpa using this
theorem codeN_none {xs : List Nat} (hn : ∀ j, j < 28 → nameN j ≠ xs) : codeN xs = 28 := by
  unfold codeN
  have hl : namesL.length = 28 := rfl
  rw [← hl]
  refine List.findIdx_eq_length.2 fun x hx => ?_
  obtain ⟨j, hj, rfl⟩ := List.mem_iff_getElem.1 hx
  have := hn j (by omega)
  unfold nameN at this
  rw [List.getD_eq_getElem?_getD, List.getElem?_eq_getElem hj] at this
  simpa using this
theorem byt_name (j : Nat) : Byt (nameN j) := by
  by_cases h : j < 28
  · have : ∀ j, j < 28 → ∀ b ∈ nameN j, b < 256 := by decide
    exact this j h
  · unfold nameN; rw [List.getD_eq_getElem?_getD, List.getElem?_eq_none (by show 28 ≤ j; omega)]
    intro b hb; cases hb
theorem name_str {j : Nat} {s : ByteArray} : bstr (nameN j) = s ↔ nameN j = bys s := by
  constructor
  · rintro rfl; exact (bys_bstr (byt_name j)).symm
  · intro h; rw [h, bstr_bys]
theorem trim0_len (l : List Nat) : (trim0 l).length ≤ l.length ∧ (l ≠ [] → 0 < (trim0 l).length) ∧ (Byt l → Byt (trim0 l)) := by
  induction l with
  | nil => exact ⟨Nat.le_refl _, fun h => absurd rfl h, fun h => h⟩
  | cons c r ih =>
    rw [trim0]
    split
    · rename_i h
      exact ⟨by have := ih.1; simp only [List.length_cons]; omega, fun _ => ih.2.1 h.2, fun hb => ih.2.2 fun b hb2 => hb b (List.mem_cons_of_mem _ hb2)⟩
    · exact ⟨Nat.le_refl _, fun _ => by simp, fun h => h⟩
theorem trim0_drop {l : List Nat} : ∀ j, j < l.length → (∀ i, i < j → l.getD i 0 = 0) → trim0 l = trim0 (l.drop j) := by
  induction l with
  | nil => intro j h; simp at h
  | cons c r ih =>
    intro j h hz
    cases j with
    | zero => rfl
    | succ j =>
      have h0 : c = 0 := hz 0 (by omega)
      have h1 : r ≠ [] := by
        intro e; subst e; simp at h
      rw [trim0, if_pos ⟨h0, h1⟩, List.drop_succ_cons]
      exact ih j (by simpa using h) fun i hi => by have := hz (i + 1) (by omega); simpa using this
theorem trim0_stop {l : List Nat} (h : l.length = 1 ∨ l.getD 0 0 ≠ 0) : trim0 l = l := by
  cases l with
  | nil => rfl
  | cons c r =>
    rw [trim0, if_neg]
    rintro ⟨h1, h2⟩
    rcases h with h | h
    · simp only [List.length_cons] at h; exact h2 (List.eq_nil_of_length_eq_zero (by omega))
    · exact h h1
theorem psh_len (n : Nat) : 3 ≤ (pshN n).length ∧ (pshN n).length ≤ 34 ∧ Byt (pshN n) := by
  have h := trim0_len (toB 32 n)
  have h1 : (toB 32 n).length = 32 := length_toB 32 n
  have h2 : 0 < (trim0 (toB 32 n)).length := h.2.1 (by intro e; rw [e] at h1; simp at h1)
  have h3 := h.1
  unfold pshN
  simp only [List.length_cons]
  refine ⟨by omega, by omega, fun b hb => ?_⟩
  rcases List.mem_cons.1 hb with rfl | hb
  · decide
  rcases List.mem_cons.1 hb with rfl | hb
  · omega
  · exact h.2.2 toB_lt b hb
theorem ins_ok {c n : Nat} {b : List Nat} {x : It} (h : insM c n b = some x) : ItOK x ∧ ¬ x.code < 0 := by
  unfold insM at h
  split at h
  · cases h
  rename_i h1
  have hc : c < 28 := by omega
  split at h
  · obtain rfl := (Option.some.inj h).symm
    exact ⟨⟨fun h => absurd rfl h, fun h => by simp only at h; omega, fun _ => by simp, fun d hd => by simp at hd; omega, by simp⟩, by simp only; omega⟩
  split at h
  · split at h
    · obtain rfl := (Option.some.inj h).symm
      exact ⟨⟨fun h => ⟨rfl, by simp only; omega⟩, fun h => by simp only at h; omega, fun _ => by simp, fun d hd => by simp at hd; omega, by simp⟩, by simp only; omega⟩
    · cases h
  split at h
  · cases h
  rename_i m _
  split at h
  · obtain rfl := (Option.some.inj h).symm
    have hp := psh_len m
    exact ⟨⟨fun h => absurd rfl h, fun h => by simp only at h; omega, fun _ => by show 0 < (pshN m).length; omega, hp.2.2, hp.2.1⟩, by simp only; omega⟩
  split at h
  · cases h
  rename_i h5
  obtain rfl := (Option.some.inj h).symm
  have hm : m ≤ 255 := by have : mostN c ≤ 255 := by (unfold mostN; split <;> omega); 
                          omega
  exact ⟨⟨fun h => absurd rfl h, fun h => by simp only at h; omega, fun _ => by simp, fun d hd => by simp at hd; omega, by simp⟩, by simp only; omega⟩
theorem und_ok {ws : List (List Nat)} {x : It} (h : undN ws = some x) : ItOK x := by
  unfold undN at h
  split at h
  · obtain rfl := (Option.some.inj h).symm
    exact ⟨fun h => absurd rfl h, fun _ => ⟨rfl, rfl⟩, fun h => absurd (show (-1 : Int) < 0 by decide) h, fun b hb => by simp at hb, by simp⟩
  · exact (ins_ok h).1
end Go.Proofs.YtlapmbkfmbkdoaaGreatDoor
end
section
namespace Go.Proofs.YtlapmbkfmbkdoaaGreatDoor
open Go Go.Fw Go.RowKit
attribute [local irreducible] Go.Oper.wp Go.Code.wp Go.wpList Go.Fw.WL Go.Calls
end Go.Proofs.YtlapmbkfmbkdoaaGreatDoor
end
section
namespace Go.Proofs.YtlapmbkfmbkdoaaGreatDoor
open Go Go.Fw Go.RowKit
attribute [local irreducible] Go.Oper.wp Go.Code.wp Go.wpList Go.Fw.WL Go.Calls
theorem len_strs (l : List (List Nat)) : (strs l).length = l.length := by simp [strs]
def linesT (xs : List Nat) : List (List Nat) := spl10 [] xs
theorem len_clo (l : List Nat) : (clo l).length ≤ 1 := by unfold clo; split <;> simp
end Go.Proofs.YtlapmbkfmbkdoaaGreatDoor
end
section
namespace Go.Proofs.YtlapmbkfmbkdoaaGreatDoor
open Go Go.Fw Go.RowKit
attribute [local irreducible] Go.Oper.wp Go.Code.wp Go.wpList Go.Fw.WL Go.Calls
end Go.Proofs.YtlapmbkfmbkdoaaGreatDoor
end
section
namespace Go.Proofs.YtlapmbkfmbkdoaaGreatDoor
open Go Go.Fw Go.RowKit
attribute [local irreducible] Go.Oper.wp Go.Code.wp Go.wpList Go.Fw.WL Go.Calls
theorem getD_byt {ws : List (List Nat)} (h : ∀ x ∈ ws, Byt x) (i : Nat) : Byt (ws.getD i []) := by
  rw [List.getD_eq_getElem?_getD]
  cases hx : ws[i]? with
  | none => intro b hb; cases hb
  | some x => exact h x (List.mem_of_getElem? hx)
theorem small_dg {m : Nat} (h : m ≤ 255) : dg m 0 % 256 = m := by rw [dg0]; omega
theorem und_lab {ws : List (List Nat)} {n : Nat} (hn : ws.length = n) (h1 : n = 1) (h2 : (lblN (ws.getD 0 [])).2 = true) : undN ws = some ⟨(lblN (ws.getD 0 [])).1, -1, [], []⟩ := by
  unfold undN; rw [if_pos ⟨by omega, h2⟩]
theorem und_ins {ws : List (List Nat)} {n : Nat} (hn : ws.length = n) (h : n = 1 → (lblN (ws.getD 0 [])).2 = false) : undN ws = insM (codeN (ws.getD 0 [])) n (ws.getD 1 []) := by
  unfold undN; rw [if_neg, hn]
  rintro ⟨h1, h2⟩
  rw [h (by omega)] at h2; cases h2
theorem ins_1 {c n : Nat} {b : List Nat} (h : 2 < n ∨ 28 ≤ c ∨ ¬ (hasP c ↔ n = 2)) : insM c n b = none := by unfold insM; rw [if_pos h]
theorem ins_2 {c n : Nat} {b : List Nat} (h : ¬ (2 < n ∨ 28 ≤ c ∨ ¬ (hasP c ↔ n = 2))) (h2 : ¬ hasP c) : insM c n b = some ⟨[], c, [c], []⟩ := by unfold insM; rw [if_neg h, if_pos h2]
theorem ins_3 {c n : Nat} {b : List Nat} (h : ¬ (2 < n ∨ 28 ≤ c ∨ ¬ (hasP c ↔ n = 2))) (h2 : hasP c) (h3 : c = 14 ∨ c = 15) : insM c n b = if okL b = true then some ⟨[], c, [c, 0, 0], b⟩ else none := by
  unfold insM; rw [if_neg h, if_neg (fun e => e h2), if_pos h3]
theorem ins_4 {c n : Nat} {b : List Nat} (h : ¬ (2 < n ∨ 28 ≤ c ∨ ¬ (hasP c ↔ n = 2))) (h2 : hasP c) (h3 : ¬ (c = 14 ∨ c = 15)) (h4 : (prs b).isSome = false) : insM c n b = none := by
  unfold insM; rw [if_neg h, if_neg (fun e => e h2), if_neg h3]
  cases hp : prs b with
  | none => rfl
  | some m => rw [hp] at h4; cases h4
theorem ins_5 {c n : Nat} {b : List Nat} (h : ¬ (2 < n ∨ 28 ≤ c ∨ ¬ (hasP c ↔ n = 2))) (h2 : hasP c) (h3 : ¬ (c = 14 ∨ c = 15)) (h4 : (prs b).isSome = true) (h5 : c = 2) : insM c n b = some ⟨[], c, pshN ((prs b).getD 0), []⟩ := by
  unfold insM; rw [if_neg h, if_neg (fun e => e h2), if_neg h3]
  cases hp : prs b with
  | none => rw [hp] at h4; cases h4
  | some m => simp only [if_pos h5]; rfl
theorem ins_6 {c n : Nat} {b : List Nat} (h : ¬ (2 < n ∨ 28 ≤ c ∨ ¬ (hasP c ↔ n = 2))) (h2 : hasP c) (h3 : ¬ (c = 14 ∨ c = 15)) (h4 : (prs b).isSome = true) (h5 : ¬ c = 2) : insM c n b = if mostN c < (prs b).getD 0 ∨ (prs b).getD 0 < leastN c then none else some ⟨[], c, [c, (prs b).getD 0], []⟩ := by
  unfold insM; rw [if_neg h, if_neg (fun e => e h2), if_neg h3]
  cases hp : prs b with
  | none => rw [hp] at h4; cases h4
  | some m => simp only [if_neg h5]; rfl
theorem prs_lt0 (b : List Nat) : (prs b).getD 0 < 115792089237316195423570985008687907853269984665640564039457584007913129639936 := by
  cases hp : prs b with
  | none => decide
  | some m => exact prs_lt hp
theorem most_le (c : Nat) : mostN c ≤ 255 ∧ leastN c ≤ mostN c := by unfold mostN leastN; (repeat' split) <;> omega
theorem rd_drop {w : World} {b j : Nat} {l : List Value} (h : Rd w (some ⟨b, 0, none⟩) l) : Rd w (some ⟨b, j, none⟩) (l.drop j) := by
  intro i u hu
  rw [List.getElem?_drop] at hu
  obtain ⟨a, ha, hc⟩ := h (j + i) u hu
  refine ⟨_, rfl, ?_⟩
  simp only [Option.some.injEq] at ha
  subst ha
  by_cases hi : i = 0 <;> by_cases hj : j = 0 <;> simp_all [Addr.add]
theorem strip_next {l : List Nat} {j : Nat} (hl : l.length = 32) (hj : j < 31) (hz : ∀ i, i < j → l.getD i 0 = 0) (h0 : l.getD j 0 = 0) : ∀ i, i < j + 1 → l.getD i 0 = 0 := by
  intro i hi
  by_cases h : i < j
  · exact hz i h
  · have : i = j := by omega
    rw [this]; exact h0
theorem strip_end {l : List Nat} {j : Nat} (hl : l.length = 32) (hj : j ≤ 31) (hz : ∀ i, i < j → l.getD i 0 = 0) (h : ¬ (1 < 32 - j ∧ l.getD j 0 = 0)) : trim0 l = l.drop j := by
  rw [trim0_drop j (by omega) hz, trim0_stop]
  rw [List.length_drop, List.getD_eq_getElem?_getD, List.getElem?_drop, Nat.add_zero, ← List.getD_eq_getElem?_getD]
  omega
theorem own_bsnoc {s : Seg} {A : Option Addr} {n c x : Nat} {l : List Nat} (h : OwnS s A n c (byts l ++ [.int .u8 ((x : Nat) : Int)]) 5 1) : OwnS s A n c (byts (l ++ [x])) 5 1 := by
  have : byts (l ++ [x]) = byts l ++ [.int .u8 ((x : Nat) : Int)] := by simp [byts]
  rwa [this]
theorem mem_getD {α : Type} {d : α} {l : List α} {i : Nat} (h : i < l.length) : l.getD i d ∈ l := by rw [List.getD_eq_getElem?_getD, List.getElem?_eq_getElem h]; exact List.getElem_mem h
end Go.Proofs.YtlapmbkfmbkdoaaGreatDoor
end
section
namespace Go.Proofs.YtlapmbkfmbkdoaaGreatDoor
open Go Go.Fw Go.RowKit
attribute [local irreducible] Go.Oper.wp Go.Code.wp Go.wpList Go.Fw.WL Go.Calls
end Go.Proofs.YtlapmbkfmbkdoaaGreatDoor
end
section
namespace Go.Proofs.YtlapmbkfmbkdoaaGreatDoor
open Go Go.Fw Go.RowKit
attribute [local irreducible] Go.Oper.wp Go.Code.wp Go.wpList Go.Fw.WL Go.Calls
theorem words_len (cur l : List Nat) : (fld cur l).length ≤ l.length + 1 := by
  induction l generalizing cur with
  | nil => rw [fld]; exact len_clo cur
  | cons c l ih =>
    rw [fld]
    have h1 := len_clo cur
    have h2 := ih []
    have h3 := ih (cur ++ [c])
    simp only [List.length_cons]
    split
    · omega
    split
    · rw [List.length_append]; omega
    · omega
theorem clo_byt {cur : List Nat} (h : Byt cur) : ∀ x ∈ clo cur, Byt x := by
  unfold clo; split
  · intro x hx; cases hx
  · intro x hx; rw [List.mem_singleton.1 hx]; exact h
theorem byt_snoc {xs : List Nat} {c : Nat} (h : Byt xs) (hc : c < 256) : Byt (xs ++ [c]) := by
  intro b hb
  rcases List.mem_append.1 hb with h1 | h1
  · exact h b h1
  · rw [List.mem_singleton.1 h1]; exact hc
theorem byt_nil : Byt [] := fun b hb => by cases hb
theorem words_byt (l : List Nat) : ∀ (cur : List Nat), Byt cur → Byt l → ∀ x ∈ fld cur l, Byt x := by
  induction l with
  | nil => intro cur h _; rw [fld]; exact clo_byt h
  | cons c l ih =>
    intro cur h hl
    have hc := hl c List.mem_cons_self
    have hl2 : Byt l := fun b hb => hl b (List.mem_cons_of_mem _ hb)
    rw [fld]
    split
    · exact clo_byt h
    split
    · intro x hx
      rcases List.mem_append.1 hx with h1 | h1
      · exact clo_byt h x h1
      · exact ih [] byt_nil hl2 x h1
    · exact ih _ (byt_snoc h hc) hl2
theorem lines_byt (l : List Nat) : ∀ (cur : List Nat), Byt cur → Byt l → ∀ x ∈ spl10 cur l, Byt x ∧ x.length ≤ cur.length + l.length := by
  induction l with
  | nil => intro cur h _ x hx; rw [spl10] at hx; rw [List.mem_singleton.1 hx]; exact ⟨h, by simp⟩
  | cons c l ih =>
    intro cur h hl
    have hc := hl c List.mem_cons_self
    have hl2 : Byt l := fun b hb => hl b (List.mem_cons_of_mem _ hb)
    rw [spl10]
    split
    · intro x hx
      rcases List.mem_cons.1 hx with rfl | h1
      · exact ⟨h, by simp⟩
      · have := ih [] byt_nil hl2 x h1
        exact ⟨this.1, by have := this.2; simp only [List.length_nil, List.length_cons] at *; omega⟩
    · intro x hx
      have := ih _ (byt_snoc h hc) hl2 x hx
      exact ⟨this.1, by have := this.2; simp only [List.length_append, List.length_nil, List.length_cons] at *; omega⟩
theorem lines_count (cur l : List Nat) : (spl10 cur l).length ≤ l.length + 1 := by
  induction l generalizing cur with
  | nil => simp [spl10]
  | cons c l ih =>
    rw [spl10]
    have h1 := ih []
    have h2 := ih (cur ++ [c])
    split <;> simp only [List.length_cons] <;> omega
theorem say_skip {l : List Nat} {r : List (List Nat)} {i : Nat} {acc : List (It × Nat)} (h : wordsN l = []) : sayN (l :: r) i acc = sayN r (i + 1) acc := by rw [sayN, if_pos h]
theorem say_bad1 {l : List Nat} {r : List (List Nat)} {i : Nat} {acc : List (It × Nat)} (h : wordsN l ≠ []) (h2 : undN (wordsN l) = none) : sayN (l :: r) i acc = .inl (i + 1) := by
  rw [sayN, if_neg h, h2]
theorem say_bad2 {l : List Nat} {r : List (List Nat)} {i : Nat} {acc : List (It × Nat)} {x : It} (h : wordsN l ≠ []) (h2 : undN (wordsN l) = some x) (h3 : tw acc x = true) : sayN (l :: r) i acc = .inl (i + 1) := by
  rw [sayN, if_neg h, h2]; simp only; rw [if_pos h3]
theorem say_go {l : List Nat} {r : List (List Nat)} {i : Nat} {acc : List (It × Nat)} {x : It} (h : wordsN l ≠ []) (h2 : undN (wordsN l) = some x) (h3 : tw acc x = false) : sayN (l :: r) i acc = sayN r (i + 1) (acc ++ [(x, i + 1)]) := by
  rw [sayN, if_neg h, h2]; simp only; rw [if_neg (by rw [h3]; simp)]
theorem say_snoc (o : List (List Nat)) : ∀ i acc, sayN (o ++ [[]]) i acc = sayN o i acc := by
  induction o with
  | nil => intro i acc; rfl
  | cons l r ih =>
    intro i acc
    rw [List.cons_append, sayN, sayN]
    simp only [ih]
def asmN (xs : List Nat) : List Nat × Nat × Int :=
  if 65536 < xs.length then ([], 0, 107) else match sayN (linesT xs) 0 [] with
  | .inl k => ([], k, 107)
  | .inr acc => match badN acc acc with
    | some k => ([], k, 107)
    | none => if chkN (flat (outB acc) acc) then (flat (outB acc) acc, 0, 0) else ([], 0, 100)
def AsmR (xs : List Nat) (v : Value) (q : Seg) : Prop := ∃ A d, v = .tuple #[.slice A (asmN xs).1.length d, .int .i64 ((asmN xs).2.1 : Nat), .int .i64 (asmN xs).2.2] ∧ OwnS q A (asmN xs).1.length d (byts (asmN xs).1) 5 1
theorem asm_r {xs c : List Nat} {k : Nat} {e : Int} {v : Value} {q : Seg} {A : Option Addr} {n d : Nat} (h : asmN xs = (c, k, e)) (hn : c.length = n) (hv : v = .tuple #[.slice A n d, .int .i64 (k : Nat), .int .i64 e]) (ho : OwnS q A n d (byts c) 5 1) : AsmR xs v q := by
  subst hn; exact ⟨A, d, by rw [h]; exact hv, by rw [h]; exact ho⟩
theorem asm_long {xs : List Nat} (h : 65536 < xs.length) : asmN xs = ([], 0, 107) := by unfold asmN; rw [if_pos h]
theorem asm_l {xs : List Nat} {o : List (List Nat)} {k : Nat} (h : ¬ 65536 < xs.length) (hL : linesT xs = o ∨ linesT xs = o ++ [[]]) (hk : sayN o 0 [] = .inl k) : asmN xs = ([], k, 107) := by
  unfold asmN
  have : sayN (linesT xs) 0 [] = .inl k := by
    rcases hL with e | e
    · rw [e]; exact hk
    · rw [e, say_snoc]; exact hk
  rw [if_neg h, this]
theorem asm_i {xs : List Nat} {o : List (List Nat)} {acc : List (It × Nat)} (h : ¬ 65536 < xs.length) (hL : linesT xs = o ∨ linesT xs = o ++ [[]]) (hk : sayN o 0 [] = .inr acc) : asmN xs = match badN acc acc with
    | some k => ([], k, 107)
    | none => if chkN (flat (outB acc) acc) then (flat (outB acc) acc, 0, 0) else ([], 0, 100) := by
  unfold asmN
  have : sayN (linesT xs) 0 [] = .inr acc := by
    rcases hL with e | e
    · rw [e]; exact hk
    · rw [e, say_snoc]; exact hk
  rw [if_neg h, this]
theorem lab_byt {xs : List Nat} (h : Byt xs) : Byt (lblN xs).1 := by
  unfold lblN; split
  · exact byt_nil
  · exact byt_take h _
theorem und_byt {ws : List (List Nat)} {x : It} (h : undN ws = some x) (hB : ∀ y ∈ ws, Byt y) : Byt x.lab ∧ Byt x.tg := by
  unfold undN at h
  split at h
  · obtain rfl := (Option.some.inj h).symm
    exact ⟨lab_byt (getD_byt hB 0), byt_nil⟩
  · unfold insM at h
    split at h
    · cases h
    split at h
    · obtain rfl := (Option.some.inj h).symm; exact ⟨byt_nil, byt_nil⟩
    split at h
    · split at h
      · obtain rfl := (Option.some.inj h).symm; exact ⟨byt_nil, getD_byt hB 1⟩
      · cases h
    split at h
    · cases h
    split at h
    · obtain rfl := (Option.some.inj h).symm; exact ⟨byt_nil, byt_nil⟩
    split at h
    · cases h
    · obtain rfl := (Option.some.inj h).symm; exact ⟨byt_nil, byt_nil⟩
section
variable {l : List Nat} {r : List (List Nat)} {i : Nat} {lab tg : ByteArray} {code : Int} {n d : Nat} {A : Option Addr} {q : Seg} {ok1 : Bool}
end
theorem chk_big {xs : List Nat} (h : 1024 < xs.length) : chkN xs = false := by
  cases hc : chkN xs with
  | false => rfl
  | true => have := chk_len2 hc; omega
end Go.Proofs.YtlapmbkfmbkdoaaGreatDoor
end
section
namespace Go.Proofs.YtlapmbkfmbkdoaaGreatDoor
open Go Go.Fw Go.RowKit
attribute [local irreducible] Go.Oper.wp Go.Code.wp Go.wpList Go.Fw.WL Go.Calls
theorem asm_bad3 {xs : List Nat} {acc : List (It × Nat)} {k : Nat} (h : asmN xs = match badN acc acc with
    | some k => ([], k, 107)
    | none => if chkN (flat (outB acc) acc) then (flat (outB acc) acc, 0, 0) else ([], 0, 100)) (hb : badN acc acc = some k) : asmN xs = ([], k, 107) := by rw [h, hb]
theorem lines_ok {xs : List Nat} {m : Nat} (hB : Byt xs) (hm : xs.length = m) {o : List (List Nat)} (h : linesT xs = o ∨ linesT xs = o ++ [[]]) : (∀ l ∈ o, Byt l ∧ l.length ≤ m) ∧ o.length ≤ m + 1 := by
  subst hm
  have h1 := lines_byt xs [] byt_nil hB
  have h2 := lines_count [] xs
  rcases h with e | e
  · unfold linesT at e; rw [e] at h1 h2
    exact ⟨fun l hl => ⟨(h1 l hl).1, by have := (h1 l hl).2; simpa using this⟩, h2⟩
  · unfold linesT at e; rw [e] at h1 h2
    exact ⟨fun l hl => ⟨(h1 l (by simp [hl])).1, by have := (h1 l (by simp [hl])).2; simpa using this⟩, by rw [List.length_append] at h2; omega⟩
end Go.Proofs.YtlapmbkfmbkdoaaGreatDoor
end
section
namespace Go.Proofs
def Tryz.lays146_ren : Go.Shelf.Ren := ⟨fun | 146 => 57 | 221 => 106 | 268 => 133 | 138 => 134 | 143 => 135 | 195 => 148 | 197 => 149 | 218 => 150 | 219 => 151 | 260 => 158 | 217 => 159 | 225 => 160 | 224 => 161 | 267 => 162 | 266 => 165 | 314 => 166 | n => n, fun | 9 => 9 | 31 => 108 | 3 => 3 | 4 => 4 | 0 => 0 | 105 => 189 | 21 => 21 | 5 => 5 | 46 => 126 | 119 => 200 | 139 => 203 | 138 => 202 | 146 => 204 | 51 => 195 | n => n, fun | 1 => 3 | 3 => 4 | 4 => 5 | n => n⟩
theorem Tryz.lays146 : Go.Proofs.Lays.n146 Tryz.prog Tryz.lays146_ren := {
  mixed := by kernel_rfl
  f138 := Tryz.func134.trans (congrArg some (by kernel_rfl))
  f143 := Tryz.func135.trans (congrArg some (by kernel_rfl))
  f146 := Tryz.func57.trans (congrArg some (by kernel_rfl))
  f195 := Tryz.func148.trans (congrArg some (by kernel_rfl))
  f197 := Tryz.func149.trans (congrArg some (by kernel_rfl))
  f217 := Tryz.func159.trans (congrArg some (by kernel_rfl))
  f218 := Tryz.func150.trans (congrArg some (by kernel_rfl))
  f219 := Tryz.func151.trans (congrArg some (by kernel_rfl))
  f221 := Tryz.func106.trans (congrArg some (by kernel_rfl))
  f224 := Tryz.func161.trans (congrArg some (by kernel_rfl))
  f225 := Tryz.func160.trans (congrArg some (by kernel_rfl))
  f260 := Tryz.func158.trans (congrArg some (by kernel_rfl))
  f266 := Tryz.func165.trans (congrArg some (by kernel_rfl))
  f267 := Tryz.func162.trans (congrArg some (by kernel_rfl))
  f268 := Tryz.func133.trans (congrArg some (by kernel_rfl))
  f314 := Tryz.func166.trans (congrArg some (by kernel_rfl))
  t0 := Tryz.underlying0
  a0 := Tryz.isAgg0
  z0 := Tryz.sizeOf0
  v0 := Tryz.zeroValue0
  t3 := Tryz.underlying3
  a3 := Tryz.isAgg3
  z3 := Tryz.sizeOf3
  v3 := Tryz.zeroValue3
  t4 := Tryz.underlying4
  a4 := Tryz.isAgg4
  z4 := Tryz.sizeOf4
  v4 := Tryz.zeroValue4
  t5 := Tryz.underlying5
  a5 := Tryz.isAgg5
  z5 := Tryz.sizeOf5
  v5 := Tryz.zeroValue5
  t9 := Tryz.underlying9
  a9 := Tryz.isAgg9
  z9 := Tryz.sizeOf9
  v9 := Tryz.zeroValue9
  t21 := Tryz.underlying21
  a21 := Tryz.isAgg21
  z21 := Tryz.sizeOf21
  v21 := Tryz.zeroValue21
  t31 := Tryz.underlying108
  a31 := Tryz.isAgg108
  z31 := Tryz.sizeOf108
  v31 := Tryz.zeroValue108
  t46 := Tryz.underlying126
  a46 := Tryz.isAgg126
  z46 := Tryz.sizeOf126
  v46 := Tryz.zeroValue126
  t51 := Tryz.underlying195
  a51 := Tryz.isAgg195
  z51 := Tryz.sizeOf195
  v51 := Tryz.zeroValue195
  t105 := Tryz.underlying189
  a105 := Tryz.isAgg189
  z105 := Tryz.sizeOf189
  v105 := Tryz.zeroValue189
  t119 := Tryz.underlying200
  a119 := Tryz.isAgg200
  z119 := Tryz.sizeOf200
  t138 := Tryz.underlying202
  a138 := Tryz.isAgg202
  z138 := Tryz.sizeOf202
  v138 := Tryz.zeroValue202
  t139 := Tryz.underlying203
  a139 := Tryz.isAgg203
  z139 := Tryz.sizeOf203
  v139 := Tryz.zeroValue203
  t146 := Tryz.underlying204
  a146 := Tryz.isAgg204
  z146 := Tryz.sizeOf204
  v146 := Tryz.zeroValue204
  g1 := by kernel_rfl
  g3 := by kernel_rfl
  g4 := by kernel_rfl }
def Tryz.lays145_ren : Go.Shelf.Ren := ⟨fun | 145 => 107 | 220 => 136 | 219 => 151 | 217 => 159 | 225 => 160 | 224 => 161 | 267 => 162 | 266 => 165 | 314 => 166 | n => n, fun | 9 => 9 | 4 => 4 | 59 => 146 | 3 => 3 | 5 => 5 | 46 => 126 | 146 => 204 | 51 => 195 | n => n, fun | 1 => 3 | n => n⟩
theorem Tryz.lays145 : Go.Proofs.Lays.n145 Tryz.prog Tryz.lays145_ren := {
  mixed := by kernel_rfl
  f145 := Tryz.func107.trans (congrArg some (by kernel_rfl))
  f217 := Tryz.func159.trans (congrArg some (by kernel_rfl))
  f219 := Tryz.func151.trans (congrArg some (by kernel_rfl))
  f220 := Tryz.func136.trans (congrArg some (by kernel_rfl))
  f224 := Tryz.func161.trans (congrArg some (by kernel_rfl))
  f225 := Tryz.func160.trans (congrArg some (by kernel_rfl))
  f266 := Tryz.func165.trans (congrArg some (by kernel_rfl))
  f267 := Tryz.func162.trans (congrArg some (by kernel_rfl))
  f314 := Tryz.func166.trans (congrArg some (by kernel_rfl))
  t3 := Tryz.underlying3
  a3 := Tryz.isAgg3
  z3 := Tryz.sizeOf3
  v3 := Tryz.zeroValue3
  t4 := Tryz.underlying4
  a4 := Tryz.isAgg4
  z4 := Tryz.sizeOf4
  v4 := Tryz.zeroValue4
  t5 := Tryz.underlying5
  a5 := Tryz.isAgg5
  z5 := Tryz.sizeOf5
  v5 := Tryz.zeroValue5
  t9 := Tryz.underlying9
  a9 := Tryz.isAgg9
  z9 := Tryz.sizeOf9
  v9 := Tryz.zeroValue9
  t46 := Tryz.underlying126
  a46 := Tryz.isAgg126
  z46 := Tryz.sizeOf126
  v46 := Tryz.zeroValue126
  t51 := Tryz.underlying195
  a51 := Tryz.isAgg195
  z51 := Tryz.sizeOf195
  v51 := Tryz.zeroValue195
  t59 := Tryz.underlying146
  a59 := Tryz.isAgg146
  z59 := Tryz.sizeOf146
  v59 := Tryz.zeroValue146
  t146 := Tryz.underlying204
  a146 := Tryz.isAgg204
  z146 := Tryz.sizeOf204
  v146 := Tryz.zeroValue204
  g1 := by kernel_rfl }
def Tryz.lays104_ren : Go.Shelf.Ren := ⟨fun | 104 => 110 | 211 => 137 | 207 => 152 | n => n, fun | 9 => 9 | 4 => 4 | 24 => 141 | 3 => 3 | n => n, fun | n => n⟩
theorem Tryz.lays104 : Go.Proofs.Lays.n104 Tryz.prog Tryz.lays104_ren := {
  mixed := by kernel_rfl
  f104 := Tryz.func110.trans (congrArg some (by kernel_rfl))
  f207 := Tryz.func152.trans (congrArg some (by kernel_rfl))
  f211 := Tryz.func137.trans (congrArg some (by kernel_rfl))
  t3 := Tryz.underlying3
  a3 := Tryz.isAgg3
  z3 := Tryz.sizeOf3
  v3 := Tryz.zeroValue3
  t4 := Tryz.underlying4
  a4 := Tryz.isAgg4
  z4 := Tryz.sizeOf4
  v4 := Tryz.zeroValue4
  t9 := Tryz.underlying9
  a9 := Tryz.isAgg9
  z9 := Tryz.sizeOf9
  v9 := Tryz.zeroValue9
  t24 := Tryz.underlying141
  a24 := Tryz.isAgg141
  z24 := Tryz.sizeOf141
  v24 := Tryz.zeroValue141 }
def Tryz.lays229_ren : Go.Shelf.Ren := ⟨fun | 229 => 108 | n => n, fun | 9 => 9 | 40 => 149 | 31 => 108 | 152 => 175 | 3 => 3 | 0 => 0 | 4 => 4 | 21 => 21 | 154 => 177 | n => n, fun | n => n⟩
theorem Tryz.lays229 : Go.Proofs.Lays.n229 Tryz.prog Tryz.lays229_ren := {
  mixed := by kernel_rfl
  f229 := Tryz.func108.trans (congrArg some (by kernel_rfl))
  t0 := Tryz.underlying0
  a0 := Tryz.isAgg0
  z0 := Tryz.sizeOf0
  v0 := Tryz.zeroValue0
  t3 := Tryz.underlying3
  a3 := Tryz.isAgg3
  z3 := Tryz.sizeOf3
  v3 := Tryz.zeroValue3
  t4 := Tryz.underlying4
  a4 := Tryz.isAgg4
  z4 := Tryz.sizeOf4
  v4 := Tryz.zeroValue4
  t9 := Tryz.underlying9
  a9 := Tryz.isAgg9
  z9 := Tryz.sizeOf9
  v9 := Tryz.zeroValue9
  t21 := Tryz.underlying21
  a21 := Tryz.isAgg21
  z21 := Tryz.sizeOf21
  v21 := Tryz.zeroValue21
  t31 := Tryz.underlying108
  a31 := Tryz.isAgg108
  z31 := Tryz.sizeOf108
  v31 := Tryz.zeroValue108
  t40 := Tryz.underlying149
  a40 := Tryz.isAgg149
  z40 := Tryz.sizeOf149
  v40 := Tryz.zeroValue149
  t152 := Tryz.underlying175
  a152 := Tryz.isAgg175
  z152 := Tryz.sizeOf175
  v152 := Tryz.zeroValue175
  t154 := Tryz.underlying177
  a154 := Tryz.isAgg177
  z154 := Tryz.sizeOf177
  v154 := Tryz.zeroValue177 }
end Go.Proofs
namespace Go.Proofs.YtlapmbkfmbkdoaaGreatDoor
open Go Go.Fw Go.RowKit
theorem blank_int (r : Nat) : ((r : Int) == 32 || (r : Int) == 9) = (r == 32 || r == 9) := by
  rw [Bool.eq_iff_iff]; simp only [Bool.or_eq_true, beq_iff_eq]; omega
theorem clos_at (w : World) : PredAt Tryz.prog 109 #[] encR blank w := fun W r _ => by
  unfold FnGives
  by_cases h1 : r = 32 <;> by_cases h2 : r = 9
  all_goals
    have z1 : (r : Int) = 32 ↔ r = 32 := by omega
    have z2 : (r : Int) = 9 ↔ r = 9 := by omega
    go_enter Tryz.func109, Tryz.ntmps109
    go_wp2
    all_goals first | (exfalso; omega) | (go_ret; exact ⟨by first | (simp [blank, h1, h2]; done) | (simp [blank, h1, h2]; exact blank_int r), 0, rfl⟩)
def MaxW (w : World) : Prop := ∃ m, w.cell? ⟨Tryz.lays145_ren.g 1, 0, none⟩ = some (.int .i64 m)
theorem MaxW.old {w0 w : World} {bs : List Seg} (h : MaxW w0) (hS : St w0 [] bs w) : MaxW w := by
  obtain ⟨m, hm⟩ := h
  refine ⟨m, ?_⟩
  have hlt := block_lt_of_cell hm
  have hk := hS.keep _ hlt (by simp)
  rw [← hm]
  unfold World.cell?
  simp only
  rw [hk]
theorem st_drewN (w : World) (n : Nat) : St w [] [[]] (w.drewN n) := ⟨rfl, rfl, rfl, Nat.le_refl _, fun _ _ _ => rfl, by simp, by simp, by simp [keys]⟩
theorem st_same (w : World) : St w [] [[]] w := ⟨rfl, rfl, rfl, Nat.le_refl _, fun _ _ _ => rfl, by simp, by simp, by simp [keys]⟩
theorem bys_mk (l : List UInt8) : bys ⟨l.toArray⟩ = l.map (·.toNat) := by simp [bys]
theorem cut_calls (s : ByteArray) (w0 : World) (hM : MaxW w0) (hs : s.size ≤ 1000000) : Ret Tryz.prog 107 [.string s, .string ⟨#[35]⟩] w0 [] (fun v q => ∃ u b, v = .tuple #[.string ⟨(Lib.cut s.data.toList [35]).1.toArray⟩, .string u, .bool b] ∧ q = []) := by
  obtain ⟨m, hm⟩ := hM
  refine Calls.mono (Any.strings_Cut Tryz.lays145 s ⟨#[35]⟩ m w0 (by omega) hm) ?_
  rintro e w' ⟨rfl, n, rfl⟩
  exact ⟨_, [], rfl, ⟨_, _, rfl, rfl⟩, st_drewN w0 n⟩
theorem suffix_calls (s : ByteArray) (w0 : World) (hs : s.size ≤ 1000000) : Ret Tryz.prog 110 [.string s, .string ⟨#[58]⟩] w0 [] (fun v q => v = .tuple #[.string ⟨(Lib.trimSuffix s.data.toList [58]).toArray⟩, .bool (Lib.hasSuffix s.data.toList [58])] ∧ q = []) := by
  refine Calls.mono (Any.strings_CutSuffix Tryz.lays104 s ⟨#[58]⟩ w0 (by omega)) ?_
  rintro e w' ⟨rfl, rfl⟩
  exact ⟨_, [], rfl, ⟨rfl, rfl⟩, st_same w'⟩
theorem own_of_row {w w' : World} {A n c : Nat} {xs : List Value} {E : TypeId} {sz : Nat} (h : w'.ownsRow w.heap.size E sz (.slice (some ⟨A, 0, none⟩) n c) n xs) (hb : Below w.heap.size w w') : ∃ q, OwnS q (some ⟨A, 0, none⟩) n c xs E sz ∧ St w [] [q] w' := by
  obtain ⟨h1, h2⟩ := h
  rcases h2 with ⟨h2, _⟩ | ⟨g, cap, cur, h2, h3, h4, h5, h6, h7, h8⟩
  · cases h2
  · cases h2
    have e1 : cur = (xs ++ cur.toList.drop (n * sz)).toArray := by
      rw [← h8, List.take_append_drop]
    refine ⟨[(A, Cel (xs ++ cur.toList.drop (n * sz)) E)], ⟨h1, h5, .inr ⟨A, _, rfl, rfl, ?_, h6⟩⟩, ?_⟩
    · rw [← h8, List.take_append_drop, Array.length_toList]; exact h7
    · refine ⟨hb.os, hb.tape, hb.output, hb.size, fun k hk _ => hb.block k hk, ?_, ?_, by simp [keys]⟩
      · intro p hp
        simp only [List.flatten_cons, List.flatten_nil, List.append_nil, List.mem_singleton] at hp
        subst hp
        rw [h4]
        show some (Obj.cells cur E (0, 0)) = some (Obj.cells (xs ++ cur.toList.drop (n * sz)).toArray E (0, 0))
        rw [← e1]
      · intro p hp
        simp only [List.flatten_cons, List.flatten_nil, List.append_nil, List.mem_singleton] at hp
        subst hp
        exact .inl h3
theorem strs_bys (l : List ByteArray) : strs (l.map bys) = l.map Value.string := by
  unfold strs; rw [List.map_map]
  apply List.map_congr_left
  intro a _
  simp only [Function.comp, bstr_bys]
theorem fields_calls (s : ByteArray) (w0 : World) (hs : s.size ≤ 1000000) : Ret Tryz.prog 108 [.string s, .func (.func 109) #[] #[]] w0 [] (fun v q => ∃ A, v = .slice (some ⟨A, 0, none⟩) ((Lib.goFieldsP blank s).map bys).length ((Lib.goFieldsP blank s).map bys).length ∧ OwnS q (some ⟨A, 0, none⟩) ((Lib.goFieldsP blank s).map bys).length ((Lib.goFieldsP blank s).map bys).length (strs ((Lib.goFieldsP blank s).map bys)) 9 1) := by
  refine Calls.mono (Any.strings_FieldsFunc Tryz.lays229 109 #[] (enters_of Tryz.func109 (by kernel_rfl) rfl) blank s w0 (by omega) (clos_at w0) (by kernel_rfl) (by kernel_rfl)) ?_
  rintro e w' ⟨A, rfl, _, h2, h3⟩
  obtain ⟨q, h4, h5⟩ := own_of_row h2 h3
  rw [List.length_map, strs_bys]
  exact ⟨_, q, rfl, ⟨A, rfl, h4⟩, h5⟩
theorem msplit_calls (s : ByteArray) (w0 : World) (hM : MaxW w0) (hs : s.size ≤ 1000000) : Ret Tryz.prog 57 [.string s, .string ⟨#[10]⟩] w0 [] (fun v q => ∃ A, v = .slice (some ⟨A, 0, none⟩) (linesT (bys s)).length (linesT (bys s)).length ∧ OwnS q (some ⟨A, 0, none⟩) (linesT (bys s)).length (linesT (bys s)).length (strs (linesT (bys s))) 9 1) := by
  obtain ⟨m, hm⟩ := hM
  refine Calls.mono (Any.strings_Split Tryz.lays146 (by kernel_rfl) s ⟨#[10]⟩ m w0 (by omega) hm (by decide)) ?_
  rintro e w' ⟨rfl, rfl⟩
  have hl := bys_split s
  have hn : (linesT (bys s)).length = Lib.countB s ⟨#[10]⟩ + 1 := by
    unfold linesT
    rw [← hl, List.length_map]
    exact Lib.splitB_all ⟨#[10]⟩ (by decide) 0 _ s rfl
  have hc := lines_count [] (bys s)
  rw [length_bys] at hc
  rw [hn]
  refine ⟨_, [(w0.heap.size, Cel (strs (linesT (bys s))) 9)], rfl, ⟨w0.heap.size, rfl, ?_⟩, ?_⟩
  · have := OwnS.mk (g := w0.heap.size) (n := Lib.countB s ⟨#[10]⟩ + 1) (c := Lib.countB s ⟨#[10]⟩ + 1) (cells := strs (linesT (bys s))) (rest := []) (E := 9) (sz := 1) (by rw [len_strs, hn, Nat.mul_one]) (Nat.le_refl _) (by rw [List.append_nil, len_strs, hn, Nat.mul_one]) (by unfold maxLen; rw [← hn]; unfold linesT; omega)
    rwa [List.append_nil] at this
  · have e : ((Lib.splitB ⟨#[10]⟩ 0 (Lib.countB s ⟨#[10]⟩) s).map Value.string) = strs (linesT (bys s)) := by
      unfold linesT; rw [← hl, strs_bys]
    rw [e, show Tryz.lays146_ren.t 9 = 9 from by kernel_rfl]
    exact (St.start w0).alloc _
end Go.Proofs.YtlapmbkfmbkdoaaGreatDoor
end
section
namespace Go.Proofs.YtlapmbkfmbkdoaaGreatDoor
open Go Go.Fw Go.RowKit
attribute [local irreducible] Go.Oper.wp Go.Code.wp Go.wpList Go.Fw.WL Go.Calls
theorem R.indexAgg {P : Program} {w : World} {ρ : Operand → Value} {dst : Option Tmp} {ty : TypeId} {pos : String} {af : Array Edge} {g : Option (Nat × Bool)} {x y : Operand} {T E : TypeId} {l cs : List Value} {len sz : Nat} {k : IntKind} {m : Int} (hT : P.underlying T = some (.array len E)) (ha : aggT P E = true) (hs : szT P E sz) (hx : ρ x = .agg l.toArray) (hy : ρ y = .int k m) (h0 : 0 ≤ m) (h2 : m < len)
    (hc : (l.drop (m.toNat * sz)).take sz = cs) : (execOp ρ ⟨dst, .index T x y, ty, pos, af, g⟩).run P w = .ok (.value (.agg cs.toArray)) w := by
  subst hc
  have e : l.toArray.extract (m.toNat * sz) (m.toNat * sz + sz) = ((l.drop (m.toNat * sz)).take sz).toArray := by simp
  simp only [execOp, hx, hy, Instr.index, asIntOf, run_underlying hT, h0, h2, part, run_isAgg_agg ha, run_sizeOf' hs, and_self, if_true, Sem.run_bind, Sem.run_pure, Result.andThen_ok, e]
theorem byts_o {xs : List Nat} {i off : Nat} (h : i < xs.length) (ho : off = i) : (byts xs)[off]? = some (.int .u8 ((xs.getD i 0 : Nat) : Int)) := by
  subst ho; exact byts_get xs off h
theorem cut_at {l cs : List Value} {off : Nat} (h : ∀ j v, cs[j]? = some v → l[off + j]? = some v) : (l.drop off).take cs.length = cs := by
  apply List.ext_getElem?
  intro j
  rw [List.getElem?_take]
  split
  · rename_i hj; rw [List.getElem?_drop, h j _ (List.getElem?_eq_getElem hj), List.getElem?_eq_getElem hj]
  · rename_i hj; rw [List.getElem?_eq_none (by omega)]
theorem row_cut {c : Nat} (h : c < 28) : (tabL.drop (c * 5)).take 5 = rowC (bstr (nameN c)) c := cut_at (row_nm h rfl)
theorem O.bytesOf {P : Program} {a : Act} {w w0 : World} {n : Nat} {env : Env} {d : Nat} {K : Act → World → Prop} {Q : Exit → Act → World → Prop} {dst : Option Tmp} {ty : TypeId} {pos : String} {af : Array Edge} {g : Option (Nat × Bool)} {x : Operand} {T U E : TypeId} {ks : List Nat} {bs : List Seg} {s : ByteArray}
    (hd : dst = some d) (hn : Nat.blt d n = true) (hF : Fr n env a) (hT : P.underlying T = some .string) (hU : P.underlying U = some (.slice E)) (hE : P.underlying E = some (.int .u8)) (hx : a.eval x = .string s) (hS : St w0 ks bs w)
    (h : ∀ b c o a' w', (∀ w, w.heap[b]? = some o → Rd w (some ⟨b, 0, none⟩) (byts (bys s))) → Fr n ((d, .slice (some ⟨b, 0, none⟩) s.size c) :: env) a' → St w0 ks ([(b, o)] :: bs) w' → K a' w') : Oper.wp P ⟨dst, .convert T U x, ty, pos, af, g⟩ a w K Q := by
  subst hd
  unfold Oper.wp
  have hr := run_bytes_of_string (P := P) w T U E s hT hU hE
  have : (execOp a.eval ⟨some d, .convert T U x, ty, pos, af, g⟩).run P w = .ok (.value (.slice (some ⟨w.heap.size, 0, none⟩) s.size (grownCap w s.size 0 E))) (w.drew.alloc (.cells (bytesRow s (grownCap w s.size 0 E)) E ((bytesRow s (grownCap w s.size 0 E)).size, (bytesRow s (grownCap w s.size 0 E)).size + 1))) := by
    simp only [execOp, hx, hr, Sem.run_bind, Sem.run_pure, Result.andThen_ok]
  rw [this, Oper.upon_value]
  refine h _ _ _ _ _ ?_ (hF.put hn _) (hS.drew.alloc _)
  intro w2 h2 j v hj
  refine ⟨_, rfl, ?_⟩
  have hjl : j < s.size := by
    have := (List.getElem?_eq_some_iff.1 hj).1
    rwa [length_byts, length_bys] at this
  rw [byts_get _ _ (by rw [length_bys]; exact hjl)] at hj
  obtain rfl := Option.some.inj hj
  rw [addr_add, Nat.zero_add, bys_at s j hjl]
  simp only [World.cell?, h2]
  rw [if_neg (by simp)]
  exact bytesRow_at s _ j hjl
theorem cutM_len (s : ByteArray) : (⟨(Lib.cut s.data.toList [35]).1.toArray⟩ : ByteArray).size ≤ s.size := by
  have h := cut_hash s.data.toList
  have h1 : (Lib.cut s.data.toList [35]).1.length ≤ s.data.toList.length := by
    have := congrArg List.length h
    rw [List.length_map] at this
    rw [this]
    have h2 := (List.takeWhile_sublist (l := s.data.toList.map (·.toNat)) (· != 35)).length_le
    rwa [List.length_map] at h2
  show (Lib.cut s.data.toList [35]).1.toArray.size ≤ s.data.size
  simpa using h1
set_option maxHeartbeats 1000000 in
theorem isLabel_calls (s : ByteArray) (w0 : World) : Ret Tryz.prog 111 [.string s] w0 [] (fun v q => v = .bool (okL (bys s)) ∧ q = []) := by
 refine fn_start Tryz.func111 Y Tryz.ntmps111 Y [(0, .string s)] ⟨Y, trivial⟩ ?_
 intro Q a hP J hR hN
 have G := St.start w0
 have hlen := length_bys s
 refine wp_seq_k fun K1 hK1=> wp_region_lit <| av J Y Y fun a J=> s0 <| then_n (hK1 _ _ <| wp_seq_k fun K2 hK2=> wp_seq_k fun K3 hK3=> ?_)
 have hK3' : ∀ a w, (Fr 55 [(0, .string s), (13, .bool (decide (s.size = 0 ∨ 30 < s.size)))] a ∧ St w0 [] [] w) → K3 a w := by
  rintro a w ⟨J, G⟩
  refine hK3 _ _ ?_
  refine cD J Y (fun c0=> ?_) (fun c0=> ?_)
  ·have hpn : okL (bys s) = false := okL_head (by omega)
   refine wp_seq_k fun K4 hK4=> wp_region_lit <| av J Y Y fun a J=> s0 <| then_n (hK4 _ _ <| wp_ret (then_r (hR _ _ _ _ _ J (run_results Tryz.results111 (.t J Y (.nil))) ?_)))
   exact ⟨_, [], Y, ⟨by rw [hpn]; rfl, Y⟩, G.none⟩
  refine wp_skip <| then_n (hK2 _ _ <| wp_seq_k fun K5 hK5=> wp_seq_k fun K6 hK6=> wp_region_lit <| mv J Y Y fun a J=> so (wn Y) (O.bytesOf Y Y J Tryz.underlying9 Tryz.underlying22 Tryz.underlying5 (J.ev Y) G fun b15 c15 o15 a w hRo15 J G=> ?_))
  refine sw J Y Y Y (R.len Tryz.underlying22 (J.ev Y)) fun a J=> mv J Y Y fun a J=> s0 <| then_n (hK6 _ _ <| wp_block <| wp_loop_N (fun g a w=> ∃ (i : Nat), s.size - i = g ∧ Fr 55 [(15, .slice (some ⟨b15, 0, none⟩) s.size c15), (16, .int .i64 (s.size : Int)), (17, .int .i64 ((i : Nat) : Int))] a ∧ St w0 [] [[(b15, o15)]] w ∧ (i ≤ s.size) ∧ (((bys s).take i).all labC = true) ∧ (i = 0 ∨ (97 ≤ ((bys s).getD 0 0) ∧ ((bys s).getD 0 0) ≤ 122 ∨ 65 ≤ ((bys s).getD 0 0) ∧ ((bys s).getD 0 0) ≤ 90))) (s.size - 0) ?_ ?_)
  ·exact ⟨0, Y, J.sub ⟨Y, Y, Y, trivial⟩, G.sel [0] Y Y, by omega, Y, .inl Y⟩
  rintro KL1 g a w ⟨i, hg1, J, G, hi, hal, hhd⟩ hKL1
  refine wp_seq_k fun K7 hK7=> wp_region_lit <| lS J Y Y Y fun a J=> s0 <| then_n (hK7 _ _ <| wp_seq_k fun K8 hK8=> cD J Y (fun c1=> ?_) (fun c1=> ?_))
  ·refine wp_skip <| then_n (hK8 _ _ <| wp_seq_k fun K9 hK9=> wp_block <| wp_seq_k fun K10 hK10=> wp_region_lit <| mv J Y Y fun a J=> sw J Y Y Y (R.indexO Tryz.underlying22 sz5 (J.ev Y) ((hRo15 _ (St.get G .h)).ne (by rw [length_byts, length_bys]; omega)) (J.ev Y) (by omega) (by omega)) fun a J=> sw J Y Y Y (R.loadO one5 (J.ev Y) (hRo15 _ (St.get G .h)) (byts_o (xs := bys s) (i := i) (by omega) (by omega))) fun a J=> av J Y Y fun a J=> av J Y Y fun a J=> s0 <| then_n (hK10 _ _ <| wp_seq_k fun K11 hK11=> ?_))
   have hK11' : ∀ a w, (Fr 55 [(15, .slice (some ⟨b15, 0, none⟩) s.size c15), (16, .int .i64 (s.size : Int)), (17, .int .i64 ((i : Nat) : Int)), (3, .int .i64 ((i : Nat) : Int)), (4, .int .u8 ((((bys s).getD i 0) : Nat) : Int)), (5, .bool (decide (97 ≤ ((bys s).getD i 0) ∧ ((bys s).getD i 0) ≤ 122 ∨ 65 ≤ ((bys s).getD i 0) ∧ ((bys s).getD i 0) ≤ 90)))] a ∧ St w0 [] [[(b15, o15)]] w) → K11 a w := by
    rintro a w ⟨J, G⟩
    refine hK11 _ _ ?_
    refine wp_seq_k fun K12 hK12=> ?_
    have hK12' : ∀ a w, (Fr 55 [(15, .slice (some ⟨b15, 0, none⟩) s.size c15), (16, .int .i64 (s.size : Int)), (17, .int .i64 ((i : Nat) : Int)), (53, .bool (decide (¬ (97 ≤ ((bys s).getD i 0) ∧ ((bys s).getD i 0) ≤ 122 ∨ 65 ≤ ((bys s).getD i 0) ∧ ((bys s).getD i 0) ≤ 90) ∧ (i = 0 ∨ (¬ ((bys s).getD i 0) = 95 ∧ (((bys s).getD i 0) < 48 ∨ 57 < ((bys s).getD i 0)))))))] a ∧ St w0 [] [[(b15, o15)]] w) → K12 a w := by
     rintro a w ⟨J, G⟩
     refine hK12 _ _ ?_
     refine cD J Y (fun c2=> ?_) (fun c2=> ?_)
     ·have hpn : okL (bys s) = false := by (by_cases h0 : i = 0; subst h0; exact okL_head (by omega); exact okL_bad (i := i) (by omega) (by omega))
      refine wp_seq_k fun K13 hK13=> wp_region_lit <| av J Y Y fun a J=> s0 <| then_n (hK13 _ _ <| wp_ret (blk_r (then_r (then_r (blk_r (then_r (hR _ _ _ _ _ J (run_results Tryz.results111 (.t J Y (.nil))) ?_)))))))
      exact ⟨_, [], Y, ⟨by rw [hpn]; rfl, Y⟩, G.none⟩
     refine wp_skip <| blk_n <| then_n (hK9 _ _ <| wp_region_lit <| aI J Y Y Y (by omega) fun a J=> mv J Y Y fun a J=> s0 <| then_n (hKL1 (s.size - (i + 1)) _ _ ?_ ?_))
     ·omega
     exact ⟨i + 1, Y, J.sub ⟨Y, Y, (congrArg (fun z => some (Value.int .i64 z)) (by omega)), trivial⟩, G.sel [0] Y Y, by omega, lab_step (by omega) hal (by omega), (by (by_cases h0 : i = 0; subst h0; exact .inr (by omega); exact .inr (by omega)))⟩
    refine wp_region_lit <| mv J Y Y fun a J=> ?_
    refine sw J Y Y Y ((by first | exact R.notD (J.ev Y) | exact R.not (J.ev Y))) fun a J=> ?_
    refine mv J Y Y fun a J=> J.splitD (t := 38) Y (fun h38 J=> ?_) (fun h38 J=> ?_)
    ·refine my J Y Y Y Y fun a J=> sv' J (wy J Y Y Y) Y Y (R.eql (J.ev Y) (J.ev Y)) fun a J=> my J Y Y Y Y fun a J=> J.splitD (t := 41) Y (fun h41 J=> ?_) (fun h41 J=> ?_)
     ·refine kz J Y Y Y Y Y Y fun a J=> kz J Y Y Y Y Y Y fun a J=> kz J Y Y Y Y Y Y fun a J=> ku J Y Y Y Y Y fun a J=> ku J Y Y Y Y Y fun a J=> ku J Y Y Y Y Y fun a J=> ku J Y Y Y Y Y fun a J=> ku J Y Y Y Y Y fun a J=> ku J Y Y Y Y Y fun a J=> kz J Y Y Y Y Y Y fun a J=> sv' J (wy J Y Y Y) Y Y (R.pickT (J.ev Y) (J.ev Y)) fun a J=> pT J Y Y Y fun a J=> s0 ?_
      exact then_n (hK12' _ _ ⟨J.sub ⟨Y, Y, Y, (congrArg (fun z => some (Value.bool z)) (by first | exact (decide_eq_true (by omega)).symm | exact (decide_eq_false (by omega)).symm | exact decide_eq_decide.2 (by omega))), trivial⟩, G.sel [0] Y Y⟩)
     refine my J Y Y Y Y fun a J=> sv' J (wy J Y Y Y) Y Y (R.neq (J.ev Y) (J.ev Y)) fun a J=> my J Y Y Y Y fun a J=> J.splitD (t := 44) Y (fun h44 J=> ?_) (fun h44 J=> ?_)
     ·refine my J Y Y Y Y fun a J=> sv' J (wy J Y Y Y) Y Y (R.lss (J.ev Y) (J.ev Y)) fun a J=> my J Y Y Y Y fun a J=> J.splitD (t := 47) Y (fun h47 J=> ?_) (fun h47 J=> ?_)
      ·refine kz J Y Y Y Y Y Y fun a J=> kz J Y Y Y Y Y Y fun a J=> sv' J (wy J Y Y Y) Y Y (R.pickT (J.ev Y) (J.ev Y)) fun a J=> sv' J (wy J Y Y Y) Y Y (R.pickT (J.ev Y) (J.ev Y)) fun a J=> sv' J (wy J Y Y Y) Y Y (R.pickF (J.ev Y) (J.ev Y)) fun a J=> pT J Y Y Y fun a J=> s0 ?_
       exact then_n (hK12' _ _ ⟨J.sub ⟨Y, Y, Y, (congrArg (fun z => some (Value.bool z)) (by first | exact (decide_eq_true (by omega)).symm | exact (decide_eq_false (by omega)).symm | exact decide_eq_decide.2 (by omega))), trivial⟩, G.sel [0] Y Y⟩)
      refine my J Y Y Y Y fun a J=> sv' J (wy J Y Y Y) Y Y (R.gtr (J.ev Y) (J.ev Y)) fun a J=> sv' J (wy J Y Y Y) Y Y (R.pickF (J.ev Y) (J.ev Y)) fun a J=> sv' J (wy J Y Y Y) Y Y (R.pickT (J.ev Y) (J.ev Y)) fun a J=> sv' J (wy J Y Y Y) Y Y (R.pickF (J.ev Y) (J.ev Y)) fun a J=> pT J Y Y Y fun a J=> s0 ?_
      exact then_n (hK12' _ _ ⟨J.sub ⟨Y, Y, Y, (congrArg (fun z => some (Value.bool z)) (by first | exact (decide_eq_true (by omega)).symm | exact (decide_eq_false (by omega)).symm | exact decide_eq_decide.2 (by omega))), trivial⟩, G.sel [0] Y Y⟩)
     refine kz J Y Y Y Y Y Y fun a J=> kz J Y Y Y Y Y Y fun a J=> kz J Y Y Y Y Y Y fun a J=> ku J Y Y Y Y Y fun a J=> ku J Y Y Y Y Y fun a J=> kz J Y Y Y Y Y Y fun a J=> sv' J (wy J Y Y Y) Y Y (R.pickF (J.ev Y) (J.ev Y)) fun a J=> sv' J (wy J Y Y Y) Y Y (R.pickF (J.ev Y) (J.ev Y)) fun a J=> pT J Y Y Y fun a J=> s0 ?_
     exact then_n (hK12' _ _ ⟨J.sub ⟨Y, Y, Y, (congrArg (fun z => some (Value.bool z)) (by first | exact (decide_eq_true (by omega)).symm | exact (decide_eq_false (by omega)).symm | exact decide_eq_decide.2 (by omega))), trivial⟩, G.sel [0] Y Y⟩)
    refine kz J Y Y Y Y Y Y fun a J=> kz J Y Y Y Y Y Y fun a J=> kz J Y Y Y Y Y Y fun a J=> ku J Y Y Y Y Y fun a J=> ku J Y Y Y Y Y fun a J=> ku J Y Y Y Y Y fun a J=> ku J Y Y Y Y Y fun a J=> ku J Y Y Y Y Y fun a J=> ku J Y Y Y Y Y fun a J=> ku J Y Y Y Y Y fun a J=> ku J Y Y Y Y Y fun a J=> ku J Y Y Y Y Y fun a J=> ku J Y Y Y Y Y fun a J=> kz J Y Y Y Y Y Y fun a J=> pF J Y Y Y fun a J=> s0 ?_
    exact then_n (hK12' _ _ ⟨J.sub ⟨Y, Y, Y, (congrArg (fun z => some (Value.bool z)) (by first | exact (decide_eq_true (by omega)).symm | exact (decide_eq_false (by omega)).symm | exact decide_eq_decide.2 (by omega))), trivial⟩, G.sel [0] Y Y⟩)
   refine wp_region_lit <| mv J Y Y fun a J=> sw J Y Y Y (R.geq (J.ev Y) (J.ev Y)) fun a J=> mv J Y Y fun a J=> J.splitD (t := 24) Y (fun h24 J=> ?_) (fun h24 J=> ?_)
   ·refine my J Y Y Y Y fun a J=> sv' J (wy J Y Y Y) Y Y (R.leq (J.ev Y) (J.ev Y)) fun a J=> pT J Y Y Y fun a J=> mv J Y Y fun a J=> J.splitD (t := 28) Y (fun h28 J=> ?_) (fun h28 J=> ?_)
    ·refine kz J Y Y Y Y Y Y fun a J=> kz J Y Y Y Y Y Y fun a J=> kz J Y Y Y Y Y Y fun a J=> ku J Y Y Y Y Y fun a J=> ku J Y Y Y Y Y fun a J=> kz J Y Y Y Y Y Y fun a J=> pT J Y Y Y fun a J=> av J Y Y fun a J=> s0 ?_
     exact then_n (hK11' _ _ ⟨J.sub ⟨Y, Y, Y, Y, Y, (congrArg (fun z => some (Value.bool z)) (by first | exact (decide_eq_true (by omega)).symm | exact (decide_eq_false (by omega)).symm | exact decide_eq_decide.2 (by omega))), trivial⟩, G.sel [0] Y Y⟩)
    refine my J Y Y Y Y fun a J=> sv' J (wy J Y Y Y) Y Y (R.geq (J.ev Y) (J.ev Y)) fun a J=> my J Y Y Y Y fun a J=> J.splitD (t := 31) Y (fun h31 J=> ?_) (fun h31 J=> ?_)
    ·refine my J Y Y Y Y fun a J=> sv' J (wy J Y Y Y) Y Y (R.leq (J.ev Y) (J.ev Y)) fun a J=> sv' J (wy J Y Y Y) Y Y (R.pickT (J.ev Y) (J.ev Y)) fun a J=> pF J Y Y Y fun a J=> av J Y Y fun a J=> s0 ?_
     exact then_n (hK11' _ _ ⟨J.sub ⟨Y, Y, Y, Y, Y, (congrArg (fun z => some (Value.bool z)) (by first | exact (decide_eq_true (by omega)).symm | exact (decide_eq_false (by omega)).symm | exact decide_eq_decide.2 (by omega))), trivial⟩, G.sel [0] Y Y⟩)
    refine kz J Y Y Y Y Y Y fun a J=> kz J Y Y Y Y Y Y fun a J=> sv' J (wy J Y Y Y) Y Y (R.pickF (J.ev Y) (J.ev Y)) fun a J=> pF J Y Y Y fun a J=> av J Y Y fun a J=> s0 ?_
    exact then_n (hK11' _ _ ⟨J.sub ⟨Y, Y, Y, Y, Y, (congrArg (fun z => some (Value.bool z)) (by first | exact (decide_eq_true (by omega)).symm | exact (decide_eq_false (by omega)).symm | exact decide_eq_decide.2 (by omega))), trivial⟩, G.sel [0] Y Y⟩)
   refine kz J Y Y Y Y Y Y fun a J=> kz J Y Y Y Y Y Y fun a J=> pF J Y Y Y fun a J=> mv J Y Y fun a J=> my J Y Y Y Y fun a J=> sv' J (wy J Y Y Y) Y Y (R.geq (J.ev Y) (J.ev Y)) fun a J=> my J Y Y Y Y fun a J=> J.splitD (t := 31) Y (fun h31 J=> ?_) (fun h31 J=> ?_)
   ·refine my J Y Y Y Y fun a J=> sv' J (wy J Y Y Y) Y Y (R.leq (J.ev Y) (J.ev Y)) fun a J=> sv' J (wy J Y Y Y) Y Y (R.pickT (J.ev Y) (J.ev Y)) fun a J=> pF J Y Y Y fun a J=> av J Y Y fun a J=> s0 ?_
    exact then_n (hK11' _ _ ⟨J.sub ⟨Y, Y, Y, Y, Y, (congrArg (fun z => some (Value.bool z)) (by first | exact (decide_eq_true (by omega)).symm | exact (decide_eq_false (by omega)).symm | exact decide_eq_decide.2 (by omega))), trivial⟩, G.sel [0] Y Y⟩)
   refine kz J Y Y Y Y Y Y fun a J=> kz J Y Y Y Y Y Y fun a J=> sv' J (wy J Y Y Y) Y Y (R.pickF (J.ev Y) (J.ev Y)) fun a J=> pF J Y Y Y fun a J=> av J Y Y fun a J=> s0 ?_
   exact then_n (hK11' _ _ ⟨J.sub ⟨Y, Y, Y, Y, Y, (congrArg (fun z => some (Value.bool z)) (by first | exact (decide_eq_true (by omega)).symm | exact (decide_eq_false (by omega)).symm | exact decide_eq_decide.2 (by omega))), trivial⟩, G.sel [0] Y Y⟩)
  obtain rfl : i = s.size := by omega
  have htk : (bys s).take s.size = bys s := by rw [← hlen, List.take_length]
  rw [htk] at hal
  have hpn : okL (bys s) = true := okL_good (by omega) hal
  refine wp_exit (then_x (then_x (blk_hit <| then_n (hK5 _ _ <| wp_seq_k fun K14 hK14=> wp_region_lit <| av J Y Y fun a J=> s0 <| then_n (hK14 _ _ <| wp_ret (hR _ _ _ _ _ J (run_results Tryz.results111 (.t J Y (.nil))) ?_))))))
  exact ⟨_, [], Y, ⟨by rw [hpn]; rfl, Y⟩, G.none⟩
 refine wp_region_lit <| mv J Y Y fun a J=> sw J Y Y Y (R.lenS Tryz.underlying9 (J.ev Y)) fun a J=> eL J Y Y Y fun a J=> mv J Y Y fun a J=> J.splitD (t := 9) Y (fun h9 J=> ?_) (fun h9 J=> ?_)
 ·refine kz J Y Y Y Y Y Y fun a J=> kz J Y Y Y Y Y Y fun a J=> kz J Y Y Y Y Y Y fun a J=> pT J Y Y Y fun a J=> s0 ?_
  exact then_n (hK3' _ _ ⟨J.sub ⟨Y, (congrArg (fun z => some (Value.bool z)) (by first | exact (decide_eq_true (by omega)).symm | exact (decide_eq_false (by omega)).symm | exact decide_eq_decide.2 (by omega))), trivial⟩, G.sel [] Y Y⟩)
 refine my J Y Y Y Y fun a J=> sv' J (wy J Y Y Y) Y Y (R.lenS Tryz.underlying9 (J.ev Y)) fun a J=> sv' J (wy J Y Y Y) Y Y (R.gtr (J.ev Y) (J.ev Y)) fun a J=> pF J Y Y Y fun a J=> s0 ?_
 exact then_n (hK3' _ _ ⟨J.sub ⟨Y, (congrArg (fun z => some (Value.bool z)) (by first | exact (decide_eq_true (by omega)).symm | exact (decide_eq_false (by omega)).symm | exact decide_eq_decide.2 (by omega))), trivial⟩, G.sel [] Y Y⟩)
theorem codeOf_calls (s : ByteArray) (w0 : World) : Ret Tryz.prog 112 [.string s] w0 [] (fun v q => v = .tuple #[.int .i64 (if codeN (bys s) < 28 then ((codeN (bys s) : Nat) : Int) else 0), .bool (decide (codeN (bys s) < 28))] ∧ q = []) := by
 refine fn_start Tryz.func112 Y Tryz.ntmps112 Y [(0, .string s)] ⟨Y, trivial⟩ ?_
 intro Q a hP J hR hN
 have G := St.start w0
 refine wp_seq_k fun K1 hK1=> wp_region_lit <| av J Y Y fun a J=> av J Y Y fun a J=> s0 <| then_n (hK1 _ _ <| wp_seq_k fun K2 hK2=> wp_seq_k fun K3 hK3=> wp_region_lit <| so (wn Y) (O.call Y Y J ent33 (J.evs Y) G (table_calls _) fun v s6 a w hR J G=> ?_))
 obtain ⟨rfl, rfl⟩ := hR
 refine mv J Y Y fun a J=> s0 <| then_n (hK3 _ _ <| wp_block <| wp_loop_N (fun g a w=> ∃ (i : Nat), 28 - i = g ∧ Fr 17 [(0, .string s), (6, .agg tabL.toArray), (7, .int .i64 ((i : Nat) : Int))] a ∧ St w0 [] [] w ∧ (i ≤ 28) ∧ (∀ j, j < i → nameN j ≠ bys s)) (28 - 0) ?_ ?_)
 ·exact ⟨0, Y, J.sub ⟨Y, Y, Y, trivial⟩, G.sel [] Y Y, by omega, (fun j hj => absurd hj (Nat.not_lt_zero j))⟩
 rintro KL1 g a w ⟨i, hg1, J, G, hi, hno⟩ hKL1
 refine wp_seq_k fun K4 hK4=> wp_region_lit <| lS J Y Y Y fun a J=> s0 <| then_n (hK4 _ _ <| wp_seq_k fun K5 hK5=> cD J Y (fun c1=> ?_) (fun c1=> ?_))
 ·refine wp_skip <| then_n (hK5 _ _ <| wp_seq_k fun K6 hK6=> wp_block <| wp_seq_k fun K7 hK7=> wp_region_lit <| mv J Y Y fun a J=> sw J Y Y Y (R.indexAgg (cs := rowC (bstr (nameN i)) i) Tryz.underlying73 agg72 sz72 (J.ev Y) (J.ev Y) (by omega) (by omega) (row_cut (c := i) (by omega))) fun a J=> so (wn Y) (O.alloc Y Y J ze72 Y G fun b5 a w J G=> ?_))
  refine av J Y Y fun a J=> so (wn Y) (O.storeW sz72 (J.ev Y) (J.ev Y) (Y) Y (one_row _ _) G .h (Y) fun w G=> ?_)
  refine s0 <| then_n (hK7 _ _ <| wp_seq_k fun K8 hK8=> wp_region_lit <| sw J Y Y Y (R.fieldAddr (k := 0) Tryz.underlying72 Y nz9 (J.ev Y) Y) fun a J=> sw J Y Y Y (R.load one9 (J.ev Y) G .h (Y)) fun a J=> mv J Y Y fun a J=> sw J Y Y Y (R.as (u := .bool (decide (nameN i = bys s))) (R.eqlStr (J.ev Y) (J.ev Y)) (congrArg Value.bool (decide_eq_decide.2 name_str))) fun a J=> s0 <| then_n (hK8 _ _ <| cD J Y (fun c2=> ?_) (fun c2=> ?_)))
  ·have hpn := codeN_hit (by omega) c2 hno
   refine wp_seq_k fun K9 hK9=> wp_region_lit <| mv J Y Y fun a J=> av J Y Y fun a J=> av J Y Y fun a J=> s0 <| then_n (hK9 _ _ <| wp_ret (blk_r (then_r (then_r (blk_r (then_r (hR _ _ _ _ _ J (run_results Tryz.results112 (.t J Y (.t J Y (.nil)))) ?_)))))))
   exact ⟨_, [], Y, ⟨by rw [hpn, if_pos (by omega), decide_eq_true (by omega)]; rfl, Y⟩, G.none⟩
  refine wp_skip <| blk_n <| then_n (hK6 _ _ <| wp_region_lit <| aI J Y Y Y (by omega) fun a J=> mv J Y Y fun a J=> s0 <| then_n (hKL1 (28 - (i + 1)) _ _ ?_ ?_))
  ·omega
  exact ⟨i + 1, Y, J.sub ⟨Y, Y, (congrArg (fun z => some (Value.int .i64 z)) (by omega)), trivial⟩, G.sel [] Y Y, by omega, (fun j hj => by (by_cases h : j < i; exact hno j h; have : j = i := (by omega); rw [this]; exact c2))⟩
 obtain rfl : i = 28 := by omega
 have hpn := codeN_none hno
 refine wp_exit (then_x (then_x (blk_hit <| then_n (hK2 _ _ <| wp_seq_k fun K10 hK10=> wp_region_lit <| av J Y Y fun a J=> av J Y Y fun a J=> s0 <| then_n (hK10 _ _ <| wp_ret (hR _ _ _ _ _ J (run_results Tryz.results112 (.t J Y (.t J Y (.nil)))) ?_))))))
 exact ⟨_, [], Y, ⟨by rw [hpn]; rfl, Y⟩, G.none⟩
theorem words_calls (s : ByteArray) (w0 : World) (hM : MaxW w0) (hs : s.size ≤ 1000000) : Ret Tryz.prog 58 [.string s] w0 [] (fun v q => ∃ A, v = .slice (some ⟨A, 0, none⟩) (wordsN (bys s)).length (wordsN (bys s)).length ∧ OwnS q (some ⟨A, 0, none⟩) (wordsN (bys s)).length (wordsN (bys s)).length (strs (wordsN (bys s))) 9 1) := by
 refine fn_start Tryz.func58 Y Tryz.ntmps58 Y [(0, .string s)] ⟨Y, trivial⟩ ?_
 intro Q a hP J hR hN
 have G := St.start w0
 refine wp_seq_k fun K1 hK1=> wp_region_lit <| av J Y Y fun a J=> s0 <| then_n (hK1 _ _ <| wp_seq_k fun K2 hK2=> wp_region_lit <| mv J Y Y fun a J=> so (wn Y) (O.call Y Y J ent107 (J.evs Y) G (cut_calls s _ hM hs) fun v s5 a w hR J G=> ?_))
 obtain ⟨u5, b5, rfl, rfl⟩ := hR
 refine mv J Y Y fun a J=> xv J Y Y Y fun a J=> xv J Y Y Y fun a J=> xv J Y Y Y fun a J=> av J Y Y fun a J=> s0 <| then_n (hK2 _ _ <| wp_seq_k fun K3 hK3=> wp_region_lit <| mv J Y Y fun a J=> so (wn Y) (O.call Y Y J ent108 (J.evs Y) G (fields_calls ⟨(Lib.cut s.data.toList [35]).1.toArray⟩ w (Nat.le_trans (cutM_len s) hs)) fun v s10 a w hR J G=> ?_))
 obtain ⟨A10, rfl, hO10⟩ := hR
 refine av J Y Y fun a J=> s0 <| then_n (hK3 _ _ <| wp_ret (hR _ _ _ _ _ J (run_results Tryz.results58 (.t J Y (.nil))) ?_))
 exact ⟨_, s10, Y, ⟨A10, by rw [← words_lib]; rfl, by rw [← words_lib]; exact hO10⟩, G.one .h⟩
theorem isLabel_l {xs : List Nat} (h : Byt xs) (w : World) : Ret Tryz.prog 111 [.string (bstr xs)] w [] (fun v q => v = .bool (okL xs) ∧ q = []) := by
  have := isLabel_calls (bstr xs) w; rwa [bys_bstr h] at this
theorem codeOf_l {xs : List Nat} (h : Byt xs) (w : World) : Ret Tryz.prog 112 [.string (bstr xs)] w [] (fun v q => v = .tuple #[.int .i64 (if codeN xs < 28 then ((codeN xs : Nat) : Int) else 0), .bool (decide (codeN xs < 28))] ∧ q = []) := by
  have := codeOf_calls (bstr xs) w; rwa [bys_bstr h] at this
theorem words_l {xs : List Nat} (h : Byt xs) (w : World) (hM : MaxW w) (hl : xs.length ≤ 1000000) : Ret Tryz.prog 58 [.string (bstr xs)] w [] (fun v q => ∃ A, v = .slice (some ⟨A, 0, none⟩) (wordsN xs).length (wordsN xs).length ∧ OwnS q (some ⟨A, 0, none⟩) (wordsN xs).length (wordsN xs).length (strs (wordsN xs)) 9 1) := by
  have := words_calls (bstr xs) w hM (by rw [size_bstr]; exact hl); rwa [bys_bstr h] at this
theorem parse_l {xs : List Nat} (h : Byt xs) (w : World) : Ret Tryz.prog 113 [.string (bstr xs)] w [] (fun v q => v = .tuple #[wv ((prs xs).getD 0), .int .i64 (if (prs xs).isSome then 0 else 21)] ∧ q = []) := by
  have := parse_calls (bstr xs) w; rwa [bys_bstr h] at this
theorem suffix_l {xs : List Nat} (h : Byt xs) (w : World) (hl : xs.length ≤ 1000000) : Ret Tryz.prog 110 [.string (bstr xs), .string ⟨#[58]⟩] w [] (fun v q => ∃ t, v = .tuple #[.string (bstr t), .bool (decide (xs.getLast? = some 58))] ∧ Byt t ∧ (xs.getLast? = some 58 → t = xs.dropLast) ∧ q = []) := by
  refine (suffix_calls (bstr xs) w (by rw [size_bstr]; exact hl)).mono ?_
  rintro v q ⟨rfl, rfl⟩
  obtain ⟨h1, h2⟩ := suff (bstr xs).data.toList
  have hb : (bstr xs).data.toList.map (·.toNat) = xs := bys_bstr h
  rw [hb] at h1 h2
  refine ⟨bys ⟨(Lib.trimSuffix (bstr xs).data.toList [58]).toArray⟩, by rw [bstr_bys, h1], byt_bys _, fun h3 => ?_, rfl⟩
  rw [bys_mk]
  exact h2 (by rw [h1]; exact decide_eq_true h3)
end Go.Proofs.YtlapmbkfmbkdoaaGreatDoor
end
section
namespace Go.Proofs.YtlapmbkfmbkdoaaGreatDoor
open Go Go.Fw Go.RowKit
attribute [local irreducible] Go.Oper.wp Go.Code.wp Go.wpList Go.Fw.WL Go.Calls
theorem beq_ba (a b : ByteArray) : (a == b) = decide (a = b) := by
  cases a with
  | mk x =>
    cases b with
    | mk y =>
      have h : ((⟨x⟩ : ByteArray) == ⟨y⟩) = (x == y) := rfl
      rw [h, Bool.eq_iff_iff, decide_eq_true_iff, beq_iff_eq]
      constructor
      · rintro rfl; rfl
      · intro h; cases h; rfl
theorem beq_self_ba (a : ByteArray) : (a == a) = true := by rw [beq_ba]; simp
def MapL (es : Array MapEntry) (l : List (List Nat × Nat)) : Prop := es.toList.map (fun e => (e.key, e.val)) = l.map fun x => (Value.string (bstr x.1), Value.int .i64 ((x.2 : Nat) : Int))
def BytL (l : List (List Nat × Nat)) : Prop := ∀ x ∈ l, Byt x.1
theorem MapL.nil : MapL #[] [] := rfl
theorem lkp_cons (x : List Nat × Nat) (l : List (List Nat × Nat)) (s : List Nat) : lkp (x :: l) s = if x.1 = s then some x.2 else lkp l s := by
  unfold lkp
  rw [List.find?_cons]
  by_cases h : x.1 = s
  · simp [h]
  · have : (x.1 == s) = false := by simpa using h
    rw [this, if_neg h]
theorem find_S {s : List Nat} (hs : Byt s) : ∀ (l : List (List Nat × Nat)) (es : List MapEntry) (i : Nat), BytL l → es.map (fun e => (e.key, e.val)) = l.map (fun x => (Value.string (bstr x.1), Value.int .i64 ((x.2 : Nat) : Int))) →
    (lkp l s = none → Instr.findNow .string (.string (bstr s)) es i = some none) ∧ (∀ p, lkp l s = some p → ∃ j e, Instr.findNow .string (.string (bstr s)) es i = some (some (i + j, .int .i64 ((p : Nat) : Int))) ∧ es[j]? = some e ∧ e.key = .string (bstr s))
  | [], [], i, _, _ => ⟨fun _ => rfl, fun p h => by simp [lkp] at h⟩
  | [], e :: es, i, _, h => by simp at h
  | x :: l, [], i, _, h => by simp at h
  | x :: l, e :: es, i, hB, h => by
    simp only [List.map_cons, List.cons.injEq, Prod.mk.injEq] at h
    obtain ⟨⟨hk, hv⟩, ht⟩ := h
    have ih := find_S hs l es (i + 1) (fun y hy => hB y (List.mem_cons_of_mem _ hy)) ht
    have hx : Byt x.1 := hB x List.mem_cons_self
    rw [lkp_cons]
    by_cases he : x.1 = s
    · have hb : (bstr s == bstr x.1) = true := by rw [he]; exact beq_self_ba _
      refine ⟨fun h => (by rw [if_pos he] at h; cases h), fun p hp => ?_⟩
      rw [if_pos he] at hp
      obtain rfl := Option.some.inj hp
      exact ⟨0, e, by simp only [Instr.findNow, hk, Instr.sameNow, hb, hv, Nat.add_zero], rfl, by rw [hk, he]⟩
    · have hb : (bstr s == bstr x.1) = false := by
        cases hc : (bstr s == bstr x.1) with
        | false => rfl
        | true => exact absurd (bstr_inj hs hx (of_decide_eq_true ((beq_ba _ _).symm.trans hc))).symm he
      refine ⟨fun h => ?_, fun p hp => ?_⟩
      · rw [if_neg he] at h
        simp only [Instr.findNow, hk, Instr.sameNow, hb]
        exact ih.1 h
      · rw [if_neg he] at hp
        obtain ⟨j, e2, h1, h2, h3⟩ := ih.2 p hp
        refine ⟨j + 1, e2, ?_, by simpa using h2, h3⟩
        simp only [Instr.findNow, hk, Instr.sameNow, hb]
        rw [h1, Nat.add_right_comm, Nat.add_assoc]
section
variable {P : Program} {Q : Exit → Act → World → Prop} {a : Act} {w w' w0 : World} {K : Act → World → Prop}
variable {ρ : Operand → Value} {dst : Option Tmp} {ty : TypeId} {pos : String} {af : Array Edge} {g : Option (Nat × Bool)} {x y y' : Operand} {T E Kt : TypeId}
variable {ks : List Nat} {bs : List Seg} {b : Nat} {es : Array MapEntry} {c : Nat} {l : List (List Nat × Nat)} {s : List Nat}
theorem run_checkStr (hK : P.underlying Kt = some .string) (e : Bool) (p : ByteArray) (w : World) : (Instr.checkKey e 10000 Kt (.string p)).run P w = .ok () w := by
  rw [Instr.checkKey]
  simp only [Sem.run_bind, run_underlying hK, Result.andThen_ok, Sem.run_pure]
theorem run_findStr (hK : P.underlying Kt = some .string) {k : Value} {l : List MapEntry} {r : Option (Nat × Value)} (h : Instr.findNow .string k l 0 = some r) (w : World) : (Instr.findKey Kt k l).run P w = .ok r w := by
  simp only [Instr.findKey, Sem.run_bind, run_underlying hK, Result.andThen_ok, h, Sem.run_pure]
theorem R.lookupS (hT : P.underlying T = some (.map Kt E)) (hK : P.underlying Kt = some .string) (hz : zeT P E (.int .i64 0)) (hb : w.heap[b]? = some (.map es c)) (hM : MapL es l) (hB : BytL l) (hs : Byt s) (hx : ρ x = .map (some b)) (hy : ρ y = .string (bstr s)) :
    (execOp ρ ⟨dst, .lookup T x y true, ty, pos, af, g⟩).run P w = .ok (.value (.tuple [.int .i64 (((lkp l s).getD 0 : Nat) : Int), .bool (lkp l s).isSome].toArray)) w := by
  have hf := find_S hs l es.toList 0 hB hM
  have key : (Instr.lookup T (.map (some b)) (.string (bstr s)) true).run P w = .ok (.tuple #[.int .i64 (((lkp l s).getD 0 : Nat) : Int), .bool (lkp l s).isSome]) w := by
    cases hl : lkp l s with
    | none =>
      have h1 := hf.1 hl
      simp only [Instr.lookup, Sem.run_bind, run_underlying hT, Result.andThen_ok, Sem.run_pure, MapKept.run_getObj_map hb, run_checkStr hK, run_findStr hK h1, hz.run, Option.getD_none, Option.isSome_none, if_true]
      rfl
    | some p =>
      obtain ⟨j, e, h1, _⟩ := hf.2 p hl
      simp only [Instr.lookup, Sem.run_bind, run_underlying hT, Result.andThen_ok, Sem.run_pure, MapKept.run_getObj_map hb, run_checkStr hK, run_findStr hK h1, Option.getD_some, Option.isSome_some, if_true]
  simp only [execOp, hx, hy, key, Sem.run_bind, Result.andThen_ok, Sem.run_pure]
theorem O.mapUpdateS {u : Nat} (hT : P.underlying T = some (.map Kt E)) (hK : P.underlying Kt = some .string) (hx : ρ x = .map (some b)) (hy : ρ y = .string (bstr s)) (hu : ρ y' = .int .i64 ((u : Nat) : Int)) (hρ : ρ = a.eval) (hM : MapL es l) (hB : BytL l) (hs : Byt s) (hS : St w0 ks bs w)
    {bs2 : Obj → List Seg} (hU : ∀ o, UpB bs b (.map es c) o (bs2 o))
    (h : ∀ es' c' w', (lkp l s = none → MapL es' (l ++ [(s, u)])) → St w0 ks (bs2 (.map es' c')) w' → K a w') : Oper.wp P ⟨none, .mapUpdate T x y y', ty, pos, af, g⟩ a w K Q := by
  subst hρ
  have hb := hS.get (hU (.map es c)).has
  have hf := find_S hs l es.toList 0 hB hM
  have key : ∃ es' c', (Instr.mapUpdate T (.map (some b)) (.string (bstr s)) (.int .i64 ((u : Nat) : Int))).run P w = .ok () (World.setB w b (.map es' c')) ∧ (lkp l s = none → MapL es' (l ++ [(s, u)])) := by
    cases hl : lkp l s with
    | none =>
      have h1 := hf.1 hl
      refine ⟨es.push { key := .string (bstr s), val := .int .i64 ((u : Nat) : Int), born := c }, c + 1, ?_, fun _ => ?_⟩
      · simp [Instr.mapUpdate, run_underlying hT, MapKept.run_getObj_map hb, run_checkStr hK, run_findStr hK h1, MapKept.run_setObj_map _ hb, Result.andThen, World.setB]
      · unfold MapL at *
        rw [Array.toList_push, List.map_append, List.map_append, hM]; rfl
    | some p =>
      obtain ⟨j, e, h1, h2, h3⟩ := hf.2 p hl
      have hj : es[j]? = some e := by simpa using h2
      have hks : (Instr.keyThatStays (.string (bstr s)) (.string (bstr s))).run P w = .ok (.string (bstr s)) w := by
        simp [Instr.keyThatStays, Instr.sameBits, beq_self_ba]
      refine ⟨es.modify j (fun e' => { e' with key := .string (bstr s), val := .int .i64 ((u : Nat) : Int) }), c, ?_, fun h => by cases h⟩
      simp [Instr.mapUpdate, run_underlying hT, MapKept.run_getObj_map hb, run_checkStr hK, run_findStr hK h1, hj, h3, hks, MapKept.run_setObj_map _ hb, Result.andThen, World.setB]
  obtain ⟨es', c', h1, h2⟩ := key
  unfold Oper.wp
  have : (execOp a.eval ⟨none, .mapUpdate T x y y', ty, pos, af, g⟩).run P w = .ok .skip (World.setB w b (.map es' c')) := by
    simp only [execOp, hx, hy, hu, h1, Sem.run_bind, Result.andThen_ok, Sem.run_pure]
  rw [this, Oper.upon_skip]
  exact h _ _ _ h2 (hS.setB (hU _))
end
end Go.Proofs.YtlapmbkfmbkdoaaGreatDoor
end
section
namespace Go.Proofs.YtlapmbkfmbkdoaaGreatDoor
open Go Go.Fw Go.RowKit
attribute [local irreducible] Go.Oper.wp Go.Code.wp Go.wpList Go.Fw.WL Go.Calls
def jmpC (l : List (List Nat × Nat × Nat)) : List Value := l.flatMap fun j => [.string (bstr j.1), .int .i64 ((j.2.1 : Nat) : Int), .int .i64 ((j.2.2 : Nat) : Int)]
theorem jmpC_snoc (l : List (List Nat × Nat × Nat)) (x : List Nat × Nat × Nat) : jmpC (l ++ [x]) = jmpC l ++ [.string (bstr x.1), .int .i64 ((x.2.1 : Nat) : Int), .int .i64 ((x.2.2 : Nat) : Int)] := by simp [jmpC]
def asmC (A : Option Addr) (n c : Nat) (bm : Nat) (J : Option Addr) (m d : Nat) : List Value := [.slice A n c, .map (some bm), .slice J m d]
def FB (acc : List (It × Nat)) : List Nat := flat (·.bs) acc
def AsmS (ba : Nat) (acc : List (It × Nat)) (s : Seg) : Prop := ∃ A c J d bm es cnt zc zj, s = (ba, Cel (asmC A (lenN acc) c bm J (jmps acc 0).length d) 120) :: (bm, .map es cnt) :: (zc ++ zj) ∧ OwnS zc A (lenN acc) c (byts (FB acc)) 5 1 ∧ OwnS zj J (jmps acc 0).length d (jmpC (jmps acc 0)) 124 3 ∧ MapL es (labs acc 0)
def AccOK (acc : List (It × Nat)) : Prop := ∀ x ∈ acc, ItOK x.1 ∧ Byt x.1.lab ∧ Byt x.1.tg
theorem acc_bytL {acc : List (It × Nat)} (h : AccOK acc) (p : Nat) : BytL (labs acc p) := by
  induction acc generalizing p with
  | nil => intro x hx; cases hx
  | cons y r ih =>
    intro x hx
    rw [labs] at hx
    rcases List.mem_append.1 hx with h1 | h1
    · split at h1
      · rw [List.mem_singleton.1 h1]; exact (h y List.mem_cons_self).2.1
      · cases h1
    · exact ih (fun z hz => h z (List.mem_cons_of_mem _ hz)) _ x h1
theorem acc_len {acc : List (It × Nat)} (h : AccOK acc) : lenN acc ≤ 34 * acc.length := by
  induction acc with
  | nil => exact Nat.le_refl _
  | cons y r ih =>
    have h1 := (h y List.mem_cons_self).1.2.2.2.2
    have h2 := ih fun z hz => h z (List.mem_cons_of_mem _ hz)
    rw [lenN_cons, List.length_cons]; omega
theorem jmps_len (acc : List (It × Nat)) (p : Nat) : (jmps acc p).length ≤ acc.length := by
  induction acc generalizing p with
  | nil => exact Nat.le_refl _
  | cons y r ih =>
    have := ih (p + y.1.bs.length)
    rw [jmps, List.length_append, List.length_cons]
    split <;> simp only [List.length_nil, List.length_cons] <;> omega
section
variable {w0 w : World} {ks : List Nat} {ba bm : Nat} {acc : List (It × Nat)} {A J : Option Addr} {n c m d ln cnt : Nat} {zc zj : Seg} {es : Array MapEntry} {x : It}
theorem AsmS.close (hS : St w0 ks [[(ba, Cel (asmC A n c bm J m d) 120)], [(bm, .map es cnt)], zc, zj] w) (hn : n = lenN acc) (hO : OwnS zc A n c (byts (FB acc)) 5 1) (hm : m = (jmps acc 0).length) (hJ : OwnS zj J m d (jmpC (jmps acc 0)) 124 3) (hM : MapL es (labs acc 0)) : ∃ s', AsmS ba acc s' ∧ St w0 ks [s'] w := by
  subst hn; subst hm
  exact ⟨_, ⟨A, c, J, d, bm, es, cnt, zc, zj, rfl, hO, hJ, hM⟩, hS.flat (by simp)⟩
theorem one_len (x : It) (ln : Nat) : lenN [(x, ln)] = x.bs.length := by rw [lenN_cons]; rfl
theorem close_ins (ln : Nat) (hc : ¬ x.code < 0) (ht : x.tg = []) (hS : St w0 ks [[(ba, Cel (asmC A n c bm J m d) 120)], [(bm, .map es cnt)], zc, zj] w) (hn : n = lenN acc + x.bs.length) (hO : OwnS zc A n c (byts (FB acc ++ x.bs)) 5 1) (hm : m = (jmps acc 0).length) (hJ : OwnS zj J m d (jmpC (jmps acc 0)) 124 3) (hM : MapL es (labs acc 0)) : ∃ s', AsmS ba (acc ++ [(x, ln)]) s' ∧ St w0 ks [s'] w := by
  have e1 : jmps (acc ++ [(x, ln)]) 0 = jmps acc 0 := by rw [jmps_append]; simp [jmps, ht]
  have e2 : labs (acc ++ [(x, ln)]) 0 = labs acc 0 := by rw [labs_append]; simp [labs, hc]
  have e3 : FB (acc ++ [(x, ln)]) = FB acc ++ x.bs := by unfold FB; rw [flat_append]; simp [flat]
  exact AsmS.close hS (by rw [lenN_append, one_len, hn]) (by rw [e3]; exact hO) (by rw [e1]; exact hm) (by rw [e1]; exact hJ) (by rw [e2]; exact hM)
theorem close_jmp (ln : Nat) (hc : ¬ x.code < 0) (ht : ¬ x.tg = []) (hS : St w0 ks [[(ba, Cel (asmC A n c bm J m d) 120)], [(bm, .map es cnt)], zc, zj] w) (hn : n = lenN acc + x.bs.length) (hO : OwnS zc A n c (byts (FB acc ++ x.bs)) 5 1) (hm : m = (jmps acc 0).length + 1) (hJ : OwnS zj J m d (jmpC (jmps acc 0) ++ [.string (bstr x.tg), .int .i64 ((lenN acc : Nat) : Int), .int .i64 ((ln : Nat) : Int)]) 124 3) (hM : MapL es (labs acc 0)) : ∃ s', AsmS ba (acc ++ [(x, ln)]) s' ∧ St w0 ks [s'] w := by
  have e1 : jmps (acc ++ [(x, ln)]) 0 = jmps acc 0 ++ [(x.tg, lenN acc, ln)] := by rw [jmps_append, Nat.zero_add]; simp [jmps, ht]
  have e2 : labs (acc ++ [(x, ln)]) 0 = labs acc 0 := by rw [labs_append]; simp [labs, hc]
  have e3 : FB (acc ++ [(x, ln)]) = FB acc ++ x.bs := by unfold FB; rw [flat_append]; simp [flat]
  exact AsmS.close hS (by rw [lenN_append, one_len, hn]) (by rw [e3]; exact hO) (by rw [e1, List.length_append]; exact hm) (by rw [e1, jmpC_snoc]; exact hJ) (by rw [e2]; exact hM)
theorem close_lab (ln : Nat) (s : List Nat) (hS : St w0 ks [[(ba, Cel (asmC A n c bm J m d) 120)], [(bm, .map es cnt)], zc, zj] w) (hn : n = lenN acc) (hO : OwnS zc A n c (byts (FB acc)) 5 1) (hm : m = (jmps acc 0).length) (hJ : OwnS zj J m d (jmpC (jmps acc 0)) 124 3) (hM : MapL es (labs acc 0 ++ [(s, lenN acc)])) : ∃ s', AsmS ba (acc ++ [(⟨s, -1, [], []⟩, ln)]) s' ∧ St w0 ks [s'] w := by
  have e1 : jmps (acc ++ [((⟨s, -1, [], []⟩ : It), ln)]) 0 = jmps acc 0 := by rw [jmps_append]; simp [jmps]
  have e2 : labs (acc ++ [((⟨s, -1, [], []⟩ : It), ln)]) 0 = labs acc 0 ++ [(s, lenN acc)] := by rw [labs_append, Nat.zero_add]; simp [labs]
  have e3 : FB (acc ++ [((⟨s, -1, [], []⟩ : It), ln)]) = FB acc := by unfold FB; rw [flat_append]; simp [flat]
  exact AsmS.close hS (by rw [lenN_append, one_len, hn]; rfl) (by rw [e3]; exact hO) (by rw [e1]; exact hm) (by rw [e1]; exact hJ) (by rw [e2]; exact hM)
end
def LineR (ba : Nat) (acc : List (It × Nat)) (wl : List (List Nat)) (ln : Nat) (v : Value) (s' : Seg) : Prop :=
  (v = .bool false ∧ (undN wl = none ∨ ∃ x, undN wl = some x ∧ tw acc x = true)) ∨ (v = .bool true ∧ ∃ x, undN wl = some x ∧ tw acc x = false ∧ AsmS ba (acc ++ [(x, ln)]) s')
theorem line_bad {ba : Nat} {acc : List (It × Nat)} {wl : List (List Nat)} {ln : Nat} {v : Value} {s' : Seg} (hv : v = .bool false) (h : undN wl = none) : LineR ba acc wl ln v s' := .inl ⟨hv, .inl h⟩
theorem tw_ins {acc : List (It × Nat)} {x : It} (h : ¬ x.code < 0) : tw acc x = false := by unfold tw; rw [decide_eq_false h]; rfl
theorem line_ins {ba : Nat} {acc : List (It × Nat)} {wl : List (List Nat)} {ln : Nat} {v : Value} {s' : Seg} {x : It} (hv : v = .bool true) (h : undN wl = some x) (hc : ¬ x.code < 0) (ha : AsmS ba (acc ++ [(x, ln)]) s') : LineR ba acc wl ln v s' := .inr ⟨hv, x, h, tw_ins hc, ha⟩
theorem lab_tt {n : Nat} {W t : List Nat} (h1 : n = 1) (h2 : W.getLast? = some 58) (ht : t = W.dropLast) : okL t = decide (n = 1 ∧ (lblN W).2 = true) := by
  have := (lbl_isLab W).1
  unfold isLab at this
  rw [h2] at this
  simp only [decide_true, Bool.true_and] at this
  rw [this, ht]
  simp [h1]
theorem lab_f1 {n : Nat} {W : List Nat} (h1 : ¬ n = 1) : false = decide (n = 1 ∧ (lblN W).2 = true) := (decide_eq_false fun h => h1 h.1).symm
theorem lab_f2 {n : Nat} {W : List Nat} (h2 : ¬ W.getLast? = some 58) : false = decide (n = 1 ∧ (lblN W).2 = true) := (decide_eq_false fun h => by
  have := (lbl_isLab W).1
  unfold isLab at this
  rw [decide_eq_false h2] at this
  simp only [Bool.false_and, Bool.and_false] at this
  rw [this] at h; cases h.2).symm
theorem lab_str {W t : List Nat} (h : (lblN W).2 = true) (ht : W.getLast? = some 58 → t = W.dropLast) : t = (lblN W).1 := by
  have h1 := (lbl_isLab W).1
  rw [h] at h1
  rw [(lbl_isLab W).2 h1.symm]
  apply ht
  unfold isLab at h1
  simp only [decide_true, Bool.true_and] at h1
  by_cases h2 : W.getLast? = some 58
  · exact h2
  · rw [decide_eq_false h2] at h1; cases h1
theorem wb_toB (n : Nat) : wb n 32 = toB 32 n := by
  unfold wb toB by8
  apply List.map_congr_left
  intro q hq
  have := List.mem_range.1 hq
  rw [show 32 - 1 - q = 31 - q by omega]
theorem byts_drop (l : List Nat) (j : Nat) : byts (l.drop j) = (byts l).drop j := by simp [byts, List.map_drop]
theorem dslb_0 {l : List Nat} {j off : Nat} (h : j < l.length) (ho : off = 0) : ((byts l).drop j)[off]? = some (.int .u8 ((l.getD j 0 : Nat) : Int)) := by
  subst ho; simp [byts, h]
theorem slc_nextB {b j c : Nat} (h : 1 < 32 - j) (hc : 32 ≤ c) : Value.slice (if c - j = 1 then some ⟨b, j, none⟩ else (some ⟨b, j, none⟩ : Option Addr).map (·.add (1 * 1))) (32 - j - 1) (c - j - 1) = .slice (some ⟨b, j + 1, none⟩) (32 - (j + 1)) (c - (j + 1)) := by
  rw [if_neg (by omega), Nat.sub_sub, Nat.sub_sub]; rfl
theorem cmpN_gt {x y : Nat} : cmpN x y > 0 ↔ y < x := by
  unfold cmpN; split
  · omega
  split <;> omega
theorem most_c (c : Nat) : (c = 16 ∧ mostN c = 255) ∨ (¬ c = 16 ∧ mostN c = 15) := by unfold mostN; split <;> omega
theorem least_c (c : Nat) : (c = 5 ∧ leastN c = 1) ∨ (¬ c = 5 ∧ leastN c = 0) := by unfold leastN; split <;> omega
theorem dg_c (m : Nat) : 255 < m ∨ dg m 0 = m := by rw [dg0]; omega
theorem err_21 (b : List Nat) : Value.bool (decide (¬ ((if (prs b).isSome then 0 else 21 : Int) = 0))) = .bool (decide ((prs b).isSome = false)) := by cases (prs b).isSome <;> simp
theorem neq_has (p : Prop) [Decidable p] (q : Prop) [Decidable q] : Value.bool (decide (decide p ≠ decide q)) = .bool (decide (¬ (p ↔ q))) := by
  by_cases h1 : p <;> by_cases h2 : q <;> simp [h1, h2]
theorem okLto {b : List Nat} (h : okL b = true) : ¬ b = [] := by rintro rfl; exact absurd h (by decide)
end Go.Proofs.YtlapmbkfmbkdoaaGreatDoor
end
section
namespace Go.Proofs.YtlapmbkfmbkdoaaGreatDoor
open Go Go.Fw Go.RowKit
attribute [local irreducible] Go.Oper.wp Go.Code.wp Go.wpList Go.Fw.WL Go.Calls
theorem ze3i : zeT Tryz.prog 3 (.int .i64 0) := by unfold zeT; kernel_rfl
theorem own_b2 {z : Seg} {A : Option Addr} {n c x y : Nat} {l : List Nat} (h : OwnS z A n c (byts l ++ [.int .u8 ((x : Nat) : Int)] ++ [.int .u8 ((y : Nat) : Int)]) 5 1) : OwnS z A n c (byts (l ++ [x] ++ [y])) 5 1 := by
  have e : byts (l ++ [x] ++ [y]) = byts l ++ [.int .u8 ((x : Nat) : Int)] ++ [.int .u8 ((y : Nat) : Int)] := by simp [byts]
  rw [e]; exact h
set_option maxHeartbeats 8000000 in
theorem line_calls (ba : Nat) (acc : List (It × Nat)) (s : Seg) (wk n ln : Nat) (wl : List (List Nat)) (w0 : World) (hAs : AsmS ba acc s) (ho : Own w0 s) (hac : AccOK acc) (hla : acc.length ≤ 100000) (hW : RdK w0 (s.map (·.1)) (some ⟨wk, 0, none⟩) (strs wl)) (hn : wl.length = n) (h1 : 1 ≤ n) (hnb : n ≤ 1000000) (hB : ∀ x ∈ wl, Byt x) (hwl : ∀ x ∈ wl, x.length ≤ 1000000) (hln : ln ≤ 1000000) : Ret Tryz.prog 59 [.pointer (some ⟨ba, 0, none⟩), .slice (some ⟨wk, 0, none⟩) n n, .int .i64 ((ln : Nat) : Int)] w0 (s.map (·.1)) (fun v s' => LineR ba acc wl ln v s') := by
 refine fn_start Tryz.func59 Y Tryz.ntmps59 Y [(0, .pointer (some ⟨ba, 0, none⟩)), (1, .slice (some ⟨wk, 0, none⟩) n n), (2, .int .i64 ((ln : Nat) : Int))] ⟨Y, Y, Y, trivial⟩ ?_
 intro Q a hP G hR hN
 have M := St.enter ho
 obtain ⟨A, ca, J, dj, bm, es, cnt, zc, zj, hs, hO, hJ, hM⟩ := hAs; have M := M.flat (bs' := [[(ba, Cel (asmC A (lenN acc) ca bm J (jmps acc 0).length dj) 120)], [(bm, .map es cnt)], zc, zj]) (by simp [hs]); have hB0 := getD_byt hB 0; have hB1 := getD_byt hB 1; have hds : (toB 32 ((prs (wl.getD 1 [])).getD 0)).length = 32 := length_toB 32 _; have hlc := acc_len hac; have hlj := jmps_len acc 0
 refine wp_seq_k fun K1 hK1=> wp_region_lit <| av G Y Y fun a G=> s0 <| then_n (hK1 _ _ <| wp_seq_k fun K2 hK2=> wp_seq_k fun K3 hK3=> wp_region_lit <| mv G Y Y fun a G=> sw G Y Y Y (R.indexO Tryz.underlying108 sz9 (G.ev Y) (by simp) (G.ev Y) (by omega) (by omega)) fun a G=> sw G Y Y Y (R.loadO one9 (G.ev Y) (hW.old M) (strs_at (i := 0) (by omega) (by omega))) fun a G=> so (wn Y) (O.call Y Y G ent110 (G.evs Y) M (suffix_l hB0 _ (hwl _ (mem_getD (by omega)))) fun v s23 a w hR G M=> ?_))
 obtain ⟨tl, rfl, hBt, htl, rfl⟩ := hR
 refine mv G Y Y fun a G=> xv G Y Y Y fun a G=> xv G Y Y Y fun a G=> av G Y Y fun a G=> av G Y Y fun a G=> s0 <| then_n (hK3 _ _ <| wp_seq_k fun K4 hK4=> ?_)
 have hK4' : ∀ a w, (Fr 214 [(0, .pointer (some ⟨ba, 0, none⟩)), (1, .slice (some ⟨wk, 0, none⟩) n n), (2, .int .i64 ((ln : Nat) : Int)), (7, .string (bstr tl)), (35, .bool (decide (n = 1 ∧ (lblN (wl.getD 0 [])).2 = true)))] a ∧ St w0 (s.map (·.1)) [[(ba, Cel (asmC A (lenN acc) ca bm J (jmps acc 0).length dj) 120)], [(bm, .map es cnt)], zc, zj] w) → K4 a w := by
  rintro a w ⟨G, M⟩
  refine hK4 _ _ ?_
  refine cD G Y (fun c1=> ?_) (fun c1=> ?_)
  ·have hBL := acc_bytL hac 0
   have hlt := lab_str c1.2 htl
   rw [hlt] at G hBt
   have hU := und_lab hn (by omega) c1.2
   refine wp_seq_k fun K5 hK5=> wp_region_lit <| mv G Y Y fun a G=> sw G Y Y Y (R.nilCheck (G.ev Y)) fun a G=> sw G Y Y Y (R.fieldAddr (k := 1) Tryz.underlying120 Y nz117 (G.ev Y) Y) fun a G=> sw G Y Y Y (R.load one117 (G.ev Y) M .h (Y)) fun a G=> mv G Y Y fun a G=> sw G Y Y Y (R.lookupS Tryz.underlying117 Tryz.underlying9 ze3i (St.get M (.t .h)) hM hBL hBt (G.ev Y) (G.ev Y)) fun a G=> mv G Y Y fun a G=> xv G Y Y Y fun a G=> xv G Y Y Y fun a G=> av G Y Y fun a G=> av G Y Y fun a G=> s0 <| then_n (hK5 _ _ <| wp_seq_k fun K6 hK6=> wp_drawS M [(0, 0), (1, 0), (2, 0), (3, 1), (4, 0), (5, 0), (6, 0), (7, 0), (8, 1), (9, 0), (10, 3)] mix (by kernel_rfl) (hP.then.then) fun w M=> ?_)
   have hD := M
   refine dm G Y Y Y fun a G=> dv G Y Y Y Y (fun w=> R.nilCheck (G.ev Y)) fun a G=> dv G Y Y Y Y (fun w=> R.fieldAddr (k := 1) Tryz.underlying120 Y nz117 (G.ev Y) Y) fun a G=> ds G Y Y Y Y hD (fun w hD=> R.load one117 (G.ev Y) hD .h (Y)) fun a G=> ?_
   refine dm G Y Y Y fun a G=> dm G Y Y Y fun a G=> dv G Y Y Y Y (fun w=> R.nilCheck (G.ev Y)) fun a G=> dv G Y Y Y Y (fun w=> R.fieldAddr (k := 0) Tryz.underlying120 Y nz22 (G.ev Y) Y) fun a G=> ds G Y Y Y Y hD (fun w hD=> R.load one22 (G.ev Y) hD .h (Y)) fun a G=> ?_
   refine dv G Y Y Y Y (fun w=> R.len Tryz.underlying22 (G.ev Y)) fun a G=> dw Y (wn Y) (O.mapUpdateS Tryz.underlying117 Tryz.underlying9 (G.ev Y) (G.ev Y) (G.ev Y) Y hM hBL hBt M (fun _=> (.t .h)) fun es' cnt' w hM2 M=> ?_)
   refine d0 <| then_n (hK6 _ _ <| wp_seq_k fun K7 hK7=> wp_region_lit <| mv G Y Y fun a G=> ?_)
   refine sw G Y Y Y ((by first | exact R.notD (G.ev Y) | exact R.not (G.ev Y))) fun a G=> ?_
   refine av G Y Y fun a G=> s0 <| then_n (hK7 _ _ <| wp_ret (then_r (hR _ _ _ _ _ G (run_results Tryz.results59 (.t G Y (.nil))) ?_)))
   cases hk : lkp (labs acc 0) (lblN (wl.getD 0 [])).1 with
   | none => (obtain ⟨s', h1, h2⟩ := close_lab ln (lblN (wl.getD 0 [])).1 (M.sel [0, 1, 2, 3] rfl rfl) rfl hO rfl hJ (hM2 hk); exact ⟨_, s', rfl, .inr ⟨rfl, _, hU, by rw [tw_lkp _ _ 0, hk]; rfl, h1⟩, h2⟩)
   | some p => exact ⟨_, [], rfl, .inl ⟨rfl, .inr ⟨_, hU, by rw [tw_lkp _ _ 0, hk]; rfl⟩⟩, M.none⟩
  have hU := und_ins hn (fun h => by (cases hl : (lblN (wl.getD 0 [])).2 with | false => rfl | true => exact absurd ⟨h, hl⟩ c1))
  refine wp_skip <| then_n (hK2 _ _ <| wp_seq_k fun K8 hK8=> wp_region_lit <| mv G Y Y fun a G=> sw G Y Y Y (R.indexO Tryz.underlying108 sz9 (G.ev Y) (by simp) (G.ev Y) (by omega) (by omega)) fun a G=> sw G Y Y Y (R.loadO one9 (G.ev Y) (hW.old M) (strs_at (i := 0) (by omega) (by omega))) fun a G=> so (wn Y) (O.call Y Y G ent112 (G.evs Y) M (codeOf_l hB0 _) fun v s61 a w hR G M=> ?_))
  obtain ⟨rfl, rfl⟩ := hR
  refine mv G Y Y fun a G=> xv G Y Y Y fun a G=> xv G Y Y Y fun a G=> av G Y Y fun a G=> av G Y Y fun a G=> s0 <| then_n (hK8 _ _ <| wp_seq_k fun K9 hK9=> wp_seq_k fun K10 hK10=> ?_)
  have hK10' : ∀ a w, (Fr 214 [(0, .pointer (some ⟨ba, 0, none⟩)), (1, .slice (some ⟨wk, 0, none⟩) n n), (2, .int .i64 ((ln : Nat) : Int)), (11, .int .i64 (if codeN (wl.getD 0 []) < 28 then ((codeN (wl.getD 0 []) : Nat) : Int) else 0)), (79, .bool (decide (2 < n ∨ 28 ≤ codeN (wl.getD 0 []) ∨ ¬ ((codeN (wl.getD 0 []) = 2 ∨ codeN (wl.getD 0 []) = 4 ∨ codeN (wl.getD 0 []) = 5 ∨ codeN (wl.getD 0 []) = 16 ∨ codeN (wl.getD 0 []) = 14 ∨ codeN (wl.getD 0 []) = 15) ↔ n = 2))))] a ∧ St w0 (s.map (·.1)) [[(ba, Cel (asmC A (lenN acc) ca bm J (jmps acc 0).length dj) 120)], [(bm, .map es cnt)], zc, zj] w) → K10 a w := by
   rintro a w ⟨G, M⟩
   refine hK10 _ _ ?_
   refine cD G Y (fun c2=> ?_) (fun c2=> ?_)
   ·refine wp_seq_k fun K11 hK11=> wp_region_lit <| av G Y Y fun a G=> s0 <| then_n (hK11 _ _ <| wp_ret (then_r (hR _ _ _ _ _ G (run_results Tryz.results59 (.t G Y (.nil))) ?_)))
    exact ⟨_, [], Y, line_bad Y (hU.trans (ins_1 c2)), M.none⟩
   have hc28 : codeN (wl.getD 0 []) < 28 := by omega
   rw [if_pos hc28] at G
   generalize codeN (wl.getD 0 []) = c at G hU c2 hc28
   have hgd : ¬ (2 < n ∨ 28 ≤ c ∨ ¬ (hasP c ↔ n = 2)) := c2
   have hop := operN_spec c
   refine wp_skip <| then_n (hK9 _ _ <| wp_seq_k fun K12 hK12=> wp_region_lit <| mv G Y Y fun a G=> sw G Y Y Y (R.nilCheck (G.ev Y)) fun a G=> sw G Y Y Y (R.fieldAddr (k := 0) Tryz.underlying120 Y nz22 (G.ev Y) Y) fun a G=> sw G Y Y Y (R.load one22 (G.ev Y) M .h (Y)) fun a G=> sw G Y Y Y (R.len Tryz.underlying22 (G.ev Y)) fun a G=> av G Y Y fun a G=> s0 <| then_n (hK12 _ _ <| wp_seq_k fun K13 hK13=> wp_region_lit <| mv G Y Y fun a G=> mv G Y Y fun a G=> sw G Y Y Y (R.nilCheck (G.ev Y)) fun a G=> sw G Y Y Y (R.fieldAddr (k := 0) Tryz.underlying120 Y nz22 (G.ev Y) Y) fun a G=> sw G Y Y Y (R.load one22 (G.ev Y) M .h (Y)) fun a G=> mv G Y Y fun a G=> sw G Y Y Y (R.as (u := .int .u8 ((c : Nat) : Int)) (R.convB (p := c) Tryz.underlying3 Tryz.underlying5 (G.ev Y)) (congrArg (fun z : Nat=> Value.int .u8 (z : Int)) (Nat.mod_eq_of_lt (by omega)))) fun a G=> so (wn Y) (O.buildSlice (l := [_]) Y Y G Tryz.underlying22 inf5 Y Y (G.evp Y) (by decide) Y M fun b92 a w G M=> ?_)))
   refine so (wn Y) (O.append Y Y G Tryz.underlying22 inf5 Y Y (by decide) (G.ev Y) (G.ev Y) M hO (fun _=> (.t (.t (.t .h)))) (Rd.own0 M .h) (Y) (by simp [Value.oneCell']) (by unfold maxLen; omega) (by omega) fun A93 c93 s93 a w hO93 G M=> ?_)
   refine sw G Y Y Y (R.nilCheck (G.ev Y)) fun a G=> sw G Y Y Y (R.fieldAddr (k := 0) Tryz.underlying120 Y nz22 (G.ev Y) Y) fun a G=> ?_
   refine so (wn Y) (O.store sz22 (G.ev Y) (G.ev Y) Y Y M (.t .h) (Y) (by first | decide | omega | (show _ < 59; decide) | (show _ < 3; decide) | simp) fun w M=> ?_)
   refine s0 <| then_n (hK13 _ _ <| wp_seq_k fun K14 hK14=> wp_seq_k fun K15 hK15=> wp_region_lit <| mv G Y Y fun a G=> so (wn Y) (O.call Y Y G ent36 (G.evs Y) M (operandOf_calls c _) fun v s97 a w hR G M=> ?_))
   obtain ⟨rfl, rfl⟩ := hR
   refine s0 <| then_n (hK15 _ _ <| wp_block <| wp_seq_k fun K16 hK16=> wp_region_lit <| sw G Y Y Y (R.as (u := .bool (decide (c = 2))) (R.eql (G.ev Y) (G.ev Y)) (congrArg Value.bool (decide_eq_decide.2 (by omega)))) fun a G=> av G Y Y fun a G=> s0 <| then_n (hK16 _ _ <| cD G Y (fun c3=> ?_) (fun c3=> ?_)))
   ·have hp : hasP c := .inl c3
    refine wp_seq_k fun K17 hK17=> wp_region_lit <| mv G Y Y fun a G=> sw G Y Y Y (R.indexO Tryz.underlying108 sz9 (G.ev Y) (by simp) (G.ev Y) (by omega) (by omega)) fun a G=> sw G Y Y Y (R.loadO one9 (G.ev Y) (hW.old M) (strs_at (i := 1) (by omega) (by omega))) fun a G=> so (wn Y) (O.call Y Y G ent113 (G.evs Y) M (parse_l hB1 _) fun v s104 a w hR G M=> ?_)
    obtain ⟨rfl, rfl⟩ := hR
    refine mv G Y Y fun a G=> xv G Y Y Y fun a G=> xv G Y Y Y fun a G=> so (wn Y) (O.alloc Y Y G ze32 Y M fun b14 a w G M=> ?_)
    refine so (wn Y) (O.storeW sz32 (G.ev Y) (G.ev Y) (Y) Y (by simp [Value.oneCell']) M .h (Y) fun w M=> ?_)
    refine av G Y Y fun a G=> s0 <| then_n (hK17 _ _ <| wp_seq_k fun K18 hK18=> wp_seq_k fun K19 hK19=> wp_region_lit <| mv G Y Y fun a G=> sw G Y Y Y (R.as (u := .bool (decide ((prs (wl.getD 1 [])).isSome = false))) (R.neq (G.ev Y) (G.ev Y)) (err_21 _)) fun a G=> s0 <| then_n (hK19 _ _ <| cD G Y (fun c4=> ?_) (fun c4=> ?_)))
    ·refine wp_seq_k fun K20 hK20=> wp_region_lit <| av G Y Y fun a G=> s0 <| then_n (hK20 _ _ <| wp_ret (then_r (blk_r (then_r (hR _ _ _ _ _ G (run_results Tryz.results59 (.t G Y (.nil))) ?_)))))
     exact ⟨_, [], Y, line_bad Y (hU.trans (ins_4 hgd hp (by omega) c4)), M.none⟩
    have hs : (prs (wl.getD 1 [])).isSome = true := by (cases h : (prs (wl.getD 1 [])).isSome with | false => exact absurd h c4 | true => rfl)
    refine wp_skip <| then_n (hK18 _ _ <| wp_seq_k fun K21 hK21=> wp_region_lit <| sw G Y Y Y (R.loadW agg32 (G.ev Y) M .h sz32 (Y)) fun a G=> so (wn Y) (O.call Y Y G ent114 (G.evs Y) M (bytes_calls ((prs (wl.getD 1 [])).getD 0) w) fun v s110 a w hR G M=> ?_))
    obtain ⟨A16, c16, rfl, hO16⟩ := hR
    rw [wb_toB, length_toB] at G; rw [wb_toB] at hO16; obtain ⟨g16, rest16, rfl, rfl, hnc16, hcm16⟩ := own_open hO16 (by rw [length_toB]; decide); rw [length_toB] at hnc16
    refine av G Y Y fun a G=> s0 <| then_n (hK21 _ _ <| wp_seq_k fun K22 hK22=> wp_block <| wp_loop_N (fun g a w=> ∃ (j : Nat), 32 - j = g ∧ Fr 214 [(0, .pointer (some ⟨ba, 0, none⟩)), (16, .slice (some ⟨g16, j, none⟩) (32 - j) (c16 - j))] a ∧ St w0 (s.map (·.1)) [[(g16, Cel (byts (toB 32 ((prs (wl.getD 1 [])).getD 0)) ++ rest16) 5)], [(ba, Cel (asmC A93 (lenN acc + 1) c93 bm J (jmps acc 0).length dj) 120)], [(bm, .map es cnt)], s93, zj] w ∧ (j ≤ 31) ∧ (∀ i, i < j → (toB 32 ((prs (wl.getD 1 [])).getD 0)).getD i 0 = 0)) (32 - 0) ?_ ?_)
    ·exact ⟨0, Y, G.sub ⟨Y, Y, trivial⟩, M.sel [0, 5, 6, 7, 8] Y Y, by omega, (fun i hi => absurd hi (Nat.not_lt_zero i))⟩
    rintro KL1 g a w ⟨j, hg1, G, M, hj, hz⟩ hKL1
    have hdj := toB_lt _ (mem_getD (d := 0) (l := (toB 32 ((prs (wl.getD 1 [])).getD 0))) (i := j) (by omega))
    refine wp_seq_k fun K23 hK23=> wp_seq_k fun K24 hK24=> ?_
    have hK24' : ∀ a w, (Fr 214 [(0, .pointer (some ⟨ba, 0, none⟩)), (16, .slice (some ⟨g16, j, none⟩) (32 - j) (c16 - j)), (119, .bool (decide (1 < 32 - j ∧ (toB 32 ((prs (wl.getD 1 [])).getD 0)).getD j 0 = 0)))] a ∧ St w0 (s.map (·.1)) [[(g16, Cel (byts (toB 32 ((prs (wl.getD 1 [])).getD 0)) ++ rest16) 5)], [(ba, Cel (asmC A93 (lenN acc + 1) c93 bm J (jmps acc 0).length dj) 120)], [(bm, .map es cnt)], s93, zj] w) → K24 a w := by
     rintro a w ⟨G, M⟩
     refine hK24 _ _ ?_
     refine cD G Y (fun d1=> ?_) (fun d1=> ?_)
     ·refine wp_skip <| then_n (hK23 _ _ <| wp_block <| wp_region_lit <| mv G Y Y fun a G=> sw G Y Y Y (R.as (u := .slice (some ⟨g16, j + 1, none⟩) (32 - (j + 1)) (c16 - (j + 1))) (R.sliceLo (p := 1) Tryz.underlying22 (G.ev Y) (G.ev Y) (by omega) sz5) (slc_nextB (by omega) hnc16)) fun a G=> av G Y Y fun a G=> s0 <| blk_n <| then_n (hKL1 (32 - (j + 1)) _ _ ?_ ?_))
      ·omega
      exact ⟨j + 1, Y, G.sub ⟨Y, Y, trivial⟩, M.sel [0, 1, 2, 3, 4] Y Y, by omega, strip_next hds (by omega) hz d1.2⟩
     have hst := strip_end hds hj hz d1
     have hps : pshN ((prs (wl.getD 1 [])).getD 0) = [c, 32 - j] ++ (toB 32 ((prs (wl.getD 1 [])).getD 0)).drop j := by (unfold pshN; rw [hst, List.length_drop, hds, c3]; rfl)
     refine wp_exit (then_x (then_x (blk_hit <| then_n (hK22 _ _ <| wp_region_lit <| mv G Y Y fun a G=> mv G Y Y fun a G=> sw G Y Y Y (R.nilCheck (G.ev Y)) fun a G=> sw G Y Y Y (R.fieldAddr (k := 0) Tryz.underlying120 Y nz22 (G.ev Y) Y) fun a G=> sw G Y Y Y (R.load one22 (G.ev Y) M (.t .h) (Y)) fun a G=> mv G Y Y fun a G=> sw G Y Y Y (R.len Tryz.underlying22 (G.ev Y)) fun a G=> sw G Y Y Y (R.as (u := .int .u8 (((32 - j) : Nat) : Int)) (R.convB (p := 32 - j) Tryz.underlying3 Tryz.underlying5 (G.ev Y)) (congrArg (fun z : Nat=> Value.int .u8 (z : Int)) (Nat.mod_eq_of_lt (by omega)))) fun a G=> so (wn Y) (O.buildSlice (l := [_]) Y Y G Tryz.underlying22 inf5 Y Y (G.evp Y) (by decide) Y M fun b130 a w G M=> ?_)))))
     refine so (wn Y) (O.append Y Y G Tryz.underlying22 inf5 Y Y (by decide) (G.ev Y) (G.ev Y) M hO93 (fun _=> (.t (.t (.t (.t .h))))) (Rd.own0 M .h) (Y) (by simp [Value.oneCell']) (by unfold maxLen; omega) (by omega) fun A131 c131 s131 a w hO131 G M=> ?_)
     refine mv G Y Y fun a G=> so (wn Y) (O.appendO Y Y G Tryz.underlying22 inf5 Y Y (by decide) (G.ev Y) (G.ev Y) M (own_b2 hO131) (fun _=> (.t (.t (.t (.t .h))))) (rd_drop (j := j) (rd_app (Rd.own0 M (.t .h)))) (by rw [← byts_drop, length_byts, List.length_drop]; omega) (by rw [← byts_drop]; exact byts_one _) (by unfold maxLen; omega) (by omega) fun A133 c133 s133 a w hO133 G M=> ?_)
     refine sw G Y Y Y (R.nilCheck (G.ev Y)) fun a G=> sw G Y Y Y (R.fieldAddr (k := 0) Tryz.underlying120 Y nz22 (G.ev Y) Y) fun a G=> ?_
     refine so (wn Y) (O.store sz22 (G.ev Y) (G.ev Y) Y Y M (.t (.t .h)) (Y) (by first | decide | omega | (show _ < 59; decide) | (show _ < 3; decide) | simp) fun w M=> ?_)
     refine s0 <| blk_n <| then_n (hK14 _ _ <| wp_seq_k fun K25 hK25=> wp_region_lit <| av G Y Y fun a G=> s0 <| then_n (hK25 _ _ <| wp_ret (hR _ _ _ _ _ G (run_results Tryz.results59 (.t G Y (.nil))) ?_)))
     obtain ⟨s', h1, h2⟩ := close_ins (x := ⟨[], c, (pshN ((prs (wl.getD 1 [])).getD 0)), []⟩) ln (by simp only; omega) rfl (M.sel [2, 3, 4, 5] rfl rfl) (by rw [hps]; simp only [List.length_append, List.length_cons, List.length_nil, List.length_drop, hds]; omega) (by rw [hps]; rw [← byts_drop, byts_append] at hO133; simpa [List.append_assoc] using hO133) rfl hJ hM
     exact ⟨_, s', Y, line_ins Y (hU.trans (ins_5 hgd hp (by omega) hs c3)) (by simp only; omega) h1, h2⟩
    refine wp_region_lit <| mv G Y Y fun a G=> sw G Y Y Y (R.len Tryz.underlying22 (G.ev Y)) fun a G=> sw G Y Y Y (R.gtr (G.ev Y) (G.ev Y)) fun a G=> mv G Y Y fun a G=> G.splitD (t := 114) Y (fun h114 G=> ?_) (fun h114 G=> ?_)
    ·refine my G Y Y Y Y fun a G=> sv' G (wy G Y Y Y) Y Y (R.indexO Tryz.underlying22 sz5 (G.ev Y) (by simp) (G.ev Y) (by omega) (by omega)) fun a G=> sv' G (wy G Y Y Y) Y Y (R.loadO one5 (G.ev Y) (rd_drop (j := j) (rd_app (Rd.own0 M .h))) ((by rw [← byts_drop, byts_drop]; exact dslb_0 (j := j) (by omega) (by omega)))) fun a G=> sv' G (wy G Y Y Y) Y Y (R.eql (G.ev Y) (G.ev Y)) fun a G=> pT G Y Y Y fun a G=> s0 ?_
     exact then_n (hK24' _ _ ⟨G.sub ⟨Y, Y, (congrArg (fun z => some (Value.bool z)) (by first | exact (decide_eq_true (by omega)).symm | exact (decide_eq_false (by omega)).symm | exact decide_eq_decide.2 (by omega))), trivial⟩, M.sel [0, 1, 2, 3, 4] Y Y⟩)
    refine kz G Y Y Y Y Y Y fun a G=> kz G Y Y Y Y Y Y fun a G=> kz G Y Y Y Y Y Y fun a G=> kz G Y Y Y Y Y Y fun a G=> pF G Y Y Y fun a G=> s0 ?_
    exact then_n (hK24' _ _ ⟨G.sub ⟨Y, Y, (congrArg (fun z => some (Value.bool z)) (by first | exact (decide_eq_true (by omega)).symm | exact (decide_eq_false (by omega)).symm | exact decide_eq_decide.2 (by omega))), trivial⟩, M.sel [0, 1, 2, 3, 4] Y Y⟩)
   refine wp_seq_k fun K26 hK26=> wp_region_lit <| sw G Y Y Y (R.as (u := .bool (decide (c = 4 ∨ c = 5 ∨ c = 16))) (R.eql (G.ev Y) (G.ev Y)) (congrArg Value.bool (decide_eq_decide.2 (by omega)))) fun a G=> av G Y Y fun a G=> s0 <| then_n (hK26 _ _ <| cD G Y (fun c5=> ?_) (fun c5=> ?_))
   ·have hp : hasP c := by unfold hasP; omega
    have hmo := most_c c; have hle := least_c c; have hdg := dg_c ((prs (wl.getD 1 [])).getD 0)
    refine wp_seq_k fun K27 hK27=> wp_region_lit <| mv G Y Y fun a G=> sw G Y Y Y (R.indexO Tryz.underlying108 sz9 (G.ev Y) (by simp) (G.ev Y) (by omega) (by omega)) fun a G=> sw G Y Y Y (R.loadO one9 (G.ev Y) (hW.old M) (strs_at (i := 1) (by omega) (by omega))) fun a G=> so (wn Y) (O.call Y Y G ent113 (G.evs Y) M (parse_l hB1 _) fun v s142 a w hR G M=> ?_)
    obtain ⟨rfl, rfl⟩ := hR
    refine mv G Y Y fun a G=> xv G Y Y Y fun a G=> xv G Y Y Y fun a G=> so (wn Y) (O.alloc Y Y G ze32 Y M fun b17 a w G M=> ?_)
    refine so (wn Y) (O.storeW sz32 (G.ev Y) (G.ev Y) (Y) Y (by simp [Value.oneCell']) M .h (Y) fun w M=> ?_)
    refine av G Y Y fun a G=> s0 <| then_n (hK27 _ _ <| wp_seq_k fun K28 hK28=> wp_seq_k fun K29 hK29=> ?_)
    have hK29' : ∀ a w, (Fr 214 [(0, .pointer (some ⟨ba, 0, none⟩)), (1, .slice (some ⟨wk, 0, none⟩) n n), (17, .pointer (some ⟨b17, 0, none⟩)), (170, .bool (decide ((prs (wl.getD 1 [])).isSome = false ∨ mostN c < ((prs (wl.getD 1 [])).getD 0) ∨ ((prs (wl.getD 1 [])).getD 0) < leastN c)))] a ∧ St w0 (s.map (·.1)) [[(b17, Cel (wc ((prs (wl.getD 1 [])).getD 0)) 32)], [(ba, Cel (asmC A93 (lenN acc + 1) c93 bm J (jmps acc 0).length dj) 120)], [(bm, .map es cnt)], s93, zj] w) → K29 a w := by
     rintro a w ⟨G, M⟩
     refine hK29 _ _ ?_
     refine cD G Y (fun c6=> ?_) (fun c6=> ?_)
     ·refine wp_seq_k fun K30 hK30=> wp_region_lit <| av G Y Y fun a G=> s0 <| then_n (hK30 _ _ <| wp_ret (then_r (blk_r (then_r (hR _ _ _ _ _ G (run_results Tryz.results59 (.t G Y (.nil))) ?_)))))
      rcases c6 with c6 | c6
      ·exact ⟨_, [], Y, line_bad Y (hU.trans (ins_4 hgd hp (by omega) c6)), M.none⟩
      (cases hs : (prs (wl.getD 1 [])).isSome with | false => exact ⟨_, [], rfl, line_bad rfl (hU.trans (ins_4 hgd hp (by omega) hs)), M.none⟩ | true => exact ⟨_, [], rfl, line_bad rfl (hU.trans ((ins_6 hgd hp (by omega) hs (by omega)).trans (if_pos c6))), M.none⟩)
     have hs : (prs (wl.getD 1 [])).isSome = true := by (cases h : (prs (wl.getD 1 [])).isSome with | false => exact absurd (.inl h) c6 | true => rfl)
     have hb6 : ¬ (mostN c < ((prs (wl.getD 1 [])).getD 0) ∨ ((prs (wl.getD 1 [])).getD 0) < leastN c) := fun h => c6 (.inr h)
     have hml := most_le c
     refine wp_skip <| then_n (hK28 _ _ <| wp_draw2G M (M.sel [0] Y Y) [(0, 0), (1, 0), (2, 0), (3, 0), (5, 0), (6, 1), (7, 0)] [[(4, 2), (8, 2), (9, 2), (10, 0), (11, 0), (12, 2)], [(8, 2), (4, 2), (9, 2), (10, 0), (11, 0), (12, 2)]] mix (by kernel_rfl) (hP.then.block) fun w M hD=> ?_)
     refine dm G Y Y Y fun a G=> dm G Y Y Y fun a G=> dv G Y Y Y Y (fun w=> R.nilCheck (G.ev Y)) fun a G=> dv G Y Y Y Y (fun w=> R.fieldAddr (k := 0) Tryz.underlying120 Y nz22 (G.ev Y) Y) fun a G=> dv G Y Y Y Y (fun w=> R.indexA Tryz.underlying32 sz30 (G.ev Y) (G.ev Y) (by omega) (by omega)) fun a G=> ds G Y Y Y Y hD (fun w hD=> R.load one30 (G.ev Y) hD .h (Y)) fun a G=> ?_
     refine dv G Y Y Y Y (fun w=> R.as (u := .int .u8 ((((prs (wl.getD 1 [])).getD 0) : Nat) : Int)) (R.convB (p := dg ((prs (wl.getD 1 [])).getD 0) 0) Tryz.underlying30 Tryz.underlying5 (G.ev Y)) (congrArg (fun z : Nat=> Value.int .u8 (z : Int)) (small_dg (by omega)))) fun a G=> d0 <| alts2 ?_ ?_
     ·refine dl Y (wn Y) (O.val G Y Y (R.load one22 (G.ev Y) M (.t .h) (Y)) fun a G=> ⟨id, ?_⟩)
      refine dl Y (wn Y) (O.buildSlice (l := [_]) Y Y G Tryz.underlying22 inf5 Y Y (G.evp Y) (by decide) Y M fun b179 a w G M=> ⟨fun hD=> M.sel [1] Y Y, ?_⟩)
      have hD := M.sel [1] rfl rfl
      refine dl Y (wn Y) (O.append Y Y G Tryz.underlying22 inf5 Y Y (by decide) (G.ev Y) (G.ev Y) M hO93 (fun _=> (.t (.t (.t (.t .h))))) (Rd.own0 M .h) (Y) (by simp [Value.oneCell']) (by unfold maxLen; omega) (by omega) fun A180 c180 s180 a w hO180 G M=> ⟨fun hD=> M.sel [1] Y Y, ?_⟩)
      have hD := M.sel [1] rfl rfl
      refine dv G Y Y Y Y (fun w=> R.nilCheck (G.ev Y)) fun a G=> dv G Y Y Y Y (fun w=> R.fieldAddr (k := 0) Tryz.underlying120 Y nz22 (G.ev Y) Y) fun a G=> ?_
      refine dl Y (wn Y) (O.store sz22 (G.ev Y) (G.ev Y) Y Y M (.t (.t .h)) (Y) (by first | decide | omega | (show _ < 59; decide) | (show _ < 3; decide) | simp) fun w M=> ⟨fun hD=> M.sel [1] Y Y, ?_⟩)
      have hD := M.sel [1] rfl rfl
      refine d0 <| blk_n <| then_n (hK14 _ _ <| wp_seq_k fun K31 hK31=> wp_region_lit <| av G Y Y fun a G=> s0 <| then_n (hK31 _ _ <| wp_ret (hR _ _ _ _ _ G (run_results Tryz.results59 (.t G Y (.nil))) ?_)))
      obtain ⟨s', h1, h2⟩ := close_ins (x := ⟨[], c, [c, ((prs (wl.getD 1 [])).getD 0)], []⟩) ln (by simp only; omega) rfl (M.sel [2, 3, 4, 5] rfl rfl) rfl (by simpa [byts, FB] using hO180) rfl hJ hM
      exact ⟨_, s', Y, line_ins Y (hU.trans ((ins_6 hgd hp (by omega) hs (by omega)).trans (if_neg hb6))) (by simp only; omega) h1, h2⟩
     refine dl Y (wn Y) (O.buildSlice (l := [_]) Y Y G Tryz.underlying22 inf5 Y Y (G.evp Y) (by decide) Y M fun b179 a w G M=> ⟨fun hD=> M.sel [1] Y Y, ?_⟩)
     have hD := M.sel [1] rfl rfl
     refine dl Y (wn Y) (O.val G Y Y (R.load one22 (G.ev Y) M (.t (.t .h)) (Y)) fun a G=> ⟨id, ?_⟩)
     refine dl Y (wn Y) (O.append Y Y G Tryz.underlying22 inf5 Y Y (by decide) (G.ev Y) (G.ev Y) M hO93 (fun _=> (.t (.t (.t (.t .h))))) (Rd.own0 M .h) (Y) (by simp [Value.oneCell']) (by unfold maxLen; omega) (by omega) fun A180 c180 s180 a w hO180 G M=> ⟨fun hD=> M.sel [1] Y Y, ?_⟩)
     have hD := M.sel [1] rfl rfl
     refine dv G Y Y Y Y (fun w=> R.nilCheck (G.ev Y)) fun a G=> dv G Y Y Y Y (fun w=> R.fieldAddr (k := 0) Tryz.underlying120 Y nz22 (G.ev Y) Y) fun a G=> ?_
     refine dl Y (wn Y) (O.store sz22 (G.ev Y) (G.ev Y) Y Y M (.t (.t .h)) (Y) (by first | decide | omega | (show _ < 59; decide) | (show _ < 3; decide) | simp) fun w M=> ⟨fun hD=> M.sel [1] Y Y, ?_⟩)
     have hD := M.sel [1] rfl rfl
     refine d0 <| blk_n <| then_n (hK14 _ _ <| wp_seq_k fun K32 hK32=> wp_region_lit <| av G Y Y fun a G=> s0 <| then_n (hK32 _ _ <| wp_ret (hR _ _ _ _ _ G (run_results Tryz.results59 (.t G Y (.nil))) ?_)))
     obtain ⟨s', h1, h2⟩ := close_ins (x := ⟨[], c, [c, ((prs (wl.getD 1 [])).getD 0)], []⟩) ln (by simp only; omega) rfl (M.sel [2, 3, 4, 5] rfl rfl) rfl (by simpa [byts, FB] using hO180) rfl hJ hM
     exact ⟨_, s', Y, line_ins Y (hU.trans ((ins_6 hgd hp (by omega) hs (by omega)).trans (if_neg hb6))) (by simp only; omega) h1, h2⟩
    refine wp_drawS M [(0, 0), (1, 0), (2, 0), (3, 1), (4, 2), (5, 2), (6, 0), (7, 0), (8, 0), (9, 0), (10, 0), (11, 0), (12, 0), (13, 1), (14, 0), (15, 0), (16, 0), (17, 0), (18, 0), (19, 0), (20, 0), (21, 0), (22, 1), (23, 0), (24, 0), (25, 0)] mix (by kernel_rfl) (hP.then.block.then.then) fun w M=> ?_
    have hD := M
    refine dm G Y Y Y fun a G=> dv G Y Y Y Y (fun w=> R.as (u := .bool (decide ((prs (wl.getD 1 [])).isSome = false))) (R.neq (G.ev Y) (G.ev Y)) (err_21 _)) fun a G=> dm G Y Y Y fun a G=> G.splitD (t := 147) Y (fun h147 G=> ?_) (fun h147 G=> ?_)
    ·refine dk1 G Y (ws G Y Y Y Y) Y Y hD fun a G=> ?_
     refine dk2 G Y (ws G Y Y Y Y) Y Y fun a G=> ?_
     refine dk2 G Y (ws G Y Y Y Y) Y Y fun a G=> ?_
     refine dk G Y (ws G Y Y Y Y) Y Y fun a G=> dv G Y Y Y Y (fun w=> R.pickT (G.ev Y) (G.ev Y)) fun a G=> dm G Y Y Y fun a G=> dk G Y (ws G Y Y Y Y) Y Y fun a G=> dk G Y (ws G Y Y Y Y) Y Y fun a G=> dk G Y (ws G Y Y Y Y) Y Y fun a G=> dk G Y (wu G Y Y Y) Y Y fun a G=> dk1 G Y (wu G Y Y Y) Y Y hD fun a G=> ?_
     refine dk G Y (wu G Y Y Y) Y Y fun a G=> dk G Y (ws G Y Y Y Y) Y Y fun a G=> dv G Y Y Y Y (fun w=> R.pickT (G.ev Y) (G.ev Y)) fun a G=> dm G Y Y Y fun a G=> dk G Y (ws G Y Y Y Y) Y Y fun a G=> dk G Y (ws G Y Y Y Y) Y Y fun a G=> dk G Y (ws G Y Y Y Y) Y Y fun a G=> dk G Y (wu G Y Y Y) Y Y fun a G=> dk1 G Y (wu G Y Y Y) Y Y hD fun a G=> ?_
     refine dk G Y (wu G Y Y Y) Y Y fun a G=> dk G Y (ws G Y Y Y Y) Y Y fun a G=> dv G Y Y Y Y (fun w=> R.pickT (G.ev Y) (G.ev Y)) fun a G=> d0 ?_
     exact then_n (hK29' _ _ ⟨G.sub ⟨rfl, rfl, rfl, (congrArg (fun z => some (Value.bool z)) (by first | exact (decide_eq_true (Or.inl h147)).symm | exact (decide_eq_true (Or.inr (by omega))).symm | exact (decide_eq_false (fun h => by rcases h with h | h; exact absurd h h147; omega)).symm | exact decide_eq_decide.2 ⟨fun h => .inr (by omega), fun h => by rcases h with h | h; exact absurd h h147; omega⟩)), trivial⟩, M.sel [0, 4, 5, 6, 7] rfl rfl⟩)
    refine dr G Y (wy G Y Y Y) Y Y hD (fun w hD=> R.loadW agg32 (G.ev Y) hD .h sz32 (Y)) fun a G=> ?_
    refine dl Y (wy G Y Y Y) (O.call Y Y G ent116 (G.evs Y) M (of_calls 255 _ (by decide)) fun v s149 a w hR G M=> ⟨fun hD=> M.tail, ?_⟩)
    obtain ⟨rfl, rfl⟩ := hR
    have hD := M.tail
    refine dl Y (wy G Y Y Y) (O.call Y Y G ent115 (G.evs Y) M (cmp_calls ((prs (wl.getD 1 [])).getD 0) 255 _ (prs_lt0 (wl.getD 1 [])) (by decide)) fun v s150 a w hR G M=> ⟨fun hD=> M.tail.tail, ?_⟩)
    obtain ⟨rfl, rfl⟩ := hR
    have hD := M.tail.tail
    refine dq G Y (wy G Y Y Y) Y Y (fun w=> R.as (u := .bool (decide (255 < ((prs (wl.getD 1 [])).getD 0)))) (R.gtr (G.ev Y) (G.ev Y)) (congrArg Value.bool (decide_eq_decide.2 cmpN_gt))) fun a G=> dv G Y Y Y Y (fun w=> R.pickF (G.ev Y) (G.ev Y)) fun a G=> dm G Y Y Y fun a G=> G.splitD (t := 153) Y (fun h153 G=> ?_) (fun h153 G=> ?_)
    ·refine dk G Y (ws G Y Y Y Y) Y Y fun a G=> dk G Y (ws G Y Y Y Y) Y Y fun a G=> dk G Y (ws G Y Y Y Y) Y Y fun a G=> dk G Y (wu G Y Y Y) Y Y fun a G=> dk1 G Y (wu G Y Y Y) Y Y hD fun a G=> ?_
     refine dk G Y (wu G Y Y Y) Y Y fun a G=> dk G Y (ws G Y Y Y Y) Y Y fun a G=> dv G Y Y Y Y (fun w=> R.pickT (G.ev Y) (G.ev Y)) fun a G=> dm G Y Y Y fun a G=> dk G Y (ws G Y Y Y Y) Y Y fun a G=> dk G Y (ws G Y Y Y Y) Y Y fun a G=> dk G Y (ws G Y Y Y Y) Y Y fun a G=> dk G Y (wu G Y Y Y) Y Y fun a G=> dk1 G Y (wu G Y Y Y) Y Y hD fun a G=> ?_
     refine dk G Y (wu G Y Y Y) Y Y fun a G=> dk G Y (ws G Y Y Y Y) Y Y fun a G=> dv G Y Y Y Y (fun w=> R.pickT (G.ev Y) (G.ev Y)) fun a G=> d0 ?_
     exact then_n (hK29' _ _ ⟨G.sub ⟨rfl, rfl, rfl, (congrArg (fun z => some (Value.bool z)) (by first | exact (decide_eq_true (Or.inl h147)).symm | exact (decide_eq_true (Or.inr (by omega))).symm | exact (decide_eq_false (fun h => by rcases h with h | h; exact absurd h h147; omega)).symm | exact decide_eq_decide.2 ⟨fun h => .inr (by omega), fun h => by rcases h with h | h; exact absurd h h147; omega⟩)), trivial⟩, M.sel [2, 6, 7, 8, 9] rfl rfl⟩)
    refine dq G Y (wy G Y Y Y) Y Y (fun w=> R.move (G.ev Y)) fun a G=> dq G Y (wy G Y Y Y) Y Y (fun w=> R.neq (G.ev Y) (G.ev Y)) fun a G=> dq G Y (wy G Y Y Y) Y Y (fun w=> R.move (G.ev Y)) fun a G=> G.splitD (t := 156) Y (fun h156 G=> ?_) (fun h156 G=> ?_)
    ·refine dq G Y (wy G Y Y Y) Y Y (fun w=> R.indexA Tryz.underlying32 sz30 (G.ev Y) (G.ev Y) (by omega) (by omega)) fun a G=> dr G Y (wy G Y Y Y) Y Y hD (fun w hD=> R.load one30 (G.ev Y) hD .h (Y)) fun a G=> ?_
     refine dq G Y (wy G Y Y Y) Y Y (fun w=> R.gtr (G.ev Y) (G.ev Y)) fun a G=> dq G Y (wy G Y Y Y) Y Y (fun w=> R.pickT (G.ev Y) (G.ev Y)) fun a G=> dv G Y Y Y Y (fun w=> R.pickF (G.ev Y) (G.ev Y)) fun a G=> dm G Y Y Y fun a G=> G.splitD (t := 162) Y (fun h162 G=> ?_) (fun h162 G=> ?_)
     ·refine dk G Y (ws G Y Y Y Y) Y Y fun a G=> dk G Y (ws G Y Y Y Y) Y Y fun a G=> dk G Y (ws G Y Y Y Y) Y Y fun a G=> dk G Y (wu G Y Y Y) Y Y fun a G=> dk1 G Y (wu G Y Y Y) Y Y hD fun a G=> ?_
      refine dk G Y (wu G Y Y Y) Y Y fun a G=> dk G Y (ws G Y Y Y Y) Y Y fun a G=> dv G Y Y Y Y (fun w=> R.pickT (G.ev Y) (G.ev Y)) fun a G=> d0 ?_
      exact then_n (hK29' _ _ ⟨G.sub ⟨rfl, rfl, rfl, (congrArg (fun z => some (Value.bool z)) (by first | exact (decide_eq_true (Or.inl h147)).symm | exact (decide_eq_true (Or.inr (by omega))).symm | exact (decide_eq_false (fun h => by rcases h with h | h; exact absurd h h147; omega)).symm | exact decide_eq_decide.2 ⟨fun h => .inr (by omega), fun h => by rcases h with h | h; exact absurd h h147; omega⟩)), trivial⟩, M.sel [2, 6, 7, 8, 9] rfl rfl⟩)
     refine dq G Y (wy G Y Y Y) Y Y (fun w=> R.move (G.ev Y)) fun a G=> dq G Y (wy G Y Y Y) Y Y (fun w=> R.eql (G.ev Y) (G.ev Y)) fun a G=> dq G Y (wy G Y Y Y) Y Y (fun w=> R.move (G.ev Y)) fun a G=> G.splitD (t := 165) Y (fun h165 G=> ?_) (fun h165 G=> ?_)
     ·refine dq G Y (wy G Y Y Y) Y Y (fun w=> R.indexA Tryz.underlying32 sz30 (G.ev Y) (G.ev Y) (by omega) (by omega)) fun a G=> dr G Y (wy G Y Y Y) Y Y hD (fun w hD=> R.load one30 (G.ev Y) hD .h (Y)) fun a G=> ?_
      refine dq G Y (wy G Y Y Y) Y Y (fun w=> R.eql (G.ev Y) (G.ev Y)) fun a G=> dq G Y (wy G Y Y Y) Y Y (fun w=> R.pickT (G.ev Y) (G.ev Y)) fun a G=> dv G Y Y Y Y (fun w=> R.pickF (G.ev Y) (G.ev Y)) fun a G=> d0 ?_
      exact then_n (hK29' _ _ ⟨G.sub ⟨rfl, rfl, rfl, (congrArg (fun z => some (Value.bool z)) (by first | exact (decide_eq_true (Or.inl h147)).symm | exact (decide_eq_true (Or.inr (by omega))).symm | exact (decide_eq_false (fun h => by rcases h with h | h; exact absurd h h147; omega)).symm | exact decide_eq_decide.2 ⟨fun h => .inr (by omega), fun h => by rcases h with h | h; exact absurd h h147; omega⟩)), trivial⟩, M.sel [2, 6, 7, 8, 9] rfl rfl⟩)
     refine dk G Y (ws G Y Y Y Y) Y Y fun a G=> dk1 G Y (ws G Y Y Y Y) Y Y hD fun a G=> ?_
     refine dk G Y (ws G Y Y Y Y) Y Y fun a G=> dq G Y (wy G Y Y Y) Y Y (fun w=> R.pickF (G.ev Y) (G.ev Y)) fun a G=> dv G Y Y Y Y (fun w=> R.pickF (G.ev Y) (G.ev Y)) fun a G=> d0 ?_
     exact then_n (hK29' _ _ ⟨G.sub ⟨rfl, rfl, rfl, (congrArg (fun z => some (Value.bool z)) (by first | exact (decide_eq_true (Or.inl h147)).symm | exact (decide_eq_true (Or.inr (by omega))).symm | exact (decide_eq_false (fun h => by rcases h with h | h; exact absurd h h147; omega)).symm | exact decide_eq_decide.2 ⟨fun h => .inr (by omega), fun h => by rcases h with h | h; exact absurd h h147; omega⟩)), trivial⟩, M.sel [2, 6, 7, 8, 9] rfl rfl⟩)
    refine dk G Y (ws G Y Y Y Y) Y Y fun a G=> dk1 G Y (ws G Y Y Y Y) Y Y hD fun a G=> ?_
    refine dk G Y (ws G Y Y Y Y) Y Y fun a G=> dq G Y (wy G Y Y Y) Y Y (fun w=> R.pickF (G.ev Y) (G.ev Y)) fun a G=> dv G Y Y Y Y (fun w=> R.pickF (G.ev Y) (G.ev Y)) fun a G=> dm G Y Y Y fun a G=> dq G Y (wy G Y Y Y) Y Y (fun w=> R.move (G.ev Y)) fun a G=> dq G Y (wy G Y Y Y) Y Y (fun w=> R.eql (G.ev Y) (G.ev Y)) fun a G=> dq G Y (wy G Y Y Y) Y Y (fun w=> R.move (G.ev Y)) fun a G=> G.splitD (t := 165) Y (fun h165 G=> ?_) (fun h165 G=> ?_)
    ·refine dq G Y (wy G Y Y Y) Y Y (fun w=> R.indexA Tryz.underlying32 sz30 (G.ev Y) (G.ev Y) (by omega) (by omega)) fun a G=> dr G Y (wy G Y Y Y) Y Y hD (fun w hD=> R.load one30 (G.ev Y) hD .h (Y)) fun a G=> ?_
     refine dq G Y (wy G Y Y Y) Y Y (fun w=> R.eql (G.ev Y) (G.ev Y)) fun a G=> dq G Y (wy G Y Y Y) Y Y (fun w=> R.pickT (G.ev Y) (G.ev Y)) fun a G=> dv G Y Y Y Y (fun w=> R.pickF (G.ev Y) (G.ev Y)) fun a G=> d0 ?_
     exact then_n (hK29' _ _ ⟨G.sub ⟨rfl, rfl, rfl, (congrArg (fun z => some (Value.bool z)) (by first | exact (decide_eq_true (Or.inl h147)).symm | exact (decide_eq_true (Or.inr (by omega))).symm | exact (decide_eq_false (fun h => by rcases h with h | h; exact absurd h h147; omega)).symm | exact decide_eq_decide.2 ⟨fun h => .inr (by omega), fun h => by rcases h with h | h; exact absurd h h147; omega⟩)), trivial⟩, M.sel [2, 6, 7, 8, 9] rfl rfl⟩)
    refine dk G Y (ws G Y Y Y Y) Y Y fun a G=> dk1 G Y (ws G Y Y Y Y) Y Y hD fun a G=> ?_
    refine dk G Y (ws G Y Y Y Y) Y Y fun a G=> dq G Y (wy G Y Y Y) Y Y (fun w=> R.pickF (G.ev Y) (G.ev Y)) fun a G=> dv G Y Y Y Y (fun w=> R.pickF (G.ev Y) (G.ev Y)) fun a G=> d0 ?_
    exact then_n (hK29' _ _ ⟨G.sub ⟨rfl, rfl, rfl, (congrArg (fun z => some (Value.bool z)) (by first | exact (decide_eq_true (Or.inl h147)).symm | exact (decide_eq_true (Or.inr (by omega))).symm | exact (decide_eq_false (fun h => by rcases h with h | h; exact absurd h h147; omega)).symm | exact decide_eq_decide.2 ⟨fun h => .inr (by omega), fun h => by rcases h with h | h; exact absurd h h147; omega⟩)), trivial⟩, M.sel [2, 6, 7, 8, 9] rfl rfl⟩)
   refine wp_seq_k fun K33 hK33=> wp_region_lit <| sw G Y Y Y (R.as (u := .bool (decide (c = 14 ∨ c = 15))) (R.eql (G.ev Y) (G.ev Y)) (congrArg Value.bool (decide_eq_decide.2 (by omega)))) fun a G=> av G Y Y fun a G=> s0 <| then_n (hK33 _ _ <| cD G Y (fun c7=> ?_) (fun c7=> ?_))
   ·have hp : hasP c := by unfold hasP; omega
    refine wp_seq_k fun K34 hK34=> wp_seq_k fun K35 hK35=> wp_region_lit <| mv G Y Y fun a G=> sw G Y Y Y (R.indexO Tryz.underlying108 sz9 (G.ev Y) (by simp) (G.ev Y) (by omega) (by omega)) fun a G=> sw G Y Y Y (R.loadO one9 (G.ev Y) (hW.old M) (strs_at (i := 1) (by omega) (by omega))) fun a G=> so (wn Y) (O.call Y Y G ent111 (G.evs Y) M (isLabel_l hB1 _) fun v s188 a w hR G M=> ?_)
    obtain ⟨rfl, rfl⟩ := hR
    refine sw G Y Y Y (R.as (u := .bool (decide (okL (wl.getD 1 []) = false))) (R.not (G.ev Y)) (by cases okL (wl.getD 1 []) <;> rfl)) fun a G=> s0 <| then_n (hK35 _ _ <| cD G Y (fun c8=> ?_) (fun c8=> ?_))
    ·refine wp_seq_k fun K36 hK36=> wp_region_lit <| av G Y Y fun a G=> s0 <| then_n (hK36 _ _ <| wp_ret (then_r (blk_r (then_r (hR _ _ _ _ _ G (run_results Tryz.results59 (.t G Y (.nil))) ?_)))))
     exact ⟨_, [], Y, line_bad Y (hU.trans ((ins_3 hgd hp c7).trans (if_neg (by rw [c8]; decide)))), M.none⟩
    have hk : okL (wl.getD 1 []) = true := by (cases h : okL (wl.getD 1 []) with | false => exact absurd h c8 | true => rfl)
    refine wp_skip <| then_n (hK34 _ _ <| wp_seq_k fun K37 hK37=> wp_draw2G M (M.sel [] Y Y) [(0, 0), (1, 0), (2, 0), (3, 0), (5, 0), (6, 0), (7, 1), (8, 0), (9, 0), (10, 0)] [[(4, 2), (11, 2), (12, 2), (13, 0), (14, 0), (15, 2)], [(11, 2), (4, 2), (12, 2), (13, 0), (14, 0), (15, 2)]] mix (by kernel_rfl) (hP.then.block.then) fun w M hD=> ?_)
    refine dm G Y Y Y fun a G=> dm G Y Y Y fun a G=> dv G Y Y Y Y (fun w=> R.nilCheck (G.ev Y)) fun a G=> dv G Y Y Y Y (fun w=> R.fieldAddr (k := 2) Tryz.underlying120 Y nz118 (G.ev Y) Y) fun a G=> dm G Y Y Y fun a G=> dv G Y Y Y Y (fun w=> R.indexO Tryz.underlying108 sz9 (G.ev Y) (by simp) (G.ev Y) (by omega) (by omega)) fun a G=> ds G Y Y Y Y hD (fun w hD=> R.loadO one9 (G.ev Y) (hW.old hD) (strs_at (i := 1) (by omega) (by omega))) fun a G=> ?_
    refine dm G Y Y Y fun a G=> dm G Y Y Y fun a G=> dv G Y Y Y Y (fun w=> R.buildStr (l := [_, _, _]) Tryz.underlying124 ze124 pl124 (G.evp Y) Y) fun a G=> d0 <| alts2 ?_ ?_
    ·refine dl Y (wn Y) (O.val G Y Y (R.load one118 (G.ev Y) M (.t (.t (.t .h))) (Y)) fun a G=> ⟨id, ?_⟩)
     refine dl Y (wn Y) (O.buildSlice (l := [_, _, _]) Y Y G Tryz.underlying118 inf124 Y Y (G.evp Y) (by decide) Y M fun b201 a w G M=> ⟨fun hD=> M.sel [] Y Y, ?_⟩)
     have hD := M.sel [] rfl rfl
     refine dl Y (wn Y) (O.append Y Y G Tryz.underlying118 inf124 Y Y (by decide) (G.ev Y) (G.ev Y) M hJ (fun _=> (.t (.t (.t (.t (.t (.t (.t .h)))))))) (Rd.own0 M .h) (Y) (by simp [Value.oneCell']) (by unfold maxLen; omega) (by omega) fun A202 c202 s202 a w hO202 G M=> ⟨fun hD=> M.sel [] Y Y, ?_⟩)
     have hD := M.sel [] rfl rfl
     refine dv G Y Y Y Y (fun w=> R.nilCheck (G.ev Y)) fun a G=> dv G Y Y Y Y (fun w=> R.fieldAddr (k := 2) Tryz.underlying120 Y nz118 (G.ev Y) Y) fun a G=> ?_
     refine dl Y (wn Y) (O.store sz118 (G.ev Y) (G.ev Y) Y Y M (.t (.t (.t (.t .h)))) (Y) (by first | decide | omega | (show _ < 59; decide) | (show _ < 3; decide) | simp) fun w M=> ⟨fun hD=> M.sel [] Y Y, ?_⟩)
     have hD := M.sel [] rfl rfl
     refine d0 <| then_n (hK37 _ _ <| wp_region_lit <| mv G Y Y fun a G=> mv G Y Y fun a G=> sw G Y Y Y (R.nilCheck (G.ev Y)) fun a G=> sw G Y Y Y (R.fieldAddr (k := 0) Tryz.underlying120 Y nz22 (G.ev Y) Y) fun a G=> sw G Y Y Y (R.load one22 (G.ev Y) M (.t (.t (.t (.t .h)))) (Y)) fun a G=> so (wn Y) (O.buildSlice (l := [_, _]) Y Y G Tryz.underlying22 inf5 Y Y (G.evp Y) (by decide) Y M fun b210 a w G M=> ?_))
     refine so (wn Y) (O.append Y Y G Tryz.underlying22 inf5 Y Y (by decide) (G.ev Y) (G.ev Y) M hO93 (fun _=> (.t (.t (.t (.t (.t (.t (.t .h)))))))) (Rd.own0 M .h) (Y) (by simp [Value.oneCell']) (by unfold maxLen; omega) (by omega) fun A211 c211 s211 a w hO211 G M=> ?_)
     refine sw G Y Y Y (R.nilCheck (G.ev Y)) fun a G=> sw G Y Y Y (R.fieldAddr (k := 0) Tryz.underlying120 Y nz22 (G.ev Y) Y) fun a G=> ?_
     refine so (wn Y) (O.store sz22 (G.ev Y) (G.ev Y) Y Y M (.t (.t (.t (.t (.t .h))))) (Y) (by first | decide | omega | (show _ < 59; decide) | (show _ < 3; decide) | simp) fun w M=> ?_)
     refine s0 <| blk_n <| then_n (hK14 _ _ <| wp_seq_k fun K38 hK38=> wp_region_lit <| av G Y Y fun a G=> s0 <| then_n (hK38 _ _ <| wp_ret (hR _ _ _ _ _ G (run_results Tryz.results59 (.t G Y (.nil))) ?_)))
     obtain ⟨s', h1, h2⟩ := close_jmp (x := ⟨[], c, [c, 0, 0], (wl.getD 1 [])⟩) ln (by simp only; omega) (okLto hk) (M.sel [5, 6, 7, 8] rfl rfl) rfl (by simpa [byts, FB] using hO211) rfl hO202 hM
     exact ⟨_, s', Y, line_ins Y (hU.trans ((ins_3 hgd hp c7).trans (if_pos hk))) (by simp only; omega) h1, h2⟩
    refine dl Y (wn Y) (O.buildSlice (l := [_, _, _]) Y Y G Tryz.underlying118 inf124 Y Y (G.evp Y) (by decide) Y M fun b201 a w G M=> ⟨fun hD=> M.sel [] Y Y, ?_⟩)
    have hD := M.sel [] rfl rfl
    refine dl Y (wn Y) (O.val G Y Y (R.load one118 (G.ev Y) M (.t (.t (.t (.t .h)))) (Y)) fun a G=> ⟨id, ?_⟩)
    refine dl Y (wn Y) (O.append Y Y G Tryz.underlying118 inf124 Y Y (by decide) (G.ev Y) (G.ev Y) M hJ (fun _=> (.t (.t (.t (.t (.t (.t (.t .h)))))))) (Rd.own0 M .h) (Y) (by simp [Value.oneCell']) (by unfold maxLen; omega) (by omega) fun A202 c202 s202 a w hO202 G M=> ⟨fun hD=> M.sel [] Y Y, ?_⟩)
    have hD := M.sel [] rfl rfl
    refine dv G Y Y Y Y (fun w=> R.nilCheck (G.ev Y)) fun a G=> dv G Y Y Y Y (fun w=> R.fieldAddr (k := 2) Tryz.underlying120 Y nz118 (G.ev Y) Y) fun a G=> ?_
    refine dl Y (wn Y) (O.store sz118 (G.ev Y) (G.ev Y) Y Y M (.t (.t (.t (.t .h)))) (Y) (by first | decide | omega | (show _ < 59; decide) | (show _ < 3; decide) | simp) fun w M=> ⟨fun hD=> M.sel [] Y Y, ?_⟩)
    have hD := M.sel [] rfl rfl
    refine d0 <| then_n (hK37 _ _ <| wp_region_lit <| mv G Y Y fun a G=> mv G Y Y fun a G=> sw G Y Y Y (R.nilCheck (G.ev Y)) fun a G=> sw G Y Y Y (R.fieldAddr (k := 0) Tryz.underlying120 Y nz22 (G.ev Y) Y) fun a G=> sw G Y Y Y (R.load one22 (G.ev Y) M (.t (.t (.t (.t .h)))) (Y)) fun a G=> so (wn Y) (O.buildSlice (l := [_, _]) Y Y G Tryz.underlying22 inf5 Y Y (G.evp Y) (by decide) Y M fun b210 a w G M=> ?_))
    refine so (wn Y) (O.append Y Y G Tryz.underlying22 inf5 Y Y (by decide) (G.ev Y) (G.ev Y) M hO93 (fun _=> (.t (.t (.t (.t (.t (.t (.t .h)))))))) (Rd.own0 M .h) (Y) (by simp [Value.oneCell']) (by unfold maxLen; omega) (by omega) fun A211 c211 s211 a w hO211 G M=> ?_)
    refine sw G Y Y Y (R.nilCheck (G.ev Y)) fun a G=> sw G Y Y Y (R.fieldAddr (k := 0) Tryz.underlying120 Y nz22 (G.ev Y) Y) fun a G=> ?_
    refine so (wn Y) (O.store sz22 (G.ev Y) (G.ev Y) Y Y M (.t (.t (.t (.t (.t .h))))) (Y) (by first | decide | omega | (show _ < 59; decide) | (show _ < 3; decide) | simp) fun w M=> ?_)
    refine s0 <| blk_n <| then_n (hK14 _ _ <| wp_seq_k fun K39 hK39=> wp_region_lit <| av G Y Y fun a G=> s0 <| then_n (hK39 _ _ <| wp_ret (hR _ _ _ _ _ G (run_results Tryz.results59 (.t G Y (.nil))) ?_)))
    obtain ⟨s', h1, h2⟩ := close_jmp (x := ⟨[], c, [c, 0, 0], (wl.getD 1 [])⟩) ln (by simp only; omega) (okLto hk) (M.sel [5, 6, 7, 8] rfl rfl) rfl (by simpa [byts, FB] using hO211) rfl hO202 hM
    exact ⟨_, s', Y, line_ins Y (hU.trans ((ins_3 hgd hp c7).trans (if_pos hk))) (by simp only; omega) h1, h2⟩
   have hp : ¬ hasP c := by unfold hasP; omega
   refine wp_skip <| blk_n <| then_n (hK14 _ _ <| wp_seq_k fun K40 hK40=> wp_region_lit <| av G Y Y fun a G=> s0 <| then_n (hK40 _ _ <| wp_ret (hR _ _ _ _ _ G (run_results Tryz.results59 (.t G Y (.nil))) ?_)))
   obtain ⟨s', h1, h2⟩ := close_ins (x := ⟨[], c, [c], []⟩) ln (by simp only; omega) rfl (M.sel [2, 3, 4, 5] rfl rfl) rfl (own_bsnoc hO93) rfl hJ hM
   exact ⟨_, s', Y, line_ins Y (hU.trans (ins_2 hgd hp)) (by simp only; omega) h1, h2⟩
  refine wp_region_lit <| mv G Y Y fun a G=> ?_
  refine sw G Y Y Y ((by first | exact R.notD (G.ev Y) | exact R.not (G.ev Y))) fun a G=> ?_
  refine mv G Y Y fun a G=> G.splitD (t := 66) Y (fun h66 G=> ?_) (fun h66 G=> ?_)
  ·refine kz G Y Y Y Y Y Y fun a G=> kz G Y Y Y Y Y Y fun a G=> kz G Y Y Y Y Y Y fun a G=> pT G Y Y Y fun a G=> mv G Y Y fun a G=> kz G Y Y Y Y Y Y fun a G=> kz G Y Y Y Y Y Y fun a G=> kz G Y Y Y Y Y Y fun a G=> kz G Y Y Y Y Y Y fun a G=> kz G Y Y Y Y Y Y fun a G=> kz G Y Y Y Y Y Y fun a G=> kz G Y Y Y Y Y Y fun a G=> pT G Y Y Y fun a G=> s0 ?_
   exact then_n (hK10' _ _ ⟨G.sub ⟨Y, Y, Y, Y, (congrArg (fun z => some (Value.bool z)) (by first | exact (decide_eq_true (by omega)).symm | exact (decide_eq_false (by omega)).symm | exact decide_eq_decide.2 (by omega))), trivial⟩, M.sel [1, 2, 3, 4] Y Y⟩)
  rw [if_pos (Classical.not_not.1 h66)] at G
  refine my G Y Y Y Y fun a G=> sv' G (wy G Y Y Y) Y Y (R.len Tryz.underlying108 (G.ev Y)) fun a G=> sv' G (wy G Y Y Y) Y Y (R.gtr (G.ev Y) (G.ev Y)) fun a G=> pF G Y Y Y fun a G=> mv G Y Y fun a G=> G.splitD (t := 71) Y (fun h71 G=> ?_) (fun h71 G=> ?_)
  ·refine kz G Y Y Y Y Y Y fun a G=> kz G Y Y Y Y Y Y fun a G=> kz G Y Y Y Y Y Y fun a G=> kz G Y Y Y Y Y Y fun a G=> kz G Y Y Y Y Y Y fun a G=> kz G Y Y Y Y Y Y fun a G=> kz G Y Y Y Y Y Y fun a G=> pT G Y Y Y fun a G=> s0 ?_
   exact then_n (hK10' _ _ ⟨G.sub ⟨Y, Y, Y, (by rw [if_pos (Classical.not_not.1 h66)]; rfl), (congrArg (fun z => some (Value.bool z)) (by first | exact (decide_eq_true (by omega)).symm | exact (decide_eq_false (by omega)).symm | exact decide_eq_decide.2 (by omega))), trivial⟩, M.sel [1, 2, 3, 4] Y Y⟩)
  refine my G Y Y Y Y fun a G=> so (wy G Y Y Y) (O.call Y Y G ent36 (G.evs Y) M (operandOf_calls (codeN (wl.getD 0 [])) _) fun v s73 a w hR G M=> ?_)
  obtain ⟨rfl, rfl⟩ := hR
  refine sv' G (wy G Y Y Y) Y Y (R.as (u := .bool (decide (codeN (wl.getD 0 []) = 2 ∨ codeN (wl.getD 0 []) = 4 ∨ codeN (wl.getD 0 []) = 5 ∨ codeN (wl.getD 0 []) = 16 ∨ codeN (wl.getD 0 []) = 14 ∨ codeN (wl.getD 0 []) = 15))) (R.neq (G.ev Y) (G.ev Y)) (congrArg Value.bool (decide_eq_decide.2 (by have := operN_spec (codeN (wl.getD 0 [])); unfold operN at *; (repeat' split) <;> omega)))) fun a G=> my G Y Y Y Y fun a G=> sv' G (wy G Y Y Y) Y Y (R.len Tryz.underlying108 (G.ev Y)) fun a G=> sv' G (wy G Y Y Y) Y Y (R.as (u := .bool (decide (n = 2))) (R.eql (G.ev Y) (G.ev Y)) (congrArg Value.bool (decide_eq_decide.2 (by omega)))) fun a G=> sv' G (wy G Y Y Y) Y Y (R.as (u := .bool (decide (¬ ((codeN (wl.getD 0 []) = 2 ∨ codeN (wl.getD 0 []) = 4 ∨ codeN (wl.getD 0 []) = 5 ∨ codeN (wl.getD 0 []) = 16 ∨ codeN (wl.getD 0 []) = 14 ∨ codeN (wl.getD 0 []) = 15) ↔ n = 2)))) (R.neqB (G.ev Y) (G.ev Y) Tryz.underlying4) (neq_has _ _)) fun a G=> pF G Y Y Y fun a G=> s0 ?_
  exact then_n (hK10' _ _ ⟨G.sub ⟨Y, Y, Y, (by rw [if_pos (Classical.not_not.1 h66)]; rfl), (congrArg (fun z => some (Value.bool z)) (by first | exact (decide_eq_true (by omega)).symm | exact (decide_eq_false (by omega)).symm | exact decide_eq_decide.2 (by omega))), trivial⟩, M.sel [2, 3, 4, 5] Y Y⟩)
 refine wp_region_lit <| mv G Y Y fun a G=> mv G Y Y fun a G=> G.splitD (t := 27) Y (fun h27 G=> ?_) (fun h27 G=> ?_)
 ·refine my G Y Y Y Y fun a G=> sv' G (wy G Y Y Y) Y Y (R.len Tryz.underlying108 (G.ev Y)) fun a G=> sv' G (wy G Y Y Y) Y Y (R.eql (G.ev Y) (G.ev Y)) fun a G=> pT G Y Y Y fun a G=> mv G Y Y fun a G=> G.splitD (t := 32) Y (fun h32 G=> ?_) (fun h32 G=> ?_)
  ·refine my G Y Y Y Y fun a G=> so (wy G Y Y Y) (O.call Y Y G ent111 (G.evs Y) M (isLabel_l hBt _) fun v s34 a w hR G M=> ?_)
   obtain ⟨rfl, rfl⟩ := hR
   refine pT G Y Y Y fun a G=> s0 ?_
   exact then_n (hK4' _ _ ⟨G.sub ⟨Y, Y, Y, Y, (congrArg (fun z => some (Value.bool z)) (lab_tt (by omega) h27 (htl h27))), trivial⟩, M.sel [2, 3, 4, 5] Y Y⟩)
  refine kz G Y Y Y Y Y Y fun a G=> kz G Y Y Y Y Y Y fun a G=> pF G Y Y Y fun a G=> s0 ?_
  exact then_n (hK4' _ _ ⟨G.sub ⟨Y, Y, Y, Y, (congrArg (fun z => some (Value.bool z)) (lab_f1 (by omega))), trivial⟩, M.sel [1, 2, 3, 4] Y Y⟩)
 refine kz G Y Y Y Y Y Y fun a G=> kz G Y Y Y Y Y Y fun a G=> kz G Y Y Y Y Y Y fun a G=> pF G Y Y Y fun a G=> mv G Y Y fun a G=> kz G Y Y Y Y Y Y fun a G=> kz G Y Y Y Y Y Y fun a G=> pF G Y Y Y fun a G=> s0 ?_
 exact then_n (hK4' _ _ ⟨G.sub ⟨Y, Y, Y, Y, (congrArg (fun z => some (Value.bool z)) (lab_f2 h27)), trivial⟩, M.sel [1, 2, 3, 4] Y Y⟩)
end Go.Proofs.YtlapmbkfmbkdoaaGreatDoor
end
section
namespace Go.Proofs.YtlapmbkfmbkdoaaGreatDoor
open Go Go.Fw Go.RowKit
attribute [local irreducible] Go.Oper.wp Go.Code.wp Go.wpList Go.Fw.WL Go.Calls
section
variable {P : Program} {w : World} {ρ : Operand → Value} {dst : Option Tmp} {ty : TypeId} {pos : String} {af : Array Edge} {g : Option (Nat × Bool)} {x y : Operand} {T T' : TypeId} {yk : IntKind} {m : Nat}
theorem R.shrI {p : Nat} (hx : ρ x = .int .i64 p) (hy : ρ y = .int yk m) (hm : m ≤ 64) :
    (execOp ρ ⟨dst, .binOp .shr T x y T', ty, pos, af, g⟩).run P w = .ok (.value (.int .i64 ((p / 2 ^ m : Nat) : Int))) w :=
  R.as (R.shift (.inr rfl) hx hy (by
    simp only [Op.shift]
    rw [if_neg (by omega)]
    rfl)) (by
    have : min (Int.toNat (m : Int)) (IntKind.bits .i64) = m := by simp [IntKind.bits]; omega
    rw [this]
    congr 1
    rw [Int.fdiv_eq_ediv_of_nonneg _ (by exact Int.le_of_lt (Int.pow_pos (by omega)))]
    simp)
end
def jd : List Nat × Nat × Nat := ([], 0, 0)
theorem len_jmpC (l : List (List Nat × Nat × Nat)) : (jmpC l).length = l.length * 3 := by
  induction l with
  | nil => rfl
  | cons x r ih => simp only [jmpC, List.flatMap_cons, List.length_append, List.length_cons, List.length_nil] at ih ⊢; rw [ih]; omega
theorem jmp_at {l : List (List Nat × Nat × Nat)} {j off : Nat} (h : j < l.length) (ho : off = j * 3) : ∀ i v, ([.string (bstr (l.getD j jd).1), .int .i64 (((l.getD j jd).2.1 : Nat) : Int), .int .i64 (((l.getD j jd).2.2 : Nat) : Int)] : List Value)[i]? = some v → (jmpC l)[off + i]? = some v := by
  subst ho
  intro i v hv
  have hi : i < 3 := (List.getElem?_eq_some_iff.1 hv).1
  induction l generalizing j with
  | nil => simp at h
  | cons x r ih =>
    cases j with
    | zero =>
      simp only [jmpC, List.flatMap_cons, Nat.zero_mul, Nat.zero_add, List.getD_cons_zero] at hv ⊢
      rw [List.getElem?_append_left (by simpa using hi)]; exact hv
    | succ j =>
      simp only [List.getD_cons_succ] at hv
      have := ih (j := j) (by simpa using h) hv
      rw [← this]
      simp only [jmpC, List.flatMap_cons]
      rw [List.getElem?_append_right (by simp only [List.length_cons, List.length_nil]; omega)]
      congr 1
      simp only [List.length_cons, List.length_nil]; omega
theorem jmp_ok {acc : List (It × Nat)} (h : AccOK acc) : ∀ (p : Nat), ∀ x ∈ jmps acc p, Byt x.1 ∧ x.2.1 + 3 ≤ p + lenN acc := by
  induction acc with
  | nil => intro p x hx; cases hx
  | cons y r ih =>
    intro p x hx
    rw [jmps] at hx
    rw [lenN_cons]
    have hy := h y List.mem_cons_self
    rcases List.mem_append.1 hx with h1 | h1
    · split at h1
      · cases h1
      · rename_i ht
        rw [List.mem_singleton.1 h1]
        have := (hy.1.1 ht).1
        exact ⟨hy.2.2, by simp only; omega⟩
    · have := ih (fun z hz => h z (List.mem_cons_of_mem _ hz)) _ x h1
      exact ⟨this.1, by have := this.2; omega⟩
theorem pat_step {l : List (List Nat × Nat)} {js : List (List Nat × Nat × Nat)} {j p : Nat} {cj : List Nat} (h : j < js.length) (hp : lkp l (js.getD j jd).1 = some p) : patN l (js.drop j) cj = patN l (js.drop (j + 1)) (put2 cj (js.getD j jd).2.1 (min p 1024)) := by
  rw [drop_cons jd js j h, patN, hp]
theorem pat_bad {l : List (List Nat × Nat)} {js : List (List Nat × Nat × Nat)} {j : Nat} {cj : List Nat} (h : j < js.length) (hp : lkp l (js.getD j jd).1 = none) : patN l (js.drop j) cj = .inl (js.getD j jd).2.2 := by
  rw [drop_cons jd js j h, patN, hp]
theorem pat_end {l : List (List Nat × Nat)} {js : List (List Nat × Nat × Nat)} {j : Nat} {cj : List Nat} (h : js.length ≤ j) : patN l (js.drop j) cj = .inr cj := by
  rw [List.drop_of_length_le h, patN]
theorem acc_it {acc : List (It × Nat)} (h : AccOK acc) : ∀ x ∈ acc, ItOK x.1 := fun x hx => (h x hx).1
theorem pat_inl {acc : List (It × Nat)} {k : Nat} (h : AccOK acc) (hp : patN (labs acc 0) (jmps acc 0) (FB acc) = .inl k) : badN acc acc = some k := by
  have := pat_all acc acc [] (acc_it h)
  rw [List.nil_append, List.length_nil] at this
  rw [show FB acc = flat (·.bs) acc from rfl, this] at hp
  split at hp
  · rename_i k2 hk; rw [hk]; injection hp with hp; rw [hp]
  · cases hp
theorem pat_inr {acc : List (It × Nat)} {cj : List Nat} (h : AccOK acc) (hp : patN (labs acc 0) (jmps acc 0) (FB acc) = .inr cj) : badN acc acc = none ∧ cj = flat (outM acc) acc := by
  have := pat_all acc acc [] (acc_it h)
  rw [List.nil_append, List.length_nil] at this
  rw [show FB acc = flat (·.bs) acc from rfl, this] at hp
  split at hp
  · cases hp
  · rename_i hk; injection hp with hp; exact ⟨hk, by rw [← hp]; rfl⟩
theorem flat_congr {f h : It → List Nat} {l : List (It × Nat)} (he : ∀ x, f x = h x) : flat f l = flat h l := by rw [show f = h from funext he]
theorem chk_outM {acc : List (It × Nat)} (h : AccOK acc) : chkN (flat (outM acc) acc) = chkN (flat (outB acc) acc) ∧ (chkN (flat (outM acc) acc) = true → flat (outM acc) acc = flat (outB acc) acc) := by
  by_cases hl : lenN acc ≤ 1024
  · have : flat (outM acc) acc = flat (outB acc) acc := flat_congr fun x => outM_outB acc hl x
    rw [this]; exact ⟨rfl, fun _ => rfl⟩
  · have h1 : chkN (flat (outM acc) acc) = false := chk_big (by rw [len_outM acc acc (acc_it h)]; omega)
    have h2 : chkN (flat (outB acc) acc) = false := chk_big (by rw [len_outB acc acc (acc_it h)]; omega)
    rw [h1, h2]; exact ⟨rfl, fun h => by cases h⟩
theorem put_a {cj : List Nat} {rest : List Value} {i off x : Nat} (hi : i < cj.length) (ho : off = i) : (byts cj ++ rest).set off (.int .u8 ((x : Nat) : Int)) = byts (cj.set i x) ++ rest := by
  subst ho
  rw [List.set_append, if_pos (by rw [length_byts]; exact hi)]
  congr 1
  simp [byts, List.map_set]
theorem byt_set {cj : List Nat} {i x : Nat} (h : Byt cj) (hx : x < 256) : Byt (cj.set i x) := by
  intro b hb
  rcases List.mem_or_eq_of_mem_set hb with h1 | rfl
  · exact h b h1
  · exact hx
theorem put2_byt {cj : List Nat} {q p : Nat} (h : Byt cj) : Byt (put2 cj q p) := byt_set (byt_set h (Nat.mod_lt _ (by decide))) (Nat.mod_lt _ (by decide))
def LineU (ba : Nat) (acc : List (It × Nat)) (wl : List (List Nat)) (ln : Nat) (v : Value) (s' : Seg) : Prop := ∃ b, v = .bool b ∧ (b = false → undN wl = none ∨ ∃ x, undN wl = some x ∧ tw acc x = true) ∧ (b = true → ∃ x, undN wl = some x ∧ tw acc x = false ∧ AsmS ba (acc ++ [(x, ln)]) s')
theorem LineR.u {ba : Nat} {acc : List (It × Nat)} {wl : List (List Nat)} {ln : Nat} {v : Value} {s' : Seg} (h : LineR ba acc wl ln v s') : LineU ba acc wl ln v s' := by
  rcases h with ⟨h1, h2⟩ | ⟨h1, h2⟩
  · exact ⟨false, h1, fun _ => h2, fun h => by cases h⟩
  · exact ⟨true, h1, (fun h => by cases h), fun _ => h2⟩
theorem say_line {l : List Nat} {r : List (List Nat)} {i : Nat} {acc : List (It × Nat)} (hw : wordsN l ≠ []) (h : undN (wordsN l) = none ∨ ∃ x, undN (wordsN l) = some x ∧ tw acc x = true) : sayN (l :: r) i acc = .inl (i + 1) := by
  rcases h with h | ⟨x, h1, h2⟩
  · exact say_bad1 hw h
  · exact say_bad2 hw h1 h2
theorem acc_snocOK {acc : List (It × Nat)} {x : It} {k : Nat} (h : AccOK acc) (h1 : ItOK x) (h2 : Byt x.lab ∧ Byt x.tg) : AccOK (acc ++ [(x, k)]) := by
  intro y hy
  rcases List.mem_append.1 hy with h3 | h3
  · exact h y h3
  · rw [List.mem_singleton.1 h3]; exact ⟨h1, h2⟩
theorem words_wlen (l : List Nat) : ∀ (cur : List Nat), ∀ x ∈ fld cur l, x.length ≤ cur.length + l.length := by
  induction l with
  | nil =>
    intro cur x hx
    rw [fld] at hx; unfold clo at hx; split at hx
    · cases hx
    · rw [List.mem_singleton.1 hx]; simp
  | cons c l ih =>
    intro cur x hx
    have hcl : ∀ y ∈ clo cur, y.length ≤ cur.length := by
      intro y hy; unfold clo at hy; split at hy
      · cases hy
      · rw [List.mem_singleton.1 hy]; exact Nat.le_refl _
    rw [fld] at hx
    rw [List.length_cons]
    split at hx
    · have := hcl x hx; omega
    split at hx
    · rcases List.mem_append.1 hx with h1 | h1
      · have := hcl x h1; omega
      · have := ih [] x h1; simp only [List.length_nil] at this; omega
    · have := ih _ x hx; simp only [List.length_append, List.length_cons, List.length_nil] at this; omega
theorem byt_flat {acc : List (It × Nat)} (h : AccOK acc) : Byt (FB acc) := by
  intro b hb
  unfold FB flat at hb
  obtain ⟨x, hx, hb⟩ := List.mem_flatMap.1 hb
  exact (h x hx).1.2.2.2.1 b hb
theorem asm_bad4M {xs : List Nat} {acc : List (It × Nat)} (h : asmN xs = match badN acc acc with
    | some k => ([], k, 107)
    | none => if chkN (flat (outB acc) acc) then (flat (outB acc) acc, 0, 0) else ([], 0, 100)) (hb : badN acc acc = none) (hc : chkN (flat (outB acc) acc) = false) : asmN xs = ([], 0, 100) := by
  rw [h, hb]; simp only []; rw [if_neg (by rw [hc]; decide)]
theorem asm_good4M {xs : List Nat} {acc : List (It × Nat)} (h : asmN xs = match badN acc acc with
    | some k => ([], k, 107)
    | none => if chkN (flat (outB acc) acc) then (flat (outB acc) acc, 0, 0) else ([], 0, 100)) (hb : badN acc acc = none) (hc : chkN (flat (outB acc) acc) = true) : asmN xs = (flat (outB acc) acc, 0, 0) := by
  rw [h, hb]; simp only []; rw [if_pos hc]
set_option maxHeartbeats 8000000 in
theorem masm_calls (s : ByteArray) (w0 : World) (hMx : MaxW w0) : Ret Tryz.prog 18 [.string s] w0 [] (fun v q => AsmR (bys s) v q) := by
 refine fn_start Tryz.func18 Y Tryz.ntmps18 Y [(0, .string s)] ⟨Y, trivial⟩ ?_
 intro Q a hP G hR hN
 have M := St.start w0
 have hlen := length_bys s
 refine wp_seq_k fun K1 hK1=> wp_region_lit <| av G Y Y fun a G=> av G Y Y fun a G=> av G Y Y fun a G=> s0 <| then_n (hK1 _ _ <| wp_seq_k fun K2 hK2=> wp_seq_k fun K3 hK3=> wp_region_lit <| mv G Y Y fun a G=> sw G Y Y Y (R.lenS Tryz.underlying9 (G.ev Y)) fun a G=> sw G Y Y Y (R.gtr (G.ev Y) (G.ev Y)) fun a G=> s0 <| then_n (hK3 _ _ <| cD G Y (fun c0=> ?_) (fun c0=> ?_)))
 ·refine wp_seq_k fun K4 hK4=> wp_region_lit <| av G Y Y fun a G=> av G Y Y fun a G=> av G Y Y fun a G=> s0 <| then_n (hK4 _ _ <| wp_ret (then_r (hR _ _ _ _ _ G (run_results Tryz.results18 (.t G Y (.t G Y (.t G Y (.nil))))) ?_)))
  exact ⟨_, [], Y, asm_r (asm_long (by omega)) Y Y (OwnS.nil 5 1), M.none⟩
 have hc0 : ¬ 65536 < (bys s).length := by omega
 refine wp_skip <| then_n (hK2 _ _ <| wp_seq_k fun K5 hK5=> wp_region_lit <| so (wn Y) (O.makeMap Y Y G M fun b17 a w G M=> ?_))
 refine sw G Y Y Y (R.buildStr (l := asmC none 0 0 b17 none 0 0) Tryz.underlying120 ze120 pl120 (G.evp Y) Y) fun a G=> so (wn Y) (O.box Y Y G (G.ev Y) Y M fun b19 a w G M=> ?_)
 refine av G Y Y fun a G=> s0 <| then_n (hK5 _ _ <| wp_seq_k fun K6 hK6=> wp_seq_k fun K7 hK7=> ?_)
 obtain ⟨sA, hAs, M⟩ := AsmS.close (acc := []) (M.cons0.cons0.sel [2, 3, 0, 1] rfl rfl) rfl (OwnS.nil 5 1) rfl (OwnS.nil 124 3) MapL.nil
 refine wp_region_lit <| mv G Y Y fun a G=> so (wn Y) (O.call Y Y G ent57 (G.evs Y) M (msplit_calls s w (hMx.old M) (by omega)) fun v s21 a w hR G M=> ?_)
 obtain ⟨A21, rfl, hO21⟩ := hR
 have hlk := lines_ok (byt_bys s) hlen (.inl rfl); obtain ⟨hlines, ho5⟩ := hlk
 refine sw G Y Y Y (R.len Tryz.underlying108 (G.ev Y)) fun a G=> mv G Y Y fun a G=> s0 <| then_n (hK7 _ _ <| wp_block <| wp_loop_N (fun g a w=> ∃ (i : Nat) (acc : List (It × Nat)) (sA : Seg), (linesT (bys s)).length - i = g ∧ Fr 103 [(5, .pointer (some ⟨b19, 0, none⟩)), (21, .slice (some ⟨A21, 0, none⟩) (linesT (bys s)).length (linesT (bys s)).length), (22, .int .i64 (((linesT (bys s)).length : Nat) : Int)), (23, .int .i64 ((i : Nat) : Int))] a ∧ St w0 [] [sA, s21] w ∧ (i ≤ (linesT (bys s)).length) ∧ (acc.length ≤ i) ∧ (AsmS b19 acc sA) ∧ (AccOK acc) ∧ (sayN (linesT (bys s)) 0 [] = sayN ((linesT (bys s)).drop i) i acc)) ((linesT (bys s)).length - 0) ?_ ?_)
 ·exact ⟨0, [], sA, Y, G.sub ⟨Y, Y, Y, Y, trivial⟩, M.sel [1, 0] Y Y, by omega, by simp, hAs, (fun x hx => by cases hx), Y⟩
 rintro KL1 g a w ⟨i, acc, sA, hg1, G, M, hi, hai, hAs, hac, hJs⟩ hKL1
 refine wp_seq_k fun K8 hK8=> wp_region_lit <| lS G Y Y Y fun a G=> s0 <| then_n (hK8 _ _ <| wp_seq_k fun K9 hK9=> cD G Y (fun c1=> ?_) (fun c1=> ?_))
 ·have hl5 := hlines ((linesT (bys s)).getD i []) (mem_getD (by omega)); obtain ⟨hlb, hll0⟩ := hl5; have hdr := drop_cons [] (linesT (bys s)) i (by omega); have hwc := words_len [] ((linesT (bys s)).getD i []); have hwb := words_byt ((linesT (bys s)).getD i []) [] byt_nil hlb; have hww0 := words_wlen ((linesT (bys s)).getD i []) []
  rw [show fld [] ((linesT (bys s)).getD i []) = wordsN ((linesT (bys s)).getD i []) from rfl] at hwc
  have hww : ∀ x ∈ wordsN ((linesT (bys s)).getD i []), x.length ≤ 1000000 := fun x hx => by (have := hww0 x hx; simp only [List.length_nil] at this; omega)
  refine wp_skip <| then_n (hK9 _ _ <| wp_seq_k fun K10 hK10=> ?_)
  have hK10' : ∀ a w, (∃ (acc2 : List (It × Nat)) (sA2 : Seg), Fr 103 [(5, .pointer (some ⟨b19, 0, none⟩)), (21, .slice (some ⟨A21, 0, none⟩) (linesT (bys s)).length (linesT (bys s)).length), (22, .int .i64 (((linesT (bys s)).length : Nat) : Int)), (23, .int .i64 ((i : Nat) : Int))] a ∧ St w0 [] [sA2, s21] w ∧ (acc2.length ≤ i + 1) ∧ (AsmS b19 acc2 sA2) ∧ (AccOK acc2) ∧ (sayN (linesT (bys s)) 0 [] = sayN ((linesT (bys s)).drop (i + 1)) (i + 1) acc2)) → K10 a w := by
   rintro a w ⟨acc2, sA2, G, M, hai2, hAs, hac, hJs⟩
   refine hK10 _ _ ?_
   refine wp_region_lit <| aI G Y Y Y (by omega) fun a G=> mv G Y Y fun a G=> s0 <| then_n (hKL1 ((linesT (bys s)).length - (i + 1)) _ _ ?_ ?_)
   ·omega
   exact ⟨i + 1, acc2, sA2, Y, G.sub ⟨Y, Y, Y, (congrArg (fun z => some (Value.int .i64 z)) (by omega)), trivial⟩, M.sel [0, 1] Y Y, by omega, hai2, hAs, hac, hJs⟩
  refine wp_block <| wp_seq_k fun K11 hK11=> wp_region_lit <| mv G Y Y fun a G=> sw G Y Y Y (R.indexO Tryz.underlying108 sz9 (G.ev Y) (by simp) (G.ev Y) (by omega) (by omega)) fun a G=> sw G Y Y Y (R.loadO one9 (G.ev Y) (hO21.rd M (.t .h)) (strs_at (i := i) (by omega) (by omega))) fun a G=> av G Y Y fun a G=> av G Y Y fun a G=> s0 <| then_n (hK11 _ _ <| wp_seq_k fun K12 hK12=> wp_region_lit <| mv G Y Y fun a G=> so (wn Y) (O.call Y Y G ent58 (G.evs Y) M (words_l hlb w (hMx.old M) (by omega)) fun v s29 a w hR G M=> ?_))
  obtain ⟨A29, rfl, hO29⟩ := hR
  refine av G Y Y fun a G=> s0 <| then_n (hK12 _ _ <| wp_seq_k fun K13 hK13=> wp_region_lit <| mv G Y Y fun a G=> sw G Y Y Y (R.len Tryz.underlying108 (G.ev Y)) fun a G=> sw G Y Y Y (R.gtr (G.ev Y) (G.ev Y)) fun a G=> mv G Y Y fun a G=> G.splitD (t := 33) Y (fun h33 G=> ?_) (fun h33 G=> ?_))
  ·refine my G Y Y Y Y fun a G=> my G Y Y Y Y fun a G=> my G Y Y Y Y fun a G=> sv' G (wy G Y Y Y) Y Y (R.addI (G.ev Y) (G.ev Y) (by omega)) fun a G=> so (wy G Y Y Y) (O.callK Y Y G ent59 (G.evs Y) M ((line_calls b19 acc sA A29 _ (i + 1) (wordsN ((linesT (bys s)).getD i [])) w hAs (M.own1 (.t .h)) hac (by omega) (RdK.ownS (M.sel [0, 1] Y Y) hO29) Y (by omega) (by omega) hwb hww (by omega)).mono fun _ _ h=> h.u) (fun _=> (.t .h)) fun v s38 a w hR G M=> ?_)
   obtain ⟨bv, rfl, hLf, hLt⟩ := hR
   refine sv' G (wy G Y Y Y) Y Y (R.as (u := .bool (decide (bv = false))) (R.not (G.ev Y)) (by cases bv <;> rfl)) fun a G=> pT G Y Y Y fun a G=> s0 <| then_n (hK13 _ _ <| cD G Y (fun c2=> ?_) (fun c2=> ?_))
   ·have hwn : wordsN ((linesT (bys s)).getD i []) ≠ [] := fun h => by rw [h] at h33; exact absurd h33 (by decide)
    have hJ2 := hJs.trans (by rw [hdr, say_line (r := (linesT (bys s)).drop (i + 1)) (i := i) hwn (hLf c2)])
    refine wp_seq_k fun K14 hK14=> wp_region_lit <| mv G Y Y fun a G=> aI G Y Y Y (by omega) fun a G=> av G Y Y fun a G=> av G Y Y fun a G=> av G Y Y fun a G=> s0 <| then_n (hK14 _ _ <| wp_ret (blk_r (then_r (then_r (blk_r (then_r (hR _ _ _ _ _ G (run_results Tryz.results18 (.t G Y (.t G Y (.t G Y (.nil))))) ?_)))))))
    exact ⟨_, [], Y, asm_r (asm_l hc0 (.inl Y) hJ2) Y Y (OwnS.nil 5 1), M.none⟩
   have hwn : wordsN ((linesT (bys s)).getD i []) ≠ [] := fun h => by rw [h] at h33; exact absurd h33 (by decide)
   obtain ⟨x1, hx1, htw, hAs1⟩ := hLt (by cases bv with | true => rfl | false => exact absurd rfl c2)
   refine wp_skip <| blk_n ?_
   exact then_n (hK10' _ _ ⟨acc ++ [(x1, i + 1)], s38, G.sub ⟨Y, Y, Y, Y, trivial⟩, M.sel [1, 2] Y Y, (by rw [List.length_append]; simp only [List.length_cons, List.length_nil]; omega), hAs1, acc_snocOK hac (und_ok hx1) (und_byt hx1 hwb), hJs.trans (by rw [hdr, say_go hwn hx1 htw])⟩)
  have hwn : wordsN ((linesT (bys s)).getD i []) = [] := List.eq_nil_of_length_eq_zero (by omega)
  refine kz G Y Y Y Y Y Y fun a G=> kz G Y Y Y Y Y Y fun a G=> kz G Y Y Y Y Y Y fun a G=> kz G Y Y Y Y Y Y fun a G=> kz G Y Y Y Y Y Y fun a G=> kz G Y Y Y Y Y Y fun a G=> pF G Y Y Y fun a G=> s0 <| then_n (hK13 _ _ <| cF G Y <| wp_skip <| blk_n ?_)
  exact then_n (hK10' _ _ ⟨acc, sA, G.sub ⟨Y, Y, Y, Y, trivial⟩, M.sel [1, 2] Y Y, by omega, hAs, hac, hJs.trans (by rw [hdr, say_skip hwn])⟩)
 obtain rfl : i = (linesT (bys s)).length := by omega
 refine wp_exit (then_x (then_x (blk_hit <| then_n (hK6 _ _ <| wp_seq_k fun K15 hK15=> wp_seq_k fun K16 hK16=> ?_))))
 obtain ⟨A, ca, J, dj, bm, es, cnt, zc, zj, hs, hO, hJ, hM⟩ := hAs
 have M := (M.sel [0] rfl rfl).flat (bs' := [[(b19, Cel (asmC A (lenN acc) ca bm J (jmps acc 0).length dj) 120)], [(bm, .map es cnt)], zc, zj]) (by simp [selS, hs])
 have hBL := acc_bytL hac 0; have hal := acc_len hac; have hjl := jmps_len acc 0
 refine wp_region_lit <| mv G Y Y fun a G=> sw G Y Y Y (R.nilCheck (G.ev Y)) fun a G=> sw G Y Y Y (R.fieldAddr (k := 2) Tryz.underlying120 Y nz118 (G.ev Y) Y) fun a G=> sw G Y Y Y (R.load one118 (G.ev Y) M .h (Y)) fun a G=> sw G Y Y Y (R.len Tryz.underlying118 (G.ev Y)) fun a G=> mv G Y Y fun a G=> s0 <| then_n (hK16 _ _ <| wp_block <| wp_loop_N (fun g a w=> ∃ (j : Nat) (cj : List Nat) (zc : Seg), (jmps acc 0).length - j = g ∧ Fr 103 [(5, .pointer (some ⟨b19, 0, none⟩)), (47, .slice J (jmps acc 0).length dj), (48, .int .i64 (((jmps acc 0).length : Nat) : Int)), (49, .int .i64 ((j : Nat) : Int))] a ∧ St w0 [] [[(b19, Cel (asmC A (lenN acc) ca bm J (jmps acc 0).length dj) 120)], [(bm, .map es cnt)], zc, zj] w ∧ (j ≤ (jmps acc 0).length) ∧ (OwnS zc A (lenN acc) ca (byts cj) 5 1) ∧ (cj.length = lenN acc) ∧ (Byt cj) ∧ (patN (labs acc 0) (jmps acc 0) (FB acc) = patN (labs acc 0) ((jmps acc 0).drop j) cj)) ((jmps acc 0).length - 0) ?_ ?_)
 ·exact ⟨0, FB acc, zc, Y, G.sub ⟨Y, Y, Y, Y, trivial⟩, M.sel [0, 1, 2, 3] Y Y, by omega, hO, Y, byt_flat hac, Y⟩
 rintro KL2 g a w ⟨j, cj, zc, hg2, G, M, hj, hO, hcl, hcb, hpt⟩ hKL2
 refine wp_seq_k fun K17 hK17=> wp_region_lit <| lS G Y Y Y fun a G=> s0 <| then_n (hK17 _ _ <| wp_seq_k fun K18 hK18=> cD G Y (fun c3=> ?_) (fun c3=> ?_))
 ·have hJb := jmp_ok hac 0 ((jmps acc 0).getD j jd) (mem_getD (by omega)); have hJb2 := hJb.2
  refine wp_skip <| then_n (hK18 _ _ <| wp_seq_k fun K19 hK19=> wp_block <| wp_seq_k fun K20 hK20=> wp_region_lit <| sw G Y Y Y (R.indexO Tryz.underlying118 sz124 (G.ev Y) ((hJ.rd M (.t (.t (.t .h)))).ne (by rw [len_jmpC]; omega)) (G.ev Y) (by omega) (by omega)) fun a G=> sw G Y Y Y (R.loadAO (cs := [.string (bstr ((jmps acc 0).getD j jd).1), .int .i64 ((((jmps acc 0).getD j jd).2.1 : Nat) : Int), .int .i64 ((((jmps acc 0).getD j jd).2.2 : Nat) : Int)]) agg124 (G.ev Y) (hJ.rd M (.t (.t (.t .h)))) sz124 Y (Nat.succ_pos _) (jmp_at (j := j) (by omega) (by omega))) fun a G=> so (wn Y) (O.alloc Y Y G ze124 Y M fun b10 a w G M=> ?_))
  refine so (wn Y) (O.storeW sz124 (G.ev Y) (G.ev Y) (Y) Y (by simp [Value.oneCell']) M .h (Y) fun w M=> ?_)
  refine s0 <| then_n (hK20 _ _ <| wp_seq_k fun K21 hK21=> wp_drawS M [(0, 0), (1, 0), (2, 0), (3, 1), (4, 0), (5, 1), (6, 1), (7, 0), (8, 0), (9, 0), (10, 0), (11, 0)] mix (by kernel_rfl) (hP.then.block.then.then.block.then) fun w M=> ?_)
  have hD := M
  refine dm G Y Y Y fun a G=> dv G Y Y Y Y (fun w=> R.nilCheck (G.ev Y)) fun a G=> dv G Y Y Y Y (fun w=> R.fieldAddr (k := 1) Tryz.underlying120 Y nz117 (G.ev Y) Y) fun a G=> ds G Y Y Y Y hD (fun w hD=> R.load one117 (G.ev Y) hD (.t .h) (Y)) fun a G=> ?_
  refine dv G Y Y Y Y (fun w=> R.fieldAddr (k := 0) Tryz.underlying124 Y nz9 (G.ev Y) Y) fun a G=> ds G Y Y Y Y hD (fun w hD=> R.load one9 (G.ev Y) hD .h (Y)) fun a G=> ?_
  refine ds G Y Y Y Y hD (fun w hD=> R.lookupS Tryz.underlying117 Tryz.underlying9 ze3i (St.get hD (.t (.t .h))) hM hBL hJb.1 (G.ev Y) (G.ev Y)) fun a G=> ?_
  refine dm G Y Y Y fun a G=> dx G Y Y Y Y fun a G=> dx G Y Y Y Y fun a G=> da G Y Y Y fun a G=> da G Y Y Y fun a G=> d0 <| then_n (hK21 _ _ <| wp_seq_k fun K22 hK22=> wp_seq_k fun K23 hK23=> wp_region_lit <| mv G Y Y fun a G=> sw G Y Y Y (R.as (u := .bool (decide (lkp (labs acc 0) ((jmps acc 0).getD j jd).1 = none))) (R.not (G.ev Y)) (by cases lkp (labs acc 0) ((jmps acc 0).getD j jd).1 <;> rfl)) fun a G=> s0 <| then_n (hK23 _ _ <| cD G Y (fun c4=> ?_) (fun c4=> ?_)))
  ·have hbn := pat_inl hac (hpt.trans (pat_bad (by omega) c4))
   refine wp_seq_k fun K24 hK24=> wp_drawS M [(0, 0), (1, 1), (2, 0), (3, 0), (4, 0)] mix (by kernel_rfl) (hP.then.block.then.then.block.then.then) fun w M=> ?_
   have hD := M
   refine dv G Y Y Y Y (fun w=> R.fieldAddr (k := 2) Tryz.underlying124 Y nz3 (G.ev Y) Y) fun a G=> ds G Y Y Y Y hD (fun w hD=> R.load one3 (G.ev Y) hD .h (Y)) fun a G=> ?_
   refine da G Y Y Y fun a G=> da G Y Y Y fun a G=> da G Y Y Y fun a G=> d0 <| then_n (hK24 _ _ <| wp_ret (then_r (blk_r (then_r (then_r (blk_r (then_r (hR _ _ _ _ _ G (run_results Tryz.results18 (.t G Y (.t G Y (.t G Y (.nil))))) ?_))))))))
   exact ⟨_, [], Y, asm_r (asm_bad3 (asm_i hc0 (.inl Y) (hJs.trans (by rw [List.drop_of_length_le (Nat.le_refl _)]; rfl))) hbn) Y Y (OwnS.nil 5 1), M.none⟩
  obtain ⟨p, hp⟩ : ∃ p, lkp (labs acc 0) ((jmps acc 0).getD j jd).1 = some p := (by cases h : lkp (labs acc 0) ((jmps acc 0).getD j jd).1 with | none => exact absurd h c4 | some p => exact ⟨p, rfl⟩)
  rw [hp, Option.getD_some] at G
  refine wp_skip <| then_n (hK22 _ _ <| wp_seq_k fun K25 hK25=> ?_)
  have hK25' : ∀ a w, (Fr 103 [(5, .pointer (some ⟨b19, 0, none⟩)), (10, .pointer (some ⟨b10, 0, none⟩)), (11, .int .i64 (((min p 1024) : Nat) : Int)), (47, .slice J (jmps acc 0).length dj), (48, .int .i64 (((jmps acc 0).length : Nat) : Int)), (49, .int .i64 ((j : Nat) : Int))] a ∧ St w0 [] [[(b10, Cel [.string (bstr ((jmps acc 0).getD j jd).1), .int .i64 ((((jmps acc 0).getD j jd).2.1 : Nat) : Int), .int .i64 ((((jmps acc 0).getD j jd).2.2 : Nat) : Int)] 124)], [(b19, Cel (asmC A (lenN acc) ca bm J (jmps acc 0).length dj) 120)], [(bm, .map es cnt)], zc, zj] w) → K25 a w := by
   rintro a w ⟨G, M⟩
   refine hK25 _ _ ?_
   obtain ⟨gz, restz, hAe, hze, hcz, hlz, hmz⟩ := own_open3 hO (by omega)
   rw [hAe, hze] at M
   refine wp_drawG M (M.sel [1, 0] Y Y) [(0, 0), (1, 0), (2, 0), (3, 1), (4, 0), (5, 1), (6, 0), (7, 0), (8, 0), (9, 0), (10, 1), (11, 0), (12, 1), (13, 0), (14, 0), (15, 0), (16, 0), (17, 0), (18, 0), (19, 0), (20, 2), (21, 0), (22, 2)] mix (by kernel_rfl) (hP.then.block.then.then.block) fun w M hD=> ?_
   refine dm G Y Y Y fun a G=> dv G Y Y Y Y (fun w=> R.nilCheck (G.ev Y)) fun a G=> dv G Y Y Y Y (fun w=> R.fieldAddr (k := 0) Tryz.underlying120 Y nz22 (G.ev Y) Y) fun a G=> ds G Y Y Y Y hD (fun w hD=> R.load one22 (G.ev Y) hD .h (Y)) fun a G=> ?_
   refine dv G Y Y Y Y (fun w=> R.fieldAddr (k := 1) Tryz.underlying124 Y nz3 (G.ev Y) Y) fun a G=> ds G Y Y Y Y hD (fun w hD=> R.load one3 (G.ev Y) hD (.t .h) (Y)) fun a G=> ?_
   refine dv G Y Y Y Y (fun w=> R.addI (G.ev Y) (G.ev Y) (by omega)) fun a G=> dm G Y Y Y fun a G=> dv G Y Y Y Y (fun w=> R.nilCheck (G.ev Y)) fun a G=> dv G Y Y Y Y (fun w=> R.fieldAddr (k := 0) Tryz.underlying120 Y nz22 (G.ev Y) Y) fun a G=> ds G Y Y Y Y hD (fun w hD=> R.load one22 (G.ev Y) hD .h (Y)) fun a G=> ?_
   refine dv G Y Y Y Y (fun w=> R.fieldAddr (k := 1) Tryz.underlying124 Y nz3 (G.ev Y) Y) fun a G=> ds G Y Y Y Y hD (fun w hD=> R.load one3 (G.ev Y) hD (.t .h) (Y)) fun a G=> ?_
   refine dv G Y Y Y Y (fun w=> R.addI (G.ev Y) (G.ev Y) (by omega)) fun a G=> dm G Y Y Y fun a G=> dv G Y Y Y Y (fun w=> R.as (u := .int .i64 (((min p 1024 / 256) : Nat) : Int)) (R.shrI (m := 8) (G.ev Y) (G.ev Y) (by decide)) (Y)) fun a G=> dv G Y Y Y Y (fun w=> R.convB (p := min p 1024 / 256) Tryz.underlying3 Tryz.underlying5 (G.ev Y)) fun a G=> dm G Y Y Y fun a G=> dv G Y Y Y Y (fun w=> R.convB (p := min p 1024) Tryz.underlying3 Tryz.underlying5 (G.ev Y)) fun a G=> dv G Y Y Y Y (fun w=> R.indexS Tryz.underlying22 sz5 (G.ev Y) (G.ev Y) (by omega) (by omega)) fun a G=> ?_
   refine dl Y (wn Y) (O.store sz5 (G.ev Y) (G.ev Y) Y Y M (.t (.t (.t .h))) (put_a (i := ((jmps acc 0).getD j jd).2.1 + 1) (by first | omega | (rw [List.length_set]; omega)) (by omega)) (by rw [List.length_append, length_byts]; first | omega | (rw [List.length_set]; omega)) fun w M=> ⟨fun hD=> M.sel [1, 0] Y Y, ?_⟩)
   have hD := M.sel [1, 0] rfl rfl
   refine dv G Y Y Y Y (fun w=> R.indexS Tryz.underlying22 sz5 (G.ev Y) (G.ev Y) (by omega) (by omega)) fun a G=> ?_
   refine dl Y (wn Y) (O.store sz5 (G.ev Y) (G.ev Y) Y Y M (.t (.t (.t .h))) (put_a (i := ((jmps acc 0).getD j jd).2.1 + 2) (by first | omega | (rw [List.length_set]; omega)) (by omega)) (by rw [List.length_append, length_byts]; first | omega | (rw [List.length_set]; omega)) fun w M=> ⟨fun hD=> M.sel [1, 0] Y Y, ?_⟩)
   have hD := M.sel [1, 0] rfl rfl
   refine d0 <| blk_n <| then_n (hK19 _ _ <| wp_region_lit <| aI G Y Y Y (by omega) fun a G=> mv G Y Y fun a G=> s0 <| then_n (hKL2 ((jmps acc 0).length - (j + 1)) _ _ ?_ ?_))
   ·omega
   exact ⟨j + 1, put2 cj ((jmps acc 0).getD j jd).2.1 (min p 1024), [(gz, Cel (byts (put2 cj ((jmps acc 0).getD j jd).2.1 (min p 1024)) ++ restz) 5)], Y, G.sub ⟨Y, Y, Y, (congrArg (fun z => some (Value.int .i64 z)) (by omega)), trivial⟩, M.sel [1, 2, 3, 4] Y (by rw [hAe]; first | rfl | (rw [← put2_comm]; rfl)), by omega, (by rw [hAe]; exact OwnS.mk (by rw [length_byts, put2_len, Nat.mul_one]; exact hcl) hcz (by rw [List.length_append, length_byts, put2_len]; rw [List.length_append, length_byts] at hlz; exact hlz) hmz), (by rw [put2_len]; exact hcl), put2_byt hcb, hpt.trans (pat_step (by omega) hp)⟩
  refine wp_seq_k fun K26 hK26=> wp_region_lit <| mv G Y Y fun a G=> sw G Y Y Y (R.gtr (G.ev Y) (G.ev Y)) fun a G=> s0 <| then_n (hK26 _ _ <| cD G Y (fun c5=> ?_) (fun c5=> ?_))
  ·refine wp_region_lit <| av G Y Y fun a G=> s0 ?_
   exact then_n (hK25' _ _ ⟨G.sub ⟨Y, Y, (congrArg (fun z => some (Value.int .i64 z)) (by omega)), Y, Y, Y, trivial⟩, M.sel [0, 1, 2, 3, 4] Y Y⟩)
  refine wp_skip ?_
  exact then_n (hK25' _ _ ⟨G.sub ⟨Y, Y, (congrArg (fun z => some (Value.int .i64 z)) (by omega)), Y, Y, Y, trivial⟩, M.sel [0, 1, 2, 3, 4] Y Y⟩)
 have hpr := pat_inr hac (hpt.trans (pat_end (by omega))); obtain ⟨hbn, hcj⟩ := hpr; have hck := chk_outM hac; rw [← hcj] at hck
 refine wp_exit (then_x (then_x (blk_hit <| then_n (hK15 _ _ <| wp_seq_k fun K27 hK27=> wp_seq_k fun K28 hK28=> wp_region_lit <| mv G Y Y fun a G=> sw G Y Y Y (R.nilCheck (G.ev Y)) fun a G=> sw G Y Y Y (R.fieldAddr (k := 0) Tryz.underlying120 Y nz22 (G.ev Y) Y) fun a G=> sw G Y Y Y (R.load one22 (G.ev Y) M .h (Y)) fun a G=> so (wn Y) (O.call Y Y G ent14 (G.evs Y) M (check_calls A (lenN acc) ca cj _ (hO.rd M (.t (.t .h))) hcl hO.2.1 hO.cap hcb) fun v s95 a w hR G M=> ?_)))))
 obtain ⟨rfl, rfl⟩ := hR
 refine av G Y Y fun a G=> s0 <| then_n (hK28 _ _ <| wp_seq_k fun K29 hK29=> wp_region_lit <| mv G Y Y fun a G=> sw G Y Y Y (R.as (u := .bool (decide (chkN cj = false))) (R.neq (G.ev Y) (G.ev Y)) (chk_dec)) fun a G=> s0 <| then_n (hK29 _ _ <| cD G Y (fun c6=> ?_) (fun c6=> ?_)))
 ·refine wp_seq_k fun K30 hK30=> wp_region_lit <| mv G Y Y fun a G=> av G Y Y fun a G=> av G Y Y fun a G=> av G Y Y fun a G=> s0 <| then_n (hK30 _ _ <| wp_ret (then_r (hR _ _ _ _ _ G (run_results Tryz.results18 (.t G Y (.t G Y (.t G Y (.nil))))) ?_)))
  exact ⟨_, [], Y, asm_r (asm_bad4M (asm_i hc0 (.inl Y) (hJs.trans (by rw [List.drop_of_length_le (Nat.le_refl _)]; rfl))) hbn (hck.1 ▸ c6)) Y (by rw [chkV, c6]; rfl) (OwnS.nil 5 1), M.none⟩
 refine wp_skip <| then_n (hK27 _ _ <| wp_seq_k fun K31 hK31=> wp_region_lit <| mv G Y Y fun a G=> sw G Y Y Y (R.nilCheck (G.ev Y)) fun a G=> sw G Y Y Y (R.fieldAddr (k := 0) Tryz.underlying120 Y nz22 (G.ev Y) Y) fun a G=> sw G Y Y Y (R.load one22 (G.ev Y) M (.t .h) (Y)) fun a G=> av G Y Y fun a G=> av G Y Y fun a G=> av G Y Y fun a G=> s0 <| then_n (hK31 _ _ <| wp_ret (hR _ _ _ _ _ G (run_results Tryz.results18 (.t G Y (.t G Y (.t G Y (.nil))))) ?_)))
 have hc12 : chkN cj = true := by (cases h : chkN cj with | false => exact absurd h c6 | true => rfl)
 exact ⟨_, zc, Y, asm_r ((asm_good4M (asm_i hc0 (.inl Y) (hJs.trans (by rw [List.drop_of_length_le (Nat.le_refl _)]; rfl))) hbn (hck.1 ▸ hc12)).trans (by rw [← hck.2 hc12])) hcl Y hO, M.one (.t (.t (.t .h)))⟩
end Go.Proofs.YtlapmbkfmbkdoaaGreatDoor
end
section
namespace Go.Fw
open Go.RowKit
section
variable {H : Type} {enc : TypeId × Value → H}
theorem handed_sh {a : Assume} {C : Checked} {os : Os} {f : FuncId} {fn : Func} {s : ChangeSpec} {conds : List PathCond} {apart fresh handsOn again : Bool} {X : World → Array Value → Prop}
    (hX : ∀ (w w' : World) (args : Array Value), w.heap = w'.heap → X w args → X w' args)
    (own : ownKnob C.prog.godebug = none) (started : os.Started) (noInit : C.prog.inits.idxOf? f = none) (hfn : C.prog.funcs[f]? = some fn)
    (witness : ∃ (w : World) (tape : Tape) (i : Input), w.os = os ∧ (w.forCall tape i).Shaped C.prog ∧ i.vars = [] ∧ Input.okWide C.prog (w.forCall tape i) .any w.heap.size f i ∧
      ((s.pre enc C.prog fn conds apart (w.forCall tape i).memory i.args ∧ X (w.forCall tape i).memory i.args) ∧ sizedMet enc C.prog fn (OpenSpec.ofChange s) apart (w.forCall tape i).memory i.args) ∧ a.holds C.prog (lone (Frame.enter C.prog f i.args .normal) [] (w.forCall tape i)))
    (contract : ∀ (W : World) (base : Nat) (args : Array Value) (ds gs : List (DataW H)) (before : List MemPlace),
      (∀ (j : Nat) t v, fn.params[j]? = some t → args[j]? = some v → Value.okWide C.prog W .any base t v) →
      DataW.Whole enc C.prog fn.params.toList s.vars apart W args.toList ds gs before →
      conds.all (PathCond.test C.prog ⟨fn.params.toList, ds, s.plain.varTypes C.prog, gs⟩) = true →
      (DataW.weightsEach C.prog (fn.params.toList ++ s.plain.varTypes C.prog) (ds ++ gs)).all (· ≤ reachBytes) = true → X W args → W.ShapedOpen C.prog →
      Calls C.prog f args W fun e W' => ∃ v, e = .returned v ∧ s.post enc C.prog fn apart fresh handsOn again W args v W') :
    ReturnsInHanded a C os f .any (fun w args => (s.pre enc C.prog fn conds apart w args ∧ X w args) ∧ sizedMet enc C.prog fn (OpenSpec.ofChange s) apart w args) (s.post enc C.prog fn apart fresh handsOn again) := by
  refine returnsInHanded_of_calls own started noInit witness ?_
  rintro w tape i _ hsh _ ⟨_, _, _, fn', hfn', _, _, _, _, hval⟩ ⟨⟨⟨ds, gs, before, hw, hc⟩, hx⟩, hz⟩ _
  obtain rfl : fn' = fn := Option.some.inj (hfn'.symm.trans hfn)
  have hw' := DataW.Whole.of_heap (w' := w.forCall tape i) (by rfl) hw
  refine (contract (w.forCall tape i) w.heap.size i.args ds gs before hval hw' hc (hz.weights hw) (hX _ _ _ (by rfl) hx) hsh).mono ?_
  rintro e W' ⟨v, rfl, hp⟩
  exact ChangeSpec.post_blind hp
end
end Go.Fw
namespace Go.Proofs
def Tryz.laysM146_ren : Go.Shelf.Ren := ⟨fun | 146 => 57 | 221 => 106 | 268 => 133 | 138 => 134 | 143 => 135 | 195 => 148 | 197 => 149 | 218 => 150 | 219 => 151 | 260 => 158 | 217 => 159 | 225 => 160 | 224 => 161 | 267 => 162 | 266 => 165 | 314 => 166 | n => n, fun | 9 => 9 | 31 => 108 | 3 => 3 | 4 => 4 | 0 => 0 | 105 => 189 | 21 => 21 | 5 => 5 | 46 => 126 | 119 => 200 | 139 => 203 | 138 => 202 | 146 => 204 | 51 => 195 | n => n, fun | 1 => 3 | 3 => 4 | 4 => 5 | n => n⟩
theorem Tryz.laysM146 : Go.Proofs.LaysM.n146 Tryz.prog Tryz.laysM146_ren := {
  mixed := by kernel_rfl
  f138 := Tryz.func134.trans (congrArg some (by kernel_rfl))
  f143 := Tryz.func135.trans (congrArg some (by kernel_rfl))
  f146 := Tryz.func57.trans (congrArg some (by kernel_rfl))
  f195 := Tryz.func148.trans (congrArg some (by kernel_rfl))
  f197 := Tryz.func149.trans (congrArg some (by kernel_rfl))
  f217 := Tryz.func159.trans (congrArg some (by kernel_rfl))
  f218 := Tryz.func150.trans (congrArg some (by kernel_rfl))
  f219 := Tryz.func151.trans (congrArg some (by kernel_rfl))
  f221 := Tryz.func106.trans (congrArg some (by kernel_rfl))
  f224 := Tryz.func161.trans (congrArg some (by kernel_rfl))
  f225 := Tryz.func160.trans (congrArg some (by kernel_rfl))
  f260 := Tryz.func158.trans (congrArg some (by kernel_rfl))
  f266 := Tryz.func165.trans (congrArg some (by kernel_rfl))
  f267 := Tryz.func162.trans (congrArg some (by kernel_rfl))
  f268 := Tryz.func133.trans (congrArg some (by kernel_rfl))
  f314 := Tryz.func166.trans (congrArg some (by kernel_rfl))
  t0 := Tryz.underlying0
  a0 := Tryz.isAgg0
  z0 := Tryz.sizeOf0
  v0 := Tryz.zeroValue0
  t3 := Tryz.underlying3
  a3 := Tryz.isAgg3
  z3 := Tryz.sizeOf3
  v3 := Tryz.zeroValue3
  t4 := Tryz.underlying4
  a4 := Tryz.isAgg4
  z4 := Tryz.sizeOf4
  v4 := Tryz.zeroValue4
  t5 := Tryz.underlying5
  a5 := Tryz.isAgg5
  z5 := Tryz.sizeOf5
  v5 := Tryz.zeroValue5
  t9 := Tryz.underlying9
  a9 := Tryz.isAgg9
  z9 := Tryz.sizeOf9
  v9 := Tryz.zeroValue9
  t21 := Tryz.underlying21
  a21 := Tryz.isAgg21
  z21 := Tryz.sizeOf21
  v21 := Tryz.zeroValue21
  t31 := Tryz.underlying108
  a31 := Tryz.isAgg108
  z31 := Tryz.sizeOf108
  v31 := Tryz.zeroValue108
  t46 := Tryz.underlying126
  a46 := Tryz.isAgg126
  z46 := Tryz.sizeOf126
  v46 := Tryz.zeroValue126
  t51 := Tryz.underlying195
  a51 := Tryz.isAgg195
  z51 := Tryz.sizeOf195
  v51 := Tryz.zeroValue195
  t105 := Tryz.underlying189
  a105 := Tryz.isAgg189
  z105 := Tryz.sizeOf189
  v105 := Tryz.zeroValue189
  t119 := Tryz.underlying200
  a119 := Tryz.isAgg200
  z119 := Tryz.sizeOf200
  t138 := Tryz.underlying202
  a138 := Tryz.isAgg202
  z138 := Tryz.sizeOf202
  v138 := Tryz.zeroValue202
  t139 := Tryz.underlying203
  a139 := Tryz.isAgg203
  z139 := Tryz.sizeOf203
  v139 := Tryz.zeroValue203
  t146 := Tryz.underlying204
  a146 := Tryz.isAgg204
  z146 := Tryz.sizeOf204
  v146 := Tryz.zeroValue204
  g1 := by kernel_rfl
  g3 := by kernel_rfl
  g4 := by kernel_rfl
  i0 := by kernel_rfl
  i3 := by kernel_rfl
  i4 := by kernel_rfl
  i5 := by kernel_rfl
  i9 := by kernel_rfl
  i21 := by kernel_rfl
  i31 := by kernel_rfl
  i46 := by kernel_rfl
  i51 := by kernel_rfl
  i105 := by kernel_rfl
  i138 := by kernel_rfl
  i139 := by kernel_rfl
  i146 := by kernel_rfl
  m1 := by kernel_rfl
  s1_3 := fun w h => Go.Proofs.cell_of_shapedOpen_int (zero := #[.int .i64 0]) (t := 3) h (of_decide_eq_true (by kernel_rfl)) (by kernel_rfl) rfl (by kernel_rfl) (by kernel_rfl) Tryz.underlying3
  m3 := by kernel_rfl
  m4 := by kernel_rfl }
end Go.Proofs
namespace Go.Proofs.YtlapmbkfmbkdoaaGreatDoor
open Go Go.Fw Go.RowKit
attribute [local irreducible] Go.Oper.wp Go.Code.wp Go.wpList Go.Fw.WL Go.Calls
theorem max_of {w : World} (h : w.ShapedOpen Tryz.prog) : MaxW w := Tryz.laysM146.s1_3 w h
end Go.Proofs.YtlapmbkfmbkdoaaGreatDoor
end
section
namespace Go.Proofs.YtlapmbkfmbkdoaaGreatDoor
open Go Go.Fw Go.RowKit
attribute [local irreducible] Go.Oper.wp Go.Code.wp Go.wpList Go.Fw.WL Go.Calls
end Go.Proofs.YtlapmbkfmbkdoaaGreatDoor
end
