/- Part 7 of what the row MachineNew needs, with no condition beyond each lemma's own. -/
import Derived.Test.YtlapmbkfmbkdoaaGreatDoorSd6
section
namespace Go.Proofs.YtlapmbkfmbkdoaaGreatDoor
open Go Go.Fw Go.RowKit
attribute [local irreducible] Go.Oper.wp Go.Code.wp Go.wpList Go.Fw.WL Go.Calls
theorem ze3i : zeT Tryz.prog 3 (.int .i64 0) := by unfold zeT; kernel_rfl
theorem own_b2 {z : Seg} {A : Option Addr} {n c x y : Nat} {l : List Nat} (h : OwnS z A n c (byts l ++ [.int .u8 ((x : Nat) : Int)] ++ [.int .u8 ((y : Nat) : Int)]) 5 1) : OwnS z A n c (byts (l ++ [x] ++ [y])) 5 1 := by
  have e : byts (l ++ [x] ++ [y]) = byts l ++ [.int .u8 ((x : Nat) : Int)] ++ [.int .u8 ((y : Nat) : Int)] := by simp [byts]
  rw [e]; exact h
set_option maxHeartbeats 8000000 in
theorem line_calls (ba : Nat) (acc : List (It × Nat)) (s : Seg) (wk n ln : Nat) (wl : List (List Nat)) (w0 : World) (hAs : AsmS ba acc s) (ho : Own w0 s) (hac : AccOK acc) (hla : acc.length ≤ 100000) (hW : RdK w0 (s.map (·.1)) (some ⟨wk, 0, none⟩) (strs wl)) (hn : wl.length = n) (h1 : 1 ≤ n) (hnb : n ≤ 1000000) (hB : ∀ x ∈ wl, Byt x) (hwl : ∀ x ∈ wl, x.length ≤ 1000000) (hln : ln ≤ 1000000) : Ret Tryz.prog 59 [.pointer (some ⟨ba, 0, none⟩), .slice (some ⟨wk, 0, none⟩) n n, .int .i64 ((ln : Nat) : Int)] w0 (s.map (·.1)) (fun v s' => LineR ba acc wl ln v s') := by
 refine fn_start Tryz.func59 Y Tryz.ntmps59 Y [(0, .pointer (some ⟨ba, 0, none⟩)), (1, .slice (some ⟨wk, 0, none⟩) n n), (2, .int .i64 ((ln : Nat) : Int))] ⟨Y, Y, Y, trivial⟩ ?_
 intro Q a hP G hR hN
 have M := St.enter ho
 obtain ⟨A, ca, J, dj, bm, es, cnt, zc, zj, hs, hO, hJ, hM⟩ := hAs; have M := M.flat (bs' := [[(ba, Cel (asmC A (lenN acc) ca bm J (jmps acc 0).length dj) 120)], [(bm, .map es cnt)], zc, zj]) (by simp [hs]); have hB0 := getD_byt hB 0; have hB1 := getD_byt hB 1; have hds : (toB 32 ((prs (wl.getD 1 [])).getD 0)).length = 32 := length_toB 32 _; have hlc := acc_len hac; have hlj := jmps_len acc 0
 refine wp_seq_k fun K1 hK1=> wp_region_lit <| av G Y Y fun a G=> s0 <| then_n (hK1 _ _ <| wp_seq_k fun K2 hK2=> wp_seq_k fun K3 hK3=> wp_region_lit <| mv G Y Y fun a G=> sw G Y Y Y (R.indexO Tryz.underlying108 sz9 (G.ev Y) (by simp) (G.ev Y) (by omega) (by omega)) fun a G=> sw G Y Y Y (R.loadO one9 (G.ev Y) (hW.old M) (strs_at (i := 0) (by omega) (by omega))) fun a G=> so (wn Y) (O.call Y Y G ent110 (G.evs Y) M (suffix_l hB0 _ (hwl _ (mem_getD (by omega)))) fun v s23 a w hR G M=> ?_))
 obtain ⟨tl, rfl, hBt, htl, rfl⟩ := hR
 refine mv G Y Y fun a G=> xv G Y Y Y fun a G=> xv G Y Y Y fun a G=> av G Y Y fun a G=> av G Y Y fun a G=> s0 <| then_n (hK3 _ _ <| wp_seq_k fun K4 hK4=> ?_)
 have hK4' : ∀ a w, (Fr 214 [(0, .pointer (some ⟨ba, 0, none⟩)), (1, .slice (some ⟨wk, 0, none⟩) n n), (2, .int .i64 ((ln : Nat) : Int)), (7, .string (bstr tl)), (35, .bool (decide (n = 1 ∧ (lblN (wl.getD 0 [])).2 = true)))] a ∧ St w0 (s.map (·.1)) [[(ba, Cel (asmC A (lenN acc) ca bm J (jmps acc 0).length dj) 120)], [(bm, .map es cnt)], zc, zj] w) → K4 a w := by
  rintro a w ⟨G, M⟩
  refine hK4 _ _ ?_
  refine cD G Y (fun c1=> ?_) (fun c1=> ?_)
  ·have hBL := acc_bytL hac 0
   have hlt := lab_str c1.2 htl
   rw [hlt] at G hBt
   have hU := und_lab hn (by omega) c1.2
   refine wp_seq_k fun K5 hK5=> wp_region_lit <| mv G Y Y fun a G=> sw G Y Y Y (R.nilCheck (G.ev Y)) fun a G=> sw G Y Y Y (R.fieldAddr (k := 1) Tryz.underlying120 Y nz117 (G.ev Y) Y) fun a G=> sw G Y Y Y (R.load one117 (G.ev Y) M .h (Y)) fun a G=> mv G Y Y fun a G=> sw G Y Y Y (R.lookupS Tryz.underlying117 Tryz.underlying9 ze3i (St.get M (.t .h)) hM hBL hBt (G.ev Y) (G.ev Y)) fun a G=> mv G Y Y fun a G=> xv G Y Y Y fun a G=> xv G Y Y Y fun a G=> av G Y Y fun a G=> av G Y Y fun a G=> s0 <| then_n (hK5 _ _ <| wp_seq_k fun K6 hK6=> wp_drawS M [(0, 0), (1, 0), (2, 0), (3, 1), (4, 0), (5, 0), (6, 0), (7, 0), (8, 1), (9, 0), (10, 3)] mix (by kernel_rfl) (hP.then.then) fun w M=> ?_)
   have hD := M
   refine dm G Y Y Y fun a G=> dv G Y Y Y Y (fun w=> R.nilCheck (G.ev Y)) fun a G=> dv G Y Y Y Y (fun w=> R.fieldAddr (k := 1) Tryz.underlying120 Y nz117 (G.ev Y) Y) fun a G=> ds G Y Y Y Y hD (fun w hD=> R.load one117 (G.ev Y) hD .h (Y)) fun a G=> ?_
   refine dm G Y Y Y fun a G=> dm G Y Y Y fun a G=> dv G Y Y Y Y (fun w=> R.nilCheck (G.ev Y)) fun a G=> dv G Y Y Y Y (fun w=> R.fieldAddr (k := 0) Tryz.underlying120 Y nz22 (G.ev Y) Y) fun a G=> ds G Y Y Y Y hD (fun w hD=> R.load one22 (G.ev Y) hD .h (Y)) fun a G=> ?_
   refine dv G Y Y Y Y (fun w=> R.len Tryz.underlying22 (G.ev Y)) fun a G=> dw Y (wn Y) (O.mapUpdateS Tryz.underlying117 Tryz.underlying9 (G.ev Y) (G.ev Y) (G.ev Y) Y hM hBL hBt M (fun _=> (.t .h)) fun es' cnt' w hM2 M=> ?_)
   refine d0 <| then_n (hK6 _ _ <| wp_seq_k fun K7 hK7=> wp_region_lit <| mv G Y Y fun a G=> ?_)
   refine sw G Y Y Y ((by first | exact R.notD (G.ev Y) | exact R.not (G.ev Y))) fun a G=> ?_
   refine av G Y Y fun a G=> s0 <| then_n (hK7 _ _ <| wp_ret (then_r (hR _ _ _ _ _ G (run_results Tryz.results59 (.t G Y (.nil))) ?_)))
   cases hk : lkp (labs acc 0) (lblN (wl.getD 0 [])).1 with
   | none => (obtain ⟨s', h1, h2⟩ := close_lab ln (lblN (wl.getD 0 [])).1 (M.sel [0, 1, 2, 3] rfl rfl) rfl hO rfl hJ (hM2 hk); exact ⟨_, s', rfl, .inr ⟨rfl, _, hU, by rw [tw_lkp _ _ 0, hk]; rfl, h1⟩, h2⟩)
   | some p => exact ⟨_, [], rfl, .inl ⟨rfl, .inr ⟨_, hU, by rw [tw_lkp _ _ 0, hk]; rfl⟩⟩, M.none⟩
  have hU := und_ins hn (fun h => by (cases hl : (lblN (wl.getD 0 [])).2 with | false => rfl | true => exact absurd ⟨h, hl⟩ c1))
  refine wp_skip <| then_n (hK2 _ _ <| wp_seq_k fun K8 hK8=> wp_region_lit <| mv G Y Y fun a G=> sw G Y Y Y (R.indexO Tryz.underlying108 sz9 (G.ev Y) (by simp) (G.ev Y) (by omega) (by omega)) fun a G=> sw G Y Y Y (R.loadO one9 (G.ev Y) (hW.old M) (strs_at (i := 0) (by omega) (by omega))) fun a G=> so (wn Y) (O.call Y Y G ent112 (G.evs Y) M (codeOf_l hB0 _) fun v s61 a w hR G M=> ?_))
  obtain ⟨rfl, rfl⟩ := hR
  refine mv G Y Y fun a G=> xv G Y Y Y fun a G=> xv G Y Y Y fun a G=> av G Y Y fun a G=> av G Y Y fun a G=> s0 <| then_n (hK8 _ _ <| wp_seq_k fun K9 hK9=> wp_seq_k fun K10 hK10=> ?_)
  have hK10' : ∀ a w, (Fr 214 [(0, .pointer (some ⟨ba, 0, none⟩)), (1, .slice (some ⟨wk, 0, none⟩) n n), (2, .int .i64 ((ln : Nat) : Int)), (11, .int .i64 (if codeN (wl.getD 0 []) < 28 then ((codeN (wl.getD 0 []) : Nat) : Int) else 0)), (79, .bool (decide (2 < n ∨ 28 ≤ codeN (wl.getD 0 []) ∨ ¬ ((codeN (wl.getD 0 []) = 2 ∨ codeN (wl.getD 0 []) = 4 ∨ codeN (wl.getD 0 []) = 5 ∨ codeN (wl.getD 0 []) = 16 ∨ codeN (wl.getD 0 []) = 14 ∨ codeN (wl.getD 0 []) = 15) ↔ n = 2))))] a ∧ St w0 (s.map (·.1)) [[(ba, Cel (asmC A (lenN acc) ca bm J (jmps acc 0).length dj) 120)], [(bm, .map es cnt)], zc, zj] w) → K10 a w := by
   rintro a w ⟨G, M⟩
   refine hK10 _ _ ?_
   refine cD G Y (fun c2=> ?_) (fun c2=> ?_)
   ·refine wp_seq_k fun K11 hK11=> wp_region_lit <| av G Y Y fun a G=> s0 <| then_n (hK11 _ _ <| wp_ret (then_r (hR _ _ _ _ _ G (run_results Tryz.results59 (.t G Y (.nil))) ?_)))
    exact ⟨_, [], Y, line_bad Y (hU.trans (ins_1 c2)), M.none⟩
   have hc28 : codeN (wl.getD 0 []) < 28 := by omega
   rw [if_pos hc28] at G
   generalize codeN (wl.getD 0 []) = c at G hU c2 hc28
   have hgd : ¬ (2 < n ∨ 28 ≤ c ∨ ¬ (hasP c ↔ n = 2)) := c2
   have hop := operN_spec c
   refine wp_skip <| then_n (hK9 _ _ <| wp_seq_k fun K12 hK12=> wp_region_lit <| mv G Y Y fun a G=> sw G Y Y Y (R.nilCheck (G.ev Y)) fun a G=> sw G Y Y Y (R.fieldAddr (k := 0) Tryz.underlying120 Y nz22 (G.ev Y) Y) fun a G=> sw G Y Y Y (R.load one22 (G.ev Y) M .h (Y)) fun a G=> sw G Y Y Y (R.len Tryz.underlying22 (G.ev Y)) fun a G=> av G Y Y fun a G=> s0 <| then_n (hK12 _ _ <| wp_seq_k fun K13 hK13=> wp_region_lit <| mv G Y Y fun a G=> mv G Y Y fun a G=> sw G Y Y Y (R.nilCheck (G.ev Y)) fun a G=> sw G Y Y Y (R.fieldAddr (k := 0) Tryz.underlying120 Y nz22 (G.ev Y) Y) fun a G=> sw G Y Y Y (R.load one22 (G.ev Y) M .h (Y)) fun a G=> mv G Y Y fun a G=> sw G Y Y Y (R.as (u := .int .u8 ((c : Nat) : Int)) (R.convB (p := c) Tryz.underlying3 Tryz.underlying5 (G.ev Y)) (congrArg (fun z : Nat=> Value.int .u8 (z : Int)) (Nat.mod_eq_of_lt (by omega)))) fun a G=> so (wn Y) (O.buildSlice (l := [_]) Y Y G Tryz.underlying22 inf5 Y Y (G.evp Y) (by decide) Y M fun b92 a w G M=> ?_)))
   refine so (wn Y) (O.append Y Y G Tryz.underlying22 inf5 Y Y (by decide) (G.ev Y) (G.ev Y) M hO (fun _=> (.t (.t (.t .h)))) (Rd.own0 M .h) (Y) (by simp [Value.oneCell']) (by unfold maxLen; omega) (by omega) fun A93 c93 s93 a w hO93 G M=> ?_)
   refine sw G Y Y Y (R.nilCheck (G.ev Y)) fun a G=> sw G Y Y Y (R.fieldAddr (k := 0) Tryz.underlying120 Y nz22 (G.ev Y) Y) fun a G=> ?_
   refine so (wn Y) (O.store sz22 (G.ev Y) (G.ev Y) Y Y M (.t .h) (Y) (by first | decide | omega | (show _ < 59; decide) | (show _ < 3; decide) | simp) fun w M=> ?_)
   refine s0 <| then_n (hK13 _ _ <| wp_seq_k fun K14 hK14=> wp_seq_k fun K15 hK15=> wp_region_lit <| mv G Y Y fun a G=> so (wn Y) (O.call Y Y G ent36 (G.evs Y) M (operandOf_calls c _) fun v s97 a w hR G M=> ?_))
   obtain ⟨rfl, rfl⟩ := hR
   refine s0 <| then_n (hK15 _ _ <| wp_block <| wp_seq_k fun K16 hK16=> wp_region_lit <| sw G Y Y Y (R.as (u := .bool (decide (c = 2))) (R.eql (G.ev Y) (G.ev Y)) (congrArg Value.bool (decide_eq_decide.2 (by omega)))) fun a G=> av G Y Y fun a G=> s0 <| then_n (hK16 _ _ <| cD G Y (fun c3=> ?_) (fun c3=> ?_)))
   ·have hp : hasP c := .inl c3
    refine wp_seq_k fun K17 hK17=> wp_region_lit <| mv G Y Y fun a G=> sw G Y Y Y (R.indexO Tryz.underlying108 sz9 (G.ev Y) (by simp) (G.ev Y) (by omega) (by omega)) fun a G=> sw G Y Y Y (R.loadO one9 (G.ev Y) (hW.old M) (strs_at (i := 1) (by omega) (by omega))) fun a G=> so (wn Y) (O.call Y Y G ent113 (G.evs Y) M (parse_l hB1 _) fun v s104 a w hR G M=> ?_)
    obtain ⟨rfl, rfl⟩ := hR
    refine mv G Y Y fun a G=> xv G Y Y Y fun a G=> xv G Y Y Y fun a G=> so (wn Y) (O.alloc Y Y G ze32 Y M fun b14 a w G M=> ?_)
    refine so (wn Y) (O.storeW sz32 (G.ev Y) (G.ev Y) (Y) Y (by simp [Value.oneCell']) M .h (Y) fun w M=> ?_)
    refine av G Y Y fun a G=> s0 <| then_n (hK17 _ _ <| wp_seq_k fun K18 hK18=> wp_seq_k fun K19 hK19=> wp_region_lit <| mv G Y Y fun a G=> sw G Y Y Y (R.as (u := .bool (decide ((prs (wl.getD 1 [])).isSome = false))) (R.neq (G.ev Y) (G.ev Y)) (err_21 _)) fun a G=> s0 <| then_n (hK19 _ _ <| cD G Y (fun c4=> ?_) (fun c4=> ?_)))
    ·refine wp_seq_k fun K20 hK20=> wp_region_lit <| av G Y Y fun a G=> s0 <| then_n (hK20 _ _ <| wp_ret (then_r (blk_r (then_r (hR _ _ _ _ _ G (run_results Tryz.results59 (.t G Y (.nil))) ?_)))))
     exact ⟨_, [], Y, line_bad Y (hU.trans (ins_4 hgd hp (by omega) c4)), M.none⟩
    have hs : (prs (wl.getD 1 [])).isSome = true := by (cases h : (prs (wl.getD 1 [])).isSome with | false => exact absurd h c4 | true => rfl)
    refine wp_skip <| then_n (hK18 _ _ <| wp_seq_k fun K21 hK21=> wp_region_lit <| sw G Y Y Y (R.loadW agg32 (G.ev Y) M .h sz32 (Y)) fun a G=> so (wn Y) (O.call Y Y G ent114 (G.evs Y) M (bytes_calls ((prs (wl.getD 1 [])).getD 0) w) fun v s110 a w hR G M=> ?_))
    obtain ⟨A16, c16, rfl, hO16⟩ := hR
    rw [wb_toB, length_toB] at G; rw [wb_toB] at hO16; obtain ⟨g16, rest16, rfl, rfl, hnc16, hcm16⟩ := own_open hO16 (by rw [length_toB]; decide); rw [length_toB] at hnc16
    refine av G Y Y fun a G=> s0 <| then_n (hK21 _ _ <| wp_seq_k fun K22 hK22=> wp_block <| wp_loop_N (fun g a w=> ∃ (j : Nat), 32 - j = g ∧ Fr 214 [(0, .pointer (some ⟨ba, 0, none⟩)), (16, .slice (some ⟨g16, j, none⟩) (32 - j) (c16 - j))] a ∧ St w0 (s.map (·.1)) [[(g16, Cel (byts (toB 32 ((prs (wl.getD 1 [])).getD 0)) ++ rest16) 5)], [(ba, Cel (asmC A93 (lenN acc + 1) c93 bm J (jmps acc 0).length dj) 120)], [(bm, .map es cnt)], s93, zj] w ∧ (j ≤ 31) ∧ (∀ i, i < j → (toB 32 ((prs (wl.getD 1 [])).getD 0)).getD i 0 = 0)) (32 - 0) ?_ ?_)
    ·exact ⟨0, Y, G.sub ⟨Y, Y, trivial⟩, M.sel [0, 5, 6, 7, 8] Y Y, by omega, (fun i hi => absurd hi (Nat.not_lt_zero i))⟩
    rintro KL1 g a w ⟨j, hg1, G, M, hj, hz⟩ hKL1
    have hdj := toB_lt _ (mem_getD (d := 0) (l := (toB 32 ((prs (wl.getD 1 [])).getD 0))) (i := j) (by omega))
    refine wp_seq_k fun K23 hK23=> wp_seq_k fun K24 hK24=> ?_
    have hK24' : ∀ a w, (Fr 214 [(0, .pointer (some ⟨ba, 0, none⟩)), (16, .slice (some ⟨g16, j, none⟩) (32 - j) (c16 - j)), (119, .bool (decide (1 < 32 - j ∧ (toB 32 ((prs (wl.getD 1 [])).getD 0)).getD j 0 = 0)))] a ∧ St w0 (s.map (·.1)) [[(g16, Cel (byts (toB 32 ((prs (wl.getD 1 [])).getD 0)) ++ rest16) 5)], [(ba, Cel (asmC A93 (lenN acc + 1) c93 bm J (jmps acc 0).length dj) 120)], [(bm, .map es cnt)], s93, zj] w) → K24 a w := by
     rintro a w ⟨G, M⟩
     refine hK24 _ _ ?_
     refine cD G Y (fun d1=> ?_) (fun d1=> ?_)
     ·refine wp_skip <| then_n (hK23 _ _ <| wp_block <| wp_region_lit <| mv G Y Y fun a G=> sw G Y Y Y (R.as (u := .slice (some ⟨g16, j + 1, none⟩) (32 - (j + 1)) (c16 - (j + 1))) (R.sliceLo (p := 1) Tryz.underlying22 (G.ev Y) (G.ev Y) (by omega) sz5) (slc_nextB (by omega) hnc16)) fun a G=> av G Y Y fun a G=> s0 <| blk_n <| then_n (hKL1 (32 - (j + 1)) _ _ ?_ ?_))
      ·omega
      exact ⟨j + 1, Y, G.sub ⟨Y, Y, trivial⟩, M.sel [0, 1, 2, 3, 4] Y Y, by omega, strip_next hds (by omega) hz d1.2⟩
     have hst := strip_end hds hj hz d1
     have hps : pshN ((prs (wl.getD 1 [])).getD 0) = [c, 32 - j] ++ (toB 32 ((prs (wl.getD 1 [])).getD 0)).drop j := by (unfold pshN; rw [hst, List.length_drop, hds, c3]; rfl)
     refine wp_exit (then_x (then_x (blk_hit <| then_n (hK22 _ _ <| wp_region_lit <| mv G Y Y fun a G=> mv G Y Y fun a G=> sw G Y Y Y (R.nilCheck (G.ev Y)) fun a G=> sw G Y Y Y (R.fieldAddr (k := 0) Tryz.underlying120 Y nz22 (G.ev Y) Y) fun a G=> sw G Y Y Y (R.load one22 (G.ev Y) M (.t .h) (Y)) fun a G=> mv G Y Y fun a G=> sw G Y Y Y (R.len Tryz.underlying22 (G.ev Y)) fun a G=> sw G Y Y Y (R.as (u := .int .u8 (((32 - j) : Nat) : Int)) (R.convB (p := 32 - j) Tryz.underlying3 Tryz.underlying5 (G.ev Y)) (congrArg (fun z : Nat=> Value.int .u8 (z : Int)) (Nat.mod_eq_of_lt (by omega)))) fun a G=> so (wn Y) (O.buildSlice (l := [_]) Y Y G Tryz.underlying22 inf5 Y Y (G.evp Y) (by decide) Y M fun b130 a w G M=> ?_)))))
     refine so (wn Y) (O.append Y Y G Tryz.underlying22 inf5 Y Y (by decide) (G.ev Y) (G.ev Y) M hO93 (fun _=> (.t (.t (.t (.t .h))))) (Rd.own0 M .h) (Y) (by simp [Value.oneCell']) (by unfold maxLen; omega) (by omega) fun A131 c131 s131 a w hO131 G M=> ?_)
     refine mv G Y Y fun a G=> so (wn Y) (O.appendO Y Y G Tryz.underlying22 inf5 Y Y (by decide) (G.ev Y) (G.ev Y) M (own_b2 hO131) (fun _=> (.t (.t (.t (.t .h))))) (rd_drop (j := j) (rd_app (Rd.own0 M (.t .h)))) (by rw [← byts_drop, length_byts, List.length_drop]; omega) (by rw [← byts_drop]; exact byts_one _) (by unfold maxLen; omega) (by omega) fun A133 c133 s133 a w hO133 G M=> ?_)
     refine sw G Y Y Y (R.nilCheck (G.ev Y)) fun a G=> sw G Y Y Y (R.fieldAddr (k := 0) Tryz.underlying120 Y nz22 (G.ev Y) Y) fun a G=> ?_
     refine so (wn Y) (O.store sz22 (G.ev Y) (G.ev Y) Y Y M (.t (.t .h)) (Y) (by first | decide | omega | (show _ < 59; decide) | (show _ < 3; decide) | simp) fun w M=> ?_)
     refine s0 <| blk_n <| then_n (hK14 _ _ <| wp_seq_k fun K25 hK25=> wp_region_lit <| av G Y Y fun a G=> s0 <| then_n (hK25 _ _ <| wp_ret (hR _ _ _ _ _ G (run_results Tryz.results59 (.t G Y (.nil))) ?_)))
     obtain ⟨s', h1, h2⟩ := close_ins (x := ⟨[], c, (pshN ((prs (wl.getD 1 [])).getD 0)), []⟩) ln (by simp only; omega) rfl (M.sel [2, 3, 4, 5] rfl rfl) (by rw [hps]; simp only [List.length_append, List.length_cons, List.length_nil, List.length_drop, hds]; omega) (by rw [hps]; rw [← byts_drop, byts_append] at hO133; simpa [List.append_assoc] using hO133) rfl hJ hM
     exact ⟨_, s', Y, line_ins Y (hU.trans (ins_5 hgd hp (by omega) hs c3)) (by simp only; omega) h1, h2⟩
    refine wp_region_lit <| mv G Y Y fun a G=> sw G Y Y Y (R.len Tryz.underlying22 (G.ev Y)) fun a G=> sw G Y Y Y (R.gtr (G.ev Y) (G.ev Y)) fun a G=> mv G Y Y fun a G=> G.splitD (t := 114) Y (fun h114 G=> ?_) (fun h114 G=> ?_)
    ·refine my G Y Y Y Y fun a G=> sv' G (wy G Y Y Y) Y Y (R.indexO Tryz.underlying22 sz5 (G.ev Y) (by simp) (G.ev Y) (by omega) (by omega)) fun a G=> sv' G (wy G Y Y Y) Y Y (R.loadO one5 (G.ev Y) (rd_drop (j := j) (rd_app (Rd.own0 M .h))) ((by rw [← byts_drop, byts_drop]; exact dslb_0 (j := j) (by omega) (by omega)))) fun a G=> sv' G (wy G Y Y Y) Y Y (R.eql (G.ev Y) (G.ev Y)) fun a G=> pT G Y Y Y fun a G=> s0 ?_
     exact then_n (hK24' _ _ ⟨G.sub ⟨Y, Y, (congrArg (fun z => some (Value.bool z)) (by first | exact (decide_eq_true (by omega)).symm | exact (decide_eq_false (by omega)).symm | exact decide_eq_decide.2 (by omega))), trivial⟩, M.sel [0, 1, 2, 3, 4] Y Y⟩)
    refine kz G Y Y Y Y Y Y fun a G=> kz G Y Y Y Y Y Y fun a G=> kz G Y Y Y Y Y Y fun a G=> kz G Y Y Y Y Y Y fun a G=> pF G Y Y Y fun a G=> s0 ?_
    exact then_n (hK24' _ _ ⟨G.sub ⟨Y, Y, (congrArg (fun z => some (Value.bool z)) (by first | exact (decide_eq_true (by omega)).symm | exact (decide_eq_false (by omega)).symm | exact decide_eq_decide.2 (by omega))), trivial⟩, M.sel [0, 1, 2, 3, 4] Y Y⟩)
   refine wp_seq_k fun K26 hK26=> wp_region_lit <| sw G Y Y Y (R.as (u := .bool (decide (c = 4 ∨ c = 5 ∨ c = 16))) (R.eql (G.ev Y) (G.ev Y)) (congrArg Value.bool (decide_eq_decide.2 (by omega)))) fun a G=> av G Y Y fun a G=> s0 <| then_n (hK26 _ _ <| cD G Y (fun c5=> ?_) (fun c5=> ?_))
   ·have hp : hasP c := by unfold hasP; omega
    have hmo := most_c c; have hle := least_c c; have hdg := dg_c ((prs (wl.getD 1 [])).getD 0)
    refine wp_seq_k fun K27 hK27=> wp_region_lit <| mv G Y Y fun a G=> sw G Y Y Y (R.indexO Tryz.underlying108 sz9 (G.ev Y) (by simp) (G.ev Y) (by omega) (by omega)) fun a G=> sw G Y Y Y (R.loadO one9 (G.ev Y) (hW.old M) (strs_at (i := 1) (by omega) (by omega))) fun a G=> so (wn Y) (O.call Y Y G ent113 (G.evs Y) M (parse_l hB1 _) fun v s142 a w hR G M=> ?_)
    obtain ⟨rfl, rfl⟩ := hR
    refine mv G Y Y fun a G=> xv G Y Y Y fun a G=> xv G Y Y Y fun a G=> so (wn Y) (O.alloc Y Y G ze32 Y M fun b17 a w G M=> ?_)
    refine so (wn Y) (O.storeW sz32 (G.ev Y) (G.ev Y) (Y) Y (by simp [Value.oneCell']) M .h (Y) fun w M=> ?_)
    refine av G Y Y fun a G=> s0 <| then_n (hK27 _ _ <| wp_seq_k fun K28 hK28=> wp_seq_k fun K29 hK29=> ?_)
    have hK29' : ∀ a w, (Fr 214 [(0, .pointer (some ⟨ba, 0, none⟩)), (1, .slice (some ⟨wk, 0, none⟩) n n), (17, .pointer (some ⟨b17, 0, none⟩)), (170, .bool (decide ((prs (wl.getD 1 [])).isSome = false ∨ mostN c < ((prs (wl.getD 1 [])).getD 0) ∨ ((prs (wl.getD 1 [])).getD 0) < leastN c)))] a ∧ St w0 (s.map (·.1)) [[(b17, Cel (wc ((prs (wl.getD 1 [])).getD 0)) 32)], [(ba, Cel (asmC A93 (lenN acc + 1) c93 bm J (jmps acc 0).length dj) 120)], [(bm, .map es cnt)], s93, zj] w) → K29 a w := by
     rintro a w ⟨G, M⟩
     refine hK29 _ _ ?_
     refine cD G Y (fun c6=> ?_) (fun c6=> ?_)
     ·refine wp_seq_k fun K30 hK30=> wp_region_lit <| av G Y Y fun a G=> s0 <| then_n (hK30 _ _ <| wp_ret (then_r (blk_r (then_r (hR _ _ _ _ _ G (run_results Tryz.results59 (.t G Y (.nil))) ?_)))))
      rcases c6 with c6 | c6
      ·exact ⟨_, [], Y, line_bad Y (hU.trans (ins_4 hgd hp (by omega) c6)), M.none⟩
      (cases hs : (prs (wl.getD 1 [])).isSome with | false => exact ⟨_, [], rfl, line_bad rfl (hU.trans (ins_4 hgd hp (by omega) hs)), M.none⟩ | true => exact ⟨_, [], rfl, line_bad rfl (hU.trans ((ins_6 hgd hp (by omega) hs (by omega)).trans (if_pos c6))), M.none⟩)
     have hs : (prs (wl.getD 1 [])).isSome = true := by (cases h : (prs (wl.getD 1 [])).isSome with | false => exact absurd (.inl h) c6 | true => rfl)
     have hb6 : ¬ (mostN c < ((prs (wl.getD 1 [])).getD 0) ∨ ((prs (wl.getD 1 [])).getD 0) < leastN c) := fun h => c6 (.inr h)
     have hml := most_le c
     refine wp_skip <| then_n (hK28 _ _ <| wp_draw2G M (M.sel [0] Y Y) [(0, 0), (1, 0), (2, 0), (3, 0), (5, 0), (6, 1), (7, 0)] [[(4, 2), (8, 2), (9, 2), (10, 0), (11, 0), (12, 2)], [(8, 2), (4, 2), (9, 2), (10, 0), (11, 0), (12, 2)]] mix (by kernel_rfl) (hP.then.block) fun w M hD=> ?_)
     refine dm G Y Y Y fun a G=> dm G Y Y Y fun a G=> dv G Y Y Y Y (fun w=> R.nilCheck (G.ev Y)) fun a G=> dv G Y Y Y Y (fun w=> R.fieldAddr (k := 0) Tryz.underlying120 Y nz22 (G.ev Y) Y) fun a G=> dv G Y Y Y Y (fun w=> R.indexA Tryz.underlying32 sz30 (G.ev Y) (G.ev Y) (by omega) (by omega)) fun a G=> ds G Y Y Y Y hD (fun w hD=> R.load one30 (G.ev Y) hD .h (Y)) fun a G=> ?_
     refine dv G Y Y Y Y (fun w=> R.as (u := .int .u8 ((((prs (wl.getD 1 [])).getD 0) : Nat) : Int)) (R.convB (p := dg ((prs (wl.getD 1 [])).getD 0) 0) Tryz.underlying30 Tryz.underlying5 (G.ev Y)) (congrArg (fun z : Nat=> Value.int .u8 (z : Int)) (small_dg (by omega)))) fun a G=> d0 <| alts2 ?_ ?_
     ·refine dl Y (wn Y) (O.val G Y Y (R.load one22 (G.ev Y) M (.t .h) (Y)) fun a G=> ⟨id, ?_⟩)
      refine dl Y (wn Y) (O.buildSlice (l := [_]) Y Y G Tryz.underlying22 inf5 Y Y (G.evp Y) (by decide) Y M fun b179 a w G M=> ⟨fun hD=> M.sel [1] Y Y, ?_⟩)
      have hD := M.sel [1] rfl rfl
      refine dl Y (wn Y) (O.append Y Y G Tryz.underlying22 inf5 Y Y (by decide) (G.ev Y) (G.ev Y) M hO93 (fun _=> (.t (.t (.t (.t .h))))) (Rd.own0 M .h) (Y) (by simp [Value.oneCell']) (by unfold maxLen; omega) (by omega) fun A180 c180 s180 a w hO180 G M=> ⟨fun hD=> M.sel [1] Y Y, ?_⟩)
      have hD := M.sel [1] rfl rfl
      refine dv G Y Y Y Y (fun w=> R.nilCheck (G.ev Y)) fun a G=> dv G Y Y Y Y (fun w=> R.fieldAddr (k := 0) Tryz.underlying120 Y nz22 (G.ev Y) Y) fun a G=> ?_
      refine dl Y (wn Y) (O.store sz22 (G.ev Y) (G.ev Y) Y Y M (.t (.t .h)) (Y) (by first | decide | omega | (show _ < 59; decide) | (show _ < 3; decide) | simp) fun w M=> ⟨fun hD=> M.sel [1] Y Y, ?_⟩)
      have hD := M.sel [1] rfl rfl
      refine d0 <| blk_n <| then_n (hK14 _ _ <| wp_seq_k fun K31 hK31=> wp_region_lit <| av G Y Y fun a G=> s0 <| then_n (hK31 _ _ <| wp_ret (hR _ _ _ _ _ G (run_results Tryz.results59 (.t G Y (.nil))) ?_)))
      obtain ⟨s', h1, h2⟩ := close_ins (x := ⟨[], c, [c, ((prs (wl.getD 1 [])).getD 0)], []⟩) ln (by simp only; omega) rfl (M.sel [2, 3, 4, 5] rfl rfl) rfl (by simpa [byts, FB] using hO180) rfl hJ hM
      exact ⟨_, s', Y, line_ins Y (hU.trans ((ins_6 hgd hp (by omega) hs (by omega)).trans (if_neg hb6))) (by simp only; omega) h1, h2⟩
     refine dl Y (wn Y) (O.buildSlice (l := [_]) Y Y G Tryz.underlying22 inf5 Y Y (G.evp Y) (by decide) Y M fun b179 a w G M=> ⟨fun hD=> M.sel [1] Y Y, ?_⟩)
     have hD := M.sel [1] rfl rfl
     refine dl Y (wn Y) (O.val G Y Y (R.load one22 (G.ev Y) M (.t (.t .h)) (Y)) fun a G=> ⟨id, ?_⟩)
     refine dl Y (wn Y) (O.append Y Y G Tryz.underlying22 inf5 Y Y (by decide) (G.ev Y) (G.ev Y) M hO93 (fun _=> (.t (.t (.t (.t .h))))) (Rd.own0 M .h) (Y) (by simp [Value.oneCell']) (by unfold maxLen; omega) (by omega) fun A180 c180 s180 a w hO180 G M=> ⟨fun hD=> M.sel [1] Y Y, ?_⟩)
     have hD := M.sel [1] rfl rfl
     refine dv G Y Y Y Y (fun w=> R.nilCheck (G.ev Y)) fun a G=> dv G Y Y Y Y (fun w=> R.fieldAddr (k := 0) Tryz.underlying120 Y nz22 (G.ev Y) Y) fun a G=> ?_
     refine dl Y (wn Y) (O.store sz22 (G.ev Y) (G.ev Y) Y Y M (.t (.t .h)) (Y) (by first | decide | omega | (show _ < 59; decide) | (show _ < 3; decide) | simp) fun w M=> ⟨fun hD=> M.sel [1] Y Y, ?_⟩)
     have hD := M.sel [1] rfl rfl
     refine d0 <| blk_n <| then_n (hK14 _ _ <| wp_seq_k fun K32 hK32=> wp_region_lit <| av G Y Y fun a G=> s0 <| then_n (hK32 _ _ <| wp_ret (hR _ _ _ _ _ G (run_results Tryz.results59 (.t G Y (.nil))) ?_)))
     obtain ⟨s', h1, h2⟩ := close_ins (x := ⟨[], c, [c, ((prs (wl.getD 1 [])).getD 0)], []⟩) ln (by simp only; omega) rfl (M.sel [2, 3, 4, 5] rfl rfl) rfl (by simpa [byts, FB] using hO180) rfl hJ hM
     exact ⟨_, s', Y, line_ins Y (hU.trans ((ins_6 hgd hp (by omega) hs (by omega)).trans (if_neg hb6))) (by simp only; omega) h1, h2⟩
    refine wp_drawS M [(0, 0), (1, 0), (2, 0), (3, 1), (4, 2), (5, 2), (6, 0), (7, 0), (8, 0), (9, 0), (10, 0), (11, 0), (12, 0), (13, 1), (14, 0), (15, 0), (16, 0), (17, 0), (18, 0), (19, 0), (20, 0), (21, 0), (22, 1), (23, 0), (24, 0), (25, 0)] mix (by kernel_rfl) (hP.then.block.then.then) fun w M=> ?_
    have hD := M
    refine dm G Y Y Y fun a G=> dv G Y Y Y Y (fun w=> R.as (u := .bool (decide ((prs (wl.getD 1 [])).isSome = false))) (R.neq (G.ev Y) (G.ev Y)) (err_21 _)) fun a G=> dm G Y Y Y fun a G=> G.splitD (t := 147) Y (fun h147 G=> ?_) (fun h147 G=> ?_)
    ·refine dk1 G Y (ws G Y Y Y Y) Y Y hD fun a G=> ?_
     refine dk2 G Y (ws G Y Y Y Y) Y Y fun a G=> ?_
     refine dk2 G Y (ws G Y Y Y Y) Y Y fun a G=> ?_
     refine dk G Y (ws G Y Y Y Y) Y Y fun a G=> dv G Y Y Y Y (fun w=> R.pickT (G.ev Y) (G.ev Y)) fun a G=> dm G Y Y Y fun a G=> dk G Y (ws G Y Y Y Y) Y Y fun a G=> dk G Y (ws G Y Y Y Y) Y Y fun a G=> dk G Y (ws G Y Y Y Y) Y Y fun a G=> dk G Y (wu G Y Y Y) Y Y fun a G=> dk1 G Y (wu G Y Y Y) Y Y hD fun a G=> ?_
     refine dk G Y (wu G Y Y Y) Y Y fun a G=> dk G Y (ws G Y Y Y Y) Y Y fun a G=> dv G Y Y Y Y (fun w=> R.pickT (G.ev Y) (G.ev Y)) fun a G=> dm G Y Y Y fun a G=> dk G Y (ws G Y Y Y Y) Y Y fun a G=> dk G Y (ws G Y Y Y Y) Y Y fun a G=> dk G Y (ws G Y Y Y Y) Y Y fun a G=> dk G Y (wu G Y Y Y) Y Y fun a G=> dk1 G Y (wu G Y Y Y) Y Y hD fun a G=> ?_
     refine dk G Y (wu G Y Y Y) Y Y fun a G=> dk G Y (ws G Y Y Y Y) Y Y fun a G=> dv G Y Y Y Y (fun w=> R.pickT (G.ev Y) (G.ev Y)) fun a G=> d0 ?_
     exact then_n (hK29' _ _ ⟨G.sub ⟨rfl, rfl, rfl, (congrArg (fun z => some (Value.bool z)) (by first | exact (decide_eq_true (Or.inl h147)).symm | exact (decide_eq_true (Or.inr (by omega))).symm | exact (decide_eq_false (fun h => by rcases h with h | h; exact absurd h h147; omega)).symm | exact decide_eq_decide.2 ⟨fun h => .inr (by omega), fun h => by rcases h with h | h; exact absurd h h147; omega⟩)), trivial⟩, M.sel [0, 4, 5, 6, 7] rfl rfl⟩)
    refine dr G Y (wy G Y Y Y) Y Y hD (fun w hD=> R.loadW agg32 (G.ev Y) hD .h sz32 (Y)) fun a G=> ?_
    refine dl Y (wy G Y Y Y) (O.call Y Y G ent116 (G.evs Y) M (of_calls 255 _ (by decide)) fun v s149 a w hR G M=> ⟨fun hD=> M.tail, ?_⟩)
    obtain ⟨rfl, rfl⟩ := hR
    have hD := M.tail
    refine dl Y (wy G Y Y Y) (O.call Y Y G ent115 (G.evs Y) M (cmp_calls ((prs (wl.getD 1 [])).getD 0) 255 _ (prs_lt0 (wl.getD 1 [])) (by decide)) fun v s150 a w hR G M=> ⟨fun hD=> M.tail.tail, ?_⟩)
    obtain ⟨rfl, rfl⟩ := hR
    have hD := M.tail.tail
    refine dq G Y (wy G Y Y Y) Y Y (fun w=> R.as (u := .bool (decide (255 < ((prs (wl.getD 1 [])).getD 0)))) (R.gtr (G.ev Y) (G.ev Y)) (congrArg Value.bool (decide_eq_decide.2 cmpN_gt))) fun a G=> dv G Y Y Y Y (fun w=> R.pickF (G.ev Y) (G.ev Y)) fun a G=> dm G Y Y Y fun a G=> G.splitD (t := 153) Y (fun h153 G=> ?_) (fun h153 G=> ?_)
    ·refine dk G Y (ws G Y Y Y Y) Y Y fun a G=> dk G Y (ws G Y Y Y Y) Y Y fun a G=> dk G Y (ws G Y Y Y Y) Y Y fun a G=> dk G Y (wu G Y Y Y) Y Y fun a G=> dk1 G Y (wu G Y Y Y) Y Y hD fun a G=> ?_
     refine dk G Y (wu G Y Y Y) Y Y fun a G=> dk G Y (ws G Y Y Y Y) Y Y fun a G=> dv G Y Y Y Y (fun w=> R.pickT (G.ev Y) (G.ev Y)) fun a G=> dm G Y Y Y fun a G=> dk G Y (ws G Y Y Y Y) Y Y fun a G=> dk G Y (ws G Y Y Y Y) Y Y fun a G=> dk G Y (ws G Y Y Y Y) Y Y fun a G=> dk G Y (wu G Y Y Y) Y Y fun a G=> dk1 G Y (wu G Y Y Y) Y Y hD fun a G=> ?_
     refine dk G Y (wu G Y Y Y) Y Y fun a G=> dk G Y (ws G Y Y Y Y) Y Y fun a G=> dv G Y Y Y Y (fun w=> R.pickT (G.ev Y) (G.ev Y)) fun a G=> d0 ?_
     exact then_n (hK29' _ _ ⟨G.sub ⟨rfl, rfl, rfl, (congrArg (fun z => some (Value.bool z)) (by first | exact (decide_eq_true (Or.inl h147)).symm | exact (decide_eq_true (Or.inr (by omega))).symm | exact (decide_eq_false (fun h => by rcases h with h | h; exact absurd h h147; omega)).symm | exact decide_eq_decide.2 ⟨fun h => .inr (by omega), fun h => by rcases h with h | h; exact absurd h h147; omega⟩)), trivial⟩, M.sel [2, 6, 7, 8, 9] rfl rfl⟩)
    refine dq G Y (wy G Y Y Y) Y Y (fun w=> R.move (G.ev Y)) fun a G=> dq G Y (wy G Y Y Y) Y Y (fun w=> R.neq (G.ev Y) (G.ev Y)) fun a G=> dq G Y (wy G Y Y Y) Y Y (fun w=> R.move (G.ev Y)) fun a G=> G.splitD (t := 156) Y (fun h156 G=> ?_) (fun h156 G=> ?_)
    ·refine dq G Y (wy G Y Y Y) Y Y (fun w=> R.indexA Tryz.underlying32 sz30 (G.ev Y) (G.ev Y) (by omega) (by omega)) fun a G=> dr G Y (wy G Y Y Y) Y Y hD (fun w hD=> R.load one30 (G.ev Y) hD .h (Y)) fun a G=> ?_
     refine dq G Y (wy G Y Y Y) Y Y (fun w=> R.gtr (G.ev Y) (G.ev Y)) fun a G=> dq G Y (wy G Y Y Y) Y Y (fun w=> R.pickT (G.ev Y) (G.ev Y)) fun a G=> dv G Y Y Y Y (fun w=> R.pickF (G.ev Y) (G.ev Y)) fun a G=> dm G Y Y Y fun a G=> G.splitD (t := 162) Y (fun h162 G=> ?_) (fun h162 G=> ?_)
     ·refine dk G Y (ws G Y Y Y Y) Y Y fun a G=> dk G Y (ws G Y Y Y Y) Y Y fun a G=> dk G Y (ws G Y Y Y Y) Y Y fun a G=> dk G Y (wu G Y Y Y) Y Y fun a G=> dk1 G Y (wu G Y Y Y) Y Y hD fun a G=> ?_
      refine dk G Y (wu G Y Y Y) Y Y fun a G=> dk G Y (ws G Y Y Y Y) Y Y fun a G=> dv G Y Y Y Y (fun w=> R.pickT (G.ev Y) (G.ev Y)) fun a G=> d0 ?_
      exact then_n (hK29' _ _ ⟨G.sub ⟨rfl, rfl, rfl, (congrArg (fun z => some (Value.bool z)) (by first | exact (decide_eq_true (Or.inl h147)).symm | exact (decide_eq_true (Or.inr (by omega))).symm | exact (decide_eq_false (fun h => by rcases h with h | h; exact absurd h h147; omega)).symm | exact decide_eq_decide.2 ⟨fun h => .inr (by omega), fun h => by rcases h with h | h; exact absurd h h147; omega⟩)), trivial⟩, M.sel [2, 6, 7, 8, 9] rfl rfl⟩)
     refine dq G Y (wy G Y Y Y) Y Y (fun w=> R.move (G.ev Y)) fun a G=> dq G Y (wy G Y Y Y) Y Y (fun w=> R.eql (G.ev Y) (G.ev Y)) fun a G=> dq G Y (wy G Y Y Y) Y Y (fun w=> R.move (G.ev Y)) fun a G=> G.splitD (t := 165) Y (fun h165 G=> ?_) (fun h165 G=> ?_)
     ·refine dq G Y (wy G Y Y Y) Y Y (fun w=> R.indexA Tryz.underlying32 sz30 (G.ev Y) (G.ev Y) (by omega) (by omega)) fun a G=> dr G Y (wy G Y Y Y) Y Y hD (fun w hD=> R.load one30 (G.ev Y) hD .h (Y)) fun a G=> ?_
      refine dq G Y (wy G Y Y Y) Y Y (fun w=> R.eql (G.ev Y) (G.ev Y)) fun a G=> dq G Y (wy G Y Y Y) Y Y (fun w=> R.pickT (G.ev Y) (G.ev Y)) fun a G=> dv G Y Y Y Y (fun w=> R.pickF (G.ev Y) (G.ev Y)) fun a G=> d0 ?_
      exact then_n (hK29' _ _ ⟨G.sub ⟨rfl, rfl, rfl, (congrArg (fun z => some (Value.bool z)) (by first | exact (decide_eq_true (Or.inl h147)).symm | exact (decide_eq_true (Or.inr (by omega))).symm | exact (decide_eq_false (fun h => by rcases h with h | h; exact absurd h h147; omega)).symm | exact decide_eq_decide.2 ⟨fun h => .inr (by omega), fun h => by rcases h with h | h; exact absurd h h147; omega⟩)), trivial⟩, M.sel [2, 6, 7, 8, 9] rfl rfl⟩)
     refine dk G Y (ws G Y Y Y Y) Y Y fun a G=> dk1 G Y (ws G Y Y Y Y) Y Y hD fun a G=> ?_
     refine dk G Y (ws G Y Y Y Y) Y Y fun a G=> dq G Y (wy G Y Y Y) Y Y (fun w=> R.pickF (G.ev Y) (G.ev Y)) fun a G=> dv G Y Y Y Y (fun w=> R.pickF (G.ev Y) (G.ev Y)) fun a G=> d0 ?_
     exact then_n (hK29' _ _ ⟨G.sub ⟨rfl, rfl, rfl, (congrArg (fun z => some (Value.bool z)) (by first | exact (decide_eq_true (Or.inl h147)).symm | exact (decide_eq_true (Or.inr (by omega))).symm | exact (decide_eq_false (fun h => by rcases h with h | h; exact absurd h h147; omega)).symm | exact decide_eq_decide.2 ⟨fun h => .inr (by omega), fun h => by rcases h with h | h; exact absurd h h147; omega⟩)), trivial⟩, M.sel [2, 6, 7, 8, 9] rfl rfl⟩)
    refine dk G Y (ws G Y Y Y Y) Y Y fun a G=> dk1 G Y (ws G Y Y Y Y) Y Y hD fun a G=> ?_
    refine dk G Y (ws G Y Y Y Y) Y Y fun a G=> dq G Y (wy G Y Y Y) Y Y (fun w=> R.pickF (G.ev Y) (G.ev Y)) fun a G=> dv G Y Y Y Y (fun w=> R.pickF (G.ev Y) (G.ev Y)) fun a G=> dm G Y Y Y fun a G=> dq G Y (wy G Y Y Y) Y Y (fun w=> R.move (G.ev Y)) fun a G=> dq G Y (wy G Y Y Y) Y Y (fun w=> R.eql (G.ev Y) (G.ev Y)) fun a G=> dq G Y (wy G Y Y Y) Y Y (fun w=> R.move (G.ev Y)) fun a G=> G.splitD (t := 165) Y (fun h165 G=> ?_) (fun h165 G=> ?_)
    ·refine dq G Y (wy G Y Y Y) Y Y (fun w=> R.indexA Tryz.underlying32 sz30 (G.ev Y) (G.ev Y) (by omega) (by omega)) fun a G=> dr G Y (wy G Y Y Y) Y Y hD (fun w hD=> R.load one30 (G.ev Y) hD .h (Y)) fun a G=> ?_
     refine dq G Y (wy G Y Y Y) Y Y (fun w=> R.eql (G.ev Y) (G.ev Y)) fun a G=> dq G Y (wy G Y Y Y) Y Y (fun w=> R.pickT (G.ev Y) (G.ev Y)) fun a G=> dv G Y Y Y Y (fun w=> R.pickF (G.ev Y) (G.ev Y)) fun a G=> d0 ?_
     exact then_n (hK29' _ _ ⟨G.sub ⟨rfl, rfl, rfl, (congrArg (fun z => some (Value.bool z)) (by first | exact (decide_eq_true (Or.inl h147)).symm | exact (decide_eq_true (Or.inr (by omega))).symm | exact (decide_eq_false (fun h => by rcases h with h | h; exact absurd h h147; omega)).symm | exact decide_eq_decide.2 ⟨fun h => .inr (by omega), fun h => by rcases h with h | h; exact absurd h h147; omega⟩)), trivial⟩, M.sel [2, 6, 7, 8, 9] rfl rfl⟩)
    refine dk G Y (ws G Y Y Y Y) Y Y fun a G=> dk1 G Y (ws G Y Y Y Y) Y Y hD fun a G=> ?_
    refine dk G Y (ws G Y Y Y Y) Y Y fun a G=> dq G Y (wy G Y Y Y) Y Y (fun w=> R.pickF (G.ev Y) (G.ev Y)) fun a G=> dv G Y Y Y Y (fun w=> R.pickF (G.ev Y) (G.ev Y)) fun a G=> d0 ?_
    exact then_n (hK29' _ _ ⟨G.sub ⟨rfl, rfl, rfl, (congrArg (fun z => some (Value.bool z)) (by first | exact (decide_eq_true (Or.inl h147)).symm | exact (decide_eq_true (Or.inr (by omega))).symm | exact (decide_eq_false (fun h => by rcases h with h | h; exact absurd h h147; omega)).symm | exact decide_eq_decide.2 ⟨fun h => .inr (by omega), fun h => by rcases h with h | h; exact absurd h h147; omega⟩)), trivial⟩, M.sel [2, 6, 7, 8, 9] rfl rfl⟩)
   refine wp_seq_k fun K33 hK33=> wp_region_lit <| sw G Y Y Y (R.as (u := .bool (decide (c = 14 ∨ c = 15))) (R.eql (G.ev Y) (G.ev Y)) (congrArg Value.bool (decide_eq_decide.2 (by omega)))) fun a G=> av G Y Y fun a G=> s0 <| then_n (hK33 _ _ <| cD G Y (fun c7=> ?_) (fun c7=> ?_))
   ·have hp : hasP c := by unfold hasP; omega
    refine wp_seq_k fun K34 hK34=> wp_seq_k fun K35 hK35=> wp_region_lit <| mv G Y Y fun a G=> sw G Y Y Y (R.indexO Tryz.underlying108 sz9 (G.ev Y) (by simp) (G.ev Y) (by omega) (by omega)) fun a G=> sw G Y Y Y (R.loadO one9 (G.ev Y) (hW.old M) (strs_at (i := 1) (by omega) (by omega))) fun a G=> so (wn Y) (O.call Y Y G ent111 (G.evs Y) M (isLabel_l hB1 _) fun v s188 a w hR G M=> ?_)
    obtain ⟨rfl, rfl⟩ := hR
    refine sw G Y Y Y (R.as (u := .bool (decide (okL (wl.getD 1 []) = false))) (R.not (G.ev Y)) (by cases okL (wl.getD 1 []) <;> rfl)) fun a G=> s0 <| then_n (hK35 _ _ <| cD G Y (fun c8=> ?_) (fun c8=> ?_))
    ·refine wp_seq_k fun K36 hK36=> wp_region_lit <| av G Y Y fun a G=> s0 <| then_n (hK36 _ _ <| wp_ret (then_r (blk_r (then_r (hR _ _ _ _ _ G (run_results Tryz.results59 (.t G Y (.nil))) ?_)))))
     exact ⟨_, [], Y, line_bad Y (hU.trans ((ins_3 hgd hp c7).trans (if_neg (by rw [c8]; decide)))), M.none⟩
    have hk : okL (wl.getD 1 []) = true := by (cases h : okL (wl.getD 1 []) with | false => exact absurd h c8 | true => rfl)
    refine wp_skip <| then_n (hK34 _ _ <| wp_seq_k fun K37 hK37=> wp_draw2G M (M.sel [] Y Y) [(0, 0), (1, 0), (2, 0), (3, 0), (5, 0), (6, 0), (7, 1), (8, 0), (9, 0), (10, 0)] [[(4, 2), (11, 2), (12, 2), (13, 0), (14, 0), (15, 2)], [(11, 2), (4, 2), (12, 2), (13, 0), (14, 0), (15, 2)]] mix (by kernel_rfl) (hP.then.block.then) fun w M hD=> ?_)
    refine dm G Y Y Y fun a G=> dm G Y Y Y fun a G=> dv G Y Y Y Y (fun w=> R.nilCheck (G.ev Y)) fun a G=> dv G Y Y Y Y (fun w=> R.fieldAddr (k := 2) Tryz.underlying120 Y nz118 (G.ev Y) Y) fun a G=> dm G Y Y Y fun a G=> dv G Y Y Y Y (fun w=> R.indexO Tryz.underlying108 sz9 (G.ev Y) (by simp) (G.ev Y) (by omega) (by omega)) fun a G=> ds G Y Y Y Y hD (fun w hD=> R.loadO one9 (G.ev Y) (hW.old hD) (strs_at (i := 1) (by omega) (by omega))) fun a G=> ?_
    refine dm G Y Y Y fun a G=> dm G Y Y Y fun a G=> dv G Y Y Y Y (fun w=> R.buildStr (l := [_, _, _]) Tryz.underlying124 ze124 pl124 (G.evp Y) Y) fun a G=> d0 <| alts2 ?_ ?_
    ·refine dl Y (wn Y) (O.val G Y Y (R.load one118 (G.ev Y) M (.t (.t (.t .h))) (Y)) fun a G=> ⟨id, ?_⟩)
     refine dl Y (wn Y) (O.buildSlice (l := [_, _, _]) Y Y G Tryz.underlying118 inf124 Y Y (G.evp Y) (by decide) Y M fun b201 a w G M=> ⟨fun hD=> M.sel [] Y Y, ?_⟩)
     have hD := M.sel [] rfl rfl
     refine dl Y (wn Y) (O.append Y Y G Tryz.underlying118 inf124 Y Y (by decide) (G.ev Y) (G.ev Y) M hJ (fun _=> (.t (.t (.t (.t (.t (.t (.t .h)))))))) (Rd.own0 M .h) (Y) (by simp [Value.oneCell']) (by unfold maxLen; omega) (by omega) fun A202 c202 s202 a w hO202 G M=> ⟨fun hD=> M.sel [] Y Y, ?_⟩)
     have hD := M.sel [] rfl rfl
     refine dv G Y Y Y Y (fun w=> R.nilCheck (G.ev Y)) fun a G=> dv G Y Y Y Y (fun w=> R.fieldAddr (k := 2) Tryz.underlying120 Y nz118 (G.ev Y) Y) fun a G=> ?_
     refine dl Y (wn Y) (O.store sz118 (G.ev Y) (G.ev Y) Y Y M (.t (.t (.t (.t .h)))) (Y) (by first | decide | omega | (show _ < 59; decide) | (show _ < 3; decide) | simp) fun w M=> ⟨fun hD=> M.sel [] Y Y, ?_⟩)
     have hD := M.sel [] rfl rfl
     refine d0 <| then_n (hK37 _ _ <| wp_region_lit <| mv G Y Y fun a G=> mv G Y Y fun a G=> sw G Y Y Y (R.nilCheck (G.ev Y)) fun a G=> sw G Y Y Y (R.fieldAddr (k := 0) Tryz.underlying120 Y nz22 (G.ev Y) Y) fun a G=> sw G Y Y Y (R.load one22 (G.ev Y) M (.t (.t (.t (.t .h)))) (Y)) fun a G=> so (wn Y) (O.buildSlice (l := [_, _]) Y Y G Tryz.underlying22 inf5 Y Y (G.evp Y) (by decide) Y M fun b210 a w G M=> ?_))
     refine so (wn Y) (O.append Y Y G Tryz.underlying22 inf5 Y Y (by decide) (G.ev Y) (G.ev Y) M hO93 (fun _=> (.t (.t (.t (.t (.t (.t (.t .h)))))))) (Rd.own0 M .h) (Y) (by simp [Value.oneCell']) (by unfold maxLen; omega) (by omega) fun A211 c211 s211 a w hO211 G M=> ?_)
     refine sw G Y Y Y (R.nilCheck (G.ev Y)) fun a G=> sw G Y Y Y (R.fieldAddr (k := 0) Tryz.underlying120 Y nz22 (G.ev Y) Y) fun a G=> ?_
     refine so (wn Y) (O.store sz22 (G.ev Y) (G.ev Y) Y Y M (.t (.t (.t (.t (.t .h))))) (Y) (by first | decide | omega | (show _ < 59; decide) | (show _ < 3; decide) | simp) fun w M=> ?_)
     refine s0 <| blk_n <| then_n (hK14 _ _ <| wp_seq_k fun K38 hK38=> wp_region_lit <| av G Y Y fun a G=> s0 <| then_n (hK38 _ _ <| wp_ret (hR _ _ _ _ _ G (run_results Tryz.results59 (.t G Y (.nil))) ?_)))
     obtain ⟨s', h1, h2⟩ := close_jmp (x := ⟨[], c, [c, 0, 0], (wl.getD 1 [])⟩) ln (by simp only; omega) (okLto hk) (M.sel [5, 6, 7, 8] rfl rfl) rfl (by simpa [byts, FB] using hO211) rfl hO202 hM
     exact ⟨_, s', Y, line_ins Y (hU.trans ((ins_3 hgd hp c7).trans (if_pos hk))) (by simp only; omega) h1, h2⟩
    refine dl Y (wn Y) (O.buildSlice (l := [_, _, _]) Y Y G Tryz.underlying118 inf124 Y Y (G.evp Y) (by decide) Y M fun b201 a w G M=> ⟨fun hD=> M.sel [] Y Y, ?_⟩)
    have hD := M.sel [] rfl rfl
    refine dl Y (wn Y) (O.val G Y Y (R.load one118 (G.ev Y) M (.t (.t (.t (.t .h)))) (Y)) fun a G=> ⟨id, ?_⟩)
    refine dl Y (wn Y) (O.append Y Y G Tryz.underlying118 inf124 Y Y (by decide) (G.ev Y) (G.ev Y) M hJ (fun _=> (.t (.t (.t (.t (.t (.t (.t .h)))))))) (Rd.own0 M .h) (Y) (by simp [Value.oneCell']) (by unfold maxLen; omega) (by omega) fun A202 c202 s202 a w hO202 G M=> ⟨fun hD=> M.sel [] Y Y, ?_⟩)
    have hD := M.sel [] rfl rfl
    refine dv G Y Y Y Y (fun w=> R.nilCheck (G.ev Y)) fun a G=> dv G Y Y Y Y (fun w=> R.fieldAddr (k := 2) Tryz.underlying120 Y nz118 (G.ev Y) Y) fun a G=> ?_
    refine dl Y (wn Y) (O.store sz118 (G.ev Y) (G.ev Y) Y Y M (.t (.t (.t (.t .h)))) (Y) (by first | decide | omega | (show _ < 59; decide) | (show _ < 3; decide) | simp) fun w M=> ⟨fun hD=> M.sel [] Y Y, ?_⟩)
    have hD := M.sel [] rfl rfl
    refine d0 <| then_n (hK37 _ _ <| wp_region_lit <| mv G Y Y fun a G=> mv G Y Y fun a G=> sw G Y Y Y (R.nilCheck (G.ev Y)) fun a G=> sw G Y Y Y (R.fieldAddr (k := 0) Tryz.underlying120 Y nz22 (G.ev Y) Y) fun a G=> sw G Y Y Y (R.load one22 (G.ev Y) M (.t (.t (.t (.t .h)))) (Y)) fun a G=> so (wn Y) (O.buildSlice (l := [_, _]) Y Y G Tryz.underlying22 inf5 Y Y (G.evp Y) (by decide) Y M fun b210 a w G M=> ?_))
    refine so (wn Y) (O.append Y Y G Tryz.underlying22 inf5 Y Y (by decide) (G.ev Y) (G.ev Y) M hO93 (fun _=> (.t (.t (.t (.t (.t (.t (.t .h)))))))) (Rd.own0 M .h) (Y) (by simp [Value.oneCell']) (by unfold maxLen; omega) (by omega) fun A211 c211 s211 a w hO211 G M=> ?_)
    refine sw G Y Y Y (R.nilCheck (G.ev Y)) fun a G=> sw G Y Y Y (R.fieldAddr (k := 0) Tryz.underlying120 Y nz22 (G.ev Y) Y) fun a G=> ?_
    refine so (wn Y) (O.store sz22 (G.ev Y) (G.ev Y) Y Y M (.t (.t (.t (.t (.t .h))))) (Y) (by first | decide | omega | (show _ < 59; decide) | (show _ < 3; decide) | simp) fun w M=> ?_)
    refine s0 <| blk_n <| then_n (hK14 _ _ <| wp_seq_k fun K39 hK39=> wp_region_lit <| av G Y Y fun a G=> s0 <| then_n (hK39 _ _ <| wp_ret (hR _ _ _ _ _ G (run_results Tryz.results59 (.t G Y (.nil))) ?_)))
    obtain ⟨s', h1, h2⟩ := close_jmp (x := ⟨[], c, [c, 0, 0], (wl.getD 1 [])⟩) ln (by simp only; omega) (okLto hk) (M.sel [5, 6, 7, 8] rfl rfl) rfl (by simpa [byts, FB] using hO211) rfl hO202 hM
    exact ⟨_, s', Y, line_ins Y (hU.trans ((ins_3 hgd hp c7).trans (if_pos hk))) (by simp only; omega) h1, h2⟩
   have hp : ¬ hasP c := by unfold hasP; omega
   refine wp_skip <| blk_n <| then_n (hK14 _ _ <| wp_seq_k fun K40 hK40=> wp_region_lit <| av G Y Y fun a G=> s0 <| then_n (hK40 _ _ <| wp_ret (hR _ _ _ _ _ G (run_results Tryz.results59 (.t G Y (.nil))) ?_)))
   obtain ⟨s', h1, h2⟩ := close_ins (x := ⟨[], c, [c], []⟩) ln (by simp only; omega) rfl (M.sel [2, 3, 4, 5] rfl rfl) rfl (own_bsnoc hO93) rfl hJ hM
   exact ⟨_, s', Y, line_ins Y (hU.trans (ins_2 hgd hp)) (by simp only; omega) h1, h2⟩
  refine wp_region_lit <| mv G Y Y fun a G=> ?_
  refine sw G Y Y Y ((by first | exact R.notD (G.ev Y) | exact R.not (G.ev Y))) fun a G=> ?_
  refine mv G Y Y fun a G=> G.splitD (t := 66) Y (fun h66 G=> ?_) (fun h66 G=> ?_)
  ·refine kz G Y Y Y Y Y Y fun a G=> kz G Y Y Y Y Y Y fun a G=> kz G Y Y Y Y Y Y fun a G=> pT G Y Y Y fun a G=> mv G Y Y fun a G=> kz G Y Y Y Y Y Y fun a G=> kz G Y Y Y Y Y Y fun a G=> kz G Y Y Y Y Y Y fun a G=> kz G Y Y Y Y Y Y fun a G=> kz G Y Y Y Y Y Y fun a G=> kz G Y Y Y Y Y Y fun a G=> kz G Y Y Y Y Y Y fun a G=> pT G Y Y Y fun a G=> s0 ?_
   exact then_n (hK10' _ _ ⟨G.sub ⟨Y, Y, Y, Y, (congrArg (fun z => some (Value.bool z)) (by first | exact (decide_eq_true (by omega)).symm | exact (decide_eq_false (by omega)).symm | exact decide_eq_decide.2 (by omega))), trivial⟩, M.sel [1, 2, 3, 4] Y Y⟩)
  rw [if_pos (Classical.not_not.1 h66)] at G
  refine my G Y Y Y Y fun a G=> sv' G (wy G Y Y Y) Y Y (R.len Tryz.underlying108 (G.ev Y)) fun a G=> sv' G (wy G Y Y Y) Y Y (R.gtr (G.ev Y) (G.ev Y)) fun a G=> pF G Y Y Y fun a G=> mv G Y Y fun a G=> G.splitD (t := 71) Y (fun h71 G=> ?_) (fun h71 G=> ?_)
  ·refine kz G Y Y Y Y Y Y fun a G=> kz G Y Y Y Y Y Y fun a G=> kz G Y Y Y Y Y Y fun a G=> kz G Y Y Y Y Y Y fun a G=> kz G Y Y Y Y Y Y fun a G=> kz G Y Y Y Y Y Y fun a G=> kz G Y Y Y Y Y Y fun a G=> pT G Y Y Y fun a G=> s0 ?_
   exact then_n (hK10' _ _ ⟨G.sub ⟨Y, Y, Y, (by rw [if_pos (Classical.not_not.1 h66)]; rfl), (congrArg (fun z => some (Value.bool z)) (by first | exact (decide_eq_true (by omega)).symm | exact (decide_eq_false (by omega)).symm | exact decide_eq_decide.2 (by omega))), trivial⟩, M.sel [1, 2, 3, 4] Y Y⟩)
  refine my G Y Y Y Y fun a G=> so (wy G Y Y Y) (O.call Y Y G ent36 (G.evs Y) M (operandOf_calls (codeN (wl.getD 0 [])) _) fun v s73 a w hR G M=> ?_)
  obtain ⟨rfl, rfl⟩ := hR
  refine sv' G (wy G Y Y Y) Y Y (R.as (u := .bool (decide (codeN (wl.getD 0 []) = 2 ∨ codeN (wl.getD 0 []) = 4 ∨ codeN (wl.getD 0 []) = 5 ∨ codeN (wl.getD 0 []) = 16 ∨ codeN (wl.getD 0 []) = 14 ∨ codeN (wl.getD 0 []) = 15))) (R.neq (G.ev Y) (G.ev Y)) (congrArg Value.bool (decide_eq_decide.2 (by have := operN_spec (codeN (wl.getD 0 [])); unfold operN at *; (repeat' split) <;> omega)))) fun a G=> my G Y Y Y Y fun a G=> sv' G (wy G Y Y Y) Y Y (R.len Tryz.underlying108 (G.ev Y)) fun a G=> sv' G (wy G Y Y Y) Y Y (R.as (u := .bool (decide (n = 2))) (R.eql (G.ev Y) (G.ev Y)) (congrArg Value.bool (decide_eq_decide.2 (by omega)))) fun a G=> sv' G (wy G Y Y Y) Y Y (R.as (u := .bool (decide (¬ ((codeN (wl.getD 0 []) = 2 ∨ codeN (wl.getD 0 []) = 4 ∨ codeN (wl.getD 0 []) = 5 ∨ codeN (wl.getD 0 []) = 16 ∨ codeN (wl.getD 0 []) = 14 ∨ codeN (wl.getD 0 []) = 15) ↔ n = 2)))) (R.neqB (G.ev Y) (G.ev Y) Tryz.underlying4) (neq_has _ _)) fun a G=> pF G Y Y Y fun a G=> s0 ?_
  exact then_n (hK10' _ _ ⟨G.sub ⟨Y, Y, Y, (by rw [if_pos (Classical.not_not.1 h66)]; rfl), (congrArg (fun z => some (Value.bool z)) (by first | exact (decide_eq_true (by omega)).symm | exact (decide_eq_false (by omega)).symm | exact decide_eq_decide.2 (by omega))), trivial⟩, M.sel [2, 3, 4, 5] Y Y⟩)
 refine wp_region_lit <| mv G Y Y fun a G=> mv G Y Y fun a G=> G.splitD (t := 27) Y (fun h27 G=> ?_) (fun h27 G=> ?_)
 ·refine my G Y Y Y Y fun a G=> sv' G (wy G Y Y Y) Y Y (R.len Tryz.underlying108 (G.ev Y)) fun a G=> sv' G (wy G Y Y Y) Y Y (R.eql (G.ev Y) (G.ev Y)) fun a G=> pT G Y Y Y fun a G=> mv G Y Y fun a G=> G.splitD (t := 32) Y (fun h32 G=> ?_) (fun h32 G=> ?_)
  ·refine my G Y Y Y Y fun a G=> so (wy G Y Y Y) (O.call Y Y G ent111 (G.evs Y) M (isLabel_l hBt _) fun v s34 a w hR G M=> ?_)
   obtain ⟨rfl, rfl⟩ := hR
   refine pT G Y Y Y fun a G=> s0 ?_
   exact then_n (hK4' _ _ ⟨G.sub ⟨Y, Y, Y, Y, (congrArg (fun z => some (Value.bool z)) (lab_tt (by omega) h27 (htl h27))), trivial⟩, M.sel [2, 3, 4, 5] Y Y⟩)
  refine kz G Y Y Y Y Y Y fun a G=> kz G Y Y Y Y Y Y fun a G=> pF G Y Y Y fun a G=> s0 ?_
  exact then_n (hK4' _ _ ⟨G.sub ⟨Y, Y, Y, Y, (congrArg (fun z => some (Value.bool z)) (lab_f1 (by omega))), trivial⟩, M.sel [1, 2, 3, 4] Y Y⟩)
 refine kz G Y Y Y Y Y Y fun a G=> kz G Y Y Y Y Y Y fun a G=> kz G Y Y Y Y Y Y fun a G=> pF G Y Y Y fun a G=> mv G Y Y fun a G=> kz G Y Y Y Y Y Y fun a G=> kz G Y Y Y Y Y Y fun a G=> pF G Y Y Y fun a G=> s0 ?_
 exact then_n (hK4' _ _ ⟨G.sub ⟨Y, Y, Y, Y, (congrArg (fun z => some (Value.bool z)) (lab_f2 h27)), trivial⟩, M.sel [1, 2, 3, 4] Y Y⟩)
end Go.Proofs.YtlapmbkfmbkdoaaGreatDoor
end
section
namespace Go.Proofs.YtlapmbkfmbkdoaaGreatDoor
open Go Go.Fw Go.RowKit
attribute [local irreducible] Go.Oper.wp Go.Code.wp Go.wpList Go.Fw.WL Go.Calls
section
variable {P : Program} {w : World} {ρ : Operand → Value} {dst : Option Tmp} {ty : TypeId} {pos : String} {af : Array Edge} {g : Option (Nat × Bool)} {x y : Operand} {T T' : TypeId} {yk : IntKind} {m : Nat}
theorem R.shrI {p : Nat} (hx : ρ x = .int .i64 p) (hy : ρ y = .int yk m) (hm : m ≤ 64) :
    (execOp ρ ⟨dst, .binOp .shr T x y T', ty, pos, af, g⟩).run P w = .ok (.value (.int .i64 ((p / 2 ^ m : Nat) : Int))) w :=
  R.as (R.shift (.inr rfl) hx hy (by
    simp only [Op.shift]
    rw [if_neg (by omega)]
    rfl)) (by
    have : min (Int.toNat (m : Int)) (IntKind.bits .i64) = m := by simp [IntKind.bits]; omega
    rw [this]
    congr 1
    rw [Int.fdiv_eq_ediv_of_nonneg _ (by exact Int.le_of_lt (Int.pow_pos (by omega)))]
    simp)
end
def jd : List Nat × Nat × Nat := ([], 0, 0)
theorem len_jmpC (l : List (List Nat × Nat × Nat)) : (jmpC l).length = l.length * 3 := by
  induction l with
  | nil => rfl
  | cons x r ih => simp only [jmpC, List.flatMap_cons, List.length_append, List.length_cons, List.length_nil] at ih ⊢; rw [ih]; omega
theorem jmp_at {l : List (List Nat × Nat × Nat)} {j off : Nat} (h : j < l.length) (ho : off = j * 3) : ∀ i v, ([.string (bstr (l.getD j jd).1), .int .i64 (((l.getD j jd).2.1 : Nat) : Int), .int .i64 (((l.getD j jd).2.2 : Nat) : Int)] : List Value)[i]? = some v → (jmpC l)[off + i]? = some v := by
  subst ho
  intro i v hv
  have hi : i < 3 := (List.getElem?_eq_some_iff.1 hv).1
  induction l generalizing j with
  | nil => simp at h
  | cons x r ih =>
    cases j with
    | zero =>
      simp only [jmpC, List.flatMap_cons, Nat.zero_mul, Nat.zero_add, List.getD_cons_zero] at hv ⊢
      rw [List.getElem?_append_left (by simpa using hi)]; exact hv
    | succ j =>
      simp only [List.getD_cons_succ] at hv
      have := ih (j := j) (by simpa using h) hv
      rw [← this]
      simp only [jmpC, List.flatMap_cons]
      rw [List.getElem?_append_right (by simp only [List.length_cons, List.length_nil]; omega)]
      congr 1
      simp only [List.length_cons, List.length_nil]; omega
theorem jmp_ok {acc : List (It × Nat)} (h : AccOK acc) : ∀ (p : Nat), ∀ x ∈ jmps acc p, Byt x.1 ∧ x.2.1 + 3 ≤ p + lenN acc := by
  induction acc with
  | nil => intro p x hx; cases hx
  | cons y r ih =>
    intro p x hx
    rw [jmps] at hx
    rw [lenN_cons]
    have hy := h y List.mem_cons_self
    rcases List.mem_append.1 hx with h1 | h1
    · split at h1
      · cases h1
      · rename_i ht
        rw [List.mem_singleton.1 h1]
        have := (hy.1.1 ht).1
        exact ⟨hy.2.2, by simp only; omega⟩
    · have := ih (fun z hz => h z (List.mem_cons_of_mem _ hz)) _ x h1
      exact ⟨this.1, by have := this.2; omega⟩
theorem pat_step {l : List (List Nat × Nat)} {js : List (List Nat × Nat × Nat)} {j p : Nat} {cj : List Nat} (h : j < js.length) (hp : lkp l (js.getD j jd).1 = some p) : patN l (js.drop j) cj = patN l (js.drop (j + 1)) (put2 cj (js.getD j jd).2.1 (min p 1024)) := by
  rw [drop_cons jd js j h, patN, hp]
theorem pat_bad {l : List (List Nat × Nat)} {js : List (List Nat × Nat × Nat)} {j : Nat} {cj : List Nat} (h : j < js.length) (hp : lkp l (js.getD j jd).1 = none) : patN l (js.drop j) cj = .inl (js.getD j jd).2.2 := by
  rw [drop_cons jd js j h, patN, hp]
theorem pat_end {l : List (List Nat × Nat)} {js : List (List Nat × Nat × Nat)} {j : Nat} {cj : List Nat} (h : js.length ≤ j) : patN l (js.drop j) cj = .inr cj := by
  rw [List.drop_of_length_le h, patN]
theorem acc_it {acc : List (It × Nat)} (h : AccOK acc) : ∀ x ∈ acc, ItOK x.1 := fun x hx => (h x hx).1
theorem pat_inl {acc : List (It × Nat)} {k : Nat} (h : AccOK acc) (hp : patN (labs acc 0) (jmps acc 0) (FB acc) = .inl k) : badN acc acc = some k := by
  have := pat_all acc acc [] (acc_it h)
  rw [List.nil_append, List.length_nil] at this
  rw [show FB acc = flat (·.bs) acc from rfl, this] at hp
  split at hp
  · rename_i k2 hk; rw [hk]; injection hp with hp; rw [hp]
  · cases hp
theorem pat_inr {acc : List (It × Nat)} {cj : List Nat} (h : AccOK acc) (hp : patN (labs acc 0) (jmps acc 0) (FB acc) = .inr cj) : badN acc acc = none ∧ cj = flat (outM acc) acc := by
  have := pat_all acc acc [] (acc_it h)
  rw [List.nil_append, List.length_nil] at this
  rw [show FB acc = flat (·.bs) acc from rfl, this] at hp
  split at hp
  · cases hp
  · rename_i hk; injection hp with hp; exact ⟨hk, by rw [← hp]; rfl⟩
theorem flat_congr {f h : It → List Nat} {l : List (It × Nat)} (he : ∀ x, f x = h x) : flat f l = flat h l := by rw [show f = h from funext he]
theorem chk_outM {acc : List (It × Nat)} (h : AccOK acc) : chkN (flat (outM acc) acc) = chkN (flat (outB acc) acc) ∧ (chkN (flat (outM acc) acc) = true → flat (outM acc) acc = flat (outB acc) acc) := by
  by_cases hl : lenN acc ≤ 1024
  · have : flat (outM acc) acc = flat (outB acc) acc := flat_congr fun x => outM_outB acc hl x
    rw [this]; exact ⟨rfl, fun _ => rfl⟩
  · have h1 : chkN (flat (outM acc) acc) = false := chk_big (by rw [len_outM acc acc (acc_it h)]; omega)
    have h2 : chkN (flat (outB acc) acc) = false := chk_big (by rw [len_outB acc acc (acc_it h)]; omega)
    rw [h1, h2]; exact ⟨rfl, fun h => by cases h⟩
theorem put_a {cj : List Nat} {rest : List Value} {i off x : Nat} (hi : i < cj.length) (ho : off = i) : (byts cj ++ rest).set off (.int .u8 ((x : Nat) : Int)) = byts (cj.set i x) ++ rest := by
  subst ho
  rw [List.set_append, if_pos (by rw [length_byts]; exact hi)]
  congr 1
  simp [byts, List.map_set]
theorem byt_set {cj : List Nat} {i x : Nat} (h : Byt cj) (hx : x < 256) : Byt (cj.set i x) := by
  intro b hb
  rcases List.mem_or_eq_of_mem_set hb with h1 | rfl
  · exact h b h1
  · exact hx
theorem put2_byt {cj : List Nat} {q p : Nat} (h : Byt cj) : Byt (put2 cj q p) := byt_set (byt_set h (Nat.mod_lt _ (by decide))) (Nat.mod_lt _ (by decide))
def LineU (ba : Nat) (acc : List (It × Nat)) (wl : List (List Nat)) (ln : Nat) (v : Value) (s' : Seg) : Prop := ∃ b, v = .bool b ∧ (b = false → undN wl = none ∨ ∃ x, undN wl = some x ∧ tw acc x = true) ∧ (b = true → ∃ x, undN wl = some x ∧ tw acc x = false ∧ AsmS ba (acc ++ [(x, ln)]) s')
theorem LineR.u {ba : Nat} {acc : List (It × Nat)} {wl : List (List Nat)} {ln : Nat} {v : Value} {s' : Seg} (h : LineR ba acc wl ln v s') : LineU ba acc wl ln v s' := by
  rcases h with ⟨h1, h2⟩ | ⟨h1, h2⟩
  · exact ⟨false, h1, fun _ => h2, fun h => by cases h⟩
  · exact ⟨true, h1, (fun h => by cases h), fun _ => h2⟩
theorem say_line {l : List Nat} {r : List (List Nat)} {i : Nat} {acc : List (It × Nat)} (hw : wordsN l ≠ []) (h : undN (wordsN l) = none ∨ ∃ x, undN (wordsN l) = some x ∧ tw acc x = true) : sayN (l :: r) i acc = .inl (i + 1) := by
  rcases h with h | ⟨x, h1, h2⟩
  · exact say_bad1 hw h
  · exact say_bad2 hw h1 h2
theorem acc_snocOK {acc : List (It × Nat)} {x : It} {k : Nat} (h : AccOK acc) (h1 : ItOK x) (h2 : Byt x.lab ∧ Byt x.tg) : AccOK (acc ++ [(x, k)]) := by
  intro y hy
  rcases List.mem_append.1 hy with h3 | h3
  · exact h y h3
  · rw [List.mem_singleton.1 h3]; exact ⟨h1, h2⟩
theorem words_wlen (l : List Nat) : ∀ (cur : List Nat), ∀ x ∈ fld cur l, x.length ≤ cur.length + l.length := by
  induction l with
  | nil =>
    intro cur x hx
    rw [fld] at hx; unfold clo at hx; split at hx
    · cases hx
    · rw [List.mem_singleton.1 hx]; simp
  | cons c l ih =>
    intro cur x hx
    have hcl : ∀ y ∈ clo cur, y.length ≤ cur.length := by
      intro y hy; unfold clo at hy; split at hy
      · cases hy
      · rw [List.mem_singleton.1 hy]; exact Nat.le_refl _
    rw [fld] at hx
    rw [List.length_cons]
    split at hx
    · have := hcl x hx; omega
    split at hx
    · rcases List.mem_append.1 hx with h1 | h1
      · have := hcl x h1; omega
      · have := ih [] x h1; simp only [List.length_nil] at this; omega
    · have := ih _ x hx; simp only [List.length_append, List.length_cons, List.length_nil] at this; omega
theorem byt_flat {acc : List (It × Nat)} (h : AccOK acc) : Byt (FB acc) := by
  intro b hb
  unfold FB flat at hb
  obtain ⟨x, hx, hb⟩ := List.mem_flatMap.1 hb
  exact (h x hx).1.2.2.2.1 b hb
theorem asm_bad4M {xs : List Nat} {acc : List (It × Nat)} (h : asmN xs = match badN acc acc with
    | some k => ([], k, 107)
    | none => if chkN (flat (outB acc) acc) then (flat (outB acc) acc, 0, 0) else ([], 0, 100)) (hb : badN acc acc = none) (hc : chkN (flat (outB acc) acc) = false) : asmN xs = ([], 0, 100) := by
  rw [h, hb]; simp only []; rw [if_neg (by rw [hc]; decide)]
theorem asm_good4M {xs : List Nat} {acc : List (It × Nat)} (h : asmN xs = match badN acc acc with
    | some k => ([], k, 107)
    | none => if chkN (flat (outB acc) acc) then (flat (outB acc) acc, 0, 0) else ([], 0, 100)) (hb : badN acc acc = none) (hc : chkN (flat (outB acc) acc) = true) : asmN xs = (flat (outB acc) acc, 0, 0) := by
  rw [h, hb]; simp only []; rw [if_pos hc]
set_option maxHeartbeats 8000000 in
theorem masm_calls (s : ByteArray) (w0 : World) (hMx : MaxW w0) : Ret Tryz.prog 18 [.string s] w0 [] (fun v q => AsmR (bys s) v q) := by
 refine fn_start Tryz.func18 Y Tryz.ntmps18 Y [(0, .string s)] ⟨Y, trivial⟩ ?_
 intro Q a hP G hR hN
 have M := St.start w0
 have hlen := length_bys s
 refine wp_seq_k fun K1 hK1=> wp_region_lit <| av G Y Y fun a G=> av G Y Y fun a G=> av G Y Y fun a G=> s0 <| then_n (hK1 _ _ <| wp_seq_k fun K2 hK2=> wp_seq_k fun K3 hK3=> wp_region_lit <| mv G Y Y fun a G=> sw G Y Y Y (R.lenS Tryz.underlying9 (G.ev Y)) fun a G=> sw G Y Y Y (R.gtr (G.ev Y) (G.ev Y)) fun a G=> s0 <| then_n (hK3 _ _ <| cD G Y (fun c0=> ?_) (fun c0=> ?_)))
 ·refine wp_seq_k fun K4 hK4=> wp_region_lit <| av G Y Y fun a G=> av G Y Y fun a G=> av G Y Y fun a G=> s0 <| then_n (hK4 _ _ <| wp_ret (then_r (hR _ _ _ _ _ G (run_results Tryz.results18 (.t G Y (.t G Y (.t G Y (.nil))))) ?_)))
  exact ⟨_, [], Y, asm_r (asm_long (by omega)) Y Y (OwnS.nil 5 1), M.none⟩
 have hc0 : ¬ 65536 < (bys s).length := by omega
 refine wp_skip <| then_n (hK2 _ _ <| wp_seq_k fun K5 hK5=> wp_region_lit <| so (wn Y) (O.makeMap Y Y G M fun b17 a w G M=> ?_))
 refine sw G Y Y Y (R.buildStr (l := asmC none 0 0 b17 none 0 0) Tryz.underlying120 ze120 pl120 (G.evp Y) Y) fun a G=> so (wn Y) (O.box Y Y G (G.ev Y) Y M fun b19 a w G M=> ?_)
 refine av G Y Y fun a G=> s0 <| then_n (hK5 _ _ <| wp_seq_k fun K6 hK6=> wp_seq_k fun K7 hK7=> ?_)
 obtain ⟨sA, hAs, M⟩ := AsmS.close (acc := []) (M.cons0.cons0.sel [2, 3, 0, 1] rfl rfl) rfl (OwnS.nil 5 1) rfl (OwnS.nil 124 3) MapL.nil
 refine wp_region_lit <| mv G Y Y fun a G=> so (wn Y) (O.call Y Y G ent57 (G.evs Y) M (msplit_calls s w (hMx.old M) (by omega)) fun v s21 a w hR G M=> ?_)
 obtain ⟨A21, rfl, hO21⟩ := hR
 have hlk := lines_ok (byt_bys s) hlen (.inl rfl); obtain ⟨hlines, ho5⟩ := hlk
 refine sw G Y Y Y (R.len Tryz.underlying108 (G.ev Y)) fun a G=> mv G Y Y fun a G=> s0 <| then_n (hK7 _ _ <| wp_block <| wp_loop_N (fun g a w=> ∃ (i : Nat) (acc : List (It × Nat)) (sA : Seg), (linesT (bys s)).length - i = g ∧ Fr 103 [(5, .pointer (some ⟨b19, 0, none⟩)), (21, .slice (some ⟨A21, 0, none⟩) (linesT (bys s)).length (linesT (bys s)).length), (22, .int .i64 (((linesT (bys s)).length : Nat) : Int)), (23, .int .i64 ((i : Nat) : Int))] a ∧ St w0 [] [sA, s21] w ∧ (i ≤ (linesT (bys s)).length) ∧ (acc.length ≤ i) ∧ (AsmS b19 acc sA) ∧ (AccOK acc) ∧ (sayN (linesT (bys s)) 0 [] = sayN ((linesT (bys s)).drop i) i acc)) ((linesT (bys s)).length - 0) ?_ ?_)
 ·exact ⟨0, [], sA, Y, G.sub ⟨Y, Y, Y, Y, trivial⟩, M.sel [1, 0] Y Y, by omega, by simp, hAs, (fun x hx => by cases hx), Y⟩
 rintro KL1 g a w ⟨i, acc, sA, hg1, G, M, hi, hai, hAs, hac, hJs⟩ hKL1
 refine wp_seq_k fun K8 hK8=> wp_region_lit <| lS G Y Y Y fun a G=> s0 <| then_n (hK8 _ _ <| wp_seq_k fun K9 hK9=> cD G Y (fun c1=> ?_) (fun c1=> ?_))
 ·have hl5 := hlines ((linesT (bys s)).getD i []) (mem_getD (by omega)); obtain ⟨hlb, hll0⟩ := hl5; have hdr := drop_cons [] (linesT (bys s)) i (by omega); have hwc := words_len [] ((linesT (bys s)).getD i []); have hwb := words_byt ((linesT (bys s)).getD i []) [] byt_nil hlb; have hww0 := words_wlen ((linesT (bys s)).getD i []) []
  rw [show fld [] ((linesT (bys s)).getD i []) = wordsN ((linesT (bys s)).getD i []) from rfl] at hwc
  have hww : ∀ x ∈ wordsN ((linesT (bys s)).getD i []), x.length ≤ 1000000 := fun x hx => by (have := hww0 x hx; simp only [List.length_nil] at this; omega)
  refine wp_skip <| then_n (hK9 _ _ <| wp_seq_k fun K10 hK10=> ?_)
  have hK10' : ∀ a w, (∃ (acc2 : List (It × Nat)) (sA2 : Seg), Fr 103 [(5, .pointer (some ⟨b19, 0, none⟩)), (21, .slice (some ⟨A21, 0, none⟩) (linesT (bys s)).length (linesT (bys s)).length), (22, .int .i64 (((linesT (bys s)).length : Nat) : Int)), (23, .int .i64 ((i : Nat) : Int))] a ∧ St w0 [] [sA2, s21] w ∧ (acc2.length ≤ i + 1) ∧ (AsmS b19 acc2 sA2) ∧ (AccOK acc2) ∧ (sayN (linesT (bys s)) 0 [] = sayN ((linesT (bys s)).drop (i + 1)) (i + 1) acc2)) → K10 a w := by
   rintro a w ⟨acc2, sA2, G, M, hai2, hAs, hac, hJs⟩
   refine hK10 _ _ ?_
   refine wp_region_lit <| aI G Y Y Y (by omega) fun a G=> mv G Y Y fun a G=> s0 <| then_n (hKL1 ((linesT (bys s)).length - (i + 1)) _ _ ?_ ?_)
   ·omega
   exact ⟨i + 1, acc2, sA2, Y, G.sub ⟨Y, Y, Y, (congrArg (fun z => some (Value.int .i64 z)) (by omega)), trivial⟩, M.sel [0, 1] Y Y, by omega, hai2, hAs, hac, hJs⟩
  refine wp_block <| wp_seq_k fun K11 hK11=> wp_region_lit <| mv G Y Y fun a G=> sw G Y Y Y (R.indexO Tryz.underlying108 sz9 (G.ev Y) (by simp) (G.ev Y) (by omega) (by omega)) fun a G=> sw G Y Y Y (R.loadO one9 (G.ev Y) (hO21.rd M (.t .h)) (strs_at (i := i) (by omega) (by omega))) fun a G=> av G Y Y fun a G=> av G Y Y fun a G=> s0 <| then_n (hK11 _ _ <| wp_seq_k fun K12 hK12=> wp_region_lit <| mv G Y Y fun a G=> so (wn Y) (O.call Y Y G ent58 (G.evs Y) M (words_l hlb w (hMx.old M) (by omega)) fun v s29 a w hR G M=> ?_))
  obtain ⟨A29, rfl, hO29⟩ := hR
  refine av G Y Y fun a G=> s0 <| then_n (hK12 _ _ <| wp_seq_k fun K13 hK13=> wp_region_lit <| mv G Y Y fun a G=> sw G Y Y Y (R.len Tryz.underlying108 (G.ev Y)) fun a G=> sw G Y Y Y (R.gtr (G.ev Y) (G.ev Y)) fun a G=> mv G Y Y fun a G=> G.splitD (t := 33) Y (fun h33 G=> ?_) (fun h33 G=> ?_))
  ·refine my G Y Y Y Y fun a G=> my G Y Y Y Y fun a G=> my G Y Y Y Y fun a G=> sv' G (wy G Y Y Y) Y Y (R.addI (G.ev Y) (G.ev Y) (by omega)) fun a G=> so (wy G Y Y Y) (O.callK Y Y G ent59 (G.evs Y) M ((line_calls b19 acc sA A29 _ (i + 1) (wordsN ((linesT (bys s)).getD i [])) w hAs (M.own1 (.t .h)) hac (by omega) (RdK.ownS (M.sel [0, 1] Y Y) hO29) Y (by omega) (by omega) hwb hww (by omega)).mono fun _ _ h=> h.u) (fun _=> (.t .h)) fun v s38 a w hR G M=> ?_)
   obtain ⟨bv, rfl, hLf, hLt⟩ := hR
   refine sv' G (wy G Y Y Y) Y Y (R.as (u := .bool (decide (bv = false))) (R.not (G.ev Y)) (by cases bv <;> rfl)) fun a G=> pT G Y Y Y fun a G=> s0 <| then_n (hK13 _ _ <| cD G Y (fun c2=> ?_) (fun c2=> ?_))
   ·have hwn : wordsN ((linesT (bys s)).getD i []) ≠ [] := fun h => by rw [h] at h33; exact absurd h33 (by decide)
    have hJ2 := hJs.trans (by rw [hdr, say_line (r := (linesT (bys s)).drop (i + 1)) (i := i) hwn (hLf c2)])
    refine wp_seq_k fun K14 hK14=> wp_region_lit <| mv G Y Y fun a G=> aI G Y Y Y (by omega) fun a G=> av G Y Y fun a G=> av G Y Y fun a G=> av G Y Y fun a G=> s0 <| then_n (hK14 _ _ <| wp_ret (blk_r (then_r (then_r (blk_r (then_r (hR _ _ _ _ _ G (run_results Tryz.results18 (.t G Y (.t G Y (.t G Y (.nil))))) ?_)))))))
    exact ⟨_, [], Y, asm_r (asm_l hc0 (.inl Y) hJ2) Y Y (OwnS.nil 5 1), M.none⟩
   have hwn : wordsN ((linesT (bys s)).getD i []) ≠ [] := fun h => by rw [h] at h33; exact absurd h33 (by decide)
   obtain ⟨x1, hx1, htw, hAs1⟩ := hLt (by cases bv with | true => rfl | false => exact absurd rfl c2)
   refine wp_skip <| blk_n ?_
   exact then_n (hK10' _ _ ⟨acc ++ [(x1, i + 1)], s38, G.sub ⟨Y, Y, Y, Y, trivial⟩, M.sel [1, 2] Y Y, (by rw [List.length_append]; simp only [List.length_cons, List.length_nil]; omega), hAs1, acc_snocOK hac (und_ok hx1) (und_byt hx1 hwb), hJs.trans (by rw [hdr, say_go hwn hx1 htw])⟩)
  have hwn : wordsN ((linesT (bys s)).getD i []) = [] := List.eq_nil_of_length_eq_zero (by omega)
  refine kz G Y Y Y Y Y Y fun a G=> kz G Y Y Y Y Y Y fun a G=> kz G Y Y Y Y Y Y fun a G=> kz G Y Y Y Y Y Y fun a G=> kz G Y Y Y Y Y Y fun a G=> kz G Y Y Y Y Y Y fun a G=> pF G Y Y Y fun a G=> s0 <| then_n (hK13 _ _ <| cF G Y <| wp_skip <| blk_n ?_)
  exact then_n (hK10' _ _ ⟨acc, sA, G.sub ⟨Y, Y, Y, Y, trivial⟩, M.sel [1, 2] Y Y, by omega, hAs, hac, hJs.trans (by rw [hdr, say_skip hwn])⟩)
 obtain rfl : i = (linesT (bys s)).length := by omega
 refine wp_exit (then_x (then_x (blk_hit <| then_n (hK6 _ _ <| wp_seq_k fun K15 hK15=> wp_seq_k fun K16 hK16=> ?_))))
 obtain ⟨A, ca, J, dj, bm, es, cnt, zc, zj, hs, hO, hJ, hM⟩ := hAs
 have M := (M.sel [0] rfl rfl).flat (bs' := [[(b19, Cel (asmC A (lenN acc) ca bm J (jmps acc 0).length dj) 120)], [(bm, .map es cnt)], zc, zj]) (by simp [selS, hs])
 have hBL := acc_bytL hac 0; have hal := acc_len hac; have hjl := jmps_len acc 0
 refine wp_region_lit <| mv G Y Y fun a G=> sw G Y Y Y (R.nilCheck (G.ev Y)) fun a G=> sw G Y Y Y (R.fieldAddr (k := 2) Tryz.underlying120 Y nz118 (G.ev Y) Y) fun a G=> sw G Y Y Y (R.load one118 (G.ev Y) M .h (Y)) fun a G=> sw G Y Y Y (R.len Tryz.underlying118 (G.ev Y)) fun a G=> mv G Y Y fun a G=> s0 <| then_n (hK16 _ _ <| wp_block <| wp_loop_N (fun g a w=> ∃ (j : Nat) (cj : List Nat) (zc : Seg), (jmps acc 0).length - j = g ∧ Fr 103 [(5, .pointer (some ⟨b19, 0, none⟩)), (47, .slice J (jmps acc 0).length dj), (48, .int .i64 (((jmps acc 0).length : Nat) : Int)), (49, .int .i64 ((j : Nat) : Int))] a ∧ St w0 [] [[(b19, Cel (asmC A (lenN acc) ca bm J (jmps acc 0).length dj) 120)], [(bm, .map es cnt)], zc, zj] w ∧ (j ≤ (jmps acc 0).length) ∧ (OwnS zc A (lenN acc) ca (byts cj) 5 1) ∧ (cj.length = lenN acc) ∧ (Byt cj) ∧ (patN (labs acc 0) (jmps acc 0) (FB acc) = patN (labs acc 0) ((jmps acc 0).drop j) cj)) ((jmps acc 0).length - 0) ?_ ?_)
 ·exact ⟨0, FB acc, zc, Y, G.sub ⟨Y, Y, Y, Y, trivial⟩, M.sel [0, 1, 2, 3] Y Y, by omega, hO, Y, byt_flat hac, Y⟩
 rintro KL2 g a w ⟨j, cj, zc, hg2, G, M, hj, hO, hcl, hcb, hpt⟩ hKL2
 refine wp_seq_k fun K17 hK17=> wp_region_lit <| lS G Y Y Y fun a G=> s0 <| then_n (hK17 _ _ <| wp_seq_k fun K18 hK18=> cD G Y (fun c3=> ?_) (fun c3=> ?_))
 ·have hJb := jmp_ok hac 0 ((jmps acc 0).getD j jd) (mem_getD (by omega)); have hJb2 := hJb.2
  refine wp_skip <| then_n (hK18 _ _ <| wp_seq_k fun K19 hK19=> wp_block <| wp_seq_k fun K20 hK20=> wp_region_lit <| sw G Y Y Y (R.indexO Tryz.underlying118 sz124 (G.ev Y) ((hJ.rd M (.t (.t (.t .h)))).ne (by rw [len_jmpC]; omega)) (G.ev Y) (by omega) (by omega)) fun a G=> sw G Y Y Y (R.loadAO (cs := [.string (bstr ((jmps acc 0).getD j jd).1), .int .i64 ((((jmps acc 0).getD j jd).2.1 : Nat) : Int), .int .i64 ((((jmps acc 0).getD j jd).2.2 : Nat) : Int)]) agg124 (G.ev Y) (hJ.rd M (.t (.t (.t .h)))) sz124 Y (Nat.succ_pos _) (jmp_at (j := j) (by omega) (by omega))) fun a G=> so (wn Y) (O.alloc Y Y G ze124 Y M fun b10 a w G M=> ?_))
  refine so (wn Y) (O.storeW sz124 (G.ev Y) (G.ev Y) (Y) Y (by simp [Value.oneCell']) M .h (Y) fun w M=> ?_)
  refine s0 <| then_n (hK20 _ _ <| wp_seq_k fun K21 hK21=> wp_drawS M [(0, 0), (1, 0), (2, 0), (3, 1), (4, 0), (5, 1), (6, 1), (7, 0), (8, 0), (9, 0), (10, 0), (11, 0)] mix (by kernel_rfl) (hP.then.block.then.then.block.then) fun w M=> ?_)
  have hD := M
  refine dm G Y Y Y fun a G=> dv G Y Y Y Y (fun w=> R.nilCheck (G.ev Y)) fun a G=> dv G Y Y Y Y (fun w=> R.fieldAddr (k := 1) Tryz.underlying120 Y nz117 (G.ev Y) Y) fun a G=> ds G Y Y Y Y hD (fun w hD=> R.load one117 (G.ev Y) hD (.t .h) (Y)) fun a G=> ?_
  refine dv G Y Y Y Y (fun w=> R.fieldAddr (k := 0) Tryz.underlying124 Y nz9 (G.ev Y) Y) fun a G=> ds G Y Y Y Y hD (fun w hD=> R.load one9 (G.ev Y) hD .h (Y)) fun a G=> ?_
  refine ds G Y Y Y Y hD (fun w hD=> R.lookupS Tryz.underlying117 Tryz.underlying9 ze3i (St.get hD (.t (.t .h))) hM hBL hJb.1 (G.ev Y) (G.ev Y)) fun a G=> ?_
  refine dm G Y Y Y fun a G=> dx G Y Y Y Y fun a G=> dx G Y Y Y Y fun a G=> da G Y Y Y fun a G=> da G Y Y Y fun a G=> d0 <| then_n (hK21 _ _ <| wp_seq_k fun K22 hK22=> wp_seq_k fun K23 hK23=> wp_region_lit <| mv G Y Y fun a G=> sw G Y Y Y (R.as (u := .bool (decide (lkp (labs acc 0) ((jmps acc 0).getD j jd).1 = none))) (R.not (G.ev Y)) (by cases lkp (labs acc 0) ((jmps acc 0).getD j jd).1 <;> rfl)) fun a G=> s0 <| then_n (hK23 _ _ <| cD G Y (fun c4=> ?_) (fun c4=> ?_)))
  ·have hbn := pat_inl hac (hpt.trans (pat_bad (by omega) c4))
   refine wp_seq_k fun K24 hK24=> wp_drawS M [(0, 0), (1, 1), (2, 0), (3, 0), (4, 0)] mix (by kernel_rfl) (hP.then.block.then.then.block.then.then) fun w M=> ?_
   have hD := M
   refine dv G Y Y Y Y (fun w=> R.fieldAddr (k := 2) Tryz.underlying124 Y nz3 (G.ev Y) Y) fun a G=> ds G Y Y Y Y hD (fun w hD=> R.load one3 (G.ev Y) hD .h (Y)) fun a G=> ?_
   refine da G Y Y Y fun a G=> da G Y Y Y fun a G=> da G Y Y Y fun a G=> d0 <| then_n (hK24 _ _ <| wp_ret (then_r (blk_r (then_r (then_r (blk_r (then_r (hR _ _ _ _ _ G (run_results Tryz.results18 (.t G Y (.t G Y (.t G Y (.nil))))) ?_))))))))
   exact ⟨_, [], Y, asm_r (asm_bad3 (asm_i hc0 (.inl Y) (hJs.trans (by rw [List.drop_of_length_le (Nat.le_refl _)]; rfl))) hbn) Y Y (OwnS.nil 5 1), M.none⟩
  obtain ⟨p, hp⟩ : ∃ p, lkp (labs acc 0) ((jmps acc 0).getD j jd).1 = some p := (by cases h : lkp (labs acc 0) ((jmps acc 0).getD j jd).1 with | none => exact absurd h c4 | some p => exact ⟨p, rfl⟩)
  rw [hp, Option.getD_some] at G
  refine wp_skip <| then_n (hK22 _ _ <| wp_seq_k fun K25 hK25=> ?_)
  have hK25' : ∀ a w, (Fr 103 [(5, .pointer (some ⟨b19, 0, none⟩)), (10, .pointer (some ⟨b10, 0, none⟩)), (11, .int .i64 (((min p 1024) : Nat) : Int)), (47, .slice J (jmps acc 0).length dj), (48, .int .i64 (((jmps acc 0).length : Nat) : Int)), (49, .int .i64 ((j : Nat) : Int))] a ∧ St w0 [] [[(b10, Cel [.string (bstr ((jmps acc 0).getD j jd).1), .int .i64 ((((jmps acc 0).getD j jd).2.1 : Nat) : Int), .int .i64 ((((jmps acc 0).getD j jd).2.2 : Nat) : Int)] 124)], [(b19, Cel (asmC A (lenN acc) ca bm J (jmps acc 0).length dj) 120)], [(bm, .map es cnt)], zc, zj] w) → K25 a w := by
   rintro a w ⟨G, M⟩
   refine hK25 _ _ ?_
   obtain ⟨gz, restz, hAe, hze, hcz, hlz, hmz⟩ := own_open3 hO (by omega)
   rw [hAe, hze] at M
   refine wp_drawG M (M.sel [1, 0] Y Y) [(0, 0), (1, 0), (2, 0), (3, 1), (4, 0), (5, 1), (6, 0), (7, 0), (8, 0), (9, 0), (10, 1), (11, 0), (12, 1), (13, 0), (14, 0), (15, 0), (16, 0), (17, 0), (18, 0), (19, 0), (20, 2), (21, 0), (22, 2)] mix (by kernel_rfl) (hP.then.block.then.then.block) fun w M hD=> ?_
   refine dm G Y Y Y fun a G=> dv G Y Y Y Y (fun w=> R.nilCheck (G.ev Y)) fun a G=> dv G Y Y Y Y (fun w=> R.fieldAddr (k := 0) Tryz.underlying120 Y nz22 (G.ev Y) Y) fun a G=> ds G Y Y Y Y hD (fun w hD=> R.load one22 (G.ev Y) hD .h (Y)) fun a G=> ?_
   refine dv G Y Y Y Y (fun w=> R.fieldAddr (k := 1) Tryz.underlying124 Y nz3 (G.ev Y) Y) fun a G=> ds G Y Y Y Y hD (fun w hD=> R.load one3 (G.ev Y) hD (.t .h) (Y)) fun a G=> ?_
   refine dv G Y Y Y Y (fun w=> R.addI (G.ev Y) (G.ev Y) (by omega)) fun a G=> dm G Y Y Y fun a G=> dv G Y Y Y Y (fun w=> R.nilCheck (G.ev Y)) fun a G=> dv G Y Y Y Y (fun w=> R.fieldAddr (k := 0) Tryz.underlying120 Y nz22 (G.ev Y) Y) fun a G=> ds G Y Y Y Y hD (fun w hD=> R.load one22 (G.ev Y) hD .h (Y)) fun a G=> ?_
   refine dv G Y Y Y Y (fun w=> R.fieldAddr (k := 1) Tryz.underlying124 Y nz3 (G.ev Y) Y) fun a G=> ds G Y Y Y Y hD (fun w hD=> R.load one3 (G.ev Y) hD (.t .h) (Y)) fun a G=> ?_
   refine dv G Y Y Y Y (fun w=> R.addI (G.ev Y) (G.ev Y) (by omega)) fun a G=> dm G Y Y Y fun a G=> dv G Y Y Y Y (fun w=> R.as (u := .int .i64 (((min p 1024 / 256) : Nat) : Int)) (R.shrI (m := 8) (G.ev Y) (G.ev Y) (by decide)) (Y)) fun a G=> dv G Y Y Y Y (fun w=> R.convB (p := min p 1024 / 256) Tryz.underlying3 Tryz.underlying5 (G.ev Y)) fun a G=> dm G Y Y Y fun a G=> dv G Y Y Y Y (fun w=> R.convB (p := min p 1024) Tryz.underlying3 Tryz.underlying5 (G.ev Y)) fun a G=> dv G Y Y Y Y (fun w=> R.indexS Tryz.underlying22 sz5 (G.ev Y) (G.ev Y) (by omega) (by omega)) fun a G=> ?_
   refine dl Y (wn Y) (O.store sz5 (G.ev Y) (G.ev Y) Y Y M (.t (.t (.t .h))) (put_a (i := ((jmps acc 0).getD j jd).2.1 + 1) (by first | omega | (rw [List.length_set]; omega)) (by omega)) (by rw [List.length_append, length_byts]; first | omega | (rw [List.length_set]; omega)) fun w M=> ⟨fun hD=> M.sel [1, 0] Y Y, ?_⟩)
   have hD := M.sel [1, 0] rfl rfl
   refine dv G Y Y Y Y (fun w=> R.indexS Tryz.underlying22 sz5 (G.ev Y) (G.ev Y) (by omega) (by omega)) fun a G=> ?_
   refine dl Y (wn Y) (O.store sz5 (G.ev Y) (G.ev Y) Y Y M (.t (.t (.t .h))) (put_a (i := ((jmps acc 0).getD j jd).2.1 + 2) (by first | omega | (rw [List.length_set]; omega)) (by omega)) (by rw [List.length_append, length_byts]; first | omega | (rw [List.length_set]; omega)) fun w M=> ⟨fun hD=> M.sel [1, 0] Y Y, ?_⟩)
   have hD := M.sel [1, 0] rfl rfl
   refine d0 <| blk_n <| then_n (hK19 _ _ <| wp_region_lit <| aI G Y Y Y (by omega) fun a G=> mv G Y Y fun a G=> s0 <| then_n (hKL2 ((jmps acc 0).length - (j + 1)) _ _ ?_ ?_))
   ·omega
   exact ⟨j + 1, put2 cj ((jmps acc 0).getD j jd).2.1 (min p 1024), [(gz, Cel (byts (put2 cj ((jmps acc 0).getD j jd).2.1 (min p 1024)) ++ restz) 5)], Y, G.sub ⟨Y, Y, Y, (congrArg (fun z => some (Value.int .i64 z)) (by omega)), trivial⟩, M.sel [1, 2, 3, 4] Y (by rw [hAe]; first | rfl | (rw [← put2_comm]; rfl)), by omega, (by rw [hAe]; exact OwnS.mk (by rw [length_byts, put2_len, Nat.mul_one]; exact hcl) hcz (by rw [List.length_append, length_byts, put2_len]; rw [List.length_append, length_byts] at hlz; exact hlz) hmz), (by rw [put2_len]; exact hcl), put2_byt hcb, hpt.trans (pat_step (by omega) hp)⟩
  refine wp_seq_k fun K26 hK26=> wp_region_lit <| mv G Y Y fun a G=> sw G Y Y Y (R.gtr (G.ev Y) (G.ev Y)) fun a G=> s0 <| then_n (hK26 _ _ <| cD G Y (fun c5=> ?_) (fun c5=> ?_))
  ·refine wp_region_lit <| av G Y Y fun a G=> s0 ?_
   exact then_n (hK25' _ _ ⟨G.sub ⟨Y, Y, (congrArg (fun z => some (Value.int .i64 z)) (by omega)), Y, Y, Y, trivial⟩, M.sel [0, 1, 2, 3, 4] Y Y⟩)
  refine wp_skip ?_
  exact then_n (hK25' _ _ ⟨G.sub ⟨Y, Y, (congrArg (fun z => some (Value.int .i64 z)) (by omega)), Y, Y, Y, trivial⟩, M.sel [0, 1, 2, 3, 4] Y Y⟩)
 have hpr := pat_inr hac (hpt.trans (pat_end (by omega))); obtain ⟨hbn, hcj⟩ := hpr; have hck := chk_outM hac; rw [← hcj] at hck
 refine wp_exit (then_x (then_x (blk_hit <| then_n (hK15 _ _ <| wp_seq_k fun K27 hK27=> wp_seq_k fun K28 hK28=> wp_region_lit <| mv G Y Y fun a G=> sw G Y Y Y (R.nilCheck (G.ev Y)) fun a G=> sw G Y Y Y (R.fieldAddr (k := 0) Tryz.underlying120 Y nz22 (G.ev Y) Y) fun a G=> sw G Y Y Y (R.load one22 (G.ev Y) M .h (Y)) fun a G=> so (wn Y) (O.call Y Y G ent14 (G.evs Y) M (check_calls A (lenN acc) ca cj _ (hO.rd M (.t (.t .h))) hcl hO.2.1 hO.cap hcb) fun v s95 a w hR G M=> ?_)))))
 obtain ⟨rfl, rfl⟩ := hR
 refine av G Y Y fun a G=> s0 <| then_n (hK28 _ _ <| wp_seq_k fun K29 hK29=> wp_region_lit <| mv G Y Y fun a G=> sw G Y Y Y (R.as (u := .bool (decide (chkN cj = false))) (R.neq (G.ev Y) (G.ev Y)) (chk_dec)) fun a G=> s0 <| then_n (hK29 _ _ <| cD G Y (fun c6=> ?_) (fun c6=> ?_)))
 ·refine wp_seq_k fun K30 hK30=> wp_region_lit <| mv G Y Y fun a G=> av G Y Y fun a G=> av G Y Y fun a G=> av G Y Y fun a G=> s0 <| then_n (hK30 _ _ <| wp_ret (then_r (hR _ _ _ _ _ G (run_results Tryz.results18 (.t G Y (.t G Y (.t G Y (.nil))))) ?_)))
  exact ⟨_, [], Y, asm_r (asm_bad4M (asm_i hc0 (.inl Y) (hJs.trans (by rw [List.drop_of_length_le (Nat.le_refl _)]; rfl))) hbn (hck.1 ▸ c6)) Y (by rw [chkV, c6]; rfl) (OwnS.nil 5 1), M.none⟩
 refine wp_skip <| then_n (hK27 _ _ <| wp_seq_k fun K31 hK31=> wp_region_lit <| mv G Y Y fun a G=> sw G Y Y Y (R.nilCheck (G.ev Y)) fun a G=> sw G Y Y Y (R.fieldAddr (k := 0) Tryz.underlying120 Y nz22 (G.ev Y) Y) fun a G=> sw G Y Y Y (R.load one22 (G.ev Y) M (.t .h) (Y)) fun a G=> av G Y Y fun a G=> av G Y Y fun a G=> av G Y Y fun a G=> s0 <| then_n (hK31 _ _ <| wp_ret (hR _ _ _ _ _ G (run_results Tryz.results18 (.t G Y (.t G Y (.t G Y (.nil))))) ?_)))
 have hc12 : chkN cj = true := by (cases h : chkN cj with | false => exact absurd h c6 | true => rfl)
 exact ⟨_, zc, Y, asm_r ((asm_good4M (asm_i hc0 (.inl Y) (hJs.trans (by rw [List.drop_of_length_le (Nat.le_refl _)]; rfl))) hbn (hck.1 ▸ hc12)).trans (by rw [← hck.2 hc12])) hcl Y hO, M.one (.t (.t (.t .h)))⟩
end Go.Proofs.YtlapmbkfmbkdoaaGreatDoor
end
section
namespace Go.Fw
open Go.RowKit
section
variable {H : Type} {enc : TypeId × Value → H}
theorem handed_sh {a : Assume} {C : Checked} {os : Os} {f : FuncId} {fn : Func} {s : ChangeSpec} {conds : List PathCond} {apart fresh handsOn again : Bool} {X : World → Array Value → Prop}
    (hX : ∀ (w w' : World) (args : Array Value), w.heap = w'.heap → X w args → X w' args)
    (own : ownKnob C.prog.godebug = none) (started : os.Started) (noInit : C.prog.inits.idxOf? f = none) (hfn : C.prog.funcs[f]? = some fn)
    (witness : ∃ (w : World) (tape : Tape) (i : Input), w.os = os ∧ (w.forCall tape i).Shaped C.prog ∧ i.vars = [] ∧ Input.okWide C.prog (w.forCall tape i) .any w.heap.size f i ∧
      ((s.pre enc C.prog fn conds apart (w.forCall tape i).memory i.args ∧ X (w.forCall tape i).memory i.args) ∧ sizedMet enc C.prog fn (OpenSpec.ofChange s) apart (w.forCall tape i).memory i.args) ∧ a.holds C.prog (lone (Frame.enter C.prog f i.args .normal) [] (w.forCall tape i)))
    (contract : ∀ (W : World) (base : Nat) (args : Array Value) (ds gs : List (DataW H)) (before : List MemPlace),
      (∀ (j : Nat) t v, fn.params[j]? = some t → args[j]? = some v → Value.okWide C.prog W .any base t v) →
      DataW.Whole enc C.prog fn.params.toList s.vars apart W args.toList ds gs before →
      conds.all (PathCond.test C.prog ⟨fn.params.toList, ds, s.plain.varTypes C.prog, gs⟩) = true →
      (DataW.weightsEach C.prog (fn.params.toList ++ s.plain.varTypes C.prog) (ds ++ gs)).all (· ≤ reachBytes) = true → X W args → W.ShapedOpen C.prog →
      Calls C.prog f args W fun e W' => ∃ v, e = .returned v ∧ s.post enc C.prog fn apart fresh handsOn again W args v W') :
    ReturnsInHanded a C os f .any (fun w args => (s.pre enc C.prog fn conds apart w args ∧ X w args) ∧ sizedMet enc C.prog fn (OpenSpec.ofChange s) apart w args) (s.post enc C.prog fn apart fresh handsOn again) := by
  refine returnsInHanded_of_calls own started noInit witness ?_
  rintro w tape i _ hsh _ ⟨_, _, _, fn', hfn', _, _, _, _, hval⟩ ⟨⟨⟨ds, gs, before, hw, hc⟩, hx⟩, hz⟩ _
  obtain rfl : fn' = fn := Option.some.inj (hfn'.symm.trans hfn)
  have hw' := DataW.Whole.of_heap (w' := w.forCall tape i) (by rfl) hw
  refine (contract (w.forCall tape i) w.heap.size i.args ds gs before hval hw' hc (hz.weights hw) (hX _ _ _ (by rfl) hx) hsh).mono ?_
  rintro e W' ⟨v, rfl, hp⟩
  exact ChangeSpec.post_blind hp
end
end Go.Fw
namespace Go.Proofs
def Tryz.laysM146_ren : Go.Shelf.Ren := ⟨fun | 146 => 57 | 221 => 106 | 268 => 133 | 138 => 134 | 143 => 135 | 195 => 148 | 197 => 149 | 218 => 150 | 219 => 151 | 260 => 158 | 217 => 159 | 225 => 160 | 224 => 161 | 267 => 162 | 266 => 165 | 314 => 166 | n => n, fun | 9 => 9 | 31 => 108 | 3 => 3 | 4 => 4 | 0 => 0 | 105 => 189 | 21 => 21 | 5 => 5 | 46 => 126 | 119 => 200 | 139 => 203 | 138 => 202 | 146 => 204 | 51 => 195 | n => n, fun | 1 => 3 | 3 => 4 | 4 => 5 | n => n⟩
theorem Tryz.laysM146 : Go.Proofs.LaysM.n146 Tryz.prog Tryz.laysM146_ren := {
  mixed := by kernel_rfl
  f138 := Tryz.func134.trans (congrArg some (by kernel_rfl))
  f143 := Tryz.func135.trans (congrArg some (by kernel_rfl))
  f146 := Tryz.func57.trans (congrArg some (by kernel_rfl))
  f195 := Tryz.func148.trans (congrArg some (by kernel_rfl))
  f197 := Tryz.func149.trans (congrArg some (by kernel_rfl))
  f217 := Tryz.func159.trans (congrArg some (by kernel_rfl))
  f218 := Tryz.func150.trans (congrArg some (by kernel_rfl))
  f219 := Tryz.func151.trans (congrArg some (by kernel_rfl))
  f221 := Tryz.func106.trans (congrArg some (by kernel_rfl))
  f224 := Tryz.func161.trans (congrArg some (by kernel_rfl))
  f225 := Tryz.func160.trans (congrArg some (by kernel_rfl))
  f260 := Tryz.func158.trans (congrArg some (by kernel_rfl))
  f266 := Tryz.func165.trans (congrArg some (by kernel_rfl))
  f267 := Tryz.func162.trans (congrArg some (by kernel_rfl))
  f268 := Tryz.func133.trans (congrArg some (by kernel_rfl))
  f314 := Tryz.func166.trans (congrArg some (by kernel_rfl))
  t0 := Tryz.underlying0
  a0 := Tryz.isAgg0
  z0 := Tryz.sizeOf0
  v0 := Tryz.zeroValue0
  t3 := Tryz.underlying3
  a3 := Tryz.isAgg3
  z3 := Tryz.sizeOf3
  v3 := Tryz.zeroValue3
  t4 := Tryz.underlying4
  a4 := Tryz.isAgg4
  z4 := Tryz.sizeOf4
  v4 := Tryz.zeroValue4
  t5 := Tryz.underlying5
  a5 := Tryz.isAgg5
  z5 := Tryz.sizeOf5
  v5 := Tryz.zeroValue5
  t9 := Tryz.underlying9
  a9 := Tryz.isAgg9
  z9 := Tryz.sizeOf9
  v9 := Tryz.zeroValue9
  t21 := Tryz.underlying21
  a21 := Tryz.isAgg21
  z21 := Tryz.sizeOf21
  v21 := Tryz.zeroValue21
  t31 := Tryz.underlying108
  a31 := Tryz.isAgg108
  z31 := Tryz.sizeOf108
  v31 := Tryz.zeroValue108
  t46 := Tryz.underlying126
  a46 := Tryz.isAgg126
  z46 := Tryz.sizeOf126
  v46 := Tryz.zeroValue126
  t51 := Tryz.underlying195
  a51 := Tryz.isAgg195
  z51 := Tryz.sizeOf195
  v51 := Tryz.zeroValue195
  t105 := Tryz.underlying189
  a105 := Tryz.isAgg189
  z105 := Tryz.sizeOf189
  v105 := Tryz.zeroValue189
  t119 := Tryz.underlying200
  a119 := Tryz.isAgg200
  z119 := Tryz.sizeOf200
  t138 := Tryz.underlying202
  a138 := Tryz.isAgg202
  z138 := Tryz.sizeOf202
  v138 := Tryz.zeroValue202
  t139 := Tryz.underlying203
  a139 := Tryz.isAgg203
  z139 := Tryz.sizeOf203
  v139 := Tryz.zeroValue203
  t146 := Tryz.underlying204
  a146 := Tryz.isAgg204
  z146 := Tryz.sizeOf204
  v146 := Tryz.zeroValue204
  g1 := by kernel_rfl
  g3 := by kernel_rfl
  g4 := by kernel_rfl
  i0 := by kernel_rfl
  i3 := by kernel_rfl
  i4 := by kernel_rfl
  i5 := by kernel_rfl
  i9 := by kernel_rfl
  i21 := by kernel_rfl
  i31 := by kernel_rfl
  i46 := by kernel_rfl
  i51 := by kernel_rfl
  i105 := by kernel_rfl
  i138 := by kernel_rfl
  i139 := by kernel_rfl
  i146 := by kernel_rfl
  m1 := by kernel_rfl
  s1_3 := fun w h => Go.Proofs.cell_of_shapedOpen_int (zero := #[.int .i64 0]) (t := 3) h (of_decide_eq_true (by kernel_rfl)) (by kernel_rfl) rfl (by kernel_rfl) (by kernel_rfl) Tryz.underlying3
  m3 := by kernel_rfl
  m4 := by kernel_rfl }
end Go.Proofs
namespace Go.Proofs.YtlapmbkfmbkdoaaGreatDoor
open Go Go.Fw Go.RowKit
attribute [local irreducible] Go.Oper.wp Go.Code.wp Go.wpList Go.Fw.WL Go.Calls
theorem max_of {w : World} (h : w.ShapedOpen Tryz.prog) : MaxW w := Tryz.laysM146.s1_3 w h
end Go.Proofs.YtlapmbkfmbkdoaaGreatDoor
end
section
namespace Go.Proofs.YtlapmbkfmbkdoaaGreatDoor
open Go Go.Fw Go.RowKit
attribute [local irreducible] Go.Oper.wp Go.Code.wp Go.wpList Go.Fw.WL Go.Calls
theorem rep_set {xs : List Nat} {i m : Nat} (h : i < xs.length) : (List.replicate i m ++ xs.drop i).set i m = List.replicate (i + 1) m ++ xs.drop (i + 1) := by
  rw [List.set_append, if_neg (by rw [List.length_replicate]; omega), List.length_replicate, Nat.sub_self, drop_cons 0 xs i h, List.set_cons_zero, List.replicate_succ', List.append_assoc]; rfl
theorem rep_len {xs : List Nat} {i m n : Nat} (hn : xs.length = n) (h : i ≤ n) : (List.replicate i m ++ xs.drop i).length = n := by
  rw [List.length_append, List.length_replicate, List.length_drop]; omega
theorem rep_at {n m i off : Nat} (h : i < n) (ho : off = i) : (byts (List.replicate n m))[off]? = some (.int .u8 ((m : Nat) : Int)) := by
  subst ho
  rw [byts, List.getElem?_map, List.getElem?_replicate, if_pos h]; rfl
theorem own_rep {z : Seg} {A : Option Addr} {n c m : Nat} (h : OwnS z A (n + 1) c (byts (List.replicate n m) ++ [.int .u8 ((m : Nat) : Int)]) 5 1) : OwnS z A (n + 1) c (byts (List.replicate (n + 1) m)) 5 1 := by
  rw [List.replicate_succ']; exact own_bsnoc h
theorem asm_len (xs : List Nat) : (asmN xs).1.length ≤ 1024 := by
  unfold asmN
  split
  · exact Nat.zero_le _
  split
  · exact Nat.zero_le _
  split
  · exact Nat.zero_le _
  split
  · rename_i h; exact chk_len2 h
  · exact Nat.zero_le _
set_option maxHeartbeats 1000000 in
theorem grown_calls (A : Option Addr) (n c : Nat) (xs : List Nat) (m : Nat) (s : Seg) (w0 : World) (hOs : OwnS s A n c (byts xs) 5 1) (ho : Own w0 s) (hn : xs.length = n) (hnb : n ≤ 1000000) : Ret Tryz.prog 20 [.slice A n c, .int .u8 ((m : Nat) : Int)] w0 (s.map (·.1)) (fun v s' => ∃ B d, v = .slice B (n + 70) d ∧ OwnS s' B (n + 70) d (byts (List.replicate (n + 70) m)) 5 1) := by
 refine fn_start Tryz.func20 Y Tryz.ntmps20 Y [(0, .slice A n c), (1, .int .u8 ((m : Nat) : Int))] ⟨Y, Y, trivial⟩ ?_
 intro Q a hP J hR hN
 have G := St.enter ho
 refine wp_seq_k fun K1 hK1=> wp_region_lit <| av J Y Y fun a J=> s0 <| then_n (hK1 _ _ <| wp_seq_k fun K2 hK2=> wp_seq_k fun K3 hK3=> wp_region_lit <| mv J Y Y fun a J=> sw J Y Y Y (R.len Tryz.underlying22 (J.ev Y)) fun a J=> mv J Y Y fun a J=> s0 <| then_n (hK3 _ _ <| wp_block <| wp_loop_N (fun g a w=> ∃ (i : Nat) (z : Seg), n - i = g ∧ Fr 26 [(0, .slice A n c), (1, .int .u8 ((m : Nat) : Int)), (8, .int .i64 ((n : Nat) : Int)), (9, .int .i64 ((i : Nat) : Int))] a ∧ St w0 (s.map (·.1)) [z] w ∧ (i ≤ n) ∧ (OwnS z A n c (byts (List.replicate i m ++ xs.drop i)) 5 1)) (n - 0) ?_ ?_))
 ·exact ⟨0, s, Y, J.sub ⟨Y, Y, Y, Y, trivial⟩, G.sel [0] Y Y, by omega, hOs⟩
 rintro KL1 g a w ⟨i, z, hg1, J, G, hi, hO⟩ hKL1
 refine wp_seq_k fun K4 hK4=> wp_region_lit <| lS J Y Y Y fun a J=> s0 <| then_n (hK4 _ _ <| wp_seq_k fun K5 hK5=> cD J Y (fun c1=> ?_) (fun c1=> ?_))
 ·refine wp_skip <| then_n (hK5 _ _ <| wp_seq_k fun K6 hK6=> wp_block <| wp_seq_k fun K7 hK7=> wp_region_lit <| mv J Y Y fun a J=> av J Y Y fun a J=> s0 <| then_n (hK7 _ _ ?_))
  obtain ⟨gz, restz, hAe, hze, hcz, hlz, hmz⟩ := own_open3 hO (by omega)
  rw [hAe] at J; rw [hze] at G
  refine wp_region_lit <| mv J Y Y fun a J=> mv J Y Y fun a J=> mv J Y Y fun a J=> sw J Y Y Y (R.indexS Tryz.underlying22 sz5 (J.ev Y) (J.ev Y) (by omega) (by omega)) fun a J=> so (wn Y) (O.store sz5 (J.ev Y) (J.ev Y) Y Y G .h (put_a (i := i) (by rw [rep_len hn (by omega)]; omega) (by omega)) (by rw [List.length_append, length_byts, rep_len hn (by omega)]; omega) fun w G=> ?_)
  refine s0 <| blk_n <| then_n (hK6 _ _ <| wp_region_lit <| aI J Y Y Y (by omega) fun a J=> mv J Y Y fun a J=> s0 <| then_n (hKL1 (n - (i + 1)) _ _ ?_ ?_))
  ·omega
  exact ⟨i + 1, [(gz, Cel (byts ((List.replicate i m ++ xs.drop i).set i m) ++ restz) 5)], Y, J.sub ⟨(by rw [hAe]; rfl), Y, Y, (congrArg (fun z => some (Value.int .i64 z)) (by omega)), trivial⟩, G.sel [0] Y Y, by omega, (by rw [hAe, ← rep_set (by omega)]; exact OwnS.mk (by rw [length_byts, List.length_set, rep_len hn (by omega), Nat.mul_one]) hcz (by rw [List.length_append, length_byts, List.length_set]; rw [List.length_append, length_byts] at hlz; exact hlz) hmz)⟩
 obtain rfl : n = i := by omega
 refine wp_exit (then_x (then_x (blk_hit <| then_n (hK2 _ _ <| wp_seq_k fun K8 hK8=> wp_seq_k fun K9 hK9=> wp_region_lit <| av J Y Y fun a J=> s0 <| then_n (hK9 _ _ <| wp_block <| wp_loop_N (fun g a w=> ∃ (j : Nat) (B : Option Addr) (d : Nat) (z : Seg), 70 - j = g ∧ Fr 26 [(0, .slice B (n + j) d), (1, .int .u8 ((m : Nat) : Int)), (6, .int .i64 ((j : Nat) : Int))] a ∧ St w0 (s.map (·.1)) [z] w ∧ (j ≤ 70) ∧ (OwnS z B (n + j) d (byts (List.replicate (n + j) m)) 5 1)) (70 - 0) ?_ ?_)))))
 ·exact ⟨0, A, c, z, Y, J.sub ⟨Y, Y, Y, trivial⟩, G.sel [0] Y Y, by omega, (by rw [List.drop_of_length_le (by omega), List.append_nil] at hO; exact hO)⟩
 rintro KL2 g a w ⟨j, B, d, z, hg2, J, G, hj, hO⟩ hKL2
 refine wp_seq_k fun K10 hK10=> wp_seq_k fun K11 hK11=> wp_region_lit <| mv J Y Y fun a J=> lS J Y Y Y fun a J=> s0 <| then_n (hK11 _ _ <| cD J Y (fun c2=> ?_) (fun c2=> ?_))
 ·refine wp_skip <| then_n (hK10 _ _ <| wp_seq_k fun K12 hK12=> wp_block <| wp_region_lit <| mv J Y Y fun a J=> mv J Y Y fun a J=> so (wn Y) (O.buildSlice (l := [_]) Y Y J Tryz.underlying22 inf5 Y Y (J.evp Y) (by decide) Y G fun b23 a w J G=> ?_))
  refine so (wn Y) (O.append Y Y J Tryz.underlying22 inf5 Y Y (by decide) (J.ev Y) (J.ev Y) G hO (fun _=> (.t .h)) (Rd.own0 G .h) (Y) (by simp [Value.oneCell']) (by unfold maxLen; omega) (by omega) fun A24 c24 s24 a w hO24 J G=> ?_)
  refine av J Y Y fun a J=> s0 <| blk_n <| then_n (hK12 _ _ <| wp_region_lit <| mv J Y Y fun a J=> aI J Y Y Y (by omega) fun a J=> av J Y Y fun a J=> s0 <| then_n (hKL2 (70 - (j + 1)) _ _ ?_ ?_))
  ·omega
  exact ⟨j + 1, A24, c24, s24, Y, J.sub ⟨Y, Y, (congrArg (fun z => some (Value.int .i64 z)) (by omega)), trivial⟩, G.sel [1] Y Y, by omega, own_rep hO24⟩
 obtain rfl : j = 70 := by omega
 refine wp_exit (then_x (then_x (blk_hit <| then_n (hK8 _ _ <| wp_seq_k fun K13 hK13=> wp_region_lit <| mv J Y Y fun a J=> av J Y Y fun a J=> s0 <| then_n (hK13 _ _ <| wp_ret (hR _ _ _ _ _ J (run_results Tryz.results20 (.t J Y (.nil))) ?_))))))
 exact ⟨_, z, Y, ⟨B, d, Y, hO⟩, G.one .h⟩
set_option maxHeartbeats 4000000 in
theorem machineNew_calls (s r : ByteArray) (w0 : World) (hMx : MaxW w0) : Ret Tryz.prog 6 [.string s, .string r] w0 [] (fun v q => v = .bool true ∧ q = []) := by
 refine fn_start Tryz.func6 Y Tryz.ntmps6 Y [(0, .string s), (1, .string r)] ⟨Y, Y, trivial⟩ ?_
 intro Q a hP J hR hN
 have G := St.start w0
 have hls := asm_len (bys s); have hlr := asm_len (bys r)
 refine wp_seq_k fun K1 hK1=> wp_region_lit <| av J Y Y fun a J=> s0 <| then_n (hK1 _ _ <| wp_seq_k fun K2 hK2=> wp_region_lit <| mv J Y Y fun a J=> so (wn Y) (O.call Y Y J ent17 (J.evs Y) G (rasm_calls s _) fun v s34 a w hR J G=> ?_))
 obtain ⟨A34, d34, rfl, hO34⟩ := hR
 refine mv J Y Y fun a J=> xv J Y Y Y fun a J=> xv J Y Y Y fun a J=> xv J Y Y Y fun a J=> av J Y Y fun a J=> av J Y Y fun a J=> av J Y Y fun a J=> s0 <| then_n (hK2 _ _ <| wp_seq_k fun K3 hK3=> wp_region_lit <| mv J Y Y fun a J=> so (wn Y) (O.call Y Y J ent17 (J.evs Y) G (rasm_calls r w) fun v s40 a w hR J G=> ?_))
 obtain ⟨A40, d40, rfl, hO40⟩ := hR
 refine mv J Y Y fun a J=> xv J Y Y Y fun a J=> xv J Y Y Y fun a J=> xv J Y Y Y fun a J=> av J Y Y fun a J=> av J Y Y fun a J=> av J Y Y fun a J=> s0 <| then_n (hK3 _ _ <| wp_seq_k fun K4 hK4=> wp_region_lit <| mv J Y Y fun a J=> so (wn Y) (O.call Y Y J ent18 (J.evs Y) G (masm_calls s w (hMx.old G)) fun v s46 a w hR J G=> ?_))
 obtain ⟨A46, d46, rfl, hO46⟩ := hR
 refine mv J Y Y fun a J=> xv J Y Y Y fun a J=> xv J Y Y Y fun a J=> xv J Y Y Y fun a J=> av J Y Y fun a J=> av J Y Y fun a J=> av J Y Y fun a J=> s0 <| then_n (hK4 _ _ <| wp_seq_k fun K5 hK5=> wp_region_lit <| mv J Y Y fun a J=> so (wn Y) (O.call Y Y J ent18 (J.evs Y) G (masm_calls s w (hMx.old G)) fun v s52 a w hR J G=> ?_))
 obtain ⟨A52, d52, rfl, hO52⟩ := hR
 refine mv J Y Y fun a J=> xv J Y Y Y fun a J=> xv J Y Y Y fun a J=> xv J Y Y Y fun a J=> av J Y Y fun a J=> av J Y Y fun a J=> av J Y Y fun a J=> s0 <| then_n (hK5 _ _ <| wp_seq_k fun K6 hK6=> wp_region_lit <| mv J Y Y fun a J=> so (wn Y) (O.call Y Y J ent18 (J.evs Y) G (masm_calls r w (hMx.old G)) fun v s58 a w hR J G=> ?_))
 obtain ⟨A58, d58, rfl, hO58⟩ := hR
 refine mv J Y Y fun a J=> xv J Y Y Y fun a J=> xv J Y Y Y fun a J=> xv J Y Y Y fun a J=> av J Y Y fun a J=> av J Y Y fun a J=> av J Y Y fun a J=> s0 <| then_n (hK6 _ _ <| wp_seq_k fun K7 hK7=> wp_seq_k fun K8 hK8=> wp_region_lit <| mv J Y Y fun a J=> mv J Y Y fun a J=> sw J Y Y Y (R.as (u := .bool false) (R.neq (J.ev Y) (J.ev Y)) (congrArg Value.bool (decide_eq_false (fun h=> h Y)))) fun a J=> mv J Y Y fun a J=> my J Y Y Y Y fun a J=> my J Y Y Y Y fun a J=> sv' J (wy J Y Y Y) Y Y (R.as (u := .bool false) (R.neq (J.ev Y) (J.ev Y)) (congrArg Value.bool (decide_eq_false (fun h=> h Y)))) fun a J=> pF J Y Y Y fun a J=> mv J Y Y fun a J=> my J Y Y Y Y fun a J=> my J Y Y Y Y fun a J=> sv' J (wy J Y Y Y) Y Y (R.as (u := .bool false) (R.neq (J.ev Y) (J.ev Y)) (congrArg Value.bool (decide_eq_false (fun h=> h Y)))) fun a J=> ?_)
 refine pF J Y Y Y fun a J=> mv J Y Y fun a J=> my J Y Y Y Y fun a J=> my J Y Y Y Y fun a J=> sv' J (wy J Y Y Y) Y Y (R.as (u := .bool false) (R.neq (J.ev Y) (J.ev Y)) (congrArg Value.bool (decide_eq_false (fun h=> h Y)))) fun a J=> pF J Y Y Y fun a J=> mv J Y Y fun a J=> my J Y Y Y Y fun a J=> my J Y Y Y Y fun a J=> so (wy J Y Y Y) (O.call Y Y J ent19 (J.evs Y) G (sameBytes_eq A46 A34 (asmN (bys s)).1.length d46 d34 (asmN (bys s)).1 w (hO46.rd G (.t (.t .h))) (hO34.rd G (.t (.t (.t (.t .h))))) Y) fun v s83 a w hR J G=> ?_)
 obtain ⟨rfl, rfl⟩ := hR
 refine sv' J (wy J Y Y Y) Y Y (R.as (u := .bool false) (R.not (J.ev Y)) (Y)) fun a J=> pF J Y Y Y fun a J=> mv J Y Y fun a J=> my J Y Y Y Y fun a J=> my J Y Y Y Y fun a J=> so (wy J Y Y Y) (O.call Y Y J ent19 (J.evs Y) G (sameBytes_eq A52 A34 (asmN (bys s)).1.length d52 d34 (asmN (bys s)).1 w (hO52.rd G (.t (.t .h))) (hO34.rd G (.t (.t (.t (.t (.t .h)))))) Y) fun v s89 a w hR J G=> ?_)
 obtain ⟨rfl, rfl⟩ := hR
 refine sv' J (wy J Y Y Y) Y Y (R.as (u := .bool false) (R.not (J.ev Y)) (Y)) fun a J=> pF J Y Y Y fun a J=> mv J Y Y fun a J=> my J Y Y Y Y fun a J=> my J Y Y Y Y fun a J=> so (wy J Y Y Y) (O.call Y Y J ent19 (J.evs Y) G (sameBytes_eq A58 A40 (asmN (bys r)).1.length d58 d40 (asmN (bys r)).1 w (hO58.rd G (.t (.t .h))) (hO40.rd G (.t (.t (.t (.t (.t .h)))))) Y) fun v s95 a w hR J G=> ?_)
 obtain ⟨rfl, rfl⟩ := hR
 refine sv' J (wy J Y Y Y) Y Y (R.as (u := .bool false) (R.not (J.ev Y)) (Y)) fun a J=> pF J Y Y Y fun a J=> s0 <| then_n (hK8 _ _ <| cF J Y <| wp_skip <| then_n (hK7 _ _ <| wp_seq_k fun K9 hK9=> wp_region_lit <| mv J Y Y fun a J=> so (wn Y) (O.callK Y Y J ent20 (J.evs Y) G (grown_calls A46 (asmN (bys s)).1.length d46 (asmN (bys s)).1 171 s46 w hO46 (G.own1 (.t (.t (.t (.t (.t .h)))))) Y (by have := asm_len (bys s); omega)) (fun _=> (.t (.t (.t (.t (.t .h)))))) fun v s99 a w hR J G=> ?_)))
 obtain ⟨B99, e99, rfl, hx⟩ := hR
 refine av J Y Y fun a J=> s0 <| then_n (hK9 _ _ <| wp_seq_k fun K10 hK10=> wp_seq_k fun K11 hK11=> wp_region_lit <| mv J Y Y fun a J=> mv J Y Y fun a J=> so (wn Y) (O.call Y Y J ent19 (J.evs Y) G (sameBytes_eq A52 A34 (asmN (bys s)).1.length d52 d34 (asmN (bys s)).1 w (hO52.rd G (.t (.t (.t (.t .h))))) (hO34.rd G (.t (.t (.t (.t (.t (.t (.t .h)))))))) Y) fun v s102 a w hR J G=> ?_))
 obtain ⟨rfl, rfl⟩ := hR
 refine sw J Y Y Y (R.as (u := .bool false) (R.not (J.ev Y)) (Y)) fun a J=> mv J Y Y fun a J=> my J Y Y Y Y fun a J=> my J Y Y Y Y fun a J=> so (wy J Y Y Y) (O.call Y Y J ent19 (J.evs Y) G (sameBytes_eq A58 A40 (asmN (bys r)).1.length d58 d40 (asmN (bys r)).1 w (hO58.rd G (.t (.t (.t (.t .h))))) (hO40.rd G (.t (.t (.t (.t (.t (.t (.t .h)))))))) Y) fun v s107 a w hR J G=> ?_)
 obtain ⟨rfl, rfl⟩ := hR
 refine sv' J (wy J Y Y Y) Y Y (R.as (u := .bool false) (R.not (J.ev Y)) (Y)) fun a J=> pF J Y Y Y fun a J=> s0 <| then_n (hK11 _ _ <| cF J Y <| wp_skip <| then_n (hK10 _ _ <| wp_seq_k fun K12 hK12=> wp_region_lit <| mv J Y Y fun a J=> so (wn Y) (O.call Y Y J ent18 (J.evs Y) G (masm_calls s w (hMx.old G)) fun v s112 a w hR J G=> ?_)))
 obtain ⟨A112, d112, rfl, hO112⟩ := hR
 refine mv J Y Y fun a J=> xv J Y Y Y fun a J=> xv J Y Y Y fun a J=> xv J Y Y Y fun a J=> av J Y Y fun a J=> av J Y Y fun a J=> av J Y Y fun a J=> s0 <| then_n (hK12 _ _ <| wp_seq_k fun K13 hK13=> wp_region_lit <| mv J Y Y fun a J=> so (wn Y) (O.callK Y Y J ent20 (J.evs Y) G (grown_calls A112 (asmN (bys s)).1.length d112 (asmN (bys s)).1 172 s112 w hO112 (G.own1 .h) Y (by have := asm_len (bys s); omega)) (fun _=> .h) fun v s117 a w hR J G=> ?_))
 obtain ⟨B117, e117, rfl, hy⟩ := hR
 refine av J Y Y fun a J=> s0 <| then_n (hK13 _ _ <| wp_seq_k fun K14 hK14=> wp_region_lit <| mv J Y Y fun a J=> so (wn Y) (O.callK Y Y J ent20 (J.evs Y) G (grown_calls A58 (asmN (bys r)).1.length d58 (asmN (bys r)).1 173 s58 w hO58 (G.own1 (.t (.t (.t (.t (.t (.t .h))))))) Y (by have := asm_len (bys r); omega)) (fun _=> (.t (.t (.t (.t (.t (.t .h))))))) fun v s119 a w hR J G=> ?_))
 obtain ⟨B119, e119, rfl, hz⟩ := hR
 refine av J Y Y fun a J=> s0 <| then_n (hK14 _ _ <| wp_seq_k fun K15 hK15=> wp_seq_k fun K16 hK16=> wp_region_lit <| mv J Y Y fun a J=> mv J Y Y fun a J=> so (wn Y) (O.call Y Y J ent19 (J.evs Y) G (sameBytes_eq A52 A34 (asmN (bys s)).1.length d52 d34 (asmN (bys s)).1 w (hO52.rd G (.t (.t (.t (.t (.t (.t (.t .h)))))))) (hO34.rd G (.t (.t (.t (.t (.t (.t (.t (.t (.t (.t .h))))))))))) Y) fun v s122 a w hR J G=> ?_))
 obtain ⟨rfl, rfl⟩ := hR
 refine sw J Y Y Y (R.as (u := .bool false) (R.not (J.ev Y)) (Y)) fun a J=> s0 <| then_n (hK16 _ _ <| cF J Y <| wp_skip <| then_n (hK15 _ _ <| wp_seq_k fun K17 hK17=> wp_seq_k fun K18 hK18=> wp_region_lit <| mv J Y Y fun a J=> sw J Y Y Y (R.len Tryz.underlying22 (J.ev Y)) fun a J=> mv J Y Y fun a J=> s0 <| then_n (hK18 _ _ <| wp_block <| wp_loop_N (fun g a w=> ∃ (i : Nat), (asmN (bys s)).1.length + 70 - i = g ∧ Fr 169 [(0, .string s), (5, .slice A34 (asmN (bys s)).1.length d34), (20, .slice B99 ((asmN (bys s)).1.length + 70) e99), (24, .slice B117 ((asmN (bys s)).1.length + 70) e117), (25, .slice B119 ((asmN (bys r)).1.length + 70) e119), (125, .int .i64 (((asmN (bys s)).1.length + 70 : Nat) : Int)), (126, .int .i64 ((i : Nat) : Int))] a ∧ St w0 [] [s99, s117, s119, s34] w ∧ (i ≤ (asmN (bys s)).1.length + 70)) ((asmN (bys s)).1.length + 70 - 0) ?_ ?_)))
 ·exact ⟨0, Y, J.sub ⟨Y, Y, Y, Y, Y, Y, Y, trivial⟩, G.sel [9, 1, 7, 11] Y Y, by omega⟩
 rintro KL1 g a w ⟨i, hg1, J, G, hi126⟩ hKL1
 refine wp_seq_k fun K19 hK19=> wp_region_lit <| lS J Y Y Y fun a J=> s0 <| then_n (hK19 _ _ <| wp_seq_k fun K20 hK20=> cD J Y (fun c1=> ?_) (fun c1=> ?_))
 ·refine wp_skip <| then_n (hK20 _ _ <| wp_seq_k fun K21 hK21=> wp_block <| wp_seq_k fun K22 hK22=> wp_region_lit <| mv J Y Y fun a J=> av J Y Y fun a J=> s0 <| then_n (hK22 _ _ <| wp_seq_k fun K23 hK23=> wp_region_lit <| mv J Y Y fun a J=> mv J Y Y fun a J=> sw J Y Y Y (R.indexO Tryz.underlying22 sz5 (J.ev Y) ((hx.rd G .h).ne (by rw [length_byts, List.length_replicate]; omega)) (J.ev Y) (by omega) (by omega)) fun a J=> sw J Y Y Y (R.loadO one5 (J.ev Y) (hx.rd G .h) (rep_at (i := i) (by omega) (by omega))) fun a J=> sw J Y Y Y (R.as (u := .bool false) (R.neq (J.ev Y) (J.ev Y)) (congrArg Value.bool (decide_eq_false (fun h=> h Y)))) fun a J=> s0 <| then_n (hK23 _ _ <| cF J Y <| wp_skip <| blk_n <| then_n (hK21 _ _ <| wp_region_lit ?_))))
  refine aI J Y Y Y (by omega) fun a J=> mv J Y Y fun a J=> s0 <| then_n (hKL1 ((asmN (bys s)).1.length + 70 - (i + 1)) _ _ ?_ ?_)
  ·omega
  exact ⟨i + 1, Y, J.sub ⟨Y, Y, Y, Y, Y, Y, (congrArg (fun z => some (Value.int .i64 z)) (by omega)), trivial⟩, G.sel [0, 1, 2, 3] Y Y, by omega⟩
 refine wp_exit (then_x (then_x (blk_hit <| then_n (hK17 _ _ <| wp_seq_k fun K24 hK24=> wp_seq_k fun K25 hK25=> wp_region_lit <| mv J Y Y fun a J=> sw J Y Y Y (R.len Tryz.underlying22 (J.ev Y)) fun a J=> mv J Y Y fun a J=> s0 <| then_n (hK25 _ _ <| wp_block <| wp_loop_N (fun g a w=> ∃ (i : Nat), (asmN (bys s)).1.length + 70 - i = g ∧ Fr 169 [(0, .string s), (5, .slice A34 (asmN (bys s)).1.length d34), (24, .slice B117 ((asmN (bys s)).1.length + 70) e117), (25, .slice B119 ((asmN (bys r)).1.length + 70) e119), (136, .int .i64 (((asmN (bys s)).1.length + 70 : Nat) : Int)), (137, .int .i64 ((i : Nat) : Int))] a ∧ St w0 [] [s117, s119, s34] w ∧ (i ≤ (asmN (bys s)).1.length + 70)) ((asmN (bys s)).1.length + 70 - 0) ?_ ?_)))))
 ·exact ⟨0, Y, J.sub ⟨Y, Y, Y, Y, Y, Y, trivial⟩, G.sel [1, 2, 3] Y Y, by omega⟩
 rintro KL2 g a w ⟨i, hg2, J, G, hi137⟩ hKL2
 refine wp_seq_k fun K26 hK26=> wp_region_lit <| lS J Y Y Y fun a J=> s0 <| then_n (hK26 _ _ <| wp_seq_k fun K27 hK27=> cD J Y (fun c2=> ?_) (fun c2=> ?_))
 ·refine wp_skip <| then_n (hK27 _ _ <| wp_seq_k fun K28 hK28=> wp_block <| wp_seq_k fun K29 hK29=> wp_region_lit <| mv J Y Y fun a J=> av J Y Y fun a J=> s0 <| then_n (hK29 _ _ <| wp_seq_k fun K30 hK30=> wp_region_lit <| mv J Y Y fun a J=> mv J Y Y fun a J=> sw J Y Y Y (R.indexO Tryz.underlying22 sz5 (J.ev Y) ((hy.rd G .h).ne (by rw [length_byts, List.length_replicate]; omega)) (J.ev Y) (by omega) (by omega)) fun a J=> sw J Y Y Y (R.loadO one5 (J.ev Y) (hy.rd G .h) (rep_at (i := i) (by omega) (by omega))) fun a J=> sw J Y Y Y (R.as (u := .bool false) (R.neq (J.ev Y) (J.ev Y)) (congrArg Value.bool (decide_eq_false (fun h=> h Y)))) fun a J=> s0 <| then_n (hK30 _ _ <| cF J Y <| wp_skip <| blk_n <| then_n (hK28 _ _ <| wp_region_lit ?_))))
  refine aI J Y Y Y (by omega) fun a J=> mv J Y Y fun a J=> s0 <| then_n (hKL2 ((asmN (bys s)).1.length + 70 - (i + 1)) _ _ ?_ ?_)
  ·omega
  exact ⟨i + 1, Y, J.sub ⟨Y, Y, Y, Y, Y, (congrArg (fun z => some (Value.int .i64 z)) (by omega)), trivial⟩, G.sel [0, 1, 2] Y Y, by omega⟩
 refine wp_exit (then_x (then_x (blk_hit <| then_n (hK24 _ _ <| wp_seq_k fun K31 hK31=> wp_seq_k fun K32 hK32=> wp_region_lit <| mv J Y Y fun a J=> sw J Y Y Y (R.len Tryz.underlying22 (J.ev Y)) fun a J=> mv J Y Y fun a J=> s0 <| then_n (hK32 _ _ <| wp_block <| wp_loop_N (fun g a w=> ∃ (i : Nat), (asmN (bys r)).1.length + 70 - i = g ∧ Fr 169 [(0, .string s), (5, .slice A34 (asmN (bys s)).1.length d34), (25, .slice B119 ((asmN (bys r)).1.length + 70) e119), (147, .int .i64 (((asmN (bys r)).1.length + 70 : Nat) : Int)), (148, .int .i64 ((i : Nat) : Int))] a ∧ St w0 [] [s119, s34] w ∧ (i ≤ (asmN (bys r)).1.length + 70)) ((asmN (bys r)).1.length + 70 - 0) ?_ ?_)))))
 ·exact ⟨0, Y, J.sub ⟨Y, Y, Y, Y, Y, trivial⟩, G.sel [1, 2] Y Y, by omega⟩
 rintro KL3 g a w ⟨i, hg3, J, G, hi148⟩ hKL3
 refine wp_seq_k fun K33 hK33=> wp_region_lit <| lS J Y Y Y fun a J=> s0 <| then_n (hK33 _ _ <| wp_seq_k fun K34 hK34=> cD J Y (fun c3=> ?_) (fun c3=> ?_))
 ·refine wp_skip <| then_n (hK34 _ _ <| wp_seq_k fun K35 hK35=> wp_block <| wp_seq_k fun K36 hK36=> wp_region_lit <| mv J Y Y fun a J=> av J Y Y fun a J=> s0 <| then_n (hK36 _ _ <| wp_seq_k fun K37 hK37=> wp_region_lit <| mv J Y Y fun a J=> mv J Y Y fun a J=> sw J Y Y Y (R.indexO Tryz.underlying22 sz5 (J.ev Y) ((hz.rd G .h).ne (by rw [length_byts, List.length_replicate]; omega)) (J.ev Y) (by omega) (by omega)) fun a J=> sw J Y Y Y (R.loadO one5 (J.ev Y) (hz.rd G .h) (rep_at (i := i) (by omega) (by omega))) fun a J=> sw J Y Y Y (R.as (u := .bool false) (R.neq (J.ev Y) (J.ev Y)) (congrArg Value.bool (decide_eq_false (fun h=> h Y)))) fun a J=> s0 <| then_n (hK37 _ _ <| cF J Y <| wp_skip <| blk_n <| then_n (hK35 _ _ <| wp_region_lit ?_))))
  refine aI J Y Y Y (by omega) fun a J=> mv J Y Y fun a J=> s0 <| then_n (hKL3 ((asmN (bys r)).1.length + 70 - (i + 1)) _ _ ?_ ?_)
  ·omega
  exact ⟨i + 1, Y, J.sub ⟨Y, Y, Y, Y, (congrArg (fun z => some (Value.int .i64 z)) (by omega)), trivial⟩, G.sel [0, 1] Y Y, by omega⟩
 refine wp_exit (then_x (then_x (blk_hit <| then_n (hK31 _ _ <| wp_seq_k fun K38 hK38=> wp_region_lit <| mv J Y Y fun a J=> so (wn Y) (O.call Y Y J ent18 (J.evs Y) G (masm_calls s w (hMx.old G)) fun v s159 a w hR J G=> ?_)))))
 obtain ⟨A159, d159, rfl, hO159⟩ := hR
 refine mv J Y Y fun a J=> xv J Y Y Y fun a J=> xv J Y Y Y fun a J=> xv J Y Y Y fun a J=> av J Y Y fun a J=> av J Y Y fun a J=> av J Y Y fun a J=> s0 <| then_n (hK38 _ _ <| wp_seq_k fun K39 hK39=> wp_region_lit <| mv J Y Y fun a J=> mv J Y Y fun a J=> so (wn Y) (O.call Y Y J ent19 (J.evs Y) G (sameBytes_eq A159 A34 (asmN (bys s)).1.length d159 d34 (asmN (bys s)).1 w (hO159.rd G .h) (hO34.rd G (.t (.t .h))) Y) fun v s165 a w hR J G=> ?_))
 obtain ⟨rfl, rfl⟩ := hR
 refine mv J Y Y fun a J=> so (wy J Y Y Y) (O.call Y Y J ent10 (J.evs Y) G (alive_calls w) fun v s167 a w hR J G=> ?_)
 obtain ⟨rfl, rfl⟩ := hR
 refine pT J Y Y Y fun a J=> av J Y Y fun a J=> s0 <| then_n (hK39 _ _ <| wp_ret (hR _ _ _ _ _ J (run_results Tryz.results6 (.t J Y (.nil))) ?_))
 exact ⟨_, [], Y, ⟨Y, Y⟩, G.none⟩
end Go.Proofs.YtlapmbkfmbkdoaaGreatDoor
end
