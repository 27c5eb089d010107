/- Part 5 of what the row MachineThereAndBack needs, with no condition beyond each lemma's own. -/
import Derived.Test.YtlapmbkfmbkdoaaGreatDoorSf4
section
namespace Go.Proofs.YtlapmbkfmbkdoaaGreatDoor
open Go Go.Fw Go.RowKit
attribute [local irreducible] Go.Oper.wp Go.Code.wp Go.wpList Go.Fw.WL Go.Calls
theorem runN_more {cl : Cl} {code : List Nat} {rep : Nat → Nat × Int} {f : Nat} {stk stk' : List Nat} {left p left' p' : Nat} {asks asks' : List Fw.Ask} (h : stp cl code rep stk left p asks = .more stk' left' p' asks') : Fw.runN cl code rep (f + 1) stk left p asks = Fw.runN cl code rep f stk' left' p' asks' := by
  rw [Fw.runN, h]
theorem runN_fin {cl : Cl} {code : List Nat} {rep : Nat → Nat × Int} {f : Nat} {stk : List Nat} {left p v left' : Nat} {asks asks' : List Fw.Ask} (h : stp cl code rep stk left p asks = .fin v left' asks') : Fw.runN cl code rep (f + 1) stk left p asks = ⟨v, left', 0, asks'⟩ := by
  rw [Fw.runN, h]
theorem runN_err {cl : Cl} {code : List Nat} {rep : Nat → Nat × Int} {f : Nat} {stk : List Nat} {left p : Nat} {e : Int} {asks asks' : List Fw.Ask} (h : stp cl code rep stk left p asks = .err e asks') : Fw.runN cl code rep (f + 1) stk left p asks = ⟨0, 0, e, asks'⟩ := by
  rw [Fw.runN, h]
theorem play_fin {cl : Cl} {code : List Nat} {rep : Nat → Nat × Int} (h1 : chkN code = true) (h2 : callOk cl = true) {v left : Nat} {a : List Fw.Ask} (h : Fw.runN cl code rep (cl.gas.toNat + 1) [] cl.gas.toNat 0 [] = ⟨v, left, 0, a⟩) : playN cl code rep = ⟨v, cl.gas - left, 0, a⟩ := by
  simp [playN, h1, h2, h]
theorem play_err {cl : Cl} {code : List Nat} {rep : Nat → Nat × Int} (h1 : chkN code = true) (h2 : callOk cl = true) {e : Int} (he : e ≠ 0) {a : List Fw.Ask} (h : Fw.runN cl code rep (cl.gas.toNat + 1) [] cl.gas.toNat 0 [] = ⟨0, 0, e, a⟩) : playN cl code rep = ⟨0, 0, e, a⟩ := by
  simp [playN, h1, h2, h, he]
theorem do_fin {cl : Cl} {code : List Nat} {rep : Nat → Nat × Int} {c b p left : Nat} {st : List Nat} {u : Nat → Nat} {asks : List Fw.Ask} {v l : Nat} {a : List Fw.Ask} (h : doN cl code rep c b p left st u asks = .fin v l a) : l = left ∧ v = u 0 := by
  unfold doN at h
  by_cases k0 : c = 0
  · rw [if_pos k0] at h
    cases h
  rw [if_neg k0] at h
  by_cases k1 : c = 1
  · rw [if_pos k1] at h
    injection h with h1 h2 h3; exact ⟨h2.symm, h1.symm⟩
  rw [if_neg k1] at h
  by_cases k2 : c = 2
  · rw [if_pos k2] at h
    cases h
  rw [if_neg k2] at h
  by_cases k3 : c = 3
  · rw [if_pos k3] at h
    cases h
  rw [if_neg k3] at h
  by_cases k4 : c = 4
  · rw [if_pos k4] at h
    cases h
  rw [if_neg k4] at h
  by_cases k5 : c = 5
  · rw [if_pos k5] at h
    cases h
  rw [if_neg k5] at h
  by_cases k6 : c ≤ 12
  · rw [if_pos k6] at h
    cases ha : arithN c (u 0) (u 1) with
    | none => rw [ha] at h; cases h
    | some r => rw [ha] at h; cases h
  rw [if_neg k6] at h
  by_cases k7 : c = 13
  · rw [if_pos k7] at h
    cases h
  rw [if_neg k7] at h
  by_cases k8 : c = 14
  · rw [if_pos k8] at h
    cases h
  rw [if_neg k8] at h
  by_cases k9 : c = 15
  · rw [if_pos k9] at h
    cases h
  rw [if_neg k9] at h
  by_cases k10 : c ≤ 23
  · rw [if_pos k10] at h
    cases h
  rw [if_neg k10] at h
  cases ha : askN c u with
  | none => rw [ha] at h; cases h
  | some q =>
    rw [ha] at h
    simp only at h
    by_cases k : (rep asks.length).2 ≠ 0
    · rw [if_pos k] at h; cases h
    · rw [if_neg k] at h; cases h
theorem stp_fin {cl : Cl} {code : List Nat} {rep : Nat → Nat × Int} {p left : Nat} {stk : List Nat} {asks : List Fw.Ask} {v l : Nat} {a : List Fw.Ask} (h : stp cl code rep stk left p asks = .fin v l a) : l ≤ left := by
  by_cases h1 : code.length ≤ p
  · rw [stp_end h1] at h; simp at h
  have hp : p < code.length := by omega
  by_cases h2 : left < priceN (cAt code p)
  · rw [stp_gas hp h2] at h; simp at h
  by_cases h3 : stk.length < deepN code p ∨ 64 < stk.length - takesN (cAt code p) + laysN (cAt code p)
  · rw [stp_stack hp h2 h3] at h; simp at h
  rw [stp_do hp h2 h3] at h
  have := (do_fin h).1
  omega
theorem rds_rb {F : Fx} {b : Nat} {w : World} {ks : List Nat} (h : F.Rds w ks) : ({ F with rb := b } : Fx).Rds w ks := ⟨h.code, h.args, h.reps, h.inner⟩
theorem next_rb {F : Fx} {b : Nat} (h : NextOK F) : NextOK { F with rb := b } := h
theorem ok_rb {F : Fx} {b : Nat} (h : F.Ok) : ({ F with rb := b } : Fx).Ok := ⟨h.len, h.byt, h.cap, h.cap2, h.chk, h.call, h.argsW, h.acap, h.acap2, h.self, h.caller, h.amount, h.reps, h.qlen⟩
set_option maxHeartbeats 4000000 in
theorem run_good (F : Fx) (s2 : Seg) (w0 : World) (h0 : Fx.Ok0 F) (hH : HostS F [] s2) (ho : Own w0 s2) (hD' : F.Rds w0 (s2.map (·.1))) (hNX : NextOK F) (hc : chkN F.code = true) (hcl : callOk F.cl = true) : Ret Tryz.prog 13 [.slice F.cA F.code.length F.cc, .agg (callc F).toArray, .iface 40 (.pointer (some ⟨F.hb, 0, none⟩))] w0 (s2.map (·.1)) (fun x s' => x = .tuple #[.agg (wc (playN F.cl F.code F.rep).v ++ [Value.int .i64 (playN F.cl F.code F.rep).gas]).toArray, .int .i64 (playN F.cl F.code F.rep).e] ∧ HostS F (playN F.cl F.code F.rep).asks s') := by
 refine fn_start Tryz.func13 Y Tryz.ntmps13 Y [(0, .slice F.cA F.code.length F.cc), (1, .agg (callc F).toArray), (2, .iface 40 (.pointer (some ⟨F.hb, 0, none⟩)))] ⟨Y, Y, Y, trivial⟩ ?_
 intro Q a hP J hR hN
 have G := St.enter ho
 have hK := ok_of h0 hc hcl; have hcp := callOk_tok hcl
 refine wp_seq_k fun K1 hK1=> wp_region_lit <| so (wn Y) (O.box Y Y J (J.ev Y) Y G fun b4 a w J G=> ?_)
 refine so (wn Y) (O.alloc Y Y J ze45 Y G fun b6 a w J G=> ?_)
 refine av J Y Y fun a J=> s0 <| then_n (hK1 _ _ <| wp_scope_straight <| wp_seq_k fun K2 hK2=> wp_block <| wp_seq_k fun K3 hK3=> wp_region_lit <| mv J Y Y fun a J=> sw J Y Y Y (R.ifaceNil Tryz.underlying100 (J.ev Y) (J.ev Y)) fun a J=> av J Y Y fun a J=> s0 <| then_n (hK3 _ _ <| cF J Y <| wp_seq_k fun K4 hK4=> wp_region_lit <| mv J Y Y fun a J=> so (wn Y) (O.call Y Y J ent14 (J.evs Y) G (check_calls F.cA F.code.length F.cc F.code w (hD'.code.old G) Y h0.cap h0.cap2 h0.byt) fun v s17 a w hR J G=> ?_)))
 obtain ⟨rfl, rfl⟩ := hR
 rw [show chkV F.code = .int .i64 0 from by rw [chkV, hc]; rfl] at J
 refine sw J Y Y Y (R.as (u := .bool false) (R.neq (p := 0) (q := 0) (J.ev Y) (J.ev Y)) (Y)) fun a J=> av J Y Y fun a J=> s0 <| then_n (hK4 _ _ <| cF J Y <| wp_seq_k fun K5 hK5=> ?_)
 have hK5' : ∀ a w, (Fr 93 [(0, .slice F.cA F.code.length F.cc), (2, .iface 40 (.pointer (some ⟨F.hb, 0, none⟩))), (4, .pointer (some ⟨b4, 0, none⟩)), (6, .pointer (some ⟨b6, 0, none⟩)), (20, .bool (!callOk F.cl))] a ∧ St w0 (s2.map (·.1)) [[(b4, Cel (callc F) 35)], [(b6, Cel [.int .u64 0, .int .u64 0, .int .u64 0, .int .u64 0, .int .i64 0] 45)], s2] w) → K5 a w := by
  rintro a w ⟨J, G⟩
  refine hK5 _ _ ?_
  refine cS J Y (fun c9=> ?_) (fun c9=> ?_)
  ·rw [hcl] at c9; exact absurd c9 (by decide)
  refine wp_skip <| blk_n <| then_n (hK2 _ _ <| wp_seq_k fun K6 hK6=> wp_region_lit <| mv J Y Y fun a J=> sw J Y Y Y (R.loadW agg35 (J.ev Y) G .h sz35 (Y)) fun a J=> mv J Y Y fun a J=> sw J Y Y Y (R.fieldAddr (k := 47) Tryz.underlying35 Y nz3 (J.ev Y) Y) fun a J=> sw J Y Y Y (R.as (u := .int .i64 ((F.cl.gas.toNat : Nat) : Int)) (R.load one3 (J.ev Y) G .h Y) (congrArg (Value.int .i64) (by omega))) fun a J=> sw J Y Y Y (R.buildStr (l := rcells F (.slice none 0 0) ⟨F.cl.gas.toNat, 0, 0, false, 0⟩) Tryz.underlying103 ze103 pl103 (J.evp Y) (by kernel_rfl)) fun a J=> so (wn Y) (O.box Y Y J (J.ev Y) Y G fun b62 a w J G=> ?_))
  refine av J Y Y fun a J=> s0 <| then_n (hK6 _ _ <| wp_seq_k fun K7 hK7=> wp_region_lit <| so (wn Y) (O.call Y Y J ent33 (J.evs Y) G (table_calls _) fun v s63 a w hR J G=> ?_))
  obtain ⟨rfl, rfl⟩ := hR
  refine so (wn Y) (O.alloc Y Y J ze73 Y G fun b9 a w J G=> ?_)
  refine so (wn Y) (O.storeW sz73 (J.ev Y) (J.ev Y) (Y) Y (one_tab) G .h (Y) fun w G=> ?_)
  refine s0 <| then_n (hK7 _ _ <| wp_seq_k fun K8 hK8=> wp_label <| then_n (hK8 _ _ <| wp_seq_k fun K9 hK9=> wp_block ?_))
  have G := (G.sel [3, 4, 0, 2, 5] rfl rfl).flat (bs' := [[(b4, Cel (callc F) 35)], [(b6, Cel [.int .u64 0, .int .u64 0, .int .u64 0, .int .u64 0, .int .i64 0] 45)], [(b9, Cel tabL 73)], [(b62, Cel (rcells F (.slice none 0 0) ⟨F.cl.gas.toNat, 0, 0, false, 0⟩) 103)] ++ s2]) (by simp [selS])
  refine wp_loop_N (fun g a w=> ∃ (V : Vr) (stk : List Nat) (asks : List Fw.Ask) (s1 : Seg) (s3 : Seg) (f : Nat), V.left = g ∧ Fr 93 [(4, .pointer (some ⟨b4, 0, none⟩)), (6, .pointer (some ⟨b6, 0, none⟩)), (8, .pointer (some ⟨b62, 0, none⟩)), (9, .pointer (some ⟨b9, 0, none⟩))] a ∧ St w0 (s2.map (·.1)) [[(b4, Cel (callc F) 35)], [(b6, Cel [.int .u64 0, .int .u64 0, .int .u64 0, .int .u64 0, .int .i64 0] 45)], [(b9, Cel tabL 73)], s1 ++ s3] w ∧ (RunS { F with rb := b62 } V stk s1) ∧ (HostS { F with rb := b62 } asks s3) ∧ (V.ended = false) ∧ (V.value = 0) ∧ (validP F.code V.p) ∧ (stk.length ≤ 64) ∧ (AllW stk) ∧ (asks.length + V.left ≤ 10000) ∧ (V.left < f) ∧ (Fw.runN F.cl F.code F.rep (F.cl.gas.toNat + 1) [] F.cl.gas.toNat 0 [] = Fw.runN F.cl F.code F.rep f stk V.left V.p asks)) (F.cl.gas.toNat) ?_ ?_
  ·exact ⟨⟨F.cl.gas.toNat, 0, 0, false, 0⟩, [], [], [(b62, Cel (rcells F (.slice none 0 0) ⟨F.cl.gas.toNat, 0, 0, false, 0⟩) 103)], s2, F.cl.gas.toNat + 1, Y, J.sub ⟨Y, Y, Y, Y, trivial⟩, G.sel [0, 1, 2, 3] Y Y, ⟨none, 0, [], Y, OwnS.nil 32 4⟩, hH, Y, Y, valid_0 hc, by decide, by simp [AllW], by (show 0 + F.cl.gas.toNat ≤ 10000; omega), Nat.lt_succ_self _, Y⟩
  rintro KL1 g a w ⟨V, stk, asks, s1, s3, f, hg1, J, G, hR1, hH1, hV, hV2, hp, hl, hW, hsum, hf, hrun⟩ hKL1
  obtain ⟨f', rfl⟩ : ∃ f', f = f' + 1 := ⟨f - 1, by omega⟩
  refine wp_block <| wp_seq_k fun K10 hK10=> wp_seq_k fun K11 hK11=> wp_region_lit <| mv J Y Y fun a J=> so (wn Y) (O.callK Y Y J ent51 (J.evs Y) G (step_calls { F with rb := b62 } V stk asks s1 s3 b9 w (next_rb hNX) (ok_rb hK) (fun h=> valid_size h hp) hR1 hH1 (G.own1 (.t (.t (.t .h)))) (RdK.apart (G.sel [2, 3] Y Y) (Rd.own0 G (.t (.t .h))) (List.mem_singleton.2 Y)) (rds_rb (hD'.down G (.t (.t (.t .h))))) hl hW (by omega) (by omega)) (fun _=> (.t (.t (.t .h)))) fun v s65 a w hR J G=> ?_)
  have hdid : DidS { F with rb := b62 } V (stp F.cl F.code F.rep stk V.left V.p asks) _ _ := hR; clear hR; obtain ⟨rfl, s1', s3', rfl, hH3, hor⟩ := did_go hdid
  refine av J Y Y fun a J=> s0 <| then_n (hK11 _ _ <| wp_seq_k fun K12 hK12=> wp_region_lit <| mv J Y Y fun a J=> sw J Y Y Y (R.neq (J.ev Y) (J.ev Y)) fun a J=> s0 <| then_n (hK12 _ _ <| cD J Y (fun c5=> ?_) (fun c5=> ?_)))
  ·obtain ⟨e, a', hst⟩ := (hor.resolve_right (fun h => c5 h.1)).2
   have hpl := play_err hc hcl (by rw [hst] at c5; exact c5) (hrun.trans (runN_err hst))
   rw [hst] at J hH3
   refine wp_seq_k fun K13 hK13=> wp_region_lit <| sw J Y Y Y (R.buildStr (l := [_, _, _, _, _]) Tryz.underlying45 ze45 pl45 (J.evp Y) Y) fun a J=> mv J Y Y fun a J=> so (wn Y) (O.storeW sz45 (J.ev Y) (J.ev Y) (Y) Y (by simp [Value.oneCell']) G (.t .h) (Y) fun w G=> ?_)
   refine av J Y Y fun a J=> s0 <| then_n (hK13 _ _ <| wp_ret (then_r (blk_r (then_r (blk_r (then_r (sc_r (hR _ _ _ _ _ J (run_results Tryz.results13 (.cw J Y agg45 G (.t .h) sz45 (Y) (.t J Y (.nil)))) ?_))))))))
   rw [hpl]
   dsimp only
   exact ⟨_, s3', Y, ⟨Y, hH3⟩, ((G.sel [3] Y Y).flat (bs' := [s1', s3']) (by simp [selS])).tail⟩
  have c5' : errO (stp F.cl F.code F.rep stk V.left V.p asks) = 0 := Classical.not_not.1 c5
  obtain ⟨_, V', stk', hr1, hend, hcase⟩ := hor.resolve_left (fun h => h.1 c5')
  obtain ⟨A, c, sg, rfl, hO⟩ := hr1
  have G := (G.sel [0, 1, 2, 3] rfl rfl).flat (bs' := [[(b4, Cel (callc F) 35)], [(b6, Cel [.int .u64 0, .int .u64 0, .int .u64 0, .int .u64 0, .int .i64 0] 45)], [(b9, Cel tabL 73)], [(b62, Cel (rcells F (.slice A stk'.length c) V') 103)], sg, s3']) (by simp [selS]; rfl)
  refine wp_skip <| then_n (hK10 _ _ <| wp_seq_k fun K14 hK14=> wp_seq_k fun K15 hK15=> wp_region_lit <| mv J Y Y fun a J=> sw J Y Y Y (R.nilCheck (J.ev Y)) fun a J=> sw J Y Y Y (R.fieldAddr (k := 54) Tryz.underlying103 Y nz4 (J.ev Y) Y) fun a J=> sw J Y Y Y (R.load one4 (J.ev Y) G (.t (.t (.t .h))) (Y)) fun a J=> s0 <| then_n (hK15 _ _ <| cS J Y (fun c6=> ?_) (fun c6=> ?_)))
  ·obtain ⟨_, hst⟩ := hcase.resolve_left (fun h => by rw [h.2.2.1, hV] at c6; exact absurd c6 (by decide))
   have hpl := play_fin hc hcl (hrun.trans (runN_fin hst)); have hfl := stp_fin hst
   refine wp_exit (then_x (blk_miss Y (then_x (blk_hit <| then_n (hK9 _ _ <| wp_seq_k fun K16 hK16=> wp_drawS G [(0, 0), (1, 0), (2, 0), (3, 1), (4, 0), (5, 1), (6, 0), (7, 0), (8, 0), (9, 1), (10, 0), (11, 0), (12, 3), (13, 0)] mix (by kernel_rfl) (hP.noGoto.then) fun w G=> ?_)))))
   have hD := G
   refine dm J Y Y Y fun a J=> dv J Y Y Y Y (fun w=> R.nilCheck (J.ev Y)) fun a J=> dv J Y Y Y Y (fun w=> R.fieldAddr (k := 55) Tryz.underlying103 Y nz32 (J.ev Y) Y) fun a J=> ds J Y Y Y Y hD (fun w hD=> R.loadA (cs := [_, _, _, _]) agg32 (J.ev Y) hD (.t (.t (.t .h))) sz32 Y (getAt Y)) fun a J=> ?_
   refine dv J Y Y Y Y (fun w=> R.fieldAddr (k := 47) Tryz.underlying35 Y nz3 (J.ev Y) Y) fun a J=> ds J Y Y Y Y hD (fun w hD=> R.load one3 (J.ev Y) hD .h (Y)) fun a J=> ?_
   refine dm J Y Y Y fun a J=> dv J Y Y Y Y (fun w=> R.nilCheck (J.ev Y)) fun a J=> dv J Y Y Y Y (fun w=> R.fieldAddr (k := 51) Tryz.underlying103 Y nz3 (J.ev Y) Y) fun a J=> ds J Y Y Y Y hD (fun w hD=> R.load one3 (J.ev Y) hD (.t (.t (.t .h))) (Y)) fun a J=> ?_
   refine dv J Y Y Y Y (fun w=> R.subI (J.ev Y) (J.ev Y) (by omega)) fun a J=> dv J Y Y Y Y (fun w=> R.buildStr (l := [_, _, _, _, _]) Tryz.underlying45 ze45 pl45 (J.evp Y) Y) fun a J=> dw Y (wn Y) (O.storeW sz45 (J.ev Y) (J.ev Y) (Y) Y (by simp [Value.oneCell']) G (.t .h) (Y) fun w G=> ?_)
   refine da J Y Y Y fun a J=> d0 <| then_n (hK16 _ _ <| wp_ret (sc_r (hR _ _ _ _ _ J (run_results Tryz.results13 (.cw J Y agg45 G (.t .h) sz45 (Y) (.t J Y (.nil)))) ?_)))
   rw [hpl]
   dsimp only
   exact ⟨_, s3', Y, ⟨Y, hH3⟩, G.one (.t (.t (.t (.t (.t .h)))))⟩
  obtain ⟨_, hst, he1, he2⟩ := hcase.resolve_right (fun h => by (have h7 := hend; rw [h.1, Bool.or_true] at h7; rw [h7] at c6; exact absurd c6 (by decide)))
  obtain ⟨kv, kl, kW, klt, ksum⟩ := stp_more hK hp hl hW (by omega) hst
  refine wp_skip <| then_n (hK14 _ _ <| wp_region_lit <| mv J Y Y fun a J=> mv J Y Y fun a J=> sw J Y Y Y (R.nilCheck (J.ev Y)) fun a J=> sw J Y Y Y (R.fieldAddr (k := 53) Tryz.underlying103 Y nz3 (J.ev Y) Y) fun a J=> sw J Y Y Y (R.load one3 (J.ev Y) G (.t (.t (.t .h))) (Y)) fun a J=> sw J Y Y Y (R.nilCheck (J.ev Y)) fun a J=> sw J Y Y Y (R.fieldAddr (k := 52) Tryz.underlying103 Y nz3 (J.ev Y) Y) fun a J=> ?_)
  refine so (wn Y) (O.store sz3 (J.ev Y) (J.ev Y) Y Y G (.t (.t (.t .h))) (show List.set _ _ _ = rcells F (.slice A stk'.length c) { V' with p := V'.next } from Y) (by first | decide | omega | (show _ < 59; decide) | (show _ < 3; decide) | simp) fun w G=> ?_)
  refine s0 <| blk_n ?_
  have G := (G.sel [0, 1, 2, 3, 4, 5] rfl rfl).flat (bs' := [[(b4, Cel (callc F) 35)], [(b6, Cel [.int .u64 0, .int .u64 0, .int .u64 0, .int .u64 0, .int .i64 0] 45)], [(b9, Cel tabL 73)], ([(b62, Cel (rcells F (.slice A stk'.length c) { V' with p := V'.next }) 103)] ++ sg) ++ s3']) (by simp [selS])
  refine then_n (hKL1 (V'.left) _ _ ?_ ?_)
  ·omega
  exact ⟨{ V' with p := V'.next }, stk', (asksO (stp F.cl F.code F.rep stk V.left V.p asks)), [(b62, Cel (rcells F (.slice A stk'.length c) { V' with p := V'.next }) 103)] ++ sg, s3', f', Y, J.sub ⟨Y, Y, Y, Y, trivial⟩, G.sel [0, 1, 2, 3] Y Y, ⟨A, c, sg, Y, hO⟩, hH3, he1.trans hV, he2.trans hV2, kv, kl, kW, by (show (asksO (stp F.cl F.code F.rep stk V.left V.p asks)).length + V'.left ≤ 10000; omega), by (show V'.left < f'; omega), hrun.trans (runN_more hst)⟩
 refine wp_region_lit <| sw J Y Y Y (R.fieldAddr (k := 40) Tryz.underlying35 Y nz3 (J.ev Y) Y) fun a J=> sw J Y Y Y (R.load one3 (J.ev Y) G (.t (.t .h)) (Y)) fun a J=> lS J Y Y Y fun a J=> mv J Y Y fun a J=> J.splitD (t := 24) Y (fun h24 J=> ?_) (fun h24 J=> ?_)
 ·refine kz J Y Y Y Y Y Y fun a J=> kz J Y Y Y Y Y Y fun a J=> kz J Y Y Y Y Y Y fun a J=> pT J Y Y Y fun a J=> mv J Y Y fun a J=> kz J Y Y Y Y Y Y fun a J=> kz J Y Y Y Y Y Y fun a J=> kz J Y Y Y Y Y Y fun a J=> kz J Y Y Y Y Y Y fun a J=> pT J Y Y Y fun a J=> mv J Y Y fun a J=> kz J Y Y Y Y Y Y fun a J=> kz J Y Y Y Y Y Y fun a J=> kz J Y Y Y Y Y Y fun a J=> pT J Y Y Y fun a J=> mv J Y Y fun a J=> kz J Y Y Y Y Y Y fun a J=> kz J Y Y Y Y Y Y fun a J=> kz J Y Y Y Y Y Y fun a J=> pT J Y Y Y fun a J=> mv J Y Y fun a J=> kz J Y Y Y Y Y Y fun a J=> kz J Y Y Y Y Y Y fun a J=> kz J Y Y Y Y Y Y fun a J=> ?_
  refine pT J Y Y Y fun a J=> mv J Y Y fun a J=> kz J Y Y Y Y Y Y fun a J=> kz J Y Y Y Y Y Y fun a J=> kz J Y Y Y Y Y Y fun a J=> pT J Y Y Y fun a J=> av J Y Y fun a J=> s0 ?_
  exact then_n (hK5' _ _ ⟨J.sub ⟨Y, Y, Y, Y, (by first | exact cb_true (by omega) | exact cb_dec (by omega)), trivial⟩, G.sel [2, 1, 3] Y Y⟩)
 refine sv' J (wy J Y Y Y) Y Y (R.fieldAddr (k := 40) Tryz.underlying35 Y nz3 (J.ev Y) Y) fun a J=> sv' J (wy J Y Y Y) Y Y (R.load one3 (J.ev Y) G (.t (.t .h)) (Y)) fun a J=> sv' J (wy J Y Y Y) Y Y (R.geq (J.ev Y) (J.ev Y)) fun a J=> pF J Y Y Y fun a J=> mv J Y Y fun a J=> J.splitD (t := 29) Y (fun h29 J=> ?_) (fun h29 J=> ?_)
 ·refine kz J Y Y Y Y Y Y fun a J=> kz J Y Y Y Y Y Y fun a J=> kz J Y Y Y Y Y Y fun a J=> kz J Y Y Y Y Y Y fun a J=> pT J Y Y Y fun a J=> mv J Y Y fun a J=> kz J Y Y Y Y Y Y fun a J=> kz J Y Y Y Y Y Y fun a J=> kz J Y Y Y Y Y Y fun a J=> pT J Y Y Y fun a J=> mv J Y Y fun a J=> kz J Y Y Y Y Y Y fun a J=> kz J Y Y Y Y Y Y fun a J=> kz J Y Y Y Y Y Y fun a J=> pT J Y Y Y fun a J=> mv J Y Y fun a J=> kz J Y Y Y Y Y Y fun a J=> kz J Y Y Y Y Y Y fun a J=> kz J Y Y Y Y Y Y fun a J=> pT J Y Y Y fun a J=> mv J Y Y fun a J=> kz J Y Y Y Y Y Y fun a J=> kz J Y Y Y Y Y Y fun a J=> kz J Y Y Y Y Y Y fun a J=> ?_
  refine pT J Y Y Y fun a J=> av J Y Y fun a J=> s0 ?_
  exact then_n (hK5' _ _ ⟨J.sub ⟨Y, Y, Y, Y, (by first | exact cb_true (by omega) | exact cb_dec (by omega)), trivial⟩, G.sel [2, 1, 3] Y Y⟩)
 refine sv' J (wy J Y Y Y) Y Y (R.fieldAddr (k := 45) Tryz.underlying35 Y nz33 (J.ev Y) Y) fun a J=> sv' J (wy J Y Y Y) Y Y (R.load one33 (J.ev Y) G (.t (.t .h)) (Y)) fun a J=> sv' J (wy J Y Y Y) Y Y (R.len Tryz.underlying33 (J.ev Y)) fun a J=> sv' J (wy J Y Y Y) Y Y (R.gtr (J.ev Y) (J.ev Y)) fun a J=> pF J Y Y Y fun a J=> mv J Y Y fun a J=> J.splitD (t := 35) Y (fun h35 J=> ?_) (fun h35 J=> ?_)
 ·refine kz J Y Y Y Y Y Y fun a J=> kz J Y Y Y Y Y Y fun a J=> kz J Y Y Y Y Y Y fun a J=> pT J Y Y Y fun a J=> mv J Y Y fun a J=> kz J Y Y Y Y Y Y fun a J=> kz J Y Y Y Y Y Y fun a J=> kz J Y Y Y Y Y Y fun a J=> pT J Y Y Y fun a J=> mv J Y Y fun a J=> kz J Y Y Y Y Y Y fun a J=> kz J Y Y Y Y Y Y fun a J=> kz J Y Y Y Y Y Y fun a J=> pT J Y Y Y fun a J=> mv J Y Y fun a J=> kz J Y Y Y Y Y Y fun a J=> kz J Y Y Y Y Y Y fun a J=> kz J Y Y Y Y Y Y fun a J=> pT J Y Y Y fun a J=> av J Y Y fun a J=> s0 ?_
  exact then_n (hK5' _ _ ⟨J.sub ⟨Y, Y, Y, Y, (by first | exact cb_true (by omega) | exact cb_dec (by omega)), trivial⟩, G.sel [2, 1, 3] Y Y⟩)
 refine sv' J (wy J Y Y Y) Y Y (R.fieldAddr (k := 46) Tryz.underlying35 Y nz3 (J.ev Y) Y) fun a J=> sv' J (wy J Y Y Y) Y Y (R.load one3 (J.ev Y) G (.t (.t .h)) (Y)) fun a J=> sv' J (wy J Y Y Y) Y Y (R.lss (J.ev Y) (J.ev Y)) fun a J=> pF J Y Y Y fun a J=> mv J Y Y fun a J=> J.splitD (t := 40) Y (fun h40 J=> ?_) (fun h40 J=> ?_)
 ·refine kz J Y Y Y Y Y Y fun a J=> kz J Y Y Y Y Y Y fun a J=> kz J Y Y Y Y Y Y fun a J=> pT J Y Y Y fun a J=> mv J Y Y fun a J=> kz J Y Y Y Y Y Y fun a J=> kz J Y Y Y Y Y Y fun a J=> kz J Y Y Y Y Y Y fun a J=> pT J Y Y Y fun a J=> mv J Y Y fun a J=> kz J Y Y Y Y Y Y fun a J=> kz J Y Y Y Y Y Y fun a J=> kz J Y Y Y Y Y Y fun a J=> pT J Y Y Y fun a J=> av J Y Y fun a J=> s0 ?_
  exact then_n (hK5' _ _ ⟨J.sub ⟨Y, Y, Y, Y, (by first | exact cb_true (by omega) | exact cb_dec (by omega)), trivial⟩, G.sel [2, 1, 3] Y Y⟩)
 refine sv' J (wy J Y Y Y) Y Y (R.fieldAddr (k := 46) Tryz.underlying35 Y nz3 (J.ev Y) Y) fun a J=> sv' J (wy J Y Y Y) Y Y (R.load one3 (J.ev Y) G (.t (.t .h)) (Y)) fun a J=> sv' J (wy J Y Y Y) Y Y (R.gtr (J.ev Y) (J.ev Y)) fun a J=> pF J Y Y Y fun a J=> mv J Y Y fun a J=> J.splitD (t := 45) Y (fun h45 J=> ?_) (fun h45 J=> ?_)
 ·refine kz J Y Y Y Y Y Y fun a J=> kz J Y Y Y Y Y Y fun a J=> kz J Y Y Y Y Y Y fun a J=> pT J Y Y Y fun a J=> mv J Y Y fun a J=> kz J Y Y Y Y Y Y fun a J=> kz J Y Y Y Y Y Y fun a J=> kz J Y Y Y Y Y Y fun a J=> pT J Y Y Y fun a J=> av J Y Y fun a J=> s0 ?_
  exact then_n (hK5' _ _ ⟨J.sub ⟨Y, Y, Y, Y, (by first | exact cb_true (by omega) | exact cb_dec (by omega)), trivial⟩, G.sel [2, 1, 3] Y Y⟩)
 refine sv' J (wy J Y Y Y) Y Y (R.fieldAddr (k := 47) Tryz.underlying35 Y nz3 (J.ev Y) Y) fun a J=> sv' J (wy J Y Y Y) Y Y (R.load one3 (J.ev Y) G (.t (.t .h)) (Y)) fun a J=> sv' J (wy J Y Y Y) Y Y (R.lss (J.ev Y) (J.ev Y)) fun a J=> pF J Y Y Y fun a J=> mv J Y Y fun a J=> J.splitD (t := 50) Y (fun h50 J=> ?_) (fun h50 J=> ?_)
 ·refine kz J Y Y Y Y Y Y fun a J=> kz J Y Y Y Y Y Y fun a J=> kz J Y Y Y Y Y Y fun a J=> pT J Y Y Y fun a J=> av J Y Y fun a J=> s0 ?_
  exact then_n (hK5' _ _ ⟨J.sub ⟨Y, Y, Y, Y, (by first | exact cb_true (by omega) | exact cb_dec (by omega)), trivial⟩, G.sel [2, 1, 3] Y Y⟩)
 refine sv' J (wy J Y Y Y) Y Y (R.fieldAddr (k := 47) Tryz.underlying35 Y nz3 (J.ev Y) Y) fun a J=> sv' J (wy J Y Y Y) Y Y (R.load one3 (J.ev Y) G (.t (.t .h)) (Y)) fun a J=> sv' J (wy J Y Y Y) Y Y (R.gtr (J.ev Y) (J.ev Y)) fun a J=> pF J Y Y Y fun a J=> av J Y Y fun a J=> s0 ?_
 exact then_n (hK5' _ _ ⟨J.sub ⟨Y, Y, Y, Y, (by first | exact cb_true (by omega) | exact cb_dec (by omega)), trivial⟩, G.sel [2, 1, 3] Y Y⟩)
end Go.Proofs.YtlapmbkfmbkdoaaGreatDoor
end
section
namespace Go.Proofs.YtlapmbkfmbkdoaaGreatDoor
open Go Go.Fw Go.RowKit
attribute [local irreducible] Go.Oper.wp Go.Code.wp Go.wpList Go.Fw.WL Go.Calls
theorem run_calls (F : Fx) (s2 : Seg) (w0 : World) (h0 : Fx.Ok0 F) (hH : HostS F [] s2) (ho : Own w0 s2) (hD' : F.Rds w0 (s2.map (·.1))) (hNX : NextOK F) :
    Ret Tryz.prog 13 [.slice F.cA F.code.length F.cc, .agg (callc F).toArray, .iface 40 (.pointer (some ⟨F.hb, 0, none⟩))] w0 (s2.map (·.1)) (fun x s' => x = .tuple #[.agg (wc (playN F.cl F.code F.rep).v ++ [Value.int .i64 (playN F.cl F.code F.rep).gas]).toArray, .int .i64 (playN F.cl F.code F.rep).e] ∧ HostS F (playN F.cl F.code F.rep).asks s') := by
  cases hc : chkN F.code with
  | false =>
    have e : playN F.cl F.code F.rep = ⟨0, 0, 100, []⟩ := by simp [playN, hc]
    rw [e]
    exact run_bad F s2 w0 h0 hH ho hD' hc
  | true =>
    cases hcl : callOk F.cl with
    | false =>
      have e : playN F.cl F.code F.rep = ⟨0, 0, 101, []⟩ := by simp [playN, hc, hcl]
      rw [e]
      exact run_call F s2 w0 h0 hH ho hD' hc hcl
    | true => exact run_good F s2 w0 h0 hH ho hD' hNX hc hcl
theorem R.mkI {P : Program} {w : World} {ρ : Operand → Value} {dst : Option Tmp} {ty : TypeId} {pos : String} {af : Array Edge} {g : Option (Nat × Bool)} {x : Operand} {T E : TypeId} {u : Value} (hT : P.underlying T = some (.pointer E)) (hx : ρ x = u) : (execOp ρ ⟨dst, .makeInterface T x, ty, pos, af, g⟩).run P w = .ok (.value (.iface T u)) w := by
  simp [execOp, hx, Instr.makeInterface, run_underlying hT, Sem.run_bind]
def innerF (F : Fx) (b : Nat) : Fx := { rb := 0, hb := b, cA := F.iA, cc := F.ic, code := F.inner, aA := none, ac := 0, cl := ⟨fun _ => 0, fun _ => 0, 0, 7, [], 0, 1000⟩, qA := none, qc := 0, reps := [], iA := none, ic := 0, inner := [] }
structure InnerOk (F : Fx) : Prop where
  byt : Byt F.inner
  cap : F.inner.length ≤ F.ic
  cap2 : F.ic ≤ 9223372036854775807
theorem next0_ok {F : Fx} (h : F.inner.length = 0) : NextOK F := fun asks q s w0 hH ho hQ _ hl => next_0 F asks q s w0 hH ho hQ hl h
theorem inner_ok {F : Fx} (h : InnerOk F) (b : Nat) : Fx.Ok0 (innerF F b) := ⟨h.byt, h.cap, h.cap2, by intro x hx; simp [innerF] at hx, Nat.zero_le _, Nat.zero_le _, fun _ => by show 0 < 256; decide, fun _ => by show 0 < 256; decide, by show 7 < _; decide, by intro r hr; simp [innerF] at hr, Nat.zero_le _⟩
set_option maxHeartbeats 2000000 in
theorem next_1 (F : Fx) (asks : List Fw.Ask) (q : Fw.Ask) (s : Seg) (w0 : World) (hH : HostS F asks s) (ho : Own w0 s) (hQ : RdK w0 (s.map (·.1)) F.qA (F.reps.flatMap repc)) (hI : RdK w0 (s.map (·.1)) F.iA (byts F.inner)) (hl : asks.length ≤ 20000) (hin : InnerOk F) : Ret Tryz.prog 187 [.pointer (some ⟨F.hb, 0, none⟩), .agg (askc q).toArray] w0 (s.map (·.1)) (fun v s' => v = .tuple #[wv (F.rep asks.length).1, .int .i64 (F.rep asks.length).2] ∧ HostS F (asks ++ [q]) s') := by
 refine fn_start Tryz.func187 Y Tryz.ntmps187 Y [(0, .pointer (some ⟨F.hb, 0, none⟩)), (1, .agg (askc q).toArray)] ⟨Y, Y, trivial⟩ ?_
 intro Q a hP J hR hN
 have G := St.enter ho
 obtain ⟨A, c, hg, hs, hO⟩ := hH; have G := G.flat (bs' := [[(F.hb, Cel (hcells F (.slice A asks.length c)) 43)], hg]) (by simp [hs])
 refine wp_seq_k fun K1 hK1=> wp_region_lit <| so (wn Y) (O.box Y Y J (J.ev Y) Y G fun b3 a w J G=> ?_)
 refine so (wn Y) (O.alloc Y Y J ze32 Y G fun b4 a w J G=> ?_)
 refine av J Y Y fun a J=> s0 <| then_n (hK1 _ _ <| wp_seq_k fun K2 hK2=> wp_drawG G (G.sel [1, 2] Y Y) [(0, 0), (1, 0), (2, 0), (3, 0), (4, 1), (5, 1), (6, 2), (7, 2), (8, 0), (9, 0), (10, 3)] mix (by kernel_rfl) (hP.then) fun w G hD=> ?_)
 refine dm J Y Y Y fun a J=> dm J Y Y Y fun a J=> dv J Y Y Y Y (fun w=> R.nilCheck (J.ev Y)) fun a J=> dv J Y Y Y Y (fun w=> R.fieldAddr (k := 1) Tryz.underlying43 Y nz41 (J.ev Y) Y) fun a J=> ds J Y Y Y Y hD (fun w hD=> R.load one41 (J.ev Y) hD (.t .h) (Y)) fun a J=> ?_
 refine ds J Y Y Y Y hD (fun w hD=> R.loadW agg92 (J.ev Y) hD .h sz92 (Y)) fun a J=> ?_
 refine dl Y (wn Y) (O.buildSlice (l := [_, _, _, _, _, _, _, _, _, _, _, _, _, _, _, _, _, _, _, _, _, _, _, _, _, _, _, _, _, _]) Y Y J Tryz.underlying41 inf92 Y Y (J.evp Y) (by decide) Y G fun b14 a w J G=> ⟨fun hD=> G.sel [2, 3] Y Y, ?_⟩)
 have hD := G.sel [2, 3] rfl rfl
 refine dl Y (wn Y) (O.append Y Y J Tryz.underlying41 inf92 Y Y (by decide) (J.ev Y) (J.ev Y) G hO (fun _=> (.t (.t (.t (.t .h))))) (Rd.own0 G .h) (Y) (by simp [Value.oneCell']) (by unfold maxLen; omega) (by omega) fun A15 c15 s15 a w hO15 J G=> ⟨fun hD=> G.sel [2, 3] Y Y, ?_⟩)
 have hD := G.sel [2, 3] rfl rfl
 refine dv J Y Y Y Y (fun w=> R.nilCheck (J.ev Y)) fun a J=> dv J Y Y Y Y (fun w=> R.fieldAddr (k := 1) Tryz.underlying43 Y nz41 (J.ev Y) Y) fun a J=> ?_
 refine dw Y (wn Y) (O.store sz41 (J.ev Y) (J.ev Y) Y Y G (.t (.t (.t .h))) (show List.set _ _ _ = hcells F (.slice A15 (asks.length + 1) c15) from Y) (by first | decide | omega | (show _ < 59; decide) | (show _ < 3; decide) | simp) fun w G=> ?_)
 refine d0 <| then_n (hK2 _ _ <| wp_seq_k fun K3 hK3=> ?_)
 have hK3' : ∀ a w, (Fr 63 [(0, .pointer (some ⟨F.hb, 0, none⟩)), (4, .pointer (some ⟨b4, 0, none⟩))] a ∧ St w0 (s.map (·.1)) [[(F.hb, Cel (hcells F (.slice A15 (asks.length + 1) c15)) 43)], s15, [(b4, Cel [.int .u64 0, .int .u64 0, .int .u64 0, .int .u64 0] 32)]] w) → K3 a w := by
  rintro a w ⟨J, G⟩
  refine hK3 _ _ ?_
  refine wp_seq_k fun K4 hK4=> wp_seq_k fun K5 hK5=> wp_drawS G [(0, 0), (1, 0), (2, 0), (3, 1), (4, 0), (5, 0), (6, 0), (7, 0), (8, 1), (9, 0), (10, 0)] mix (by kernel_rfl) (hP.then.then) fun w G=> ?_
  have hD := G
  refine dm J Y Y Y fun a J=> dv J Y Y Y Y (fun w=> R.nilCheck (J.ev Y)) fun a J=> dv J Y Y Y Y (fun w=> R.fieldAddr (k := 1) Tryz.underlying43 Y nz41 (J.ev Y) Y) fun a J=> ds J Y Y Y Y hD (fun w hD=> R.load one41 (J.ev Y) hD .h (Y)) fun a J=> ?_
  refine dv J Y Y Y Y (fun w=> R.len Tryz.underlying41 (J.ev Y)) fun a J=> dm J Y Y Y fun a J=> dv J Y Y Y Y (fun w=> R.nilCheck (J.ev Y)) fun a J=> dv J Y Y Y Y (fun w=> R.fieldAddr (k := 0) Tryz.underlying43 Y nz36 (J.ev Y) Y) fun a J=> ds J Y Y Y Y hD (fun w hD=> R.load one36 (J.ev Y) hD .h (Y)) fun a J=> ?_
  refine dv J Y Y Y Y (fun w=> R.len Tryz.underlying36 (J.ev Y)) fun a J=> dv J Y Y Y Y (fun w=> R.leq (J.ev Y) (J.ev Y)) fun a J=> d0 <| then_n (hK5 _ _ <| cD J Y (fun c2=> ?_) (fun c2=> ?_))
  ·refine wp_seq_k fun K6 hK6=> wp_drawS G [(0, 0), (1, 0), (2, 0), (3, 1), (4, 0), (5, 0), (6, 0), (7, 1), (8, 0), (9, 0), (10, 0), (11, 1), (12, 2), (13, 3)] mix (by kernel_rfl) (hP.then.then) fun w G=> ?_
   have hD := G
   refine dm J Y Y Y fun a J=> dv J Y Y Y Y (fun w=> R.nilCheck (J.ev Y)) fun a J=> dv J Y Y Y Y (fun w=> R.fieldAddr (k := 0) Tryz.underlying43 Y nz36 (J.ev Y) Y) fun a J=> ds J Y Y Y Y hD (fun w hD=> R.load one36 (J.ev Y) hD .h (Y)) fun a J=> ?_
   refine dm J Y Y Y fun a J=> dv J Y Y Y Y (fun w=> R.nilCheck (J.ev Y)) fun a J=> dv J Y Y Y Y (fun w=> R.fieldAddr (k := 1) Tryz.underlying43 Y nz41 (J.ev Y) Y) fun a J=> ds J Y Y Y Y hD (fun w hD=> R.load one41 (J.ev Y) hD .h (Y)) fun a J=> ?_
   refine dv J Y Y Y Y (fun w=> R.len Tryz.underlying41 (J.ev Y)) fun a J=> dv J Y Y Y Y (fun w=> R.subI (J.ev Y) (J.ev Y) (by omega)) fun a J=> dv J Y Y Y Y (fun w=> R.indexO Tryz.underlying36 sz97 (J.ev Y) (Rd.ne (hQ.old G) (by rw [reps_length]; omega)) (J.ev Y) (by omega) (by omega)) fun a J=> ds J Y Y Y Y hD (fun w hD=> R.loadAO (cs := repc (F.reps.getD asks.length (0, 0))) agg97 (J.ev Y) (hQ.old hD) sz97 Y (Nat.succ_pos _) (reps_at (k := asks.length) (by omega) (by omega))) fun a J=> ?_
   refine dl Y (wn Y) (O.alloc Y Y J ze97 Y G fun b7 a w J G=> ⟨fun hD=> G.tail, ?_⟩)
   have hD := G.tail
   refine dw Y (wn Y) (O.storeW sz97 (J.ev Y) (J.ev Y) (Y) Y (one_repc _) G .h (Y) fun w G=> ?_)
   refine d0 <| then_n (hK6 _ _ <| wp_seq_k fun K7 hK7=> wp_drawG G (G.sel [0] Y Y) [(0, 0), (1, 1), (2, 0), (3, 1), (4, 2), (5, 0)] mix (by kernel_rfl) (hP.then.then) fun w G hD=> ?_)
   refine dv J Y Y Y Y (fun w=> R.fieldAddr (k := 0) Tryz.underlying97 Y nz32 (J.ev Y) Y) fun a J=> ds J Y Y Y Y hD (fun w hD=> R.loadA (cs := [_, _, _, _]) agg32 (J.ev Y) hD .h sz32 Y (getAt Y)) fun a J=> ?_
   refine dv J Y Y Y Y (fun w=> R.fieldAddr (k := 4) Tryz.underlying97 Y nz23 (J.ev Y) Y) fun a J=> ds J Y Y Y Y hD (fun w hD=> R.load one23 (J.ev Y) hD .h (Y)) fun a J=> ?_
   refine dl Y (wn Y) (O.storeW sz32 (J.ev Y) (J.ev Y) (Y) Y (by simp [Value.oneCell']) G (.t (.t (.t .h))) (Y) fun w G=> ⟨fun hD=> G.sel [0] Y Y, ?_⟩)
   have hD := G.sel [0] rfl rfl
   refine da J Y Y Y fun a J=> d0 <| then_n (hK7 _ _ <| wp_ret (then_r (hR _ _ _ _ _ J (run_results Tryz.results187 (.cw J Y agg32 G (.t (.t (.t .h))) sz32 (Y) (.t J Y (.nil)))) ?_)))
   obtain ⟨s', h1, h2⟩ := HostS.close (F := F) (asks := asks ++ [q]) (G.sel [1, 2] rfl rfl) (by simp) (own_ask hO15)
   exact ⟨_, s', Y, ⟨by rw [rep_lt (k := asks.length) (by omega)]; rfl, h1⟩, h2⟩
  refine wp_skip <| then_n (hK4 _ _ <| wp_seq_k fun K8 hK8=> wp_region_lit <| sw J Y Y Y (R.buildArr (l := [_, _, _, _]) Tryz.underlying32 ze32 sz30 (J.evp Y) Y) fun a J=> so (wn Y) (O.storeW sz32 (J.ev Y) (J.ev Y) (Y) Y (by simp [Value.oneCell']) G (.t (.t .h)) (Y) fun w G=> ?_))
  refine av J Y Y fun a J=> s0 <| then_n (hK8 _ _ <| wp_ret (hR _ _ _ _ _ J (run_results Tryz.results187 (.cw J Y agg32 G (.t (.t .h)) sz32 (Y) (.t J Y (.nil)))) ?_))
  obtain ⟨s', h1, h2⟩ := HostS.close (F := F) (asks := asks ++ [q]) (G.sel [0, 1] rfl rfl) (by simp) (own_ask hO15)
  exact ⟨_, s', Y, ⟨by rw [rep_ge (k := asks.length) (by omega)]; rfl, h1⟩, h2⟩
 refine wp_seq_k fun K9 hK9=> wp_region_lit <| mv J Y Y fun a J=> sw J Y Y Y (R.nilCheck (J.ev Y)) fun a J=> sw J Y Y Y (R.fieldAddr (k := 2) Tryz.underlying43 Y nz22 (J.ev Y) Y) fun a J=> sw J Y Y Y (R.load one22 (J.ev Y) G (.t (.t (.t .h))) (Y)) fun a J=> sw J Y Y Y (R.len Tryz.underlying22 (J.ev Y)) fun a J=> sw J Y Y Y (R.gtr (J.ev Y) (J.ev Y)) fun a J=> s0 <| then_n (hK9 _ _ <| cD J Y (fun c1=> ?_) (fun c1=> ?_))
 ·refine wp_seq_k fun K10 hK10=> wp_region_lit <| sw J Y Y Y (R.buildStr (l := [_, _, _]) Tryz.underlying43 ze43 pl43 (J.evp Y) Y) fun a J=> so (wn Y) (O.box Y Y J (J.ev Y) Y G fun b25 a w J G=> ?_)
  refine av J Y Y fun a J=> s0 <| then_n (hK10 _ _ <| wp_region_lit <| mv J Y Y fun a J=> sw J Y Y Y (R.nilCheck (J.ev Y)) fun a J=> sw J Y Y Y (R.fieldAddr (k := 2) Tryz.underlying43 Y nz22 (J.ev Y) Y) fun a J=> sw J Y Y Y (R.load one22 (J.ev Y) G (.t (.t (.t (.t .h)))) (Y)) fun a J=> sw J Y Y Y (R.buildArr (l := [_, _, _, _]) Tryz.underlying32 ze32 sz30 (J.evp Y) Y) fun a J=> sw J Y Y Y (R.buildStr (l := callc (innerF F b25)) Tryz.underlying35 ze35 pl35 (J.evp Y) (by kernel_rfl)) fun a J=> mv J Y Y fun a J=> sw J Y Y Y (R.mkI Tryz.underlying40 (J.ev Y)) fun a J=> so (wn Y) (O.callK Y Y J ent13 (J.evs Y) G (run_calls (innerF F b25) [(b25, Cel [.slice none 0 0, .slice none 0 0, .slice none 0 0] 43)] w (inner_ok hin b25) ⟨none, 0, [], Y, OwnS.nil 92 30⟩ (G.own1 .h) ⟨hI.down G .h, RdK.nil _ _ _, RdK.nil _ _ _, RdK.nil _ _ _⟩ (next0_ok Y)) (fun _=> .h) fun v s34 a w hR J G=> ?_))
  clear hR
  refine s0 ?_
  exact then_n (hK3' _ _ ⟨J.sub ⟨Y, Y, trivial⟩, G.sel [4, 5, 2] Y Y⟩)
 refine wp_skip ?_
 exact then_n (hK3' _ _ ⟨J.sub ⟨Y, Y, trivial⟩, G.sel [3, 4, 1] Y Y⟩)
theorem next_ok {F : Fx} (hin : InnerOk F) : NextOK F := fun asks q s w0 hH ho hQ hI hl => next_1 F asks q s w0 hH ho hQ hI hl hin
end Go.Proofs.YtlapmbkfmbkdoaaGreatDoor
end
section
namespace Go.Proofs.YtlapmbkfmbkdoaaGreatDoor
open Go Go.Fw Go.RowKit
attribute [local irreducible] Go.Oper.wp Go.Code.wp Go.wpList Go.Fw.WL Go.Calls
def plays (F : Fx) : List Value := [.slice F.cA F.code.length F.cc, .int .u8 ((F.cl.self 0 : Nat) : Int), .int .u8 ((F.cl.self 1 : Nat) : Int), .int .u8 ((F.cl.self 2 : Nat) : Int), .int .u8 ((F.cl.self 3 : Nat) : Int), .int .u8 ((F.cl.self 4 : Nat) : Int), .int .u8 ((F.cl.self 5 : Nat) : Int), .int .u8 ((F.cl.self 6 : Nat) : Int), .int .u8 ((F.cl.self 7 : Nat) : Int), .int .u8 ((F.cl.self 8 : Nat) : Int), .int .u8 ((F.cl.self 9 : Nat) : Int), .int .u8 ((F.cl.self 10 : Nat) : Int), .int .u8 ((F.cl.self 11 : Nat) : Int), .int .u8 ((F.cl.self 12 : Nat) : Int), .int .u8 ((F.cl.self 13 : Nat) : Int), .int .u8 ((F.cl.self 14 : Nat) : Int), .int .u8 ((F.cl.self 15 : Nat) : Int), .int .u8 ((F.cl.self 16 : Nat) : Int), .int .u8 ((F.cl.self 17 : Nat) : Int), .int .u8 ((F.cl.self 18 : Nat) : Int), .int .u8 ((F.cl.self 19 : Nat) : Int), .int .u8 ((F.cl.caller 0 : Nat) : Int), .int .u8 ((F.cl.caller 1 : Nat) : Int), .int .u8 ((F.cl.caller 2 : Nat) : Int), .int .u8 ((F.cl.caller 3 : Nat) : Int), .int .u8 ((F.cl.caller 4 : Nat) : Int), .int .u8 ((F.cl.caller 5 : Nat) : Int), .int .u8 ((F.cl.caller 6 : Nat) : Int), .int .u8 ((F.cl.caller 7 : Nat) : Int), .int .u8 ((F.cl.caller 8 : Nat) : Int), .int .u8 ((F.cl.caller 9 : Nat) : Int), .int .u8 ((F.cl.caller 10 : Nat) : Int), .int .u8 ((F.cl.caller 11 : Nat) : Int), .int .u8 ((F.cl.caller 12 : Nat) : Int), .int .u8 ((F.cl.caller 13 : Nat) : Int), .int .u8 ((F.cl.caller 14 : Nat) : Int), .int .u8 ((F.cl.caller 15 : Nat) : Int), .int .u8 ((F.cl.caller 16 : Nat) : Int), .int .u8 ((F.cl.caller 17 : Nat) : Int), .int .u8 ((F.cl.caller 18 : Nat) : Int), .int .u8 ((F.cl.caller 19 : Nat) : Int), .int .i64 F.cl.token, .int .u64 ((dg F.cl.amount 0 : Nat) : Int), .int .u64 ((dg F.cl.amount 1 : Nat) : Int), .int .u64 ((dg F.cl.amount 2 : Nat) : Int), .int .u64 ((dg F.cl.amount 3 : Nat) : Int), .slice F.aA F.cl.args.length F.ac, .int .i64 F.cl.time, .int .i64 F.cl.gas, .slice F.qA F.reps.length F.qc]
theorem own_nil5 (b : Nat) : OwnS [(b, Cel [] 5)] (some ⟨b, 0, none⟩) 0 0 (byts []) 5 1 := OwnS.mk (cells := []) (rest := []) rfl (by decide) rfl (by decide)
theorem own_nil31 (b : Nat) : OwnS [(b, Cel [] 32)] (some ⟨b, 0, none⟩) 0 0 (([] : List Nat).flatMap wc) 32 4 := OwnS.mk (cells := []) (rest := []) rfl (by decide) rfl (by decide)
theorem own_nil48 (b : Nat) : OwnS [(b, Cel [] 97)] (some ⟨b, 0, none⟩) 0 0 (([] : List (Nat × Int)).flatMap repc) 97 5 := OwnS.mk (cells := []) (rest := []) rfl (by decide) rfl (by decide)
theorem one_reps (l : List (Nat × Int)) : ∀ v ∈ l.flatMap repc, v.oneCell' = true := by
  intro v hv
  obtain ⟨r, _, hr⟩ := List.mem_flatMap.1 hv
  exact one_repc r v hr
theorem RdK.ownS {w0 w : World} {ks : List Nat} {t s : Seg} {A : Option Addr} {n c sz : Nat} {cells : List Value} {E : TypeId} (hS : St w0 ks [t, s] w) (hO : OwnS t A n c cells E sz) : RdK w (s.map (·.1)) A cells := by
  refine ⟨hO.rd hS .h, fun a ha _ hm => ?_⟩
  obtain ⟨_, _, h3⟩ := hO
  rcases h3 with ⟨h5, h6, h7⟩ | ⟨g, rest, rfl, rfl, _, _⟩
  · simp_all
  · simp only [Option.some.injEq] at ha
    subst ha
    have hn := hS.nodup
    simp only [keys, List.flatten_cons, List.flatten_nil, List.append_nil, List.map_append] at hn
    exact (List.nodup_append.1 hn).2.2 _ (List.mem_map_of_mem (List.mem_singleton.2 rfl)) _ hm rfl
set_option maxHeartbeats 4000000 in
theorem lawrun_calls (F : Fx) (w0 : World) (h0 : Fx.Ok0 F) (hin : InnerOk F) (hC : Rd w0 F.cA (byts F.code)) (hA : Rd w0 F.aA (F.cl.args.flatMap wc)) (hRp : Rd w0 F.qA (F.reps.flatMap repc)) (hI : Rd w0 F.iA (byts F.inner)) (hb1 : F.code.length ≤ 140737488351232) (hb2 : F.cl.args.length ≤ 4398046510976) (hb3 : F.reps.length ≤ 3518437208781) : Ret Tryz.prog 22 [.agg (plays F).toArray, .slice F.iA F.inner.length F.ic] w0 [] (fun v s => ∃ A c, v = .tuple #[.agg (wc (playN F.cl F.code F.rep).v ++ [Value.int .i64 (playN F.cl F.code F.rep).gas]).toArray, .int .i64 (playN F.cl F.code F.rep).e, .slice A (playN F.cl F.code F.rep).asks.length c] ∧ OwnS s A (playN F.cl F.code F.rep).asks.length c ((playN F.cl F.code F.rep).asks.flatMap askc) 92 30) := by
 refine fn_start Tryz.func22 Y Tryz.ntmps22 Y [(0, .agg (plays F).toArray), (1, .slice F.iA F.inner.length F.ic)] ⟨Y, Y, trivial⟩ ?_
 intro Q a hP J hR hN
 have G := St.start w0
 refine wp_seq_k fun K1 hK1=> wp_region_lit <| so (wn Y) (O.box Y Y J (J.ev Y) Y G fun b2 a w J G=> ?_)
 refine so (wn Y) (O.alloc Y Y J ze45 Y G fun b4 a w J G=> ?_)
 refine av J Y Y fun a J=> av J Y Y fun a J=> s0 <| then_n (hK1 _ _ <| wp_seq_k fun K2 hK2=> wp_region_lit <| so (wn Y) (O.buildSlice (l := []) Y Y J Tryz.underlying36 inf97 Y Y (J.evp Y) (by decide) Y G fun b11 a w J G=> ?_))
 refine sw J Y Y Y (R.fieldAddr (k := 49) Tryz.underlying38 Y nz36 (J.ev Y) Y) fun a J=> sw J Y Y Y (R.load one36 (J.ev Y) G (.t (.t .h)) (Y)) fun a J=> so (wn Y) (O.appendO Y Y J Tryz.underlying36 inf97 Y Y (by decide) (J.ev Y) (J.ev Y) G (own_nil48 b11) (fun _=> .h) (hRp.old G) (reps_length _) (one_reps _) (by unfold maxLen; omega) (by omega) fun A14 c14 s14 a w hO14 J G=> ?_)
 rw [Nat.zero_add] at J hO14; rw [List.flatMap_nil, List.nil_append] at hO14
 refine mv J Y Y fun a J=> sw J Y Y Y (R.buildStr (l := [_, _, _]) Tryz.underlying43 ze43 pl43 (J.evp Y) Y) fun a J=> so (wn Y) (O.box Y Y J (J.ev Y) Y G fun b17 a w J G=> ?_)
 refine av J Y Y fun a J=> s0 <| then_n (hK2 _ _ <| wp_seq_k fun K3 hK3=> wp_region_lit <| sw J Y Y Y (R.fieldAddr (k := 1) Tryz.underlying38 Y nz35 (J.ev Y) Y) fun a J=> sw J Y Y Y (R.loadA (cs := [_, _, _, _, _, _, _, _, _, _, _, _, _, _, _, _, _, _, _, _, _, _, _, _, _, _, _, _, _, _, _, _, _, _, _, _, _, _, _, _, _, _, _, _, _, _, _, _]) agg35 (J.ev Y) G (.t (.t (.t .h))) sz35 Y (getAt Y)) fun a J=> so (wn Y) (O.alloc Y Y J ze35 Y G fun b8 a w J G=> ?_))
 refine so (wn Y) (O.storeW sz35 (J.ev Y) (J.ev Y) (Y) Y (by simp [Value.oneCell']) G .h (Y) fun w G=> ?_)
 refine s0 <| then_n (hK3 _ _ <| wp_seq_k fun K4 hK4=> wp_region_lit <| so (wn Y) (O.buildSlice (l := []) Y Y J Tryz.underlying33 inf32 Y Y (J.evp Y) (by decide) Y G fun b20 a w J G=> ?_))
 refine sw J Y Y Y (R.fieldAddr (k := 1) Tryz.underlying38 Y nz35 (J.ev Y) Y) fun a J=> sw J Y Y Y (R.fieldAddr (k := 45) Tryz.underlying35 Y nz33 (J.ev Y) Y) fun a J=> sw J Y Y Y (R.load one33 (J.ev Y) G (.t (.t (.t (.t (.t .h))))) (Y)) fun a J=> so (wn Y) (O.appendO Y Y J Tryz.underlying33 inf32 Y Y (by decide) (J.ev Y) (J.ev Y) G (own_nil31 b20) (fun _=> .h) (hA.old G) (wcs_length _) (wcs_one _) (by unfold maxLen; omega) (by omega) fun A24 c24 s24 a w hO24 J G=> ?_)
 rw [Nat.zero_add] at J hO24; rw [List.flatMap_nil, List.nil_append] at hO24
 refine sw J Y Y Y (R.fieldAddr (k := 45) Tryz.underlying35 Y nz33 (J.ev Y) Y) fun a J=> ?_
 refine so (wn Y) (O.store sz33 (J.ev Y) (J.ev Y) Y Y G (.t .h) (show List.set _ _ _ = callc { F with aA := A24, ac := c24 } from Y) (by first | decide | omega | (show _ < 59; decide) | (show _ < 3; decide) | simp) fun w G=> ?_)
 refine s0 <| then_n (hK4 _ _ <| wp_seq_k fun K5 hK5=> wp_drawN G (G.sel [5, 1] Y Y) [(1, 0), (2, 1), (4, 1), (5, 0), (6, 0), (0, 2), (3, 2), (7, 2), (8, 0), (9, 0), (10, 0), (11, 2), (12, 2), (13, 0)] (.node [(1, 0), (2, 1), (4, 1), (5, 0), (6, 0)] (.node [(0, 2)] (.node [(3, 2)] (.leaf [(7, 2), (8, 0), (9, 0), (10, 0), (11, 2), (12, 2), (13, 0)]) (.leaf [(11, 2), (7, 2), (8, 0), (9, 0), (10, 0), (12, 2), (13, 0)])) (.leaf [(11, 2), (3, 2), (7, 2), (8, 0), (9, 0), (10, 0), (12, 2), (13, 0)])) (.leaf [(11, 2), (0, 2), (3, 2), (7, 2), (8, 0), (9, 0), (10, 0), (12, 2), (13, 0)])) mix (by kernel_rfl) (hP.then) fun w G hD=> ?_)
 refine dv J Y Y Y Y (fun w=> R.fieldAddr (k := 0) Tryz.underlying38 Y nz22 (J.ev Y) Y) fun a J=> ds J Y Y Y Y hD (fun w hD=> R.load one22 (J.ev Y) hD .h (Y)) fun a J=> ?_
 refine ds J Y Y Y Y hD (fun w hD=> R.loadW agg35 (J.ev Y) hD (.t .h) sz35 (Y)) fun a J=> ?_
 refine dm J Y Y Y fun a J=> dv J Y Y Y Y (fun w=> R.mkI Tryz.underlying40 (J.ev Y)) fun a J=> d0 <| ⟨?_, ?_⟩
 ·refine dl Y (wn Y) (O.buildSlice (l := []) Y Y J Tryz.underlying22 inf5 Y Y (J.evp Y) (by decide) Y G fun b27 a w J G=> ⟨fun hD=> G.sel [6, 2] Y Y, ?_⟩)
  have hD := G.sel [6, 2] rfl rfl
  refine d0 <| ⟨?_, ?_⟩
  ·refine dl Y (wn Y) (O.appendO Y Y J Tryz.underlying22 inf5 Y Y (by decide) (J.ev Y) (J.ev Y) G (own_nil5 b27) (fun _=> .h) (hC.old G) (by rw [length_byts, Nat.mul_one]) (byts_one _) (by unfold maxLen; omega) (by omega) fun A30 c30 s30 a w hO30 J G=> ⟨fun hD=> G.sel [6, 2] Y Y, ?_⟩)
   have hD := G.sel [6, 2] rfl rfl
   rw [Nat.zero_add] at J hO30; rw [show byts [] = [] from rfl, List.nil_append] at hO30
   refine d0 <| ⟨?_, ?_⟩
   ·refine dl Y (wn Y) (O.callK Y Y J ent13 (J.evs Y) G (run_calls ({ F with hb := b17, qA := A14, qc := c14, cA := A30, cc := c30, aA := A24, ac := c24 }) [(b17, Cel (hcells ({ F with hb := b17, qA := A14, qc := c14, cA := A30, cc := c30, aA := A24, ac := c24 }) (.slice none 0 0)) 43)] w ⟨h0.byt, hO30.2.1, hO30.cap, h0.argsW, hO24.2.1, hO24.cap, h0.self, h0.caller, h0.amount, h0.reps, h0.qlen⟩ ⟨none, 0, [], Y, OwnS.nil 92 30⟩ (G.own1 (.t (.t (.t .h)))) ⟨RdK.ownS (G.sel [0, 3] Y Y) hO30, RdK.ownS (G.sel [1, 3] Y Y) hO24, RdK.ownS (G.sel [4, 3] Y Y) hO14, (RdK.nok hI).down G (.t (.t (.t .h)))⟩ (next_ok ⟨hin.byt, hin.cap, hin.cap2⟩)) (fun _=> (.t (.t (.t .h)))) fun v s34 a w hR J G=> ⟨fun hD=> G.sel [6, 2] Y Y, ?_⟩)
    obtain ⟨rfl, hH4⟩ := hR
    have hD := G.sel [6, 2] rfl rfl
    refine dm J Y Y Y fun a J=> dx J Y Y Y Y fun a J=> dx J Y Y Y Y fun a J=> dl Y (wn Y) (O.alloc Y Y J ze45 Y G fun b9 a w J G=> ⟨fun hD=> G.sel [7, 3] Y Y, ?_⟩)
    have hD := G.sel [7, 3] rfl rfl
    refine dl Y (wn Y) (O.storeW sz45 (J.ev Y) (J.ev Y) (Y) Y (by simp [Value.oneCell']) G .h (Y) fun w G=> ⟨fun hD=> G.sel [7, 3] Y Y, ?_⟩)
    have hD := G.sel [7, 3] rfl rfl
    refine da J Y Y Y fun a J=> d0 <| then_n (hK5 _ _ <| wp_seq_k fun K6 hK6=> ?_)
    obtain ⟨A5, c5, hg, rfl, hO5⟩ := hH4
    have G := (G.sel [0, 6, 4] rfl rfl).flat (bs' := [[(b9, Cel (wc (playN F.cl F.code F.rep).v ++ [Value.int .i64 (playN F.cl F.code F.rep).gas]) 45)], [(b4, Cel [.int .u64 0, .int .u64 0, .int .u64 0, .int .u64 0, .int .i64 0] 45)], [(b17, Cel (hcells ({ F with hb := b17, qA := A14, qc := c14, cA := A30, cc := c30, aA := A24, ac := c24 }) (.slice A5 (playN F.cl F.code F.rep).asks.length c5)) 43)], hg]) rfl
    refine wp_drawG G (G.sel [0, 2] Y Y) [(0, 1), (1, 0), (2, 0), (3, 0), (4, 0), (5, 1), (6, 2), (7, 0), (8, 0)] mix (by kernel_rfl) (hP.then) fun w G hD=> ?_
    refine ds J Y Y Y Y hD (fun w hD=> R.loadW agg45 (J.ev Y) hD .h sz45 (Y)) fun a J=> ?_
    refine dm J Y Y Y fun a J=> dm J Y Y Y fun a J=> dv J Y Y Y Y (fun w=> R.nilCheck (J.ev Y)) fun a J=> dv J Y Y Y Y (fun w=> R.fieldAddr (k := 1) Tryz.underlying43 Y nz41 (J.ev Y) Y) fun a J=> ds J Y Y Y Y hD (fun w hD=> R.load one41 (J.ev Y) hD (.t .h) (Y)) fun a J=> ?_
    refine dl Y (wn Y) (O.storeW sz45 (J.ev Y) (J.ev Y) (Y) Y (by simp [Value.oneCell']) G (.t .h) (Y) fun w G=> ⟨fun hD=> G.sel [0, 2] Y Y, ?_⟩)
    have hD := G.sel [0, 2] rfl rfl
    refine da J Y Y Y fun a J=> da J Y Y Y fun a J=> d0 <| then_n (hK6 _ _ <| wp_ret (hR _ _ _ _ _ J (run_results Tryz.results22 (.cw J Y agg45 G (.t .h) sz45 (Y) (.t J Y (.t J Y (.nil))))) ?_))
    exact ⟨_, hg, Y, ⟨A5, c5, Y, hO5⟩, G.one (.t (.t (.t .h)))⟩
   refine dl Y (wn Y) (O.alloc Y Y J ze45 Y G fun b9 a w J G=> ⟨fun hD=> G.sel [7, 3] Y Y, ?_⟩)
   have hD := G.sel [7, 3] rfl rfl
   refine dl Y (wn Y) (O.callK Y Y J ent13 (J.evs Y) G (run_calls ({ F with hb := b17, qA := A14, qc := c14, cA := A30, cc := c30, aA := A24, ac := c24 }) [(b17, Cel (hcells ({ F with hb := b17, qA := A14, qc := c14, cA := A30, cc := c30, aA := A24, ac := c24 }) (.slice none 0 0)) 43)] w ⟨h0.byt, hO30.2.1, hO30.cap, h0.argsW, hO24.2.1, hO24.cap, h0.self, h0.caller, h0.amount, h0.reps, h0.qlen⟩ ⟨none, 0, [], Y, OwnS.nil 92 30⟩ (G.own1 (.t (.t (.t (.t .h))))) ⟨RdK.ownS (G.sel [1, 4] Y Y) hO30, RdK.ownS (G.sel [2, 4] Y Y) hO24, RdK.ownS (G.sel [5, 4] Y Y) hO14, (RdK.nok hI).down G (.t (.t (.t (.t .h))))⟩ (next_ok ⟨hin.byt, hin.cap, hin.cap2⟩)) (fun _=> (.t (.t (.t (.t .h))))) fun v s34 a w hR J G=> ⟨fun hD=> G.sel [7, 3] Y Y, ?_⟩)
   obtain ⟨rfl, hH4⟩ := hR
   have hD := G.sel [7, 3] rfl rfl
   refine dm J Y Y Y fun a J=> dx J Y Y Y Y fun a J=> dx J Y Y Y Y fun a J=> dl Y (wn Y) (O.storeW sz45 (J.ev Y) (J.ev Y) (Y) Y (by simp [Value.oneCell']) G .h (Y) fun w G=> ⟨fun hD=> G.sel [7, 3] Y Y, ?_⟩)
   have hD := G.sel [7, 3] rfl rfl
   refine da J Y Y Y fun a J=> d0 <| then_n (hK5 _ _ <| wp_seq_k fun K7 hK7=> ?_)
   obtain ⟨A5, c5, hg, rfl, hO5⟩ := hH4
   have G := (G.sel [0, 6, 4] rfl rfl).flat (bs' := [[(b9, Cel (wc (playN F.cl F.code F.rep).v ++ [Value.int .i64 (playN F.cl F.code F.rep).gas]) 45)], [(b4, Cel [.int .u64 0, .int .u64 0, .int .u64 0, .int .u64 0, .int .i64 0] 45)], [(b17, Cel (hcells ({ F with hb := b17, qA := A14, qc := c14, cA := A30, cc := c30, aA := A24, ac := c24 }) (.slice A5 (playN F.cl F.code F.rep).asks.length c5)) 43)], hg]) rfl
   refine wp_drawG G (G.sel [0, 2] Y Y) [(0, 1), (1, 0), (2, 0), (3, 0), (4, 0), (5, 1), (6, 2), (7, 0), (8, 0)] mix (by kernel_rfl) (hP.then) fun w G hD=> ?_
   refine ds J Y Y Y Y hD (fun w hD=> R.loadW agg45 (J.ev Y) hD .h sz45 (Y)) fun a J=> ?_
   refine dm J Y Y Y fun a J=> dm J Y Y Y fun a J=> dv J Y Y Y Y (fun w=> R.nilCheck (J.ev Y)) fun a J=> dv J Y Y Y Y (fun w=> R.fieldAddr (k := 1) Tryz.underlying43 Y nz41 (J.ev Y) Y) fun a J=> ds J Y Y Y Y hD (fun w hD=> R.load one41 (J.ev Y) hD (.t .h) (Y)) fun a J=> ?_
   refine dl Y (wn Y) (O.storeW sz45 (J.ev Y) (J.ev Y) (Y) Y (by simp [Value.oneCell']) G (.t .h) (Y) fun w G=> ⟨fun hD=> G.sel [0, 2] Y Y, ?_⟩)
   have hD := G.sel [0, 2] rfl rfl
   refine da J Y Y Y fun a J=> da J Y Y Y fun a J=> d0 <| then_n (hK7 _ _ <| wp_ret (hR _ _ _ _ _ J (run_results Tryz.results22 (.cw J Y agg45 G (.t .h) sz45 (Y) (.t J Y (.t J Y (.nil))))) ?_))
   exact ⟨_, hg, Y, ⟨A5, c5, Y, hO5⟩, G.one (.t (.t (.t .h)))⟩
  refine dl Y (wn Y) (O.alloc Y Y J ze45 Y G fun b9 a w J G=> ⟨fun hD=> G.sel [7, 3] Y Y, ?_⟩)
  have hD := G.sel [7, 3] rfl rfl
  refine dl Y (wn Y) (O.appendO Y Y J Tryz.underlying22 inf5 Y Y (by decide) (J.ev Y) (J.ev Y) G (own_nil5 b27) (fun _=> (.t .h)) (hC.old G) (by rw [length_byts, Nat.mul_one]) (byts_one _) (by unfold maxLen; omega) (by omega) fun A30 c30 s30 a w hO30 J G=> ⟨fun hD=> G.sel [7, 3] Y Y, ?_⟩)
  have hD := G.sel [7, 3] rfl rfl
  rw [Nat.zero_add] at J hO30; rw [show byts [] = [] from rfl, List.nil_append] at hO30
  refine dl Y (wn Y) (O.callK Y Y J ent13 (J.evs Y) G (run_calls ({ F with hb := b17, qA := A14, qc := c14, cA := A30, cc := c30, aA := A24, ac := c24 }) [(b17, Cel (hcells ({ F with hb := b17, qA := A14, qc := c14, cA := A30, cc := c30, aA := A24, ac := c24 }) (.slice none 0 0)) 43)] w ⟨h0.byt, hO30.2.1, hO30.cap, h0.argsW, hO24.2.1, hO24.cap, h0.self, h0.caller, h0.amount, h0.reps, h0.qlen⟩ ⟨none, 0, [], Y, OwnS.nil 92 30⟩ (G.own1 (.t (.t (.t (.t .h))))) ⟨RdK.ownS (G.sel [1, 4] Y Y) hO30, RdK.ownS (G.sel [2, 4] Y Y) hO24, RdK.ownS (G.sel [5, 4] Y Y) hO14, (RdK.nok hI).down G (.t (.t (.t (.t .h))))⟩ (next_ok ⟨hin.byt, hin.cap, hin.cap2⟩)) (fun _=> (.t (.t (.t (.t .h))))) fun v s34 a w hR J G=> ⟨fun hD=> G.sel [7, 3] Y Y, ?_⟩)
  obtain ⟨rfl, hH4⟩ := hR
  have hD := G.sel [7, 3] rfl rfl
  refine dm J Y Y Y fun a J=> dx J Y Y Y Y fun a J=> dx J Y Y Y Y fun a J=> dl Y (wn Y) (O.storeW sz45 (J.ev Y) (J.ev Y) (Y) Y (by simp [Value.oneCell']) G .h (Y) fun w G=> ⟨fun hD=> G.sel [7, 3] Y Y, ?_⟩)
  have hD := G.sel [7, 3] rfl rfl
  refine da J Y Y Y fun a J=> d0 <| then_n (hK5 _ _ <| wp_seq_k fun K8 hK8=> ?_)
  obtain ⟨A5, c5, hg, rfl, hO5⟩ := hH4
  have G := (G.sel [0, 6, 4] rfl rfl).flat (bs' := [[(b9, Cel (wc (playN F.cl F.code F.rep).v ++ [Value.int .i64 (playN F.cl F.code F.rep).gas]) 45)], [(b4, Cel [.int .u64 0, .int .u64 0, .int .u64 0, .int .u64 0, .int .i64 0] 45)], [(b17, Cel (hcells ({ F with hb := b17, qA := A14, qc := c14, cA := A30, cc := c30, aA := A24, ac := c24 }) (.slice A5 (playN F.cl F.code F.rep).asks.length c5)) 43)], hg]) rfl
  refine wp_drawG G (G.sel [0, 2] Y Y) [(0, 1), (1, 0), (2, 0), (3, 0), (4, 0), (5, 1), (6, 2), (7, 0), (8, 0)] mix (by kernel_rfl) (hP.then) fun w G hD=> ?_
  refine ds J Y Y Y Y hD (fun w hD=> R.loadW agg45 (J.ev Y) hD .h sz45 (Y)) fun a J=> ?_
  refine dm J Y Y Y fun a J=> dm J Y Y Y fun a J=> dv J Y Y Y Y (fun w=> R.nilCheck (J.ev Y)) fun a J=> dv J Y Y Y Y (fun w=> R.fieldAddr (k := 1) Tryz.underlying43 Y nz41 (J.ev Y) Y) fun a J=> ds J Y Y Y Y hD (fun w hD=> R.load one41 (J.ev Y) hD (.t .h) (Y)) fun a J=> ?_
  refine dl Y (wn Y) (O.storeW sz45 (J.ev Y) (J.ev Y) (Y) Y (by simp [Value.oneCell']) G (.t .h) (Y) fun w G=> ⟨fun hD=> G.sel [0, 2] Y Y, ?_⟩)
  have hD := G.sel [0, 2] rfl rfl
  refine da J Y Y Y fun a J=> da J Y Y Y fun a J=> d0 <| then_n (hK8 _ _ <| wp_ret (hR _ _ _ _ _ J (run_results Tryz.results22 (.cw J Y agg45 G (.t .h) sz45 (Y) (.t J Y (.t J Y (.nil))))) ?_))
  exact ⟨_, hg, Y, ⟨A5, c5, Y, hO5⟩, G.one (.t (.t (.t .h)))⟩
 refine dl Y (wn Y) (O.alloc Y Y J ze45 Y G fun b9 a w J G=> ⟨fun hD=> G.sel [6, 2] Y Y, ?_⟩)
 have hD := G.sel [6, 2] rfl rfl
 refine dl Y (wn Y) (O.buildSlice (l := []) Y Y J Tryz.underlying22 inf5 Y Y (J.evp Y) (by decide) Y G fun b27 a w J G=> ⟨fun hD=> G.sel [7, 3] Y Y, ?_⟩)
 have hD := G.sel [7, 3] rfl rfl
 refine dl Y (wn Y) (O.appendO Y Y J Tryz.underlying22 inf5 Y Y (by decide) (J.ev Y) (J.ev Y) G (own_nil5 b27) (fun _=> .h) (hC.old G) (by rw [length_byts, Nat.mul_one]) (byts_one _) (by unfold maxLen; omega) (by omega) fun A30 c30 s30 a w hO30 J G=> ⟨fun hD=> G.sel [7, 3] Y Y, ?_⟩)
 have hD := G.sel [7, 3] rfl rfl
 rw [Nat.zero_add] at J hO30; rw [show byts [] = [] from rfl, List.nil_append] at hO30
 refine dl Y (wn Y) (O.callK Y Y J ent13 (J.evs Y) G (run_calls ({ F with hb := b17, qA := A14, qc := c14, cA := A30, cc := c30, aA := A24, ac := c24 }) [(b17, Cel (hcells ({ F with hb := b17, qA := A14, qc := c14, cA := A30, cc := c30, aA := A24, ac := c24 }) (.slice none 0 0)) 43)] w ⟨h0.byt, hO30.2.1, hO30.cap, h0.argsW, hO24.2.1, hO24.cap, h0.self, h0.caller, h0.amount, h0.reps, h0.qlen⟩ ⟨none, 0, [], Y, OwnS.nil 92 30⟩ (G.own1 (.t (.t (.t (.t .h))))) ⟨RdK.ownS (G.sel [0, 4] Y Y) hO30, RdK.ownS (G.sel [2, 4] Y Y) hO24, RdK.ownS (G.sel [5, 4] Y Y) hO14, (RdK.nok hI).down G (.t (.t (.t (.t .h))))⟩ (next_ok ⟨hin.byt, hin.cap, hin.cap2⟩)) (fun _=> (.t (.t (.t (.t .h))))) fun v s34 a w hR J G=> ⟨fun hD=> G.sel [7, 3] Y Y, ?_⟩)
 obtain ⟨rfl, hH4⟩ := hR
 have hD := G.sel [7, 3] rfl rfl
 refine dm J Y Y Y fun a J=> dx J Y Y Y Y fun a J=> dx J Y Y Y Y fun a J=> dl Y (wn Y) (O.storeW sz45 (J.ev Y) (J.ev Y) (Y) Y (by simp [Value.oneCell']) G (.t .h) (Y) fun w G=> ⟨fun hD=> G.sel [7, 3] Y Y, ?_⟩)
 have hD := G.sel [7, 3] rfl rfl
 refine da J Y Y Y fun a J=> d0 <| then_n (hK5 _ _ <| wp_seq_k fun K9 hK9=> ?_)
 obtain ⟨A5, c5, hg, rfl, hO5⟩ := hH4
 have G := (G.sel [1, 6, 4] rfl rfl).flat (bs' := [[(b9, Cel (wc (playN F.cl F.code F.rep).v ++ [Value.int .i64 (playN F.cl F.code F.rep).gas]) 45)], [(b4, Cel [.int .u64 0, .int .u64 0, .int .u64 0, .int .u64 0, .int .i64 0] 45)], [(b17, Cel (hcells ({ F with hb := b17, qA := A14, qc := c14, cA := A30, cc := c30, aA := A24, ac := c24 }) (.slice A5 (playN F.cl F.code F.rep).asks.length c5)) 43)], hg]) rfl
 refine wp_drawG G (G.sel [0, 2] Y Y) [(0, 1), (1, 0), (2, 0), (3, 0), (4, 0), (5, 1), (6, 2), (7, 0), (8, 0)] mix (by kernel_rfl) (hP.then) fun w G hD=> ?_
 refine ds J Y Y Y Y hD (fun w hD=> R.loadW agg45 (J.ev Y) hD .h sz45 (Y)) fun a J=> ?_
 refine dm J Y Y Y fun a J=> dm J Y Y Y fun a J=> dv J Y Y Y Y (fun w=> R.nilCheck (J.ev Y)) fun a J=> dv J Y Y Y Y (fun w=> R.fieldAddr (k := 1) Tryz.underlying43 Y nz41 (J.ev Y) Y) fun a J=> ds J Y Y Y Y hD (fun w hD=> R.load one41 (J.ev Y) hD (.t .h) (Y)) fun a J=> ?_
 refine dl Y (wn Y) (O.storeW sz45 (J.ev Y) (J.ev Y) (Y) Y (by simp [Value.oneCell']) G (.t .h) (Y) fun w G=> ⟨fun hD=> G.sel [0, 2] Y Y, ?_⟩)
 have hD := G.sel [0, 2] rfl rfl
 refine da J Y Y Y fun a J=> da J Y Y Y fun a J=> d0 <| then_n (hK9 _ _ <| wp_ret (hR _ _ _ _ _ J (run_results Tryz.results22 (.cw J Y agg45 G (.t .h) sz45 (Y) (.t J Y (.t J Y (.nil))))) ?_))
 exact ⟨_, hg, Y, ⟨A5, c5, Y, hO5⟩, G.one (.t (.t (.t .h)))⟩
end Go.Proofs.YtlapmbkfmbkdoaaGreatDoor
end
section
namespace Go.Proofs.YtlapmbkfmbkdoaaGreatDoor
open Go Go.Fw Go.RowKit
attribute [local irreducible] Go.Oper.wp Go.Code.wp Go.wpList Go.Fw.WL Go.Calls
def aliveF (b1 b2 : Nat) : Fx := { rb := 0, hb := 0, cA := some ⟨b1, 0, none⟩, cc := 6, code := [16, 0, 16, 1, 6, 1], aA := some ⟨b2, 0, none⟩, ac := 2, cl := ⟨fun _ => 0, fun _ => 0, 0, 0, [5, 7], 0, 100⟩, qA := none, qc := 0, reps := [], iA := none, ic := 0, inner := [] }
theorem alive_ok (b1 b2 : Nat) : Fx.Ok0 (aliveF b1 b2) := ⟨fun d hd => by simp [aliveF] at hd; omega, Nat.le_refl _, by show 6 ≤ _; decide, by intro x hx; simp [aliveF] at hx; omega, Nat.le_refl _, by show 2 ≤ _; decide, fun _ => by show 0 < 256; decide, fun _ => by show 0 < 256; decide, by show 0 < _; decide, by intro r hr; simp [aliveF] at hr, Nat.zero_le _⟩
theorem alive_in (b1 b2 : Nat) : InnerOk (aliveF b1 b2) := ⟨fun d hd => by simp [aliveF] at hd, Nat.zero_le _, Nat.zero_le _⟩
theorem alive_play (b1 b2 : Nat) : playN (aliveF b1 b2).cl (aliveF b1 b2).code (aliveF b1 b2).rep = ⟨12, 7, 0, []⟩ := by kernel_rfl
theorem alive_eq : EqOk Tryz.prog Op.maxDepth 45 (.agg #[.int .u64 12, .int .u64 0, .int .u64 0, .int .u64 0, .int .i64 7]) (.agg #[.int .u64 12, .int .u64 0, .int .u64 0, .int .u64 0, .int .i64 7]) true := fun w => by kernel_rfl
theorem alive_guard : Tryz.prog.eqGuardType Tryz.prog.depth 45 = false := by kernel_rfl
set_option maxHeartbeats 2000000 in
theorem alive_calls  (w0 : World) : Ret Tryz.prog 10 [] w0 [] (fun v s => v = .bool true ∧ s = []) := by
 refine fn_start Tryz.func10 Y Tryz.ntmps10 Y [] trivial ?_
 intro Q a hP J hR hN
 have G := St.start w0
 refine wp_seq_k fun K1 hK1=> wp_region_lit <| av J Y Y fun a J=> s0 <| then_n (hK1 _ _ <| wp_seq_k fun K2 hK2=> wp_region_lit <| so (wn Y) (O.buildSlice (l := [_, _, _, _, _, _]) Y Y J Tryz.underlying22 inf5 Y Y (J.evp Y) (by decide) Y G fun b5 a w J G=> ?_))
 refine sw J Y Y Y (R.buildArr (l := [_, _, _, _]) Tryz.underlying32 ze32 sz30 (J.evp Y) Y) fun a J=> sw J Y Y Y (R.buildArr (l := [_, _, _, _]) Tryz.underlying32 ze32 sz30 (J.evp Y) Y) fun a J=> so (wn Y) (O.buildSlice (l := [_, _, _, _, _, _, _, _]) Y Y J Tryz.underlying33 inf32 Y Y (J.evp Y) (by decide) Y G fun b8 a w J G=> ?_)
 refine sw J Y Y Y (R.buildStr (l := callc (aliveF b5 b8)) Tryz.underlying35 ze35 pl35 (J.evp Y) (by kernel_rfl)) fun a J=> sw J Y Y Y (R.buildStr (l := plays (aliveF b5 b8)) Tryz.underlying38 ze38 pl38 (J.evp Y) (by kernel_rfl)) fun a J=> so (wn Y) (O.call Y Y J ent22 (J.evs Y) G (lawrun_calls (aliveF b5 b8) w (alive_ok b5 b8) (alive_in b5 b8) (Rd.own0 G (.t .h)) (Rd.own0 G .h) (Rd.nil _ _) (Rd.nil _ _) (by show 6 ≤ _; decide) (by show 2 ≤ _; decide) (Nat.zero_le _)) fun v s11 a w hR J G=> ?_)
 obtain ⟨A11, c11, rfl, hO11⟩ := hR
 rw [alive_play] at J hO11; dsimp only at J
 refine mv J Y Y fun a J=> xv J Y Y Y fun a J=> xv J Y Y Y fun a J=> xv J Y Y Y fun a J=> so (wn Y) (O.alloc Y Y J ze45 Y G fun b1 a w J G=> ?_)
 refine so (wn Y) (O.storeW sz45 (J.ev Y) (J.ev Y) (Y) Y (by simp [Value.oneCell']) G .h (Y) fun w G=> ?_)
 refine av J Y Y fun a J=> av J Y Y fun a J=> s0 <| then_n (hK2 _ _ <| wp_seq_k fun K3 hK3=> wp_region_lit <| mv J Y Y fun a J=> sw J Y Y Y (R.as (u := .bool true) (R.eql (p := 0) (q := 0) (J.ev Y) (J.ev Y)) (congrArg Value.bool (decide_eq_true (Y)))) fun a J=> mv J Y Y fun a J=> sv' J (wy J Y Y Y) Y Y (R.loadW agg45 (J.ev Y) G .h sz45 (Y)) fun a J=> sv' J (wy J Y Y Y) Y Y (R.buildArr (l := [_, _, _, _]) Tryz.underlying32 ze32 sz30 (J.evp Y) Y) fun a J=> sv' J (wy J Y Y Y) Y Y (R.buildStr (l := [_, _, _, _, _]) Tryz.underlying45 ze45 pl45 (J.evp Y) Y) fun a J=> sv' J (wy J Y Y Y) Y Y (R.eqlAgg (J.ev Y) (J.ev Y) alive_eq alive_guard) fun a J=> pT J Y Y Y fun a J=> mv J Y Y fun a J=> my J Y Y Y Y fun a J=> sv' J (wy J Y Y Y) Y Y (R.len Tryz.underlying41 (J.ev Y)) fun a J=> sv' J (wy J Y Y Y) Y Y (R.eql (J.ev Y) (J.ev Y)) fun a J=> pT J Y Y Y fun a J=> av J Y Y fun a J=> s0 <| then_n (hK3 _ _ <| wp_ret (hR _ _ _ _ _ J (run_results Tryz.results10 (.t J Y (.nil))) ?_)))
 exact ⟨_, [], Y, ⟨Y, Y⟩, G.none⟩
end Go.Proofs.YtlapmbkfmbkdoaaGreatDoor
end
section
namespace Go.Fw
section
variable {P : Program} {w : World} {T E : TypeId} {d : Nat}
theorem forIn_allE {α : Type} (c : α → Bool) (body : α → Option Bool × Unit → Sem (ForInStep (Option Bool × Unit))) (l : Array α)
    (h : ∀ i ∈ l.toList, (body i (none, ())).run P w = .ok (if c i then .yield (none, ()) else .done (some false, ())) w) :
    (forIn l (none, ()) body).run P w = .ok (if l.toList.all c then (none, ()) else (some false, ())) w := by
  rw [← Array.forIn_toList]
  exact forIn_all c body l.toList h
theorem eq_str {fs : Array Field} (hT : P.underlying T = some (.struct fs)) (hs : P.stoodInHeld T = false) (xs ys : Array Value) (c : Field → Bool) (u v : Field → Value)
    (hn : ∀ f ∈ fs.toList, f.name ≠ "_") (hx : ∀ f ∈ fs.toList, ∀ w, (part f.type xs f.offset).run P w = .ok (u f) w) (hy : ∀ f ∈ fs.toList, ∀ w, (part f.type ys f.offset).run P w = .ok (v f) w) (hc : ∀ f ∈ fs.toList, EqOk P d f.type (u f) (v f) (c f)) :
    EqOk P (d + 1) T (.agg xs) (.agg ys) (fs.toList.all c) := by
  intro w
  rw [Op.equalIn]
  simp only [Sem.run_bind, run_underlying hT, Result.andThen_ok, run_program, hs, Bool.false_eq_true, if_false]
  rw [forIn_allE c]
  · cases fs.toList.all c <;> rfl
  · intro f hf
    simp only [hn f hf, ne_eq, not_false_eq_true, if_true, Sem.run_bind, hx f hf, hy f hf, Result.andThen_ok, hc f hf w]
    cases c f <;> rfl
end
end Go.Fw
namespace Go.Proofs.YtlapmbkfmbkdoaaGreatDoor
open Go Go.Fw Go.RowKit
end Go.Proofs.YtlapmbkfmbkdoaaGreatDoor
end
section
namespace Go.Proofs.YtlapmbkfmbkdoaaGreatDoor
open Go Go.Fw Go.ChangeShapes Go.RowKit
def i64OK (n : Int) : Prop := -9223372036854775808 ≤ n ∧ n ≤ 9223372036854775807
theorem wf_i64 {n : Int} (h : (Lit.int .i64 n).wf = true) : i64OK n := by
  have := bounds_i64 h; unfold i64OK; omega
theorem weight_field {H : Type} {P : Program} {t : TypeId} {fs : Array Field} (hu : P.underlying t = some (.struct fs)) {parts : List (DataW H)} (h : ∀ n ∈ (DataW.agg parts).weights P t, n ≤ reachBytes) : (DataW.weightsEach P (fs.toList.map (·.type)) parts).all (· ≤ reachBytes) = true := by
  rw [List.all_eq_true]
  intro n hn
  have := h n (by simpa [DataW.weights, hu] using hn)
  simpa using this
theorem ce29 : Tryz.prog.cellsOf 29 = 20 := by kernel_rfl
theorem ce35 : Tryz.prog.cellsOf 35 = 48 := by kernel_rfl
theorem ce38 : Tryz.prog.cellsOf 38 = 50 := by kernel_rfl
theorem ce97 : Tryz.prog.cellsOf 97 = 5 := by kernel_rfl
theorem ce23 : Tryz.prog.cellsOf 23 = 1 := by kernel_rfl
theorem ce33 : Tryz.prog.cellsOf 33 = 1 := by kernel_rfl
theorem ce36 : Tryz.prog.cellsOf 36 = 1 := by kernel_rfl
theorem bytes97 : Tryz.prog.bytesOf 97 = 40 := by kernel_rfl
def repOk (r : Nat × Int) : Prop := r.1 < 115792089237316195423570985008687907853269984665640564039457584007913129639936 ∧ i64OK r.2
theorem reps_of : ∀ els : List (List Value), (∀ l ∈ els, (∃ r : Nat × Int, repOk r ∧ l = repc r) ∧ l.length = 5) → ∃ ps : List (Nat × Int), ps.length = els.length ∧ (∀ r ∈ ps, repOk r) ∧ els.flatten = ps.flatMap repc
  | [], _ => ⟨[], rfl, by intro x hx; simp at hx, rfl⟩
  | l :: els, h => by
    obtain ⟨ps, h1, h2, h3⟩ := reps_of els fun l hl => h l (by simp [hl])
    obtain ⟨⟨p, hp, rfl⟩, _⟩ := h l (by simp)
    refine ⟨p :: ps, by simp [h1], ?_, by rw [List.flatten_cons, h3, List.flatMap_cons]⟩
    intro q hq
    rcases List.mem_cons.1 hq with rfl | hq
    · exact hp
    · exact h2 q hq
theorem len_5 {α : Type} {l : List α} (h : l.length = 5) : ∃ a b c d e, l = [a, b, c, d, e] := by
  match l, h with
  | [a, b, c, d, e], _ => exact ⟨a, b, c, d, e, rfl⟩
section
variable {H : Type} {enc : TypeId × Value → H} {w : World} {base fuel : Nat} {spare : Nat → Bool} {held : Bool} {cs : List Value} {x : DataW H × List MemPlace}
theorem open_reply (h : DataW.trod enc Tryz.prog w base spare held fuel 97 cs = some x) : ∃ r : Nat × Int, repOk r ∧ cs = repc r := by
  obtain ⟨hl, m, g⟩ := trod_fields Tryz.underlying97 h
  rw [ce97] at hl
  obtain ⟨a, b, c, d, e, rfl⟩ := len_5 hl
  obtain ⟨y0, g0⟩ := g 0 _ 32 0 rfl rfl rfl
  obtain ⟨y1, g1⟩ := g 1 _ 23 4 rfl rfl rfl
  obtain ⟨n0, w0, e0⟩ := open_wide g0
  obtain ⟨n1, e1, _, w1⟩ := DataW.trod_int Tryz.underlying23 g1
  simp only [ce23, ce32, List.drop_zero, List.drop_succ_cons, List.take_succ_cons, List.take_zero, List.cons.injEq, and_true] at e0 e1
  subst e1
  obtain ⟨rfl, rfl, rfl, rfl⟩ := e0
  exact ⟨(n0, n1), ⟨w0, wf_i64 w1⟩, rfl⟩
theorem open_replies {A : Option Addr} {len cap : Nat} (h : DataW.trod enc Tryz.prog w base spare held fuel 36 [.slice A len cap] = some x) : ∃ l : List (Nat × Int), l.length = len ∧ (∀ r ∈ l, repOk r) ∧ Rd w A (l.flatMap repc) ∧ len ≤ cap ∧ cap ≤ 9223372036854775807 := by
  obtain ⟨h1, h2, els, h3, h4, h5⟩ := open_rd (n := 5) (Pp := fun l => ∃ r : Nat × Int, repOk r ∧ l = repc r) Tryz.underlying36 ce97 (fun fuel cs x h => by
    obtain ⟨n, hn, rfl⟩ := open_reply h
    exact ⟨⟨n, hn, rfl⟩, rfl⟩) h
  obtain ⟨ps, g1, g2, g3⟩ := reps_of els h4
  exact ⟨ps, by rw [g1, h3], g2, g3 ▸ h5, h1, Nat.le_trans h2 (by decide)⟩
theorem open_addr (h : DataW.trod enc Tryz.prog w base spare held fuel 29 cs = some x) : ∃ f : Nat → Nat, (∀ i, f i < 256) ∧ cs = adc f := by
  obtain ⟨xs, m, rfl, _, hl, hxl, hx⟩ := DataW.trod_array Tryz.underlying29 h
  rw [ce29] at hl
  simp only [ce5, Nat.mul_one] at hx
  have g : ∀ i, ∃ n : Nat, n < 256 ∧ (i < 20 → cs[i]? = some (.int .u8 (n : Int))) := by
    intro i
    by_cases hi : i < 20
    · have g : DataW.trod enc Tryz.prog w base spare held m 5 ((cs.drop i).take 1) = some (xs[i]'(by omega)) := by rw [hx i hi]; simp [hxl, hi]
      obtain ⟨n0, e0, _, w0⟩ := DataW.trod_int Tryz.underlying5 g
      have hb : 0 ≤ n0 ∧ n0 ≤ 255 := by
        simp only [Lit.wf, Bool.and_eq_true, decide_eq_true_eq] at w0
        have h1 : IntKind.u8.min = 0 := rfl
        have h2 : IntKind.u8.max = 255 := rfl
        omega
      refine ⟨n0.toNat, by omega, fun _ => ?_⟩
      rw [Int.toNat_of_nonneg hb.1]
      have : (cs.drop i).take 1 = [cs[i]'(by omega)] := by
        rw [List.drop_eq_getElem_cons (by omega)]; rfl
      rw [this] at e0
      rw [List.getElem?_eq_getElem (by omega)]
      simpa using e0
    · exact ⟨0, by decide, fun h => absurd h hi⟩
  refine ⟨fun i => Classical.choose (g i), fun i => (Classical.choose_spec (g i)).1, ?_⟩
  have hE : ∀ f : Nat → Nat, adc f = (List.range 20).map fun i => Value.int .u8 ((f i : Nat) : Int) := fun f => rfl
  rw [hE]
  refine List.ext_getElem? fun i => ?_
  by_cases hi : i < 20
  · rw [(Classical.choose_spec (g i)).2 hi]
    simp [hi]
  · rw [List.getElem?_eq_none (by omega), List.getElem?_eq_none (by simp; omega)]
end
structure PlayIn (F : Fx) (w : World) : Prop where
  ok : Fx.Ok0 F
  inner : F.inner = []
  code : Rd w F.cA (byts F.code)
  args : Rd w F.aA (F.cl.args.flatMap wc)
  reps : Rd w F.qA (F.reps.flatMap repc)
  b1 : F.code.length ≤ 140737488351232
  b2 : F.cl.args.length ≤ 4398046510976
  b3 : F.reps.length ≤ 3518437208781
  tok : i64OK F.cl.token
  time : i64OK F.cl.time
  gas : i64OK F.cl.gas
  errs : ∀ r ∈ F.reps, i64OK r.2
theorem slice_of {H : Type} {enc : TypeId × Value → H} {w : World} {base fuel : Nat} {spare : Nat → Bool} {held : Bool} {t e : TypeId} {cs : List Value} {x : DataW H × List MemPlace} (hu : Tryz.prog.underlying t = some (.slice e)) (h : DataW.trod enc Tryz.prog w base spare held fuel t cs = some x) : ∃ A len cap, cs = [.slice A len cap] := by
  rcases DataW.trod_slice hu h with ⟨rfl, _⟩ | ⟨a, len, cap, _, _, _, _, rfl, _⟩
  · exact ⟨_, _, _, rfl⟩
  · exact ⟨_, _, _, rfl⟩
theorem play_cells {A B C : Option Addr} {n c n2 c2 n3 c3 : Nat} {f g : Nat → Nat} {tok time gas : Int} {am : Nat} {cs : List Value} (h : cs.length = 50) (h0 : cs.take 1 = [.slice A n c]) (h1 : (cs.drop 1).take 48 = adc f ++ (adc g ++ (.int .i64 tok :: (wc am ++ [.slice B n2 c2, .int .i64 time, .int .i64 gas])))) (h2 : (cs.drop 49).take 1 = [.slice C n3 c3]) :
    cs = .slice A n c :: (adc f ++ (adc g ++ (.int .i64 tok :: (wc am ++ [.slice B n2 c2, .int .i64 time, .int .i64 gas, .slice C n3 c3])))) := by
  have e : cs = cs.take 1 ++ ((cs.drop 1).take 48 ++ (cs.drop 49).take 1) := by
    have e1 : (cs.drop 49).take 1 = cs.drop 49 := List.take_of_length_le (by simp; omega)
    rw [e1]
    have e2 := List.take_append_drop 48 (cs.drop 1)
    rw [List.drop_drop] at e2
    rw [e2]; exact (List.take_append_drop 1 cs).symm
  rw [e, h0, h1, h2]; simp
theorem call_cells {B : Option Addr} {n2 c2 : Nat} {f g : Nat → Nat} {tok time gas : Int} {am : Nat} {cs : List Value} (h : cs.length = 48) (h0 : (cs.drop 0).take 20 = adc f) (h1 : (cs.drop 20).take 20 = adc g) (h2 : (cs.drop 40).take 1 = [.int .i64 tok]) (h3 : (cs.drop 41).take 4 = wc am) (h4 : (cs.drop 45).take 1 = [.slice B n2 c2]) (h5 : (cs.drop 46).take 1 = [.int .i64 time]) (h6 : (cs.drop 47).take 1 = [.int .i64 gas]) :
    cs = adc f ++ (adc g ++ (.int .i64 tok :: (wc am ++ [.slice B n2 c2, .int .i64 time, .int .i64 gas]))) := by
  have e : ∀ a k, cs.drop a = (cs.drop a).take k ++ cs.drop (a + k) := fun a k => by
    have := List.take_append_drop k (cs.drop a)
    rw [List.drop_drop] at this
    exact this.symm
  have e48 : cs.drop 48 = [] := List.drop_of_length_le (by omega)
  have : cs = cs.drop 0 := rfl
  rw [this, e 0 20, h0, e (0 + 20) 20, h1, e (0 + 20 + 20) 1, h2, e (0 + 20 + 20 + 1) 4, h3, e (0 + 20 + 20 + 1 + 4) 1, h4, e (0 + 20 + 20 + 1 + 4 + 1) 1, h5, e (0 + 20 + 20 + 1 + 4 + 1 + 1) 1, h6, e48]
  simp
set_option maxRecDepth 4000 in
theorem open_play {H : Type} {enc : TypeId × Value → H} {w : World} {base fuel : Nat} {held : Bool} {cs : List Value} {d : DataW H} {p : List MemPlace} (h : DataW.trod enc Tryz.prog w base (fun _ => true) held fuel 38 cs = some (d, p)) (hw : ∀ n ∈ d.weights Tryz.prog 38, n ≤ reachBytes) :
    ∃ F : Fx, PlayIn F w ∧ cs = plays F := by
  obtain ⟨xs, m, _, hx, hl, hlen, hf⟩ := DataW.trod_struct Tryz.underlying38 h
  obtain ⟨rfl, rfl⟩ := Prod.mk.inj hx
  rw [ce38] at hl
  have W1 := weight_field Tryz.underlying38 hw
  have f0 := hf 0 _ rfl
  have f1 := hf 1 _ rfl
  have f2 := hf 2 _ rfl
  have hl3 : xs.length = 3 := hlen
  obtain ⟨x0, x1, x2, rfl⟩ : ∃ x0 x1 x2, xs = [x0, x1, x2] := by
    match xs, hl3 with
    | [a, b, c], _ => exact ⟨a, b, c, rfl⟩
  obtain ⟨d0, p0⟩ := x0
  obtain ⟨d1, p1⟩ := x1
  obtain ⟨d2, p2⟩ := x2
  replace f0 : DataW.trod enc Tryz.prog w base (fun _ => true) held m 22 ((cs.drop 0).take (Tryz.prog.cellsOf 22)) = some (d0, p0) := f0
  replace f1 : DataW.trod enc Tryz.prog w base (fun _ => true) held m 35 ((cs.drop 1).take (Tryz.prog.cellsOf 35)) = some (d1, p1) := f1
  replace f2 : DataW.trod enc Tryz.prog w base (fun _ => true) held m 36 ((cs.drop 49).take (Tryz.prog.cellsOf 36)) = some (d2, p2) := f2
  rw [ce22, List.drop_zero] at f0
  rw [ce35] at f1
  rw [ce36] at f2
  obtain ⟨A, n, c, e0⟩ := slice_of Tryz.underlying22 f0
  obtain ⟨C, n3, c3, e2⟩ := slice_of Tryz.underlying36 f2
  rw [e0] at f0
  rw [e2] at f2
  have w0 := slice_weight (j := 0) W1 rfl rfl Tryz.underlying22 f0
  have w2 := slice_weight (j := 2) W1 rfl rfl Tryz.underlying36 f2
  rw [bytes5, show reachBytes = 140737488351232 from rfl] at w0
  rw [bytes97, show reachBytes = 140737488351232 from rfl] at w2
  obtain ⟨code, hn, hB, hR, hc, hm⟩ := open_byteL f0
  obtain ⟨reps, hn3, hB3, hR3, hc3, hm3⟩ := open_replies f2
  have W2 : ∀ n ∈ d1.weights Tryz.prog 35, n ≤ reachBytes := fun n hn => by
    have := List.all_eq_true.1 W1 n (DataW.weights_mem_each (j := 1) (t := 35) (d := d1) rfl rfl n hn)
    simpa using this
  obtain ⟨ys, m', _, hy, hl', hlen', hf'⟩ := DataW.trod_struct Tryz.underlying35 f1
  obtain ⟨rfl, rfl⟩ := Prod.mk.inj hy
  rw [ce35] at hl'
  have W3 := weight_field Tryz.underlying35 W2
  have hl7 : ys.length = 7 := hlen'
  obtain ⟨y0, y1, y2, y3, y4, y5, y6, rfl⟩ : ∃ y0 y1 y2 y3 y4 y5 y6, ys = [y0, y1, y2, y3, y4, y5, y6] := by
    match ys, hl7 with
    | [a, b, c, d, e, f, g], _ => exact ⟨a, b, c, d, e, f, g, rfl⟩
  obtain ⟨z4, q4⟩ := y4
  have k0 : DataW.trod enc Tryz.prog w base (fun _ => true) held m' 29 ((((cs.drop 1).take 48).drop 0).take (Tryz.prog.cellsOf 29)) = some y0 := hf' 0 _ rfl
  have k1 : DataW.trod enc Tryz.prog w base (fun _ => true) held m' 29 ((((cs.drop 1).take 48).drop 20).take (Tryz.prog.cellsOf 29)) = some y1 := hf' 1 _ rfl
  have k2 : DataW.trod enc Tryz.prog w base (fun _ => true) held m' 3 ((((cs.drop 1).take 48).drop 40).take (Tryz.prog.cellsOf 3)) = some y2 := hf' 2 _ rfl
  have k3 : DataW.trod enc Tryz.prog w base (fun _ => true) held m' 32 ((((cs.drop 1).take 48).drop 41).take (Tryz.prog.cellsOf 32)) = some y3 := hf' 3 _ rfl
  have k4 : DataW.trod enc Tryz.prog w base (fun _ => true) held m' 33 ((((cs.drop 1).take 48).drop 45).take (Tryz.prog.cellsOf 33)) = some (z4, q4) := hf' 4 _ rfl
  have k5 : DataW.trod enc Tryz.prog w base (fun _ => true) held m' 3 ((((cs.drop 1).take 48).drop 46).take (Tryz.prog.cellsOf 3)) = some y5 := hf' 5 _ rfl
  have k6 : DataW.trod enc Tryz.prog w base (fun _ => true) held m' 3 ((((cs.drop 1).take 48).drop 47).take (Tryz.prog.cellsOf 3)) = some y6 := hf' 6 _ rfl
  rw [ce29] at k0 k1
  rw [ce3] at k2 k5 k6
  rw [ce32] at k3
  rw [ce33] at k4
  obtain ⟨fs, hfs, e3⟩ := open_addr k0
  obtain ⟨fc, hfc, e4⟩ := open_addr k1
  obtain ⟨tok, e5, _, wt⟩ := DataW.trod_int Tryz.underlying3 k2
  obtain ⟨am, ham, e6⟩ := open_wide k3
  obtain ⟨B, n2, c2, e7⟩ := slice_of Tryz.underlying33 k4
  obtain ⟨time, e8, _, wtm⟩ := DataW.trod_int Tryz.underlying3 k5
  obtain ⟨gas, e9, _, wg⟩ := DataW.trod_int Tryz.underlying3 k6
  rw [e7] at k4
  have w4 := slice_weight (j := 4) W3 rfl rfl Tryz.underlying33 k4
  rw [bytes32, show reachBytes = 140737488351232 from rfl] at w4
  obtain ⟨args, hn2, hB2, hR2, hc2, hm2⟩ := open_wides k4
  have hcall := call_cells (by simp [hl]) e3 e4 e5 e6 e7 e8 e9
  have hall := play_cells hl e0 hcall e2
  subst hn hn2 hn3
  refine ⟨{ rb := 0, hb := 0, cA := A, cc := c, code := code, aA := B, ac := c2, cl := ⟨fs, fc, tok, am, args, time, gas⟩, qA := C, qc := c3, reps := reps, iA := none, ic := 0, inner := [] }, ⟨⟨hB, hc, hm, hB2, hc2, hm2, hfs, hfc, ham, fun r hr => (hB3 r hr).1, by show reps.length ≤ _; omega⟩, rfl, hR, hR2, hR3, by dsimp only; omega, by dsimp only; omega, by dsimp only; omega, wf_i64 wt, wf_i64 wtm, wf_i64 wg, fun r hr => (hB3 r hr).2⟩, ?_⟩
  rw [hall]; rfl
end Go.Proofs.YtlapmbkfmbkdoaaGreatDoor
end
section
namespace Go.Proofs.YtlapmbkfmbkdoaaGreatDoor
open Go Go.Fw Go.RowKit
end Go.Proofs.YtlapmbkfmbkdoaaGreatDoor
end
section
namespace Go.Proofs.YtlapmbkfmbkdoaaGreatDoor
open Go Go.Fw Go.RowKit
attribute [local irreducible] Go.Oper.wp Go.Code.wp Go.wpList Go.Fw.WL Go.Calls
theorem eg92 : Tryz.prog.eqGuardType Tryz.prog.depth 92 = false := by kernel_rfl
theorem eg45 : Tryz.prog.eqGuardType Tryz.prog.depth 45 = false := by kernel_rfl
theorem st72 : Tryz.prog.stoodInHeld 92 = false := by kernel_rfl
theorem st39 : Tryz.prog.stoodInHeld 45 = false := by kernel_rfl
theorem eq_ints {P : Program} {T E : TypeId} {k : IntKind} {len d : Nat} (hT : P.underlying T = some (.array len E)) (hE : P.underlying E = some (.int k)) (h1 : oneT P E = true) (hs : szT P E 1) (xs : Array Value) (u : Nat → Int) (hx : ∀ i, i < len → xs[i]? = some (.int k (u i))) : EqOk P (d + 2) T (.agg xs) (.agg xs) true := by
  have h := eq_arr (d := d + 1) hT hs xs xs (fun _ => true) (fun i => .int k (u i)) (fun i => .int k (u i)) (fun i hi w => run_part1 h1 (by rw [Nat.mul_one]; exact hx i hi)) (fun i hi w => run_part1 h1 (by rw [Nat.mul_one]; exact hx i hi)) (fun i _ w => by
    have := eq_int (P := P) (d := d) hE (u i) (u i) w
    rwa [decide_eq_true rfl] at this)
  have e : ((List.range len).all fun _ => true) = true := by simp
  rw [e] at h; exact h
theorem eq_int1 {P : Program} {T : TypeId} {k : IntKind} {d : Nat} (hT : P.underlying T = some (.int k)) (a : Int) : EqOk P (d + 1) T (.int k a) (.int k a) true := fun w => by
  have := eq_int (P := P) (d := d) hT a a w
  rwa [decide_eq_true rfl] at this
theorem eq_wide {d : Nat} (x : Nat) : EqOk Tryz.prog (d + 2) 32 (wv x) (wv x) true :=
  eq_ints Tryz.underlying32 Tryz.underlying30 one30 sz30 _ (fun i => ((dg x i : Nat) : Int)) fun i hi => by simpa using wc_at x i hi
theorem eq_addr {d : Nat} (f : Nat → Nat) : EqOk Tryz.prog (d + 2) 29 (.agg (adc f).toArray) (.agg (adc f).toArray) true :=
  eq_ints Tryz.underlying29 Tryz.underlying5 one5 sz5 _ (fun i => ((f i : Nat) : Int)) fun i hi => by
    have hE : adc f = (List.range 20).map fun i => Value.int .u8 ((f i : Nat) : Int) := rfl
    rw [hE]; simp [hi]
theorem ran_eq (v : Nat) (g : Int) : EqOk Tryz.prog Op.maxDepth 45 (.agg (wc v ++ [Value.int .i64 g]).toArray) (.agg (wc v ++ [Value.int .i64 g]).toArray) true := by
  have h := eq_str (P := Tryz.prog) (d := 9999) Tryz.underlying45 st39 (wc v ++ [Value.int .i64 g]).toArray (wc v ++ [Value.int .i64 g]).toArray (fun _ => true) (fun f => if f.offset = 0 then wv v else .int .i64 g) (fun f => if f.offset = 0 then wv v else .int .i64 g) (by
      intro f hf; simp at hf; rcases hf with rfl | rfl <;> decide)
    (by intro f hf w; simp at hf; rcases hf with rfl | rfl
        · exact run_partA agg32 sz32
        · exact run_part1 one3 rfl)
    (by intro f hf w; simp at hf; rcases hf with rfl | rfl
        · exact run_partA agg32 sz32
        · exact run_part1 one3 rfl)
    (by intro f hf; simp at hf; rcases hf with rfl | rfl
        · exact eq_wide v
        · exact eq_int1 Tryz.underlying3 g)
  exact h
theorem arr_at {l : List Value} {i : Nat} {v : Value} (h : l[i]? = some v) : l.toArray[i]? = some v := by simpa using h
theorem ask_eq' (k t : Int) (a b : Nat) (f : Nat → Nat) : EqOk Tryz.prog Op.maxDepth 92 (.agg (.int .i64 k :: (wc a ++ (wc b ++ (.int .i64 t :: adc f)))).toArray) (.agg (.int .i64 k :: (wc a ++ (wc b ++ (.int .i64 t :: adc f)))).toArray) true := by
  have p0 : ∀ w, (part 3 (.int .i64 k :: (wc a ++ (wc b ++ (.int .i64 t :: adc f)))).toArray 0).run Tryz.prog w = .ok (.int .i64 k) w := fun w => run_part1 (v := .int .i64 k) one3 (arr_at (List.getElem?_cons_zero ..))
  have p9 : ∀ w, (part 3 (.int .i64 k :: (wc a ++ (wc b ++ (.int .i64 t :: adc f)))).toArray 9).run Tryz.prog w = .ok (.int .i64 t) w := fun w => run_part1 one3 (arr_at rfl)
  have p1 : ∀ w, (part 32 (.int .i64 k :: (wc a ++ (wc b ++ (.int .i64 t :: adc f)))).toArray 1).run Tryz.prog w = .ok (wv a) w := fun w => run_partA agg32 sz32
  have p5 : ∀ w, (part 32 (.int .i64 k :: (wc a ++ (wc b ++ (.int .i64 t :: adc f)))).toArray 5).run Tryz.prog w = .ok (wv b) w := fun w => run_partA agg32 sz32
  have p10 : ∀ w, (part 29 (.int .i64 k :: (wc a ++ (wc b ++ (.int .i64 t :: adc f)))).toArray 10).run Tryz.prog w = .ok (.agg (adc f).toArray) w := fun w => by
    rw [run_partA agg29 sz29]
    simp [wc, adc]
  generalize (.int .i64 k :: (wc a ++ (wc b ++ (.int .i64 t :: adc f)))).toArray = X at *
  have h : ∀ u : Field → Value, (∀ f' : Field, f'.offset = 0 → u f' = .int .i64 k) → (∀ f' : Field, f'.offset = 1 → u f' = wv a) → (∀ f' : Field, f'.offset = 5 → u f' = wv b) → (∀ f' : Field, f'.offset = 9 → u f' = .int .i64 t) → (∀ f' : Field, f'.offset = 10 → u f' = .agg (adc f).toArray) → EqOk Tryz.prog (9999 + 1) 92 (.agg X) (.agg X) true := by
    intro u u0 u1 u5 u9 u10
    have h := eq_str (P := Tryz.prog) (d := 9999) Tryz.underlying92 st72 X X (fun _ => true) u u (by
        intro f hf; simp only [List.mem_cons, List.not_mem_nil, or_false] at hf; rcases hf with rfl | rfl | rfl | rfl | rfl <;> decide)
      (by intro f hf w; simp only [List.mem_cons, List.not_mem_nil, or_false] at hf; rcases hf with rfl | rfl | rfl | rfl | rfl
          · rw [u0 _ rfl]; exact p0 w
          · rw [u1 _ rfl]; exact p1 w
          · rw [u5 _ rfl]; exact p5 w
          · rw [u9 _ rfl]; exact p9 w
          · rw [u10 _ rfl]; exact p10 w)
      (by intro f hf w; simp only [List.mem_cons, List.not_mem_nil, or_false] at hf; rcases hf with rfl | rfl | rfl | rfl | rfl
          · rw [u0 _ rfl]; exact p0 w
          · rw [u1 _ rfl]; exact p1 w
          · rw [u5 _ rfl]; exact p5 w
          · rw [u9 _ rfl]; exact p9 w
          · rw [u10 _ rfl]; exact p10 w)
      (by intro f hf; simp only [List.mem_cons, List.not_mem_nil, or_false] at hf; rcases hf with rfl | rfl | rfl | rfl | rfl
          · rw [u0 _ rfl]; exact eq_int1 Tryz.underlying3 _
          · rw [u1 _ rfl]; exact eq_wide _
          · rw [u5 _ rfl]; exact eq_wide _
          · rw [u9 _ rfl]; exact eq_int1 Tryz.underlying3 _
          · rw [u10 _ rfl]; exact eq_addr _)
    exact h
  refine h (fun f' => if f'.offset = 0 then .int .i64 k else if f'.offset = 1 then wv a else if f'.offset = 5 then wv b else if f'.offset = 9 then .int .i64 t else .agg (adc f).toArray) ?_ ?_ ?_ ?_ ?_ <;> intro f' h <;> simp [h]
theorem ask_eq (q : Fw.Ask) : EqOk Tryz.prog Op.maxDepth 92 (.agg (askc q).toArray) (.agg (askc q).toArray) true := ask_eq' q.kind q.token q.a q.b (adF q.who)
def ask0 : Fw.Ask := ⟨0, 0, 0, 0, 0⟩
theorem asks_length (l : List Fw.Ask) : (l.flatMap askc).length = l.length * 30 := by
  induction l with
  | nil => rfl
  | cons r l ih => rw [List.flatMap_cons, List.length_append, ih, List.length_cons]; show 30 + _ = _; omega
theorem asks_at {l : List Fw.Ask} {k off : Nat} (hk : k < l.length) (ho : off = k * 30) : ∀ j v, (askc (l.getD k ask0))[j]? = some v → (l.flatMap askc)[off + j]? = some v := by
  subst ho
  induction l generalizing k with
  | nil => simp at hk
  | cons r l ih =>
    intro j v h
    have hj : j < 30 := by
      have := (List.getElem?_eq_some_iff.1 h).1
      exact this
    cases k with
    | zero =>
      rw [List.flatMap_cons, List.getElem?_append_left (by show _ < 30; omega), Nat.zero_mul, Nat.zero_add]
      simpa using h
    | succ k =>
      rw [List.flatMap_cons, List.getElem?_append_right (by show 30 ≤ _; omega)]
      have := ih (k := k) (by simpa using hk) j v (by simpa using h)
      rw [← this]
      congr 1
      show (k + 1) * 30 + j - 30 = k * 30 + j
      omega
theorem sameAsks_calls (A B : Option Addr) (c c2 : Nat) (l : List Fw.Ask) (w0 : World) (hA : Rd w0 A (l.flatMap askc)) (hB : Rd w0 B (l.flatMap askc)) (hl : l.length ≤ 9223372036854775807) : Ret Tryz.prog 23 [.slice A l.length c, .slice B l.length c2] w0 [] (fun v s => v = .bool true ∧ s = []) := by
 refine fn_start Tryz.func23 Y Tryz.ntmps23 Y [(0, .slice A l.length c), (1, .slice B l.length c2)] ⟨Y, Y, trivial⟩ ?_
 intro Q a hP J hR hN
 have G := St.start w0
 refine wp_seq_k fun K1 hK1=> wp_region_lit <| av J Y Y fun a J=> s0 <| then_n (hK1 _ _ <| wp_seq_k fun K2 hK2=> wp_seq_k fun K3 hK3=> wp_region_lit <| mv J Y Y fun a J=> sw J Y Y Y (R.len Tryz.underlying41 (J.ev Y)) fun a J=> mv J Y Y fun a J=> sw J Y Y Y (R.len Tryz.underlying41 (J.ev Y)) fun a J=> sw J Y Y Y (R.as (u := .bool false) (R.neq (p := ((l.length : Nat) : Int)) (q := ((l.length : Nat) : Int)) (J.ev Y) (J.ev Y)) (congrArg Value.bool (decide_eq_false (fun h=> h (Y))))) fun a J=> s0 <| then_n (hK3 _ _ <| cF J Y <| wp_skip <| then_n (hK2 _ _ <| wp_seq_k fun K4 hK4=> wp_seq_k fun K5 hK5=> wp_region_lit <| av J Y Y fun a J=> s0 <| then_n (hK5 _ _ ?_))))
 refine wp_block <| wp_loop_N (fun g a w=> ∃ (i : Nat), l.length - i = g ∧ Fr 26 [(0, .slice A l.length c), (1, .slice B l.length c2), (5, .int .i64 ((i : Nat) : Int))] a ∧ St w0 [] [] w ∧ (i ≤ l.length)) (l.length - 0) ?_ ?_
 ·exact ⟨0, Y, J.sub ⟨Y, Y, Y, trivial⟩, G.sel [] Y Y, by omega⟩
 rintro KL1 g a w ⟨i, hg1, J, G, hi⟩ hKL1
 refine wp_seq_k fun K6 hK6=> wp_seq_k fun K7 hK7=> wp_region_lit <| mv J Y Y fun a J=> mv J Y Y fun a J=> sw J Y Y Y (R.len Tryz.underlying41 (J.ev Y)) fun a J=> lS J Y Y Y fun a J=> s0 <| then_n (hK7 _ _ <| cD J Y (fun c2=> ?_) (fun c2=> ?_))
 ·refine wp_skip <| then_n (hK6 _ _ <| wp_seq_k fun K8 hK8=> wp_block <| wp_seq_k fun K9 hK9=> wp_drawS G [(0, 0), (1, 0), (2, 0), (3, 1), (4, 0), (5, 0), (6, 0), (7, 1), (8, 0)] mix (by kernel_rfl) (hP.then.block.then.then.block.then) fun w G=> ?_)
  have hD := G
  refine dm J Y Y Y fun a J=> dm J Y Y Y fun a J=> dv J Y Y Y Y (fun w=> R.indexO Tryz.underlying41 sz92 (J.ev Y) (Rd.ne hA (by rw [asks_length]; omega)) (J.ev Y) (by omega) (by omega)) fun a J=> ds J Y Y Y Y hD (fun w hD=> R.loadAO (cs := askc (l.getD i ask0)) agg92 (J.ev Y) (hA.old hD) sz92 Y (Nat.succ_pos _) (asks_at (k := i) (by omega) (by omega))) fun a J=> ?_
  refine dm J Y Y Y fun a J=> dm J Y Y Y fun a J=> dv J Y Y Y Y (fun w=> R.indexO Tryz.underlying41 sz92 (J.ev Y) (Rd.ne hB (by rw [asks_length]; omega)) (J.ev Y) (by omega) (by omega)) fun a J=> ds J Y Y Y Y hD (fun w hD=> R.loadAO (cs := askc (l.getD i ask0)) agg92 (J.ev Y) (hB.old hD) sz92 Y (Nat.succ_pos _) (asks_at (k := i) (by omega) (by omega))) fun a J=> ?_
  refine dv J Y Y Y Y (fun w=> R.as (u := .bool false) (R.neqAgg (J.ev Y) (J.ev Y) (ask_eq _) eg92) (Y)) fun a J=> d0 <| then_n (hK9 _ _ <| cF J Y <| wp_skip <| blk_n <| then_n (hK8 _ _ <| wp_region_lit <| mv J Y Y fun a J=> aI J Y Y Y (by omega) fun a J=> av J Y Y fun a J=> s0 <| then_n (hKL1 (l.length - (i + 1)) _ _ ?_ ?_)))
  ·omega
  exact ⟨i + 1, Y, J.sub ⟨Y, Y, (congrArg (fun z => some (Value.int .i64 z)) (by omega)), trivial⟩, G.sel [] Y Y, by omega⟩
 refine wp_exit (then_x (then_x (blk_hit <| then_n (hK4 _ _ <| wp_seq_k fun K10 hK10=> wp_region_lit <| av J Y Y fun a J=> s0 <| then_n (hK10 _ _ <| wp_ret (hR _ _ _ _ _ J (run_results Tryz.results23 (.t J Y (.nil))) ?_))))))
 exact ⟨_, [], Y, ⟨Y, Y⟩, G.none⟩
end Go.Proofs.YtlapmbkfmbkdoaaGreatDoor
end
section
namespace Go.Proofs.YtlapmbkfmbkdoaaGreatDoor
open Go Go.Fw Go.RowKit
end Go.Proofs.YtlapmbkfmbkdoaaGreatDoor
end
section
namespace Go.Proofs.YtlapmbkfmbkdoaaGreatDoor
open Go Go.Fw Go.RowKit
attribute [local irreducible] Go.Oper.wp Go.Code.wp Go.wpList Go.Fw.WL Go.Calls
def RunR (r : Played) (v : Value) (s : Seg) : Prop := ∃ A c, v = .tuple #[.agg (wc r.v ++ [Value.int .i64 r.gas]).toArray, .int .i64 r.e, .slice A r.asks.length c] ∧ OwnS s A r.asks.length c (r.asks.flatMap askc) 92 30
theorem Fx.Ok0.inner {F : Fx} (h : Fx.Ok0 F) (A : Option Addr) (c : Nat) (xs : List Nat) : Fx.Ok0 { F with iA := A, ic := c, inner := xs } := ⟨h.byt, h.cap, h.cap2, h.argsW, h.acap, h.acap2, h.self, h.caller, h.amount, h.reps, h.qlen⟩
theorem PlayIn.old {F : Fx} {w0 w : World} {bs : List Seg} (h : PlayIn F w0) (hS : St w0 [] bs w) : PlayIn F w := ⟨h.ok, h.inner, h.code.old hS, h.args.old hS, h.reps.old hS, h.b1, h.b2, h.b3, h.tok, h.time, h.gas, h.errs⟩
theorem playI (F : Fx) (B : Option Addr) (c : Nat) (xs : List Nat) (w0 : World) (hp : PlayIn F w0) (hI : Rd w0 B (byts xs)) (hB : Byt xs) (hc : xs.length ≤ c) (hc2 : c ≤ 9223372036854775807) : Ret Tryz.prog 22 [.agg (plays F).toArray, .slice B xs.length c] w0 [] (RunR (playN F.cl F.code F.rep)) :=
  lawrun_calls { F with iA := B, ic := c, inner := xs } w0 (hp.ok.inner B c xs) ⟨hB, hc, hc2⟩ hp.code hp.args hp.reps hI hp.b1 hp.b2 hp.b3
theorem play0 (F : Fx) (w0 : World) (hp : PlayIn F w0) : Ret Tryz.prog 22 [.agg (plays F).toArray, .slice none 0 0] w0 [] (RunR (playN F.cl F.code F.rep)) :=
  playI F none 0 [] w0 hp (Rd.nil _ _) (by intro x hx; simp at hx) (Nat.le_refl _) (Nat.zero_le _)
end Go.Proofs.YtlapmbkfmbkdoaaGreatDoor
end
section
namespace Go.Proofs.YtlapmbkfmbkdoaaGreatDoor
open Go Go.Fw Go.RowKit
attribute [local irreducible] Go.Oper.wp Go.Code.wp Go.wpList Go.Fw.WL Go.Calls
theorem rd_app {w : World} {A : Option Addr} {xs ys : List Value} (h : Rd w A (xs ++ ys)) : Rd w A xs := by
  have := h.sub xs.length
  rwa [List.take_left] at this
end Go.Proofs.YtlapmbkfmbkdoaaGreatDoor
end
section
namespace Go.Proofs.YtlapmbkfmbkdoaaGreatDoor
open Go Go.Fw Go.RowKit
attribute [local irreducible] Go.Oper.wp Go.Code.wp Go.wpList Go.Fw.WL Go.Calls
end Go.Proofs.YtlapmbkfmbkdoaaGreatDoor
end
section
namespace Go.Proofs.YtlapmbkfmbkdoaaGreatDoor
open Go Go.Fw Go.RowKit
attribute [local irreducible] Go.Oper.wp Go.Code.wp Go.wpList Go.Fw.WL Go.Calls
end Go.Proofs.YtlapmbkfmbkdoaaGreatDoor
end
section
namespace Go.Proofs.YtlapmbkfmbkdoaaGreatDoor
open Go Go.Fw Go.RowKit
attribute [local irreducible] Go.Oper.wp Go.Code.wp Go.wpList Go.Fw.WL Go.Calls
end Go.Proofs.YtlapmbkfmbkdoaaGreatDoor
end
section
namespace Go.Proofs.YtlapmbkfmbkdoaaGreatDoor
open Go Go.Fw Go.RowKit
attribute [local irreducible] Go.Oper.wp Go.Code.wp Go.wpList Go.Fw.WL Go.Calls
end Go.Proofs.YtlapmbkfmbkdoaaGreatDoor
end
section
namespace Go.Proofs.YtlapmbkfmbkdoaaGreatDoor
open Go Go.Fw Go.RowKit
section
variable {F : Fx} {stk : List Nat} {left p : Nat} {asks : List Fw.Ask}
end
theorem sz_push {xs : List Nat} {p : Nat} (h : sizeN xs p ≠ 0) (hc : cAt xs p = 2) : sizeN xs p = 2 + cAt xs (p + 1) ∧ 1 ≤ cAt xs (p + 1) ∧ cAt xs (p + 1) ≤ 32 := by
  revert h; unfold sizeN
  repeat' split
  all_goals omega
theorem sz_two {xs : List Nat} {p : Nat} (h : sizeN xs p ≠ 0) (hc : cAt xs p = 4 ∨ cAt xs p = 5 ∨ cAt xs p = 16) : sizeN xs p = 2 := by
  revert h; unfold sizeN
  repeat' split
  all_goals omega
theorem sz_three {xs : List Nat} {p : Nat} (h : sizeN xs p ≠ 0) (hc : cAt xs p = 14 ∨ cAt xs p = 15) : sizeN xs p = 3 := by
  revert h; unfold sizeN
  repeat' split
  all_goals omega
end Go.Proofs.YtlapmbkfmbkdoaaGreatDoor
end
section
namespace Go.Proofs.YtlapmbkfmbkdoaaGreatDoor
open Go Go.Fw Go.RowKit
attribute [local irreducible] Go.Oper.wp Go.Code.wp Go.wpList Go.Fw.WL Go.Calls
theorem chk_dec {xs : List Nat} : Value.bool (decide (¬ ((if chkN xs then 0 else 100 : Int) = 0))) = .bool (decide (chkN xs = false)) := by cases chkN xs <;> simp
end Go.Proofs.YtlapmbkfmbkdoaaGreatDoor
end
section
namespace Go.Proofs.YtlapmbkfmbkdoaaGreatDoor
open Go Go.Fw Go.RowKit
attribute [local irreducible] Go.Oper.wp Go.Code.wp Go.wpList Go.Fw.WL Go.Calls
theorem bstr_app (xs ys : List Nat) : bstr xs ++ bstr ys = bstr (xs ++ ys) := by
  apply ByteArray.ext
  simp [bstr]
theorem R.addS {P : Program} {w : World} {ρ : Operand → Value} {dst : Option Tmp} {ty : TypeId} {pos : String} {af : Array Edge} {g : Option (Nat × Bool)} {x y : Operand} {T T' : TypeId} {s t : ByteArray} (hx : ρ x = .string s) (hy : ρ y = .string t) (h : s.size + t.size ≤ 9223372036854775807) :
    (execOp ρ ⟨dst, .binOp .add T x y T', ty, pos, af, g⟩).run P w = .ok (.value (.string (s ++ t))) w := by
  have h2 : ¬ (((s.size + t.size : Nat) : Int) > IntKind.i64.max) := by
    have : IntKind.i64.max = 9223372036854775807 := rfl
    omega
  have hv : (Op.stringOp .add s t).run P w = .ok (.string (s ++ t)) w := by
    unfold Op.stringOp
    simp only [if_neg h2, Sem.run_pure]
  simp [execOp, hx, hy, eqGuard, binOp, hv, Sem.run_bind]
theorem R.catS {P : Program} {w : World} {ρ : Operand → Value} {dst : Option Tmp} {ty : TypeId} {pos : String} {af : Array Edge} {g : Option (Nat × Bool)} {x y : Operand} {T T' : TypeId} {xs ys : List Nat} (hx : ρ x = .string (bstr xs)) (hy : ρ y = .string (bstr ys)) (h : xs.length + ys.length ≤ 9223372036854775807) :
    (execOp ρ ⟨dst, .binOp .add T x y T', ty, pos, af, g⟩).run P w = .ok (.value (.string (bstr (xs ++ ys)))) w := by
  rw [← bstr_app]
  exact R.addS hx hy (by rw [size_bstr, size_bstr]; exact h)
def decS (n : Nat) : List Nat := (dec n).reverse.map (48 + ·)
def ddS (n : Nat) : List Nat := (dd n).reverse.map (48 + ·)
theorem decS_0 : decS 0 = [48] := by unfold decS; rw [dec_0]; rfl
theorem decS_pos {n : Nat} (h : n ≠ 0) : decS n = ddS n := by unfold decS ddS dec; rw [if_neg h]
theorem ddS_0 : ddS 0 = [] := by unfold ddS; rw [dd_0]; rfl
theorem ddS_step {n : Nat} (h : n ≠ 0) : ddS n = ddS (n / 10) ++ [48 + n % 10] := by unfold ddS; rw [dd_pos h]; simp
theorem len_decS {n : Nat} (h : n < 115792089237316195423570985008687907853269984665640564039457584007913129639936) : (decS n).length ≤ 78 := by
  unfold decS
  rw [List.length_map, List.length_reverse]
  exact length_dec_le (Nat.lt_of_lt_of_le h (by decide)) (by decide)
def namesL : List (List Nat) := [[115, 116, 111, 112], [100, 111, 110, 101], [112, 117, 115, 104], [112, 111, 112], [100, 117, 112], [115, 119, 97, 112], [97, 100, 100], [115, 117, 98], [109, 117, 108], [100, 105, 118], [109, 111, 100], [108, 101, 115, 115], [115, 97, 109, 101], [110, 111, 116], [106, 117, 109, 112], [119, 104, 101, 110], [97, 114, 103], [97, 114, 103, 115], [99, 97, 108, 108, 101, 114], [115, 101, 108, 102], [116, 111, 107, 101, 110], [97, 109, 111, 117, 110, 116], [116, 105, 109, 101], [103, 97, 115], [108, 111, 97, 100], [115, 97, 118, 101], [104, 97, 118, 101], [115, 101, 110, 100]]
def strs (l : List (List Nat)) : List Value := l.map fun x => .string (bstr x)
def nameN (c : Nat) : List Nat := namesL.getD c []
theorem strs_at {l : List (List Nat)} {i off : Nat} (h : i < l.length) (ho : off = i) : (strs l)[off]? = some (.string (bstr (l.getD i []))) := by
  subst ho; simp [strs, List.getD_eq_getElem?_getD, h]
def goN (code l : List Nat) (p : Nat) : Bool := l.any fun q => isJump code q && targetN code q == p
def operL (code : List Nat) (p : Nat) : List Nat :=
  if cAt code p = 2 then 32 :: decS (numB ((code.drop (p + 2)).take (sizeN code p - 2))) else
  if cAt code p = 4 ∨ cAt code p = 5 ∨ cAt code p = 16 then 32 :: decS (cAt code (p + 1)) else
  if cAt code p = 14 ∨ cAt code p = 15 then 32 :: 76 :: decS (targetN code p) else []
def labN (code l : List Nat) (p : Nat) : List Nat := if goN code l p then 76 :: (decS p ++ [58, 10]) else []
def lineN (code l : List Nat) (p : Nat) : List Nat := labN code l p ++ (nameN (cAt code p) ++ (operL code p ++ [10]))
def linesN (code l : List Nat) : List Nat → List Nat
  | [] => []
  | p :: r => lineN code l p ++ linesN code l r
def textN (code : List Nat) : List Nat := match placesN code with
  | some l => linesN code l l
  | none => []
theorem lines_snoc (code l : List Nat) (a : List Nat) (p : Nat) : linesN code l (a ++ [p]) = linesN code l a ++ lineN code l p := by
  induction a with
  | nil => simp [linesN]
  | cons x a ih => simp only [List.cons_append, linesN, ih, List.append_assoc]
theorem len_name (c : Nat) : (nameN c).length ≤ 6 := by
  by_cases h : c < 28
  · have : ∀ c, c < 28 → (nameN c).length ≤ 6 := by decide
    exact this c h
  · unfold nameN; rw [List.getD_eq_getElem?_getD, List.getElem?_eq_none (by show 28 ≤ c; omega)]; decide
end Go.Proofs.YtlapmbkfmbkdoaaGreatDoor
end
section
namespace Go.Proofs.YtlapmbkfmbkdoaaGreatDoor
open Go Go.Fw Go.RowKit
attribute [local irreducible] Go.Oper.wp Go.Code.wp Go.wpList Go.Fw.WL Go.Calls
theorem lab_T {xs l : List Nat} {p : Nat} (h : goN xs l p = true) : labN xs l p = 76 :: (decS p ++ [58, 10]) := if_pos h
theorem lab_F {xs l : List Nat} {p : Nat} (h : ¬ goN xs l p = true) : labN xs l p = [] := if_neg h
theorem op_2 {xs : List Nat} {p : Nat} (h : cAt xs p = 2) : operL xs p = 32 :: decS (numB ((xs.drop (p + 2)).take (sizeN xs p - 2))) := if_pos h
theorem op_4 {xs : List Nat} {p : Nat} (h : cAt xs p = 4 ∨ cAt xs p = 5 ∨ cAt xs p = 16) : operL xs p = 32 :: decS (cAt xs (p + 1)) := by unfold operL; rw [if_neg (by omega), if_pos h]
theorem op_j {xs : List Nat} {p : Nat} (h : cAt xs p = 14 ∨ cAt xs p = 15) : operL xs p = 32 :: 76 :: decS (targetN xs p) := by unfold operL; rw [if_neg (by omega), if_neg (by omega), if_pos h]
theorem op_n {xs : List Nat} {p : Nat} (h : ¬ (cAt xs p = 2 ∨ (cAt xs p = 4 ∨ cAt xs p = 5 ∨ cAt xs p = 16) ∨ (cAt xs p = 14 ∨ cAt xs p = 15))) : operL xs p = [] := by unfold operL; rw [if_neg (by omega), if_neg (by omega), if_neg (by omega)]
theorem text_of {xs l : List Nat} (h : placesN xs = some l) : textN xs = linesN xs l l := by unfold textN; rw [h]
theorem len_oper {xs : List Nat} {p : Nat} (hB : Byt xs) (_hp : p < xs.length) (hs : sizeN xs p ≠ 0) : (operL xs p).length ≤ 80 := by
  have h1 := cAt_lt hB (p + 1)
  have h2 := cAt_lt hB (p + 2)
  unfold operL
  split
  · rename_i h
    have hsp := sz_push hs h
    have := len_decS (n := numB ((xs.drop (p + 2)).take (sizeN xs p - 2))) (numB_lt32 (by rw [List.length_take]; omega) (fun d hd => hB d (List.drop_subset _ _ (List.take_subset _ _ hd))))
    rw [List.length_cons]; omega
  split
  · have := len_decS (n := cAt xs (p + 1)) (by omega)
    rw [List.length_cons]; omega
  split
  · have := len_decS (n := targetN xs p) (by unfold targetN; omega)
    rw [List.length_cons, List.length_cons]; omega
  · exact Nat.zero_le _
end Go.Proofs.YtlapmbkfmbkdoaaGreatDoor
end
section
namespace Go.Proofs.YtlapmbkfmbkdoaaGreatDoor
open Go Go.Fw Go.RowKit
attribute [local irreducible] Go.Oper.wp Go.Code.wp Go.wpList Go.Fw.WL Go.Calls
theorem len64_calls (x : Nat) (w0 : World) (hx : x < 18446744073709551616) : Ret Tryz.prog 147 [.int .u64 (x : Nat)] w0 [] (fun v s => v = .int .i64 ((bl x).length : Nat) ∧ s = []) := by
 refine fn_start Tryz.func147 Y Tryz.ntmps147 Y [(0, .int .u64 (x : Nat))] ⟨Y, trivial⟩ ?_
 intro Q a hP J hR hN
 have G := St.start w0
 refine wp_seq_k fun K1 hK1=> wp_region_lit <| av J Y Y fun a J=> s0 <| then_n (hK1 _ _ <| wp_seq_k fun K2 hK2=> ?_)
 have hK2' : ∀ a w, (∃ (y1 : Nat) (n1 : Nat), Fr 25 [(0, .int .u64 (y1 : Nat)), (2, .int .i64 (n1 : Nat))] a ∧ St w0 [] [] w ∧ (n1 + (bl y1).length = (bl x).length) ∧ (y1 < 4294967296) ∧ (n1 ≤ 32)) → K2 a w := by
  rintro a w ⟨y1, n1, J, G, e1, l1, m1⟩
  refine hK2 _ _ ?_
  refine wp_seq_k fun K3 hK3=> ?_
  have hK3' : ∀ a w, (∃ (y2 : Nat) (n2 : Nat), Fr 25 [(0, .int .u64 (y2 : Nat)), (2, .int .i64 (n2 : Nat))] a ∧ St w0 [] [] w ∧ (n2 + (bl y2).length = (bl x).length) ∧ (y2 < 65536) ∧ (n2 ≤ 48)) → K3 a w := by
   rintro a w ⟨y2, n2, J, G, e2, l2, m2⟩
   refine hK3 _ _ ?_
   refine wp_seq_k fun K4 hK4=> ?_
   have hK4' : ∀ a w, (∃ (y3 : Nat) (n3 : Nat), Fr 25 [(0, .int .u64 (y3 : Nat)), (2, .int .i64 (n3 : Nat))] a ∧ St w0 [] [] w ∧ (n3 + (bl y3).length = (bl x).length) ∧ (y3 < 256) ∧ (n3 ≤ 56)) → K4 a w := by
    rintro a w ⟨y3, n3, J, G, e3, l3, m3⟩
    refine hK4 _ _ ?_
    have h8 : (bl y3).length ≤ 8 := (length_bl_lt y3 8).2 l3
    refine wp_seq_k fun K5 hK5=> wp_region_lit <| mv J Y Y fun a J=> mv J Y Y fun a J=> sw J Y Y Y (R.as (R.convB Tryz.underlying30 Tryz.underlying5 (J.ev Y)) (by rw [Nat.mod_eq_of_lt l3])) fun a J=> sw J Y Y Y (R.lenTab (J.ev Y) (by kernel_rfl) (J.ev Y) l3) fun a J=> sw J Y Y Y (R.convI Tryz.underlying5 Tryz.underlying3 (J.ev Y) (by omega)) fun a J=> aI J Y Y Y (by omega) fun a J=> av J Y Y fun a J=> s0 <| then_n (hK5 _ _ <| wp_ret (hR _ _ _ _ _ J (run_results Tryz.results147 (.t J Y (.nil))) ?_))
    exact ⟨_, [], Y, ⟨congrArg (Value.int .i64) (by omega), Y⟩, G.none⟩
   refine wp_seq_k fun K6 hK6=> wp_region_lit <| mv J Y Y fun a J=> sw J Y Y Y (R.geq (J.ev Y) (J.ev Y)) fun a J=> s0 <| then_n (hK6 _ _ <| cD J Y (fun c1=> ?_) (fun c1=> ?_))
   ·refine wp_seq_k fun K7 hK7=> wp_region_lit <| mv J Y Y fun a J=> sw J Y Y Y (R.shrU (m := 8) (J.ev Y) (J.ev Y) (by decide)) fun a J=> av J Y Y fun a J=> s0 <| then_n (hK7 _ _ <| wp_region_lit <| mv J Y Y fun a J=> aI J Y Y Y (by omega) fun a J=> av J Y Y fun a J=> s0 ?_)
    exact then_n (hK4' _ _ ⟨y2 / 2 ^ 8, n2 + 8, J.sub ⟨Y, Y, trivial⟩, G.sel [] Y Y, by have := len_shr (x := y2) (k := 8) (by omega); omega, by omega, by omega⟩)
   refine wp_skip ?_
   exact then_n (hK4' _ _ ⟨y2, n2, J.sub ⟨Y, Y, trivial⟩, G.sel [] Y Y, by omega, by omega, by omega⟩)
  refine wp_seq_k fun K8 hK8=> wp_region_lit <| mv J Y Y fun a J=> sw J Y Y Y (R.geq (J.ev Y) (J.ev Y)) fun a J=> s0 <| then_n (hK8 _ _ <| cD J Y (fun c2=> ?_) (fun c2=> ?_))
  ·refine wp_seq_k fun K9 hK9=> wp_region_lit <| mv J Y Y fun a J=> sw J Y Y Y (R.shrU (m := 16) (J.ev Y) (J.ev Y) (by decide)) fun a J=> av J Y Y fun a J=> s0 <| then_n (hK9 _ _ <| wp_region_lit <| mv J Y Y fun a J=> aI J Y Y Y (by omega) fun a J=> av J Y Y fun a J=> s0 ?_)
   exact then_n (hK3' _ _ ⟨y1 / 2 ^ 16, n1 + 16, J.sub ⟨Y, Y, trivial⟩, G.sel [] Y Y, by have := len_shr (x := y1) (k := 16) (by omega); omega, by omega, by omega⟩)
  refine wp_skip ?_
  exact then_n (hK3' _ _ ⟨y1, n1, J.sub ⟨Y, Y, trivial⟩, G.sel [] Y Y, by omega, by omega, by omega⟩)
 refine wp_seq_k fun K10 hK10=> wp_region_lit <| mv J Y Y fun a J=> sw J Y Y Y (R.geq (J.ev Y) (J.ev Y)) fun a J=> s0 <| then_n (hK10 _ _ <| cD J Y (fun c3=> ?_) (fun c3=> ?_))
 ·refine wp_seq_k fun K11 hK11=> wp_region_lit <| mv J Y Y fun a J=> sw J Y Y Y (R.shrU (m := 32) (J.ev Y) (J.ev Y) (by decide)) fun a J=> av J Y Y fun a J=> s0 <| then_n (hK11 _ _ <| wp_region_lit <| av J Y Y fun a J=> s0 ?_)
  exact then_n (hK2' _ _ ⟨x / 2 ^ 32, 32, J.sub ⟨Y, Y, trivial⟩, G.sel [] Y Y, by have := len_shr (x := x) (k := 32) (by omega); omega, by omega, by omega⟩)
 refine wp_skip ?_
 exact then_n (hK2' _ _ ⟨x, 0, J.sub ⟨Y, Y, trivial⟩, G.sel [] Y Y, by omega, by omega, by omega⟩)
theorem lz64_calls (x : Nat) (w0 : World) (hx : x < 18446744073709551616) : Ret Tryz.prog 130 [.int .u64 (x : Nat)] w0 [] (fun v s => v = .int .i64 ((64 - (bl x).length : Nat) : Int) ∧ s = []) := by
 refine fn_start Tryz.func130 Y Tryz.ntmps130 Y [(0, .int .u64 (x : Nat))] ⟨Y, trivial⟩ ?_
 intro Q a hP J hR hN
 have G := St.start w0
 refine wp_seq_k fun K1 hK1=> wp_region_lit <| av J Y Y fun a J=> s0 <| then_n (hK1 _ _ <| wp_seq_k fun K2 hK2=> wp_region_lit <| mv J Y Y fun a J=> so (wn Y) (O.call Y Y J ent147 (J.evs Y) G (len64_calls x _ hx) fun v s4 a w hR J G=> ?_))
 obtain ⟨rfl, rfl⟩ := hR
 have hl := len64 hx
 refine sw J Y Y Y (R.subI (J.ev Y) (J.ev Y) (by omega)) fun a J=> av J Y Y fun a J=> s0 <| then_n (hK2 _ _ <| wp_ret (hR _ _ _ _ _ J (run_results Tryz.results130 (.t J Y (.nil))) ?_))
 exact ⟨_, [], Y, ⟨congrArg (Value.int .i64) (by omega), Y⟩, G.none⟩
theorem div64_calls (hi lo y : Nat) (w0 : World) (hhi : hi < y) (hlo : lo < 18446744073709551616) (hy2 : 9223372036854775808 ≤ y) (hy : y < 18446744073709551616) : Ret Tryz.prog 94 [.int .u64 ((hi : Nat) : Int), .int .u64 ((lo : Nat) : Int), .int .u64 ((y : Nat) : Int)] w0 [] (fun v s => v = .tuple #[.int .u64 (((hi * 18446744073709551616 + lo) / y : Nat) : Int), .int .u64 (((hi * 18446744073709551616 + lo) % y : Nat) : Int)] ∧ s = []) := by
 refine fn_start Tryz.func94 Y Tryz.ntmps94 Y [(0, .int .u64 ((hi : Nat) : Int)), (1, .int .u64 ((lo : Nat) : Int)), (2, .int .u64 ((y : Nat) : Int))] ⟨Y, Y, Y, trivial⟩ ?_
 intro Q a hP J hR hN
 have G := St.start w0
 have hhB : hi < 18446744073709551616 := Nat.lt_trans hhi hy
 have e64 : (bl y).length = 64 := by
  have h1 := len64 hy
  have h2 : ¬ (bl y).length ≤ 63 := fun h => by have := (length_bl_lt y 63).1 h; omega
  omega
 have hv1 : lo / 4294967296 < 4294967296 := by omega
 have hv0 : lo % 4294967296 < 4294967296 := by omega
 have hR1 : ((hi * 4294967296 + lo / 4294967296) % y) < y := Nat.mod_lt _ (by omega)
 have hNq : (hi * 18446744073709551616 + lo) / y < 18446744073709551616 := by
  rw [Nat.div_lt_iff_lt_mul (by omega)]
  have : (hi + 1) * 18446744073709551616 ≤ y * 18446744073709551616 := Nat.mul_le_mul_right _ hhi
  rw [Nat.mul_comm 18446744073709551616 y]
  omega
 refine wp_seq_k fun K1 hK1=> wp_region_lit <| av J Y Y fun a J=> av J Y Y fun a J=> s0 <| then_n (hK1 _ _ <| wp_seq_k fun K2 hK2=> wp_seq_k fun K3 hK3=> wp_region_lit <| mv J Y Y fun a J=> eL J Y Y Y fun a J=> s0 <| then_n (hK3 _ _ <| cD J Y (fun z0=> ?_) (fun z0=> ?_)))
 ·exfalso; omega
 refine wp_skip <| then_n (hK2 _ _ <| wp_seq_k fun K4 hK4=> wp_seq_k fun K5 hK5=> wp_region_lit <| mv J Y Y fun a J=> mv J Y Y fun a J=> sw J Y Y Y (R.leq (J.ev Y) (J.ev Y)) fun a J=> s0 <| then_n (hK5 _ _ <| cD J Y (fun z1=> ?_) (fun z1=> ?_)))
 ·exfalso; omega
 refine wp_skip <| then_n (hK4 _ _ <| wp_seq_k fun K6 hK6=> wp_seq_k fun K7 hK7=> wp_region_lit <| mv J Y Y fun a J=> eL J Y Y Y fun a J=> s0 <| then_n (hK7 _ _ <| cD J Y (fun z2=> ?_) (fun z2=> ?_)))
 ·refine wp_seq_k fun K8 hK8=> wp_drawS G [(0, 0), (1, 0), (2, 0), (3, 0), (4, 0), (5, 0), (6, 0), (7, 0)] mix (by kernel_rfl) (hP.then.then) fun w G=> ?_
  have hD := G
  refine dm J Y Y Y fun a J=> dm J Y Y Y fun a J=> dv J Y Y Y Y (fun w=> R.quoU (J.ev Y) (J.ev Y) (by omega) (by omega)) fun a J=> dm J Y Y Y fun a J=> dm J Y Y Y fun a J=> dv J Y Y Y Y (fun w=> R.remU (J.ev Y) (J.ev Y) (by omega)) fun a J=> da J Y Y Y fun a J=> da J Y Y Y fun a J=> d0 <| then_n (hK8 _ _ <| wp_ret (then_r (hR _ _ _ _ _ J (run_results Tryz.results94 (.t J Y (.t J Y (.nil)))) ?_)))
  exact ⟨_, [], Y, ⟨by (have h0 : hi = 0 := by omega); subst h0; simp only [Nat.zero_mul, Nat.zero_add]; rfl, Y⟩, G.none⟩
 refine wp_skip <| then_n (hK6 _ _ <| wp_seq_k fun K9 hK9=> wp_region_lit <| mv J Y Y fun a J=> so (wn Y) (O.call Y Y J ent130 (J.evs Y) G (lz64_calls y _ hy) fun v s35 a w hR J G=> ?_))
 obtain ⟨rfl, rfl⟩ := hR
 refine sw J Y Y Y (R.as (u := .int .u64 ((0 : Nat) : Int)) (R.convU Tryz.underlying3 Tryz.underlying126 (J.ev Y)) (by rw [e64])) fun a J=> av J Y Y fun a J=> s0 <| then_n (hK9 _ _ <| wp_seq_k fun K10 hK10=> wp_region_lit <| mv J Y Y fun a J=> mv J Y Y fun a J=> sw J Y Y Y (R.as (u := .int .u64 ((y : Nat) : Int)) (R.shlU (m := 0) (J.ev Y) (J.ev Y) (by decide)) (by rw [Nat.pow_zero, Nat.mul_one, Nat.mod_eq_of_lt hy])) fun a J=> av J Y Y fun a J=> s0 <| then_n (hK10 _ _ <| wp_seq_k fun K11 hK11=> wp_region_lit <| mv J Y Y fun a J=> sw J Y Y Y (R.as (u := .int .u64 (((y / 4294967296) : Nat) : Int)) (R.shrU (m := 32) (J.ev Y) (J.ev Y) (by decide)) (Y)) fun a J=> av J Y Y fun a J=> s0 <| then_n (hK11 _ _ <| wp_seq_k fun K12 hK12=> wp_region_lit <| mv J Y Y fun a J=> sw J Y Y Y (R.as (u := .int .u64 (((y % 4294967296) : Nat) : Int)) (R.andU (q := 4294967295) (J.ev Y) (J.ev Y) hy (by decide)) (by rw [and32n])) fun a J=> av J Y Y fun a J=> ?_)))
 refine s0 <| then_n (hK12 _ _ <| wp_seq_k fun K13 hK13=> wp_region_lit <| mv J Y Y fun a J=> mv J Y Y fun a J=> sw J Y Y Y (R.as (u := .int .u64 ((hi : Nat) : Int)) (R.shlU (m := 0) (J.ev Y) (J.ev Y) (by decide)) (by rw [Nat.pow_zero, Nat.mul_one, Nat.mod_eq_of_lt hhB])) fun a J=> mv J Y Y fun a J=> mv J Y Y fun a J=> sw J Y Y Y (R.as (u := .int .u64 ((64 : Nat) : Int)) (R.subU (p := 64) (q := 0) (J.ev Y) (J.ev Y) (by decide)) (Y)) fun a J=> sw J Y Y Y (R.as (u := .int .u64 ((0 : Nat) : Int)) (R.shrU (m := 64) (J.ev Y) (J.ev Y) (by decide)) (by rw [Nat.div_eq_of_lt (show lo < 2 ^ 64 from hlo)])) fun a J=> sw J Y Y Y (R.as (u := .int .u64 ((hi : Nat) : Int)) (R.orU (q := 0) (J.ev Y) (J.ev Y) hhB (by decide)) (by rw [Nat.or_zero])) fun a J=> av J Y Y fun a J=> s0 <| then_n (hK13 _ _ <| wp_seq_k fun K14 hK14=> wp_region_lit <| mv J Y Y fun a J=> mv J Y Y fun a J=> sw J Y Y Y (R.as (u := .int .u64 ((lo : Nat) : Int)) (R.shlU (m := 0) (J.ev Y) (J.ev Y) (by decide)) (by rw [Nat.pow_zero, Nat.mul_one, Nat.mod_eq_of_lt hlo])) fun a J=> av J Y Y fun a J=> s0 <| then_n (hK14 _ _ <| wp_seq_k fun K15 hK15=> ?_)))
 refine wp_region_lit <| mv J Y Y fun a J=> sw J Y Y Y (R.as (u := .int .u64 ((lo / 4294967296 : Nat) : Int)) (R.shrU (m := 32) (J.ev Y) (J.ev Y) (by decide)) (Y)) fun a J=> av J Y Y fun a J=> s0 <| then_n (hK15 _ _ <| wp_seq_k fun K16 hK16=> wp_region_lit <| mv J Y Y fun a J=> sw J Y Y Y (R.as (u := .int .u64 ((lo % 4294967296 : Nat) : Int)) (R.andU (q := 4294967295) (J.ev Y) (J.ev Y) hlo (by decide)) (by rw [and32n])) fun a J=> av J Y Y fun a J=> s0 <| then_n (hK16 _ _ <| wp_seq_k fun K17 hK17=> wp_region_lit <| mv J Y Y fun a J=> mv J Y Y fun a J=> sw J Y Y Y (R.quoU (J.ev Y) (J.ev Y) (by omega) (by omega)) fun a J=> av J Y Y fun a J=> s0 <| then_n (hK17 _ _ <| wp_seq_k fun K18 hK18=> wp_region_lit <| mv J Y Y fun a J=> ?_)))
 refine mv J Y Y fun a J=> mv J Y Y fun a J=> sw J Y Y Y (R.mulU (J.ev Y) (J.ev Y)) fun a J=> sw J Y Y Y (R.as (u := .int .u64 ((hi % (y / 4294967296) : Nat) : Int)) (R.subU (J.ev Y) (J.ev Y) (by omega)) (congrArg (fun z : Nat=> Value.int .u64 (z : Int)) (by have := (q_start hy2 hv1 hhi).1; omega))) fun a J=> av J Y Y fun a J=> s0 <| then_n (hK18 _ _ <| wp_seq_k fun K19 hK19=> ?_)
 have hK19' : ∀ a w, (Fr 135 [(2, .int .u64 ((y : Nat) : Int)), (8, .int .u64 ((0 : Nat) : Int)), (9, .int .u64 (((y / 4294967296) : Nat) : Int)), (10, .int .u64 (((y % 4294967296) : Nat) : Int)), (11, .int .u64 ((hi : Nat) : Int)), (13, .int .u64 ((lo / 4294967296 : Nat) : Int)), (14, .int .u64 ((lo % 4294967296 : Nat) : Int)), (15, .int .u64 ((((hi * 4294967296 + lo / 4294967296) / y) : Nat) : Int))] a ∧ St w0 [] [] w) → K19 a w := by
  rintro a w ⟨J, G⟩
  refine hK19 _ _ ?_
  refine wp_seq_k fun K20 hK20=> wp_region_lit <| mv J Y Y fun a J=> sw J Y Y Y (R.mulU (q := 4294967296) (J.ev Y) (J.ev Y)) fun a J=> mv J Y Y fun a J=> sw J Y Y Y (R.addU (J.ev Y) (J.ev Y)) fun a J=> mv J Y Y fun a J=> mv J Y Y fun a J=> sw J Y Y Y (R.mulU (J.ev Y) (J.ev Y)) fun a J=> sw J Y Y Y (R.as (u := .int .u64 ((((hi * 4294967296 + lo / 4294967296) % y) : Nat) : Int)) (R.subU (J.ev Y) (J.ev Y) (by omega)) (congrArg (fun z : Nat=> Value.int .u64 (z : Int)) (rest_is rest_of (by omega)))) fun a J=> av J Y Y fun a J=> s0 <| then_n (hK20 _ _ <| wp_seq_k fun K21 hK21=> wp_region_lit <| mv J Y Y fun a J=> mv J Y Y fun a J=> sw J Y Y Y (R.quoU (J.ev Y) (J.ev Y) (by omega) (by omega)) fun a J=> av J Y Y fun a J=> s0 <| then_n (hK21 _ _ <| wp_seq_k fun K22 hK22=> wp_region_lit <| mv J Y Y fun a J=> ?_))
  refine mv J Y Y fun a J=> mv J Y Y fun a J=> sw J Y Y Y (R.mulU (J.ev Y) (J.ev Y)) fun a J=> sw J Y Y Y (R.as (u := .int .u64 ((((hi * 4294967296 + lo / 4294967296) % y) % (y / 4294967296) : Nat) : Int)) (R.subU (J.ev Y) (J.ev Y) (by omega)) (congrArg (fun z : Nat=> Value.int .u64 (z : Int)) (by have := (q_start hy2 hv0 hR1).1; omega))) fun a J=> av J Y Y fun a J=> s0 <| then_n (hK22 _ _ <| wp_seq_k fun K23 hK23=> ?_)
  have hK23' : ∀ a w, (Fr 135 [(2, .int .u64 ((y : Nat) : Int)), (8, .int .u64 ((0 : Nat) : Int)), (9, .int .u64 (((y / 4294967296) : Nat) : Int)), (10, .int .u64 (((y % 4294967296) : Nat) : Int)), (14, .int .u64 ((lo % 4294967296 : Nat) : Int)), (15, .int .u64 ((((hi * 4294967296 + lo / 4294967296) / y) : Nat) : Int)), (17, .int .u64 ((((hi * 4294967296 + lo / 4294967296) % y) : Nat) : Int)), (18, .int .u64 ((((((hi * 4294967296 + lo / 4294967296) % y) * 4294967296 + lo % 4294967296) / y) : Nat) : Int))] a ∧ St w0 [] [] w) → K23 a w := by
   rintro a w ⟨J, G⟩
   refine hK23 _ _ ?_
   refine wp_seq_k fun K24 hK24=> wp_region_lit <| mv J Y Y fun a J=> sw J Y Y Y (R.mulU (q := 4294967296) (J.ev Y) (J.ev Y)) fun a J=> mv J Y Y fun a J=> sw J Y Y Y (R.as (u := .int .u64 (((hi * 18446744073709551616 + lo) / y : Nat) : Int)) (R.addU (J.ev Y) (J.ev Y)) (congrArg (fun z : Nat=> Value.int .u64 (z : Int)) (by rw [(div64_law (show 0 < y by omega)).1] at hNq ⊢; exact sum_is hNq))) fun a J=> mv J Y Y fun a J=> sw J Y Y Y (R.mulU (q := 4294967296) (J.ev Y) (J.ev Y)) fun a J=> mv J Y Y fun a J=> sw J Y Y Y (R.addU (J.ev Y) (J.ev Y)) fun a J=> mv J Y Y fun a J=> mv J Y Y fun a J=> sw J Y Y Y (R.mulU (J.ev Y) (J.ev Y)) fun a J=> sw J Y Y Y (R.as (u := .int .u64 (((hi * 18446744073709551616 + lo) % y : Nat) : Int)) (R.subU (J.ev Y) (J.ev Y) (by omega)) (congrArg (fun z : Nat=> Value.int .u64 (z : Int)) (by rw [(div64_law (show 0 < y by omega)).2]; exact rest_is rest_of (Nat.lt_trans (Nat.mod_lt _ (by omega)) hy)))) fun a J=> mv J Y Y fun a J=> sw J Y Y Y (R.as (u := .int .u64 (((hi * 18446744073709551616 + lo) % y : Nat) : Int)) (R.shrU (m := 0) (J.ev Y) (J.ev Y) (by decide)) (by rw [Nat.pow_zero, Nat.div_one])) fun a J=> av J Y Y fun a J=> av J Y Y fun a J=> s0 <| then_n (hK24 _ _ <| wp_ret (hR _ _ _ _ _ J (run_results Tryz.results94 (.t J Y (.t J Y (.nil)))) ?_))
   exact ⟨_, [], Y, ⟨Y, Y⟩, G.none⟩
  refine wp_block <| wp_loop_N (fun g a w=> ∃ (q : Nat) (r : Nat), q = g ∧ Fr 135 [(2, .int .u64 ((y : Nat) : Int)), (8, .int .u64 ((0 : Nat) : Int)), (9, .int .u64 (((y / 4294967296) : Nat) : Int)), (10, .int .u64 (((y % 4294967296) : Nat) : Int)), (14, .int .u64 ((lo % 4294967296 : Nat) : Int)), (15, .int .u64 ((((hi * 4294967296 + lo / 4294967296) / y) : Nat) : Int)), (17, .int .u64 ((((hi * 4294967296 + lo / 4294967296) % y) : Nat) : Int)), (18, .int .u64 ((q : Nat) : Int)), (16, .int .u64 ((r : Nat) : Int))] a ∧ St w0 [] [] w ∧ (q * (y / 4294967296) + r = ((hi * 4294967296 + lo / 4294967296) % y)) ∧ ((((hi * 4294967296 + lo / 4294967296) % y) * 4294967296 + lo % 4294967296) / y ≤ q) ∧ (q ≤ 4294967297) ∧ (r < 4294967296)) (((hi * 4294967296 + lo / 4294967296) % y) / (y / 4294967296)) ?_ ?_
  ·exact ⟨((hi * 4294967296 + lo / 4294967296) % y) / (y / 4294967296), ((hi * 4294967296 + lo / 4294967296) % y) % (y / 4294967296), Y, J.sub ⟨Y, Y, Y, Y, Y, Y, Y, Y, Y, trivial⟩, G.sel [] Y Y, (q_start hy2 hv0 hR1).1, (q_start hy2 hv0 hR1).2.1, (q_start hy2 hv0 hR1).2.2, by have := Nat.mod_lt ((hi * 4294967296 + lo / 4294967296) % y) (show 0 < (y / 4294967296) by omega); omega⟩
  rintro KL1 g a w ⟨q, r, hg1, J, G, hq, hge, hqm, hr⟩ hKL1
  refine wp_seq_k fun K25 hK25=> wp_seq_k fun K26 hK26=> ?_
  have hK26' : ∀ a w, (Fr 135 [(2, .int .u64 ((y : Nat) : Int)), (8, .int .u64 ((0 : Nat) : Int)), (9, .int .u64 (((y / 4294967296) : Nat) : Int)), (10, .int .u64 (((y % 4294967296) : Nat) : Int)), (14, .int .u64 ((lo % 4294967296 : Nat) : Int)), (15, .int .u64 ((((hi * 4294967296 + lo / 4294967296) / y) : Nat) : Int)), (17, .int .u64 ((((hi * 4294967296 + lo / 4294967296) % y) : Nat) : Int)), (18, .int .u64 ((q : Nat) : Int)), (16, .int .u64 ((r : Nat) : Int)), (113, .bool (decide (4294967296 ≤ q ∨ 4294967296 * r + lo % 4294967296 < q * (y % 4294967296))))] a ∧ St w0 [] [] w) → K26 a w := by
   rintro a w ⟨J, G⟩
   refine hK26 _ _ ?_
   refine cD J Y (fun z4=> ?_) (fun z4=> ?_)
   ·have hn := q_next hv0 hR1 hq hge (by omega)
    refine wp_skip <| then_n (hK25 _ _ <| wp_block <| wp_seq_k fun K27 hK27=> wp_region_lit <| mv J Y Y fun a J=> sw J Y Y Y (R.as (u := .int .u64 ((q - 1 : Nat) : Int)) (R.subU (q := 1) (J.ev Y) (J.ev Y) (by decide)) (congrArg (fun z : Nat=> Value.int .u64 (z : Int)) (by omega))) fun a J=> av J Y Y fun a J=> s0 <| then_n (hK27 _ _ <| wp_seq_k fun K28 hK28=> wp_region_lit <| mv J Y Y fun a J=> mv J Y Y fun a J=> sw J Y Y Y (R.as (u := .int .u64 ((r + (y / 4294967296) : Nat) : Int)) (R.addU (J.ev Y) (J.ev Y)) (congrArg (fun z : Nat=> Value.int .u64 (z : Int)) (by omega))) fun a J=> av J Y Y fun a J=> s0 <| then_n (hK28 _ _ <| wp_seq_k fun K29 hK29=> wp_region_lit <| mv J Y Y fun a J=> sw J Y Y Y (R.geq (J.ev Y) (J.ev Y)) fun a J=> s0 <| then_n (hK29 _ _ ?_))))
    refine cD J Y (fun z6=> ?_) (fun z6=> ?_)
    ·refine wp_exit (blk_miss Y (then_x (blk_hit ?_)))
     exact then_n (hK23' _ _ ⟨J.sub ⟨Y, Y, Y, Y, Y, Y, Y, (congrArg (fun z : Nat => some (Value.int .u64 (z : Int))) (q_exit hy2 hv0 hR1 hq hge hqm (by omega) (by omega))), trivial⟩, G.sel [] Y Y⟩)
    refine wp_skip <| blk_n <| then_n (hKL1 (q - 1) _ _ ?_ ?_)
    ·omega
    exact ⟨q - 1, r + (y / 4294967296), Y, J.sub ⟨Y, Y, Y, Y, Y, Y, Y, Y, Y, trivial⟩, G.sel [] Y Y, hn.2.1, hn.1, by omega, by omega⟩
   refine wp_exit (then_x (then_x (blk_hit ?_)))
   exact then_n (hK23' _ _ ⟨J.sub ⟨Y, Y, Y, Y, Y, Y, Y, (congrArg (fun z : Nat => some (Value.int .u64 (z : Int))) (q_stop hy2 hq hge (by omega))), trivial⟩, G.sel [] Y Y⟩)
  refine wp_region_lit <| mv J Y Y fun a J=> sw J Y Y Y (R.geq (J.ev Y) (J.ev Y)) fun a J=> mv J Y Y fun a J=> J.splitD (t := 104) Y (fun h104 J=> ?_) (fun h104 J=> ?_)
  ·refine kz J Y Y Y Y Y Y fun a J=> kz J Y Y Y Y Y Y fun a J=> kz J Y Y Y Y Y Y fun a J=> kz J Y Y Y Y Y Y fun a J=> kz J Y Y Y Y Y Y fun a J=> kz J Y Y Y Y Y Y fun a J=> kz J Y Y Y Y Y Y fun a J=> kz J Y Y Y Y Y Y fun a J=> pT J Y Y Y fun a J=> s0 ?_
   exact then_n (hK26' _ _ ⟨J.sub ⟨Y, Y, Y, Y, Y, Y, Y, Y, Y, (congrArg (fun z => some (Value.bool z)) (by first | exact (decide_eq_true (by omega)).symm | exact decide_eq_decide.2 (by omega))), trivial⟩, G.sel [] Y Y⟩)
  have hqy : q * (y % 4294967296) ≤ 4294967295 * 4294967295 := Nat.mul_le_mul (by omega) (by omega)
  refine my J Y Y Y Y fun a J=> my J Y Y Y Y fun a J=> sv' J (wy J Y Y Y) Y Y (R.mulU (J.ev Y) (J.ev Y)) fun a J=> my J Y Y Y Y fun a J=> sv' J (wy J Y Y Y) Y Y (R.mulU (p := 4294967296) (J.ev Y) (J.ev Y)) fun a J=> my J Y Y Y Y fun a J=> sv' J (wy J Y Y Y) Y Y (R.addU (J.ev Y) (J.ev Y)) fun a J=> sv' J (wy J Y Y Y) Y Y (R.gtr (J.ev Y) (J.ev Y)) fun a J=> pF J Y Y Y fun a J=> s0 ?_
  exact then_n (hK26' _ _ ⟨J.sub ⟨Y, Y, Y, Y, Y, Y, Y, Y, Y, (congrArg (fun z => some (Value.bool z)) (by first | exact (decide_eq_true (by omega)).symm | exact decide_eq_decide.2 (by omega))), trivial⟩, G.sel [] Y Y⟩)
 refine wp_block <| wp_loop_N (fun g a w=> ∃ (q : Nat) (r : Nat), q = g ∧ Fr 135 [(2, .int .u64 ((y : Nat) : Int)), (8, .int .u64 ((0 : Nat) : Int)), (9, .int .u64 (((y / 4294967296) : Nat) : Int)), (10, .int .u64 (((y % 4294967296) : Nat) : Int)), (11, .int .u64 ((hi : Nat) : Int)), (12, .int .u64 ((lo : Nat) : Int)), (13, .int .u64 ((lo / 4294967296 : Nat) : Int)), (14, .int .u64 ((lo % 4294967296 : Nat) : Int)), (15, .int .u64 ((q : Nat) : Int)), (16, .int .u64 ((r : Nat) : Int))] a ∧ St w0 [] [] w ∧ (q * (y / 4294967296) + r = hi) ∧ ((hi * 4294967296 + lo / 4294967296) / y ≤ q) ∧ (q ≤ 4294967297) ∧ (r < 4294967296)) (hi / (y / 4294967296)) ?_ ?_
 ·exact ⟨hi / (y / 4294967296), hi % (y / 4294967296), Y, J.sub ⟨Y, Y, Y, Y, Y, Y, Y, Y, Y, Y, trivial⟩, G.sel [] Y Y, (q_start hy2 hv1 hhi).1, (q_start hy2 hv1 hhi).2.1, (q_start hy2 hv1 hhi).2.2, by have := Nat.mod_lt hi (show 0 < (y / 4294967296) by omega); omega⟩
 rintro KL2 g a w ⟨q, r, hg2, J, G, hq, hge, hqm, hr⟩ hKL2
 refine wp_seq_k fun K30 hK30=> wp_seq_k fun K31 hK31=> ?_
 have hK31' : ∀ a w, (Fr 135 [(2, .int .u64 ((y : Nat) : Int)), (8, .int .u64 ((0 : Nat) : Int)), (9, .int .u64 (((y / 4294967296) : Nat) : Int)), (10, .int .u64 (((y % 4294967296) : Nat) : Int)), (11, .int .u64 ((hi : Nat) : Int)), (12, .int .u64 ((lo : Nat) : Int)), (13, .int .u64 ((lo / 4294967296 : Nat) : Int)), (14, .int .u64 ((lo % 4294967296 : Nat) : Int)), (15, .int .u64 ((q : Nat) : Int)), (16, .int .u64 ((r : Nat) : Int)), (78, .bool (decide (4294967296 ≤ q ∨ 4294967296 * r + lo / 4294967296 < q * (y % 4294967296))))] a ∧ St w0 [] [] w) → K31 a w := by
  rintro a w ⟨J, G⟩
  refine hK31 _ _ ?_
  refine cD J Y (fun z3=> ?_) (fun z3=> ?_)
  ·have hn := q_next hv1 hhi hq hge (by omega)
   refine wp_skip <| then_n (hK30 _ _ <| wp_block <| wp_seq_k fun K32 hK32=> wp_region_lit <| mv J Y Y fun a J=> sw J Y Y Y (R.as (u := .int .u64 ((q - 1 : Nat) : Int)) (R.subU (q := 1) (J.ev Y) (J.ev Y) (by decide)) (congrArg (fun z : Nat=> Value.int .u64 (z : Int)) (by omega))) fun a J=> av J Y Y fun a J=> s0 <| then_n (hK32 _ _ <| wp_seq_k fun K33 hK33=> wp_region_lit <| mv J Y Y fun a J=> mv J Y Y fun a J=> sw J Y Y Y (R.as (u := .int .u64 ((r + (y / 4294967296) : Nat) : Int)) (R.addU (J.ev Y) (J.ev Y)) (congrArg (fun z : Nat=> Value.int .u64 (z : Int)) (by omega))) fun a J=> av J Y Y fun a J=> s0 <| then_n (hK33 _ _ <| wp_seq_k fun K34 hK34=> wp_region_lit <| mv J Y Y fun a J=> sw J Y Y Y (R.geq (J.ev Y) (J.ev Y)) fun a J=> s0 <| then_n (hK34 _ _ ?_))))
   refine cD J Y (fun z5=> ?_) (fun z5=> ?_)
   ·refine wp_exit (blk_miss Y (then_x (blk_hit ?_)))
    exact then_n (hK19' _ _ ⟨J.sub ⟨Y, Y, Y, Y, Y, Y, Y, (congrArg (fun z : Nat => some (Value.int .u64 (z : Int))) (q_exit hy2 hv1 hhi hq hge hqm (by omega) (by omega))), trivial⟩, G.sel [] Y Y⟩)
   refine wp_skip <| blk_n <| then_n (hKL2 (q - 1) _ _ ?_ ?_)
   ·omega
   exact ⟨q - 1, r + (y / 4294967296), Y, J.sub ⟨Y, Y, Y, Y, Y, Y, Y, Y, Y, Y, trivial⟩, G.sel [] Y Y, hn.2.1, hn.1, by omega, by omega⟩
  refine wp_exit (then_x (then_x (blk_hit ?_)))
  exact then_n (hK19' _ _ ⟨J.sub ⟨Y, Y, Y, Y, Y, Y, Y, (congrArg (fun z : Nat => some (Value.int .u64 (z : Int))) (q_stop hy2 hq hge (by omega))), trivial⟩, G.sel [] Y Y⟩)
 refine wp_region_lit <| mv J Y Y fun a J=> sw J Y Y Y (R.geq (J.ev Y) (J.ev Y)) fun a J=> mv J Y Y fun a J=> J.splitD (t := 69) Y (fun h69 J=> ?_) (fun h69 J=> ?_)
 ·refine kz J Y Y Y Y Y Y fun a J=> kz J Y Y Y Y Y Y fun a J=> kz J Y Y Y Y Y Y fun a J=> kz J Y Y Y Y Y Y fun a J=> kz J Y Y Y Y Y Y fun a J=> kz J Y Y Y Y Y Y fun a J=> kz J Y Y Y Y Y Y fun a J=> kz J Y Y Y Y Y Y fun a J=> pT J Y Y Y fun a J=> s0 ?_
  exact then_n (hK31' _ _ ⟨J.sub ⟨Y, Y, Y, Y, Y, Y, Y, Y, Y, Y, (congrArg (fun z => some (Value.bool z)) (by first | exact (decide_eq_true (by omega)).symm | exact decide_eq_decide.2 (by omega))), trivial⟩, G.sel [] Y Y⟩)
 have hqy : q * (y % 4294967296) ≤ 4294967295 * 4294967295 := Nat.mul_le_mul (by omega) (by omega)
 refine my J Y Y Y Y fun a J=> my J Y Y Y Y fun a J=> sv' J (wy J Y Y Y) Y Y (R.mulU (J.ev Y) (J.ev Y)) fun a J=> my J Y Y Y Y fun a J=> sv' J (wy J Y Y Y) Y Y (R.mulU (p := 4294967296) (J.ev Y) (J.ev Y)) fun a J=> my J Y Y Y Y fun a J=> sv' J (wy J Y Y Y) Y Y (R.addU (J.ev Y) (J.ev Y)) fun a J=> sv' J (wy J Y Y Y) Y Y (R.gtr (J.ev Y) (J.ev Y)) fun a J=> pF J Y Y Y fun a J=> s0 ?_
 exact then_n (hK31' _ _ ⟨J.sub ⟨Y, Y, Y, Y, Y, Y, Y, Y, Y, Y, (congrArg (fun z => some (Value.bool z)) (by first | exact (decide_eq_true (by omega)).symm | exact decide_eq_decide.2 (by omega))), trivial⟩, G.sel [] Y Y⟩)
theorem text_calls (x : Nat) (w0 : World) (hx : x < 115792089237316195423570985008687907853269984665640564039457584007913129639936) : Ret Tryz.prog 38 [wv x] w0 [] (fun v s => v = .string (bstr (txt x)) ∧ s = []) := by
 refine fn_start Tryz.func38 Y Tryz.ntmps38 Y [(0, wv x)] ⟨Y, trivial⟩ ?_
 intro Q a hP J hR hN
 have G := St.start w0
 refine wp_seq_k fun K1 hK1=> wp_region_lit <| so (wn Y) (O.box Y Y J (J.ev Y) Y G fun b1 a w J G=> ?_)
 refine av J Y Y fun a J=> s0 <| then_n (hK1 _ _ <| wp_seq_k fun K2 hK2=> ?_)
 have G := G.cons0
 refine wp_region_lit <| av J Y Y fun a J=> s0 <| then_n (hK2 _ _ <| wp_seq_k fun K3 hK3=> wp_block <| wp_loop_N (fun g a w=> ∃ (y : Nat) (l : List Nat) (A : Option Addr) (e : Nat) (s : Seg), y + (if l.length = 0 then 1 else 0) = g ∧ Fr 85 [(1, .pointer (some ⟨b1, 0, none⟩)), (3, .slice A l.length e)] a ∧ St w0 [] [[(b1, Cel (wc y) 32)], s] w ∧ (OwnS s A l.length e (dch l) 5 1) ∧ (Dig l) ∧ (val10 l + 10 ^ l.length * y = x) ∧ (y ≤ x)) (x + (if 0 = 0 then 1 else 0)) ?_ ?_)
 ·exact ⟨x, [], none, 0, [], Y, J.sub ⟨Y, Y, trivial⟩, G.sel [1, 0] Y Y, OwnS.nil 5 1, by intro b hb; simp at hb, by simp [val10], Nat.le_refl _⟩
 rintro KL1 g a w ⟨y, l, A, e, s, hg1, J, G, hO, hd, hv, hyx⟩ hKL1
 refine wp_seq_k fun K4 hK4=> wp_seq_k fun K5 hK5=> ?_
 have hK5' : ∀ a w, (Fr 85 [(1, .pointer (some ⟨b1, 0, none⟩)), (3, .slice A l.length e), (15, .bool (decide (y ≠ 0 ∨ l.length = 0)))] a ∧ St w0 [] [[(b1, Cel (wc y) 32)], s] w) → K5 a w := by
  rintro a w ⟨J, G⟩
  refine hK5 _ _ ?_
  refine cD J Y (fun c1=> ?_) (fun c1=> ?_)
  ·have hl77 := few_dec hx hv c1
   refine wp_skip <| then_n (hK4 _ _ <| wp_block <| wp_seq_k fun K6 hK6=> wp_region_lit <| av J Y Y fun a J=> s0 <| then_n (hK6 _ _ <| wp_seq_k fun K7 hK7=> wp_seq_k fun K8 hK8=> wp_region_lit <| av J Y Y fun a J=> s0 <| then_n (hK8 _ _ <| wp_block <| wp_loop_N (fun g a w=> ∃ (k : Nat), k = g ∧ Fr 85 [(1, .pointer (some ⟨b1, 0, none⟩)), (3, .slice A l.length e), (4, .int .u64 ((y / 18446744073709551616 ^ k % 10000000000000000000 : Nat) : Int)), (5, .int .i64 ((k : Nat) - 1 : Int))] a ∧ St w0 [] [[(b1, Cel (cells4 (quo4 y 10000000000000000000 k)) 32)], s] w ∧ (k ≤ 4)) (4) ?_ ?_)))
   ·exact ⟨4, Y, J.sub ⟨Y, Y, (by rw [Nat.div_eq_of_lt (show y < 18446744073709551616 ^ 4 from Nat.lt_of_le_of_lt hyx hx)]; rfl), Y, trivial⟩, G.sel [0, 1] Y (by rw [quo4_4]; rfl), by omega⟩
   rintro KL2 g a w ⟨k, hg2, J, G, hk⟩ hKL2
   refine wp_seq_k fun K9 hK9=> wp_seq_k fun K10 hK10=> wp_region_lit <| mv J Y Y fun a J=> sw J Y Y Y (R.geq (J.ev Y) (J.ev Y)) fun a J=> s0 <| then_n (hK10 _ _ <| cD J Y (fun c2=> ?_) (fun c2=> ?_))
   ·refine wp_skip <| then_n (hK9 _ _ <| wp_seq_k fun K11 hK11=> wp_block <| wp_region_lit <| mv J Y Y fun a J=> mv J Y Y fun a J=> mv J Y Y fun a J=> sw J Y Y Y (R.indexA Tryz.underlying32 sz30 (J.ev Y) (J.ev Y) (by omega) (by omega)) fun a J=> sw J Y Y Y (R.load one30 (J.ev Y) G .h (show _ = some (Value.int .u64 ((dg y (k - 1) : Nat) : Int)) from by rw [cells4_at (k := k - 1) (by omega) (by omega), quo4_at _ _ _ (by omega)])) fun a J=> so (wn Y) (O.call Y Y J ent94 (J.evs Y) G (div64_calls (y / 18446744073709551616 ^ k % 10000000000000000000) (dg y (k - 1)) 10000000000000000000 w (Nat.mod_lt _ (by decide)) (dg_lt _ _) (by decide) (by decide)) fun v s26 a w hR J G=> ?_))
    obtain ⟨rfl, rfl⟩ := hR
    refine mv J Y Y fun a J=> xv J Y Y Y fun a J=> xv J Y Y Y fun a J=> sw J Y Y Y (R.indexA Tryz.underlying32 sz30 (J.ev Y) (J.ev Y) (by omega) (by omega)) fun a J=> so (wn Y) (O.store sz30 (J.ev Y) (J.ev Y) Y Y G (.t .h) (cells4_set (k := k - 1) (by omega)) (by rw [length_cells4]; omega) fun w G=> ?_)
    refine av J Y Y fun a J=> s0 <| blk_n <| then_n (hK11 _ _ <| wp_region_lit <| mv J Y Y fun a J=> sw J Y Y Y (R.subI (J.ev Y) (J.ev Y) (by omega)) fun a J=> av J Y Y fun a J=> s0 <| then_n (hKL2 (k - 1) _ _ ?_ ?_))
    ·omega
    exact ⟨k - 1, Y, J.sub ⟨Y, Y, (by rw [← rem_div y 10000000000000000000 k (by decide) (by omega)]; rfl), (congrArg (fun z => some (Value.int .i64 z)) (by omega)), trivial⟩, G.sel [1, 2] Y (by rw [← quo4_step y 10000000000000000000 k (by decide) (by omega)]; rfl), by omega⟩
   obtain rfl : k = 0 := by omega
   rw [quo4_0] at G
   refine wp_exit (then_x (then_x (blk_hit <| then_n (hK7 _ _ <| wp_seq_k fun K12 hK12=> wp_region_lit <| mv J Y Y fun a J=> s0 <| then_n (hK12 _ _ <| wp_block <| wp_loop_N (fun g a w=> ∃ (j : Nat) (r : Nat) (m : List Nat) (A2 : Option Addr) (e2 : Nat) (s2 : Seg), 19 - j = g ∧ Fr 85 [(1, .pointer (some ⟨b1, 0, none⟩)), (3, .slice A2 m.length e2), (4, .int .u64 ((r : Nat) : Int)), (30, .int .i64 (j : Nat))] a ∧ St w0 [] [[(b1, Cel (wc (y / 10000000000000000000)) 32)], s2] w ∧ (OwnS s2 A2 m.length e2 (dch m) 5 1) ∧ (Dig m) ∧ (m.length = l.length + j) ∧ (j ≤ 19) ∧ (r < 10 ^ (19 - j)) ∧ (val10 m + 10 ^ m.length * r = val10 l + 10 ^ l.length * (y % 10000000000000000000))) (19 - 0) ?_ ?_)))))
   ·exact ⟨0, y % 10000000000000000000, l, A, e, s, Y, J.sub ⟨Y, Y, (by rw [Nat.pow_zero, Nat.div_one]; rfl), Y, trivial⟩, G.sel [0, 1] Y Y, hO, hd, Y, by omega, Nat.mod_lt _ (by decide), Y⟩
   rintro KL3 g a w ⟨j, r, m, A2, e2, s2, hg3, J, G, hO2, hm, hml, hj, hr, hmv⟩ hKL3
   refine wp_seq_k fun K13 hK13=> wp_region_lit <| lS J Y Y Y fun a J=> s0 <| then_n (hK13 _ _ <| wp_seq_k fun K14 hK14=> cD J Y (fun c3=> ?_) (fun c3=> ?_))
   ·have hrl : r < 18446744073709551616 := Nat.lt_of_lt_of_le hr (Nat.le_trans (Nat.pow_le_pow_right (by decide) (Nat.sub_le _ _)) (by decide : 10 ^ 19 ≤ 18446744073709551616))
    refine wp_skip <| then_n (hK14 _ _ <| wp_seq_k fun K15 hK15=> wp_block <| wp_seq_k fun K16 hK16=> wp_region_lit <| mv J Y Y fun a J=> mv J Y Y fun a J=> sw J Y Y Y (R.remU (q := 10) (J.ev Y) (J.ev Y) (by decide)) fun a J=> sw J Y Y Y (R.as (u := .int .u64 ((48 + r % 10 : Nat) : Int)) (R.addU (p := 48) (J.ev Y) (J.ev Y)) (congrArg (fun z : Nat=> Value.int .u64 (z : Int)) (by omega))) fun a J=> sw J Y Y Y (R.as (u := .int .u8 ((48 + r % 10 : Nat) : Int)) (R.convB Tryz.underlying30 Tryz.underlying5 (J.ev Y)) (congrArg (fun z : Nat=> Value.int .u8 (z : Int)) (by omega))) fun a J=> so (wn Y) (O.buildSlice (l := [_]) Y Y J Tryz.underlying22 inf5 Y Y (J.evp Y) (by decide) Y G fun b37 a w J G=> ?_))
    refine so (wn Y) (O.append Y Y J Tryz.underlying22 inf5 Y Y (by decide) (J.ev Y) (J.ev Y) G hO2 (fun _=> (.t (.t .h))) (Rd.own0 G .h) (Y) (by simp [Value.oneCell']) (by unfold maxLen; omega) (by omega) fun A38 c38 s38 a w hO38 J G=> ?_)
    refine av J Y Y fun a J=> s0 <| then_n (hK16 _ _ <| wp_region_lit <| mv J Y Y fun a J=> sw J Y Y Y (R.quoU (q := 10) (J.ev Y) (J.ev Y) (by omega) (by decide)) fun a J=> av J Y Y fun a J=> s0 <| blk_n <| then_n (hK15 _ _ <| wp_region_lit <| aI J Y Y Y (by omega) fun a J=> mv J Y Y fun a J=> s0 <| then_n (hKL3 (19 - (j + 1)) _ _ ?_ ?_)))
    ·omega
    exact ⟨j + 1, r / 10, m ++ [r % 10], A38, c38, s38, Y, J.sub ⟨Y, (by rw [List.length_append, List.length_singleton]; rfl), Y, Y, trivial⟩, G.sel [1, 2] Y Y, own_snoc hO38, dig_snoc hm (by omega), by simp only [List.length_append, List.length_singleton]; omega, by omega, chunk_lt (by omega) hr, chunk_step hmv⟩
   obtain rfl : j = 19 := by omega
   refine wp_exit (then_x (then_x (blk_hit <| blk_n <| then_n (hKL1 (y / 10000000000000000000 + (if m.length = 0 then 1 else 0)) _ _ ?_ ?_))))
   ·rcases c1 with c1 | c1 <;> rw [if_neg (show ¬ m.length = 0 by omega)] <;> (try rw [if_pos c1] at hg1) <;> omega
   exact ⟨y / 10000000000000000000, m, A2, e2, s2, Y, J.sub ⟨Y, Y, trivial⟩, G.sel [0, 1] Y Y, hO2, hm, chunk_end hmv (by simpa using hr) (by omega) hv, Nat.le_trans (Nat.div_le_self _ _) hyx⟩
  have hy0 : y = 0 := by omega
  refine wp_exit (then_x (then_x (blk_hit <| then_n (hK3 _ _ <| wp_seq_k fun K17 hK17=> wp_block <| wp_loop_N (fun g a w=> ∃ (z : List Nat), z.length = g ∧ Fr 85 [(3, .slice A z.length e)] a ∧ St w0 [] [s] w ∧ (OwnS s A z.length e (dch z) 5 1) ∧ (Dig z) ∧ (val10 z = x) ∧ (0 < z.length)) (l.length) ?_ ?_))))
  ·exact ⟨l, Y, J.sub ⟨Y, trivial⟩, G.sel [1] Y Y, hO, hd, by simpa [hy0] using hv, by omega⟩
  rintro KL4 g a w ⟨z, hg4, J, G, hO, hd, hv, hz⟩ hKL4
  have hcap := hO.cap; have hle := hO.2.1
  refine wp_seq_k fun K18 hK18=> wp_seq_k fun K19 hK19=> ?_
  have hK19' : ∀ a w, (Fr 85 [(3, .slice A z.length e), (53, .bool (decide (1 < z.length ∧ z.getD (z.length - 1) 0 = 0)))] a ∧ St w0 [] [s] w) → K19 a w := by
   rintro a w ⟨J, G⟩
   refine hK19 _ _ ?_
   refine cD J Y (fun c4=> ?_) (fun c4=> ?_)
   ·refine wp_skip <| then_n (hK18 _ _ <| wp_block <| wp_region_lit <| mv J Y Y fun a J=> mv J Y Y fun a J=> sw J Y Y Y (R.len Tryz.underlying22 (J.ev Y)) fun a J=> sw J Y Y Y (R.subI (J.ev Y) (J.ev Y) (by omega)) fun a J=> sw J Y Y Y (R.sliceHi Tryz.underlying22 (J.ev Y) (J.ev Y) (by omega) (by omega) _ sz5) fun a J=> av J Y Y fun a J=> s0 <| blk_n <| then_n (hKL4 (z.dropLast.length) _ _ ?_ ?_))
    ·rw [List.length_dropLast]; omega
    exact ⟨z.dropLast, Y, J.sub ⟨(congrArg (fun z => some (Value.slice A z e)) (by rw [List.length_dropLast]; omega)), trivial⟩, G.sel [0] Y Y, own_drop hO, dig_dropLast hd, (strip (by omega) c4.2).trans hv, by rw [List.length_dropLast]; omega⟩
   have hdec := stripped hd hv hz c4
   refine wp_exit (then_x (then_x (blk_hit <| then_n (hK17 _ _ <| wp_seq_k fun K20 hK20=> wp_seq_k fun K21 hK21=> ?_))))
   obtain ⟨gb, rest, rfl, rfl, o4, o5⟩ := own_open hO hz; have hmx : maxLen = 9223372036854775807 := rfl
   refine wp_region_lit <| mv J Y Y fun a J=> sw J Y Y Y (R.len Tryz.underlying22 (J.ev Y)) fun a J=> sw J Y Y Y (R.subI (J.ev Y) (J.ev Y) (by omega)) fun a J=> av J Y Y fun a J=> av J Y Y fun a J=> s0 <| then_n (hK21 _ _ <| wp_block <| wp_loop_N (fun g a w=> ∃ (i : Nat), z.length - i = g ∧ Fr 85 [(3, .slice (some ⟨gb, 0, none⟩) z.length e), (6, .int .i64 (i : Nat)), (7, .int .i64 ((z.length : Nat) - 1 - (i : Nat) : Int))] a ∧ St w0 [] [[(gb, Cel (dch (swp z i) ++ rest) 5)]] w ∧ (2 * i ≤ z.length)) (z.length - 0) ?_ ?_)
   ·exact ⟨0, Y, J.sub ⟨Y, Y, (congrArg (fun z => some (Value.int .i64 z)) (by omega)), trivial⟩, G.sel [0] Y (by rw [swp_0]; rfl), by omega⟩
   rintro KL5 g a w ⟨i, hg5, J, G, hi⟩ hKL5
   refine wp_seq_k fun K22 hK22=> wp_seq_k fun K23 hK23=> wp_region_lit <| mv J Y Y fun a J=> mv J Y Y fun a J=> lS J Y Y Y fun a J=> s0 <| then_n (hK23 _ _ <| cD J Y (fun c5=> ?_) (fun c5=> ?_))
   ·refine wp_skip <| then_n (hK22 _ _ <| wp_seq_k fun K24 hK24=> wp_block <| wp_drawS G [(0, 0), (1, 0), (2, 0), (3, 0), (4, 0), (5, 0), (6, 0), (7, 1), (8, 0), (9, 0), (10, 0), (11, 1), (12, 0), (13, 3), (14, 0), (15, 3)] mix (by kernel_rfl) (hP.then.block.then.then.block) fun w G=> ?_)
    have hD := G
    refine dm J Y Y Y fun a J=> dm J Y Y Y fun a J=> dm J Y Y Y fun a J=> dm J Y Y Y fun a J=> dm J Y Y Y fun a J=> dm J Y Y Y fun a J=> dv J Y Y Y Y (fun w=> R.indexS Tryz.underlying22 sz5 (J.ev Y) (J.ev Y) (by omega) (by omega)) fun a J=> ds J Y Y Y Y hD (fun w hD=> R.load one5 (J.ev Y) hD .h (swp_at z rest i (z.length - 1 - i) (by omega) (by omega) (by omega) _ (by omega))) fun a J=> ?_
    refine dm J Y Y Y fun a J=> dm J Y Y Y fun a J=> dv J Y Y Y Y (fun w=> R.indexS Tryz.underlying22 sz5 (J.ev Y) (J.ev Y) (by omega) (by omega)) fun a J=> ds J Y Y Y Y hD (fun w hD=> R.load one5 (J.ev Y) hD .h (swp_at z rest i i (by omega) (by omega) (by omega) _ (by omega))) fun a J=> ?_
    refine dv J Y Y Y Y (fun w=> R.indexS Tryz.underlying22 sz5 (J.ev Y) (J.ev Y) (by omega) (by omega)) fun a J=> dw Y (wn Y) (O.store sz5 (J.ev Y) (J.ev Y) Y Y G .h (Y) (by rw [List.length_append, length_dch, length_swp]; omega) fun w G=> ?_)
    refine dv J Y Y Y Y (fun w=> R.indexS Tryz.underlying22 sz5 (J.ev Y) (J.ev Y) (by omega) (by omega)) fun a J=> dw Y (wn Y) (O.store sz5 (J.ev Y) (J.ev Y) Y Y G .h (swp_step z rest i _ _ (by omega) (by omega) (by omega)) (by rw [List.length_set, List.length_append, length_dch, length_swp]; omega) fun w G=> ?_)
    refine d0 <| blk_n <| then_n (hK24 _ _ <| wp_region_lit <| mv J Y Y fun a J=> aI J Y Y Y (by omega) fun a J=> mv J Y Y fun a J=> sw J Y Y Y (R.subI (J.ev Y) (J.ev Y) (by omega)) fun a J=> av J Y Y fun a J=> av J Y Y fun a J=> s0 <| then_n (hKL5 (z.length - (i + 1)) _ _ ?_ ?_))
    ·omega
    exact ⟨i + 1, Y, J.sub ⟨Y, Y, (congrArg (fun z => some (Value.int .i64 z)) (by omega)), trivial⟩, G.sel [0] Y Y, by omega⟩
   have hsw := swp_end z i (by omega)
   refine wp_exit (then_x (then_x (blk_hit <| then_n (hK20 _ _ <| wp_seq_k fun K25 hK25=> wp_region_lit <| mv J Y Y fun a J=> sw J Y Y Y (R.convStr (xs := (swp z i).map (48 + ·)) Tryz.underlying22 Tryz.underlying5 Tryz.underlying9 (J.ev Y) (Rd.own G .h fun j v hj=> by rw [Nat.zero_add, List.getElem?_append_left (l₁ := dch (swp z i)) (List.getElem?_eq_some_iff.1 hj).1]; exact hj) (by rw [List.length_map, length_swp])) fun a J=> ?_))))
   refine av J Y Y fun a J=> s0 <| then_n (hK25 _ _ <| wp_ret (hR _ _ _ _ _ J (run_results Tryz.results38 (.t J Y (.nil))) ?_))
   exact ⟨_, [], Y, ⟨by rw [hsw, ← hdec]; rfl, Y⟩, G.none⟩
  refine wp_region_lit <| mv J Y Y fun a J=> sw J Y Y Y (R.len Tryz.underlying22 (J.ev Y)) fun a J=> sw J Y Y Y (R.gtr (J.ev Y) (J.ev Y)) fun a J=> mv J Y Y fun a J=> J.splitD (t := 45) Y (fun h45 J=> ?_) (fun h45 J=> ?_)
  ·refine my J Y Y Y Y fun a J=> my J Y Y Y Y fun a J=> sv' J (wy J Y Y Y) Y Y (R.len Tryz.underlying22 (J.ev Y)) fun a J=> sv' J (wy J Y Y Y) Y Y (R.subI (J.ev Y) (J.ev Y) (by omega)) fun a J=> sv' J (wy J Y Y Y) Y Y (R.indexO Tryz.underlying22 sz5 (J.ev Y) (Rd.ne (hO.rd G .h) (by rw [length_dch]; omega)) (J.ev Y) (by omega) (by omega)) fun a J=> sv' J (wy J Y Y Y) Y Y (R.loadO one5 (J.ev Y) (hO.rd G .h) (show _ = some (Value.int .u8 ((48 + z.getD (z.length - 1) 0 : Nat) : Int)) from by rw [show (((z.length : Nat) : Int) - 1).toNat * 1 = z.length - 1 from by omega]; exact dch_get z _ (by omega))) fun a J=> sv' J (wy J Y Y Y) Y Y (R.eql (J.ev Y) (J.ev Y)) fun a J=> pT J Y Y Y fun a J=> s0 ?_
   exact then_n (hK19' _ _ ⟨J.sub ⟨Y, (congrArg (fun z => some (Value.bool z)) (by first | exact (decide_eq_false (by omega)).symm | exact decide_eq_decide.2 (by omega))), trivial⟩, G.sel [0] Y Y⟩)
  refine kz J Y Y Y Y Y Y fun a J=> kz J Y Y Y Y Y Y fun a J=> kz J Y Y Y Y Y Y fun a J=> kz J Y Y Y Y Y Y fun a J=> kz J Y Y Y Y Y Y fun a J=> kz J Y Y Y Y Y Y fun a J=> kz J Y Y Y Y Y Y fun a J=> pF J Y Y Y fun a J=> s0 ?_
  exact then_n (hK19' _ _ ⟨J.sub ⟨Y, (congrArg (fun z => some (Value.bool z)) (by first | exact (decide_eq_false (by omega)).symm | exact decide_eq_decide.2 (by omega))), trivial⟩, G.sel [0] Y Y⟩)
 refine wp_region_lit <| sw J Y Y Y (R.loadW agg32 (J.ev Y) G .h sz32 (Y)) fun a J=> so (wn Y) (O.call Y Y J ent93 (J.evs Y) G (isZero_calls y _ (Nat.lt_of_le_of_lt hyx hx)) fun v s9 a w hR J G=> ?_)
 obtain ⟨rfl, rfl⟩ := hR
 refine sw J Y Y Y ((by first | exact R.notD (J.ev Y) | exact R.not (J.ev Y))) fun a J=> ?_
 refine mv J Y Y fun a J=> J.splitD (t := 11) Y (fun h11 J=> ?_) (fun h11 J=> ?_)
 ·refine kz J Y Y Y Y Y Y fun a J=> kz J Y Y Y Y Y Y fun a J=> kz J Y Y Y Y Y Y fun a J=> pT J Y Y Y fun a J=> s0 ?_
  exact then_n (hK5' _ _ ⟨J.sub ⟨Y, Y, (congrArg (fun z => some (Value.bool z)) (by first | exact (decide_eq_true (by omega)).symm | exact decide_eq_decide.2 (by omega))), trivial⟩, G.sel [1, 2] Y Y⟩)
 refine my J Y Y Y Y fun a J=> sv' J (wy J Y Y Y) Y Y (R.len Tryz.underlying22 (J.ev Y)) fun a J=> sv' J (wy J Y Y Y) Y Y (R.eql (J.ev Y) (J.ev Y)) fun a J=> pF J Y Y Y fun a J=> s0 ?_
 exact then_n (hK5' _ _ ⟨J.sub ⟨Y, Y, (congrArg (fun z => some (Value.bool z)) (by first | exact (decide_eq_true (by omega)).symm | exact decide_eq_decide.2 (by omega))), trivial⟩, G.sel [1, 2] Y Y⟩)
end Go.Proofs.YtlapmbkfmbkdoaaGreatDoor
end
section
namespace Go.Proofs
def Tryz.laysM171_ren : Go.Shelf.Ren := ⟨fun | 171 => 35 | 243 => 92 | 246 => 129 | 283 => 143 | 284 => 144 | 285 => 145 | 286 => 146 | 129 => 147 | 317 => 154 | 318 => 155 | 319 => 156 | 320 => 157 | 337 => 163 | 338 => 164 | n => n, fun | 3 => 3 | 9 => 9 | 2 => 2 | 4 => 4 | 171 => 185 | 0 => 0 | 53 => 30 | 37 => 22 | 5 => 5 | 173 => 187 | 212 => 194 | 51 => 195 | 20 => 20 | 213 => 196 | 46 => 126 | 232 => 83 | 233 => 206 | n => n, fun | 17 => 2 | 18 => 6 | 19 => 7 | n => n⟩
theorem Tryz.laysM171 : Go.Proofs.LaysM.n171 Tryz.prog Tryz.laysM171_ren := {
  mixed := by kernel_rfl
  f129 := Tryz.func147.trans (congrArg some (by kernel_rfl))
  f171 := Tryz.func35.trans (congrArg some (by kernel_rfl))
  f243 := Tryz.func92.trans (congrArg some (by kernel_rfl))
  f246 := Tryz.func129.trans (congrArg some (by kernel_rfl))
  f283 := Tryz.func143.trans (congrArg some (by kernel_rfl))
  f284 := Tryz.func144.trans (congrArg some (by kernel_rfl))
  f285 := Tryz.func145.trans (congrArg some (by kernel_rfl))
  f286 := Tryz.func146.trans (congrArg some (by kernel_rfl))
  f317 := Tryz.func154.trans (congrArg some (by kernel_rfl))
  f318 := Tryz.func155.trans (congrArg some (by kernel_rfl))
  f319 := Tryz.func156.trans (congrArg some (by kernel_rfl))
  f320 := Tryz.func157.trans (congrArg some (by kernel_rfl))
  f337 := Tryz.func163.trans (congrArg some (by kernel_rfl))
  f338 := Tryz.func164.trans (congrArg some (by kernel_rfl))
  t0 := Tryz.underlying0
  a0 := Tryz.isAgg0
  z0 := Tryz.sizeOf0
  v0 := Tryz.zeroValue0
  t2 := Tryz.underlying2
  a2 := Tryz.isAgg2
  z2 := Tryz.sizeOf2
  v2 := Tryz.zeroValue2
  t3 := Tryz.underlying3
  a3 := Tryz.isAgg3
  z3 := Tryz.sizeOf3
  v3 := Tryz.zeroValue3
  t4 := Tryz.underlying4
  a4 := Tryz.isAgg4
  z4 := Tryz.sizeOf4
  v4 := Tryz.zeroValue4
  t5 := Tryz.underlying5
  a5 := Tryz.isAgg5
  z5 := Tryz.sizeOf5
  v5 := Tryz.zeroValue5
  t9 := Tryz.underlying9
  a9 := Tryz.isAgg9
  z9 := Tryz.sizeOf9
  v9 := Tryz.zeroValue9
  t20 := Tryz.underlying20
  a20 := Tryz.isAgg20
  z20 := Tryz.sizeOf20
  v20 := Tryz.zeroValue20
  t37 := Tryz.underlying22
  a37 := Tryz.isAgg22
  z37 := Tryz.sizeOf22
  v37 := Tryz.zeroValue22
  t46 := Tryz.underlying126
  a46 := Tryz.isAgg126
  z46 := Tryz.sizeOf126
  v46 := Tryz.zeroValue126
  t51 := Tryz.underlying195
  a51 := Tryz.isAgg195
  z51 := Tryz.sizeOf195
  v51 := Tryz.zeroValue195
  t53 := Tryz.underlying30
  a53 := Tryz.isAgg30
  z53 := Tryz.sizeOf30
  v53 := Tryz.zeroValue30
  t171 := Tryz.underlying185
  a171 := Tryz.isAgg185
  z171 := Tryz.sizeOf185
  v171 := Tryz.zeroValue185
  t173 := Tryz.underlying187
  a173 := Tryz.isAgg187
  z173 := Tryz.sizeOf187
  v173 := Tryz.zeroValue187
  t212 := Tryz.underlying194
  a212 := Tryz.isAgg194
  z212 := Tryz.sizeOf194
  v212 := Tryz.zeroValue194
  t213 := Tryz.underlying196
  a213 := Tryz.isAgg196
  z213 := Tryz.sizeOf196
  t232 := Tryz.underlying83
  a232 := Tryz.isAgg83
  z232 := Tryz.sizeOf83
  v232 := Tryz.zeroValue83
  t233 := Tryz.underlying206
  a233 := Tryz.isAgg206
  z233 := Tryz.sizeOf206
  v233 := Tryz.zeroValue206
  g17 := by kernel_rfl
  g18 := by kernel_rfl
  g19 := by kernel_rfl
  i0 := by kernel_rfl
  i2 := by kernel_rfl
  i3 := by kernel_rfl
  i4 := by kernel_rfl
  i5 := by kernel_rfl
  i9 := by kernel_rfl
  i20 := by kernel_rfl
  i37 := by kernel_rfl
  i46 := by kernel_rfl
  i51 := by kernel_rfl
  i53 := by kernel_rfl
  i171 := by kernel_rfl
  i173 := by kernel_rfl
  i212 := by kernel_rfl
  i232 := by kernel_rfl
  i233 := by kernel_rfl
  m17 := by kernel_rfl
  m18 := by kernel_rfl
  m19 := by kernel_rfl }
def Tryz.lays169_ren : Go.Shelf.Ren := ⟨fun | 169 => 39 | n => n, fun | 70 => 75 | 9 => 9 | 0 => 0 | 72 => 77 | 37 => 22 | 127 => 134 | 3 => 3 | 5 => 5 | n => n, fun | n => n⟩
theorem Tryz.lays169 : Go.Proofs.Lays.n169 Tryz.prog Tryz.lays169_ren := {
  mixed := by kernel_rfl
  f169 := Tryz.func39.trans (congrArg some (by kernel_rfl))
  t0 := Tryz.underlying0
  a0 := Tryz.isAgg0
  z0 := Tryz.sizeOf0
  v0 := Tryz.zeroValue0
  t3 := Tryz.underlying3
  a3 := Tryz.isAgg3
  z3 := Tryz.sizeOf3
  v3 := Tryz.zeroValue3
  t9 := Tryz.underlying9
  a9 := Tryz.isAgg9
  z9 := Tryz.sizeOf9
  v9 := Tryz.zeroValue9
  t37 := Tryz.underlying22
  a37 := Tryz.isAgg22
  z37 := Tryz.sizeOf22
  v37 := Tryz.zeroValue22
  t70 := Tryz.underlying75
  a70 := Tryz.isAgg75
  z70 := Tryz.sizeOf75
  v70 := Tryz.zeroValue75
  t72 := Tryz.underlying77
  a72 := Tryz.isAgg77
  z72 := Tryz.sizeOf77
  v72 := Tryz.zeroValue77
  t127 := Tryz.underlying134
  a127 := Tryz.isAgg134
  z127 := Tryz.sizeOf134
  v127 := Tryz.zeroValue134 }
theorem Tryz.Builder_Extra_169 : Builder.Extra Tryz.prog Tryz.lays169_ren where
  sizeBuilder := by kernel_rfl
  liesBuilder := by kernel_rfl
  t5 := by kernel_rfl
  a5 := fun w => by kernel_rfl
  z5 := fun w => by kernel_rfl
  v5 := fun w => by kernel_rfl
  infoByte := by kernel_rfl
  cellsByte := by kernel_rfl
  sizeByte := by kernel_rfl
  neB5 := by decide
end Go.Proofs
namespace Go.Proofs.YtlapmbkfmbkdoaaGreatDoor
open Go Go.Fw Go.RowKit
def TabW (w : World) : Prop := Lib.TabIs Tryz.prog w "internal/strconv.uint64pow10" .u64 Lib.pow10Tab
theorem pow_global : ∃ g, Tryz.prog.globalNamed "internal/strconv.uint64pow10" = some g := Option.isSome_iff_exists.1 (by kernel_rfl)
theorem TabW.old {w0 w : World} {bs : List Seg} (h : TabW w0) (hS : St w0 [] bs w) : TabW w := by
  obtain ⟨g, hg⟩ := pow_global
  unfold TabW Lib.TabIs World.var? at h ⊢
  rw [hg] at h ⊢
  simp only [Option.bind_some] at h ⊢
  by_cases hk : g < w0.heap.size
  · rw [hS.keep g hk (by simp)]; exact h
  · rw [Array.getElem?_eq_none (by omega)] at h
    simp at h
theorem itoa_dec : ∀ n : Nat, Lib.decDigits n = (decS n).map fun b => UInt8.ofNat b := by
  intro n
  induction n using Nat.strongRecOn with
  | _ n ih =>
    rw [Lib.decDigits]
    by_cases h : n < 10
    · rw [dif_pos h]
      by_cases h0 : n = 0
      · subst h0; rw [decS_0]; rfl
      · rw [decS_pos h0, ddS_step h0, Nat.div_eq_of_lt h, ddS_0, Nat.mod_eq_of_lt h]; rfl
    · rw [dif_neg h, ih (n / 10) (by omega), decS_pos (n := n) (by omega), ddS_step (by omega), decS_pos (n := n / 10) (by omega)]
      simp
theorem itoa_calls (n : Nat) (w0 : World) (ht : TabW w0) (hn : n < 9223372036854775808) : Ret Tryz.prog 35 [.int .i64 ((n : Nat) : Int)] w0 [] (fun v s => v = .string (bstr (decS n)) ∧ s = []) := by
  refine Calls.mono (Any.strconv_Itoa Tryz.laysM171 n (by omega) (by omega) w0 ht) ?_
  rintro e w' ⟨rfl, k, os, rfl⟩
  refine ⟨_, [], rfl, ⟨?_, rfl⟩, ?_⟩
  · unfold Lib.itoa
    rw [if_neg (by omega), Int.toNat_natCast, itoa_dec]
    rfl
  · refine ⟨rfl, rfl, rfl, ?_, fun k hk _ => ?_, by simp, by simp, by simp [keys]⟩
    · simp [Go.Sort.grow, World.drewN]
    · have hk' : k < w0.heap.size := hk
      simp [Go.Sort.grow, World.drewN, Array.getElem?_append_left hk']
theorem O.appendS {P : Program} {N d : Nat} {env : Env} {a : Act} {w w0 : World} {K : Act → World → Prop} {Q : Exit → Act → World → Prop} {dst : Option Tmp} {ty : TypeId} {pos : String} {af : Array Edge} {g : Option (Nat × Bool)} {ks : List Nat} {bs : List Seg} {x y : Operand} {t u E : TypeId} {A : Option Addr} {n c : Nat} {cells : List Value} {s : Seg} {str : ByteArray} {f : Seg → List Seg} (hd : dst = some d) (hn : Nat.blt d N = true) (hF : Fr N env a) (hT : P.underlying t = some (.slice E)) (hU : P.underlying u = some .string) (hi : infT P E (.int .u8 0) 1 1)
    (hx : a.eval x = .slice A n c) (hy : a.eval y = .string str) (hS : St w0 ks bs w) (hO : OwnS s A n c cells E 1) (hr : ∀ s', RepB bs s s' (f s')) (h63 : n + str.size ≤ maxLen) (hby : n + str.size ≤ 140737488355328)
    (h : ∀ A' c' s' a' w', OwnS s' A' (n + str.size) c' (cells ++ Lib.strCells str) E 1 → Fr N ((d, .slice A' (n + str.size) c') :: env) a' → St w0 ks (f s') w' → K a' w') :
    Oper.wp P ⟨dst, .call ⟨.builtin .append, [x, y].toArray, #[t, u]⟩, ty, pos, af, g⟩ a w K Q := by
  subst hd
  obtain ⟨i, e1, e2, e3, e4⟩ := hi.get
  have hml : n + str.size ≤ 9223372036854775807 := by simp only [maxLen] at h63; exact h63
  have fin : ∀ v' w', (Builtin.append_ #[t, u] ty #[.slice A n c, .string str]).run P w = .ok v' w' →
      (∃ A' c' s', v' = .slice A' (n + str.size) c' ∧ OwnS s' A' (n + str.size) c' (cells ++ Lib.strCells str) E 1 ∧ St w0 ks (f s') w') → Oper.wp P ⟨some d, .call ⟨.builtin .append, [x, y].toArray, #[t, u]⟩, ty, pos, af, g⟩ a w K Q := by
    rintro v' w' hrun ⟨A', c', s', rfl, ho, hst⟩
    unfold Oper.wp
    have : (execOp a.eval ⟨some d, .call ⟨.builtin .append, [x, y].toArray, #[t, u]⟩, ty, pos, af, g⟩).run P w = .ok (.value (.slice A' (n + str.size) c')) w' := by
      simp only [execOp, resolve, invoke, builtin, Sem.run_bind, Sem.run_pure, Result.andThen_ok, List.map_toArray, List.map_cons, List.map_nil, hx, hy, hrun]
    rw [this, Oper.upon_value]
    exact h _ _ _ _ _ ho (hF.put hn _) hst
  have hnl : (Lib.strCells str).length = str.size := Lib.strCells_length str
  have h1 := Lib.strCells_oneCell str
  obtain ⟨o1, o2, o3⟩ := hO
  have hlen : (cells ++ Lib.strCells str).length = (n + str.size) * 1 := by rw [List.length_append, o1, hnl]; omega
  rcases o3 with ⟨rfl, rfl, rfl⟩ | ⟨gb, rest, rfl, rfl, o4, o5⟩
  · have hn0 : n = 0 := by omega
    subst hn0
    have hc0 : cells = [] := List.eq_nil_of_length_eq_zero (by simpa using o1)
    subst hc0
    obtain ⟨v', w', hrun, ho, hg, hz⟩ := Lib.run_append_own_string (P := P) (w := w) w.heap.size t u ty E i hT hU e1 e2 e3 e4 (.slice none 0 0) 0 [] ⟨rfl, .inl ⟨rfl, rfl⟩⟩ str h63 hby (Nat.le_refl _)
    obtain ⟨p1, p2⟩ := ho
    rcases p2 with ⟨rfl, hz0⟩ | ⟨g2, cap, cur, rfl, q1, q2, q3, q4, q5, q6⟩
    · refine fin _ _ hrun ⟨none, 0, [], by rw [hz0], ?_, ?_⟩
      · have : Lib.strCells str = [] := List.eq_nil_of_length_eq_zero (by omega)
        rw [this, hz0]; exact OwnS.nil _ _
      · exact hS.rep (hr []) hg.os hg.tape hg.output hg.size (fun k hk _ => hg.block k hk (by simp [Value.ownBlock])) (by simp) (by simp) (by simp)
    · have hcur : cur.toList = ([] ++ Lib.strCells str) ++ cur.toList.drop ((0 + str.size) * 1) := by
        have := List.take_append_drop ((0 + str.size) * 1) cur.toList
        rw [q6] at this; exact this.symm
      have hcur2 : (([] ++ Lib.strCells str) ++ cur.toList.drop ((0 + str.size) * 1)).toArray = cur := by rw [← hcur]
      refine fin _ _ hrun ⟨some ⟨g2, 0, none⟩, cap, [(g2, Cel (([] ++ Lib.strCells str) ++ cur.toList.drop ((0 + str.size) * 1)) E)], rfl, OwnS.mk hlen q3 (by rw [← hcur]; simpa using q5) q4, ?_⟩
      refine hS.rep (hr _) hg.os hg.tape hg.output hg.size (fun k hk _ => hg.block k hk (by simp [Value.ownBlock])) (fun p hp => ?_) (by simp) (fun p hp => ?_)
      · simp only [List.mem_singleton] at hp
        subst hp
        simp only [Cel, hcur2]; exact q2
      · simp only [List.mem_singleton] at hp
        subst hp
        exact .inl q1
  · have hgm : (gb, Cel (cells ++ rest) E) ∈ bs.flatten := List.mem_flatten.2 ⟨_, (hr []).mem, by simp⟩
    have hgb := hS.own _ hgm
    simp only at hgb
    by_cases hroom : n + str.size ≤ c
    · have hfit : n + str.size ≤ (cells ++ rest).toArray.size := by simp only [List.size_toArray]; rw [o4]; omega
      have hrun := Lib.run_append_room_string (P := P) (w := w) t u ty E i hT hU e1 e3 gb n c (cells ++ rest).toArray hgb str hroom hfit
      have o1' : cells.length = n := by omega
      have e5 : ((cells ++ rest).take n ++ Lib.strCells str ++ (cells ++ rest).drop (n + str.size)) = (cells ++ Lib.strCells str) ++ rest.drop str.size := by
        rw [← o1', List.take_left, List.drop_append]
        simp
      simp only [e5] at hrun
      refine fin _ _ hrun ⟨some ⟨gb, 0, none⟩, c, [(gb, Cel ((cells ++ Lib.strCells str) ++ rest.drop str.size) E)], rfl, ?_, ?_⟩
      · refine OwnS.mk hlen hroom ?_ o5
        simp only [List.length_append, List.length_drop, List.size_toArray, hnl] at o4 hfit ⊢
        omega
      · refine hS.rep (hr _) rfl rfl rfl (by simp) (fun k hk hne => ?_) ?_ (by simp) (by simp)
        · exact setRow_other w gb k _ (hne (gb, Cel (cells ++ rest) E) (by simp))
        · intro p hp
          simp only [List.mem_singleton] at hp
          subst hp
          exact setRow_heap w gb _ _ E _ hgb
    · have holds : ∀ j v, cells[j]? = some v → w.cell? ((⟨gb, 0, none⟩ : Addr).add j) = some v := fun j v hj => by
        rw [addr_add, cell_Cel hgb, Nat.zero_add, List.getElem?_append_left (List.getElem?_eq_some_iff.1 hj).1]; exact hj
      have hrun := Lib.run_append_grow_string (P := P) (w := w) t u ty E i (.int .u8 0) hT hU e1 e2 ⟨gb, 0, none⟩ n c cells (by rw [e3]; exact o1) holds str (by omega) (by omega) (growslice_fits (by omega) (by rw [e4]; omega))
      have hcap := grownCap_ge w (n + str.size) c E
      have hcm : grownCap w (n + str.size) c E ≤ maxLen := grownCap_le_maxLen w (n + str.size) c E h63
      rw [show (Value.int .u8 0).cells = [Value.int .u8 0].toArray from rfl, zero_zeros] at hrun
      have e5 : (cells.toArray ++ (Lib.strCells str).toArray ++ (zeros [.int .u8 0] (grownCap w (n + str.size) c E - (n + str.size))).toArray) = ((cells ++ Lib.strCells str) ++ zeros [.int .u8 0] (grownCap w (n + str.size) c E - (n + str.size))).toArray := by simp
      rw [e5] at hrun
      refine fin _ _ hrun ⟨some ⟨w.heap.size, 0, none⟩, _, [(w.heap.size, Cel ((cells ++ Lib.strCells str) ++ zeros [.int .u8 0] (grownCap w (n + str.size) c E - (n + str.size))) E)], rfl, ?_, ?_⟩
      · refine OwnS.mk hlen (by omega) ?_ hcm
        rw [List.length_append, hlen, length_zeros]; simp; omega
      · refine hS.rep (hr _) rfl rfl rfl (by simp) (fun k hk _ => Below.heap_alloc w.drew _ k hk) (fun p hp => by
          simp only [List.mem_singleton] at hp
          subst hp
          exact heap_alloc_new w.drew _) (by simp) (by simp)
def chs (xs : List Nat) : List Value := Lib.strCells (bstr xs)
theorem length_chs (xs : List Nat) : (chs xs).length = xs.length := by unfold chs; rw [Lib.strCells_length, size_bstr]
theorem chs_app (xs ys : List Nat) : chs xs ++ Lib.strCells (bstr ys) = chs (xs ++ ys) := by unfold chs; rw [← bstr_app]; simp [Lib.strCells]
def BldS (b : Nat) (xs : List Nat) (s : Seg) : Prop := ∃ p A c sg, s = (b, Cel [p, .slice A xs.length c] 77) :: sg ∧ OwnS sg A xs.length c (chs xs) 5 1 ∧ (p = .pointer none ∨ p = .pointer (some ⟨b, 0, none⟩))
theorem bld_new (b : Nat) : BldS b [] [(b, Cel [.pointer none, .slice none 0 0] 77)] := ⟨_, none, 0, [], rfl, OwnS.nil 5 1, .inl rfl⟩
theorem bld_is {w1 w : World} {bs : List Seg} {s : Seg} {b : Nat} {xs : List Nat} (hS : St w1 [] bs w) (hs : HasS bs s) (h : BldS b xs s) : Lib.IsBuilder 77 5 w1.heap.size b (chs xs) w := by
  obtain ⟨p, A, c, sg, rfl, hO, hp⟩ := h
  have hown : ∀ q ∈ (b, Cel [p, .slice A xs.length c] 77) :: sg, w.heap[q.1]? = some q.2 ∧ w1.heap.size ≤ q.1 := fun q hq => by
    have hm := List.mem_flatten.2 ⟨_, hs.mem, hq⟩
    refine ⟨hS.own q hm, ?_⟩
    rcases hS.place q hm with h | h
    · exact h
    · simp at h
  have hb := hown _ (List.mem_cons_self)
  have hat : Lib.BuilderAt 77 5 w1.heap.size b p (chs xs) w := by
    refine ⟨hb.2, .slice A xs.length c, hb.1, ?_, ?_⟩
    · obtain ⟨o1, o2, o3⟩ := hO
      refine ⟨by rw [length_chs, Nat.mul_one], ?_⟩
      rcases o3 with ⟨rfl, rfl, rfl⟩ | ⟨g, rest, rfl, rfl, o4, o5⟩
      · left
        have : xs.length = 0 := by omega
        rw [length_chs]
        exact ⟨by rw [this], this⟩
      · right
        have hg := hown (g, Cel (chs xs ++ rest) 5) (List.mem_cons_of_mem _ (List.mem_singleton.2 rfl))
        rw [length_chs]
        refine ⟨g, c, (chs xs ++ rest).toArray, rfl, hg.2, hg.1, o2, o5, by simpa using o4, ?_⟩
        rw [Nat.mul_one, ← length_chs xs]; simp
    · obtain ⟨o1, o2, o3⟩ := hO
      rcases o3 with ⟨rfl, rfl, rfl⟩ | ⟨g, rest, rfl, rfl, o4, o5⟩
      · simp [Value.ownBlock]
      · simp only [Value.ownBlock, ne_eq, Option.some.injEq]
        intro e
        subst e
        have hn := (hS.one hs).nodup
        simp [keys] at hn
  rcases hp with rfl | rfl
  · exact .inl hat
  · exact .inr hat
end Go.Proofs.YtlapmbkfmbkdoaaGreatDoor
end
section
namespace Go.Proofs.YtlapmbkfmbkdoaaGreatDoor
open Go Go.Fw Go.RowKit
attribute [local irreducible] Go.Oper.wp Go.Code.wp Go.wpList Go.Fw.WL Go.Calls
section
variable {P : Program} {w0 w : World} {ks : List Nat} {bs : List Seg} {ρ : Operand → Value} {dst : Option Tmp} {ty : TypeId} {pos : String} {af : Array Edge} {g : Option (Nat × Bool)} {x y : Operand} {T T' E : TypeId}
theorem R.nilnil (hx : ρ x = .pointer none) (hy : ρ y = .pointer none) (hT : P.underlying T = some (.pointer E)) :
    (execOp ρ ⟨dst, .binOp .eql T x y T', ty, pos, af, g⟩).run P w = .ok (.value (.bool true)) w := by
  have he : (Op.equal T (.pointer none) (.pointer none)).run P w = .ok true w := by
    unfold Op.equal Op.maxDepth
    rw [Op.equalIn]
    simp only [Sem.run_bind, run_underlying hT, Result.andThen_ok, Sem.run_pure]
    rfl
  simp only [execOp, hx, hy, eqGuard, binOp, he, Sem.run_bind, Sem.run_pure, Result.andThen_ok, Bool.not_true, Bool.false_eq_true, if_false]
theorem R.samePtr {a : Addr} (hx : ρ x = .pointer (some a)) (hy : ρ y = .pointer (some a)) (hT : P.underlying T = some (.pointer E)) (hn : nzT P E = true) :
    (execOp ρ ⟨dst, .binOp .neq T x y T', ty, pos, af, g⟩).run P w = .ok (.value (.bool false)) w := by
  obtain ⟨j, hj⟩ := Option.isSome_iff_exists.1 (show (P.info? E).isSome = true by unfold nzT at hn; cases h : P.info? E <;> simp_all)
  simp only [execOp, hx, hy, eqGuard, Lib.run_neq_ptr_same w a hT hj, Sem.run_bind, Sem.run_pure, Result.andThen_ok, Bool.not_true, Bool.false_eq_true, if_false]
theorem shape_Cel {b : Nat} {l : List Value} (hS : St w0 ks bs w) (hb : HasB bs b (Cel l E)) : w.shape? b = some (E, l.length) := by
  have := hS.get hb
  simp [World.shape?, Cel, this]
theorem R.toUnsafe {b : Nat} {l : List Value} {t U : TypeId} (hx : ρ x = .pointer (some ⟨b, 0, none⟩)) (hs : P.underlying T = some (.pointer t)) (hd : P.underlying U = some .unsafePointer) (hn : nzT P t = true) (hS : St w0 ks bs w) (hb : HasB bs b (Cel l E)) (hl : 0 < l.length) :
    (execOp ρ ⟨dst, .convert T U x, ty, pos, af, g⟩).run P w = .ok (.value (.pointer (some ⟨b, 0, none⟩))) w := by
  obtain ⟨j, hj, hz⟩ : ∃ j, P.info? t = some j ∧ j.size ≠ 0 := by
    unfold nzT at hn
    cases h : P.info? t with
    | none => simp [h] at hn
    | some j => exact ⟨j, rfl, Nat.ne_of_beq_eq_false (by simpa [h] using hn)⟩
  simp only [execOp, hx, Lib.run_to_unsafe w ⟨b, 0, none⟩ hs hd hj hz (shape_Cel hS hb) hl, Sem.run_bind, Sem.run_pure, Result.andThen_ok]
theorem R.fromUnsafe {b : Nat} {l : List Value} {t U : TypeId} (hx : ρ x = .pointer (some ⟨b, 0, none⟩)) (hs : P.underlying T = some .unsafePointer) (hd : P.underlying U = some (.pointer t)) (hn : nzT P t = true) (hS : St w0 ks bs w) (hb : HasB bs b (Cel l E)) (hl : liesAt P P.depth E (l.length / P.cellsOf E) 0 t 1 = true) :
    (execOp ρ ⟨dst, .convert T U x, ty, pos, af, g⟩).run P w = .ok (.value (.pointer (some ⟨b, 0, none⟩))) w := by
  obtain ⟨j, hj⟩ := Option.isSome_iff_exists.1 (show (P.info? t).isSome = true by unfold nzT at hn; cases h : P.info? t <;> simp_all)
  simp only [execOp, hx, Lib.run_from_unsafe w ⟨b, 0, none⟩ hs hd hj (shape_Cel hS hb) hl, Sem.run_bind, Sem.run_pure, Result.andThen_ok]
end
theorem lies77 : liesAt Tryz.prog Tryz.prog.depth 77 (2 / Tryz.prog.cellsOf 77) 0 77 1 = true := by kernel_rfl
theorem noEsc (v : Value) (w : World) : (callFunc 128 [v].toArray).run Tryz.prog w = .ok (.value v) w := by
  rw [run_callFunc_extern Tryz.func128 (by kernel_rfl) (by kernel_rfl) (by kernel_rfl) (e := Extern.AbiNoEscape.same) (by kernel_rfl)]
  rw [Lib.run_noEscape]
  rfl
theorem chk_new (b : Nat) (v : Value) (w0 : World) (ho : Own w0 [(b, Cel [.pointer none, v] 77)]) : Ret Tryz.prog 91 [.pointer (some ⟨b, 0, none⟩)] w0 (([(b, Cel [.pointer none, v] 77)] : Seg).map (·.1)) (fun u s' => u = .tuple #[] ∧ s' = [(b, Cel [.pointer (some ⟨b, 0, none⟩), v] 77)]) := by
 refine fn_start Tryz.func91 Y Tryz.ntmps91 Y [(0, .pointer (some ⟨b, 0, none⟩))] ⟨Y, trivial⟩ ?_
 intro Q a hP J hR hN
 have G := St.enter ho
 refine wp_seq_k fun K1 hK1=> wp_region_lit <| mv J Y Y fun a J=> sw J Y Y Y (R.nilCheck (J.ev Y)) fun a J=> sw J Y Y Y (R.fieldAddr (k := 0) Tryz.underlying77 Y nz75 (J.ev Y) Y) fun a J=> sw J Y Y Y (R.load one75 (J.ev Y) G .h (Y)) fun a J=> sw J Y Y Y (R.nilnil (J.ev Y) (J.ev Y) Tryz.underlying75) fun a J=> s0 <| then_n (hK1 _ _ <| cT J Y <| wp_region_lit <| mv J Y Y fun a J=> mv J Y Y fun a J=> sw J Y Y Y (R.toUnsafe (J.ev Y) Tryz.underlying75 Tryz.underlying168 nz77 G .h (Nat.zero_lt_succ 1)) fun a J=> sw J Y Y Y (R.extern (J.evs Y) (noEsc _ _)) fun a J=> sw J Y Y Y (R.fromUnsafe (J.ev Y) Tryz.underlying168 Tryz.underlying75 nz77 G .h lies77) fun a J=> sw J Y Y Y (R.nilCheck (J.ev Y)) fun a J=> sw J Y Y Y (R.fieldAddr (k := 0) Tryz.underlying77 Y nz75 (J.ev Y) Y) fun a J=> ?_)
 refine so (wn Y) (O.store sz75 (J.ev Y) (J.ev Y) Y Y G .h (Y) (by first | decide | omega | (show _ < 59; decide) | (show _ < 3; decide) | simp) fun w G=> ?_)
 refine s0 <| (hN _ _ _ _ _ J (run_results Tryz.results91 (.nil)) ?_)
 exact ⟨_, _, Y, ⟨Y, Y⟩, G.one .h⟩
theorem chk_old (b : Nat) (v : Value) (w0 : World) (ho : Own w0 [(b, Cel [.pointer (some ⟨b, 0, none⟩), v] 77)]) : Ret Tryz.prog 91 [.pointer (some ⟨b, 0, none⟩)] w0 (([(b, Cel [.pointer (some ⟨b, 0, none⟩), v] 77)] : Seg).map (·.1)) (fun u s' => u = .tuple #[] ∧ s' = [(b, Cel [.pointer (some ⟨b, 0, none⟩), v] 77)]) := by
 refine fn_start Tryz.func91 Y Tryz.ntmps91 Y [(0, .pointer (some ⟨b, 0, none⟩))] ⟨Y, trivial⟩ ?_
 intro Q a hP J hR hN
 have G := St.enter ho
 refine wp_seq_k fun K1 hK1=> wp_region_lit <| mv J Y Y fun a J=> sw J Y Y Y (R.nilCheck (J.ev Y)) fun a J=> sw J Y Y Y (R.fieldAddr (k := 0) Tryz.underlying77 Y nz75 (J.ev Y) Y) fun a J=> sw J Y Y Y (R.load one75 (J.ev Y) G .h (Y)) fun a J=> sw J Y Y Y (R.nilP (J.ev Y) (J.ev Y) Tryz.underlying75) fun a J=> s0 <| then_n (hK1 _ _ <| cF J Y <| wp_seq_k fun K2 hK2=> wp_region_lit <| mv J Y Y fun a J=> sw J Y Y Y (R.nilCheck (J.ev Y)) fun a J=> sw J Y Y Y (R.fieldAddr (k := 0) Tryz.underlying77 Y nz75 (J.ev Y) Y) fun a J=> sw J Y Y Y (R.load one75 (J.ev Y) G .h (Y)) fun a J=> mv J Y Y fun a J=> sw J Y Y Y (R.samePtr (J.ev Y) (J.ev Y) Tryz.underlying75 nz77) fun a J=> s0 <| then_n (hK2 _ _ <| cF J Y <| wp_skip <| (hN _ _ _ _ _ J (run_results Tryz.results91 (.nil)) ?_)))
 exact ⟨_, _, Y, ⟨Y, Y⟩, G.one .h⟩
theorem chk_calls (b : Nat) (p v : Value) (w0 : World) (hp : p = .pointer none ∨ p = .pointer (some ⟨b, 0, none⟩)) (ho : Own w0 [(b, Cel [p, v] 77)]) : Ret Tryz.prog 91 [.pointer (some ⟨b, 0, none⟩)] w0 (([(b, Cel [p, v] 77)] : Seg).map (·.1)) (fun u s' => u = .tuple #[] ∧ s' = [(b, Cel [.pointer (some ⟨b, 0, none⟩), v] 77)]) := by
  rcases hp with rfl | rfl
  · exact chk_new b v w0 ho
  · exact chk_old b v w0 ho
theorem write_calls (b : Nat) (xs ys : List Nat) (s : Seg) (w0 : World) (hB : BldS b xs s) (ho : Own w0 s) (hl : xs.length + ys.length ≤ 100000000) : Ret Tryz.prog 34 [.pointer (some ⟨b, 0, none⟩), .string (bstr ys)] w0 (s.map (·.1)) (fun u s' => u = .tuple #[.int .i64 ((bstr ys).size : Int), .nilIface] ∧ BldS b (xs ++ ys) s') := by
 refine fn_start Tryz.func34 Y Tryz.ntmps34 Y [(0, .pointer (some ⟨b, 0, none⟩)), (1, .string (bstr ys))] ⟨Y, Y, trivial⟩ ?_
 intro Q a hP J hR hN
 have G := St.enter ho
 obtain ⟨p, A, c, sg, hs, hO, hp⟩ := hB; have G := G.flat (bs' := [[(b, Cel [p, .slice A xs.length c] 77)], sg]) (by simp [hs])
 refine wp_seq_k fun K1 hK1=> wp_region_lit <| av J Y Y fun a J=> av J Y Y fun a J=> s0 <| then_n (hK1 _ _ <| wp_seq_k fun K2 hK2=> wp_region_lit <| mv J Y Y fun a J=> so (wn Y) (O.callK Y Y J ent91 (J.evs Y) G (chk_calls b p _ _ hp (G.own1 .h)) (fun _=> .h) fun v s7 a w hR J G=> ?_))
 obtain ⟨rfl, rfl⟩ := hR
 refine s0 <| then_n (hK2 _ _ <| wp_seq_k fun K3 hK3=> wp_region_lit <| mv J Y Y fun a J=> mv J Y Y fun a J=> sw J Y Y Y (R.nilCheck (J.ev Y)) fun a J=> sw J Y Y Y (R.fieldAddr (k := 1) Tryz.underlying77 Y nz22 (J.ev Y) Y) fun a J=> sw J Y Y Y (R.load one22 (J.ev Y) G .h (Y)) fun a J=> mv J Y Y fun a J=> so (wn Y) (O.appendS Y Y J Tryz.underlying22 Tryz.underlying9 inf5 (J.ev Y) (J.ev Y) G hO (fun _=> .t .h) (by rw [size_bstr]; unfold maxLen; omega) (by rw [size_bstr]; omega) fun A2 c2 s2 a w hO2 J G=> ?_))
 refine sw J Y Y Y (R.nilCheck (J.ev Y)) fun a J=> sw J Y Y Y (R.fieldAddr (k := 1) Tryz.underlying77 Y nz22 (J.ev Y) Y) fun a J=> ?_
 refine so (wn Y) (O.store sz22 (J.ev Y) (J.ev Y) Y Y G .h (Y) (by first | decide | omega | (show _ < 59; decide) | (show _ < 3; decide) | simp) fun w G=> ?_)
 refine s0 <| then_n (hK3 _ _ <| wp_seq_k fun K4 hK4=> wp_region_lit <| mv J Y Y fun a J=> sw J Y Y Y (R.lenS Tryz.underlying9 (J.ev Y)) fun a J=> av J Y Y fun a J=> av J Y Y fun a J=> s0 <| then_n (hK4 _ _ <| wp_ret (hR _ _ _ _ _ J (run_results Tryz.results34 (.t J Y (.t J Y (.nil)))) ?_)))
 have G := (G.sel [0, 1] rfl rfl).flat (bs' := [(b, Cel [.pointer (some ⟨b, 0, none⟩), .slice A2 (xs ++ ys).length c2] 77) :: s2]) (by simp [selS, size_bstr])
 exact ⟨_, _, Y, ⟨Y, ⟨_, A2, c2, s2, Y, by rw [← chs_app, List.length_append, ← size_bstr ys]; exact hO2, .inr Y⟩⟩, G⟩
end Go.Proofs.YtlapmbkfmbkdoaaGreatDoor
end
section
namespace Go.Proofs.YtlapmbkfmbkdoaaGreatDoor
open Go Go.Fw Go.RowKit
attribute [local irreducible] Go.Oper.wp Go.Code.wp Go.wpList Go.Fw.WL Go.Calls
theorem string_op {w0 w : World} {bs : List Seg} {N d : Nat} {env : Env} {a : Act} {K : Act → World → Prop} {Q : Exit → Act → World → Prop} {dst : Option Tmp} {ty : TypeId} {pos : String} {af : Array Edge} {g : Option (Nat × Bool)} {xs : List Operand} {tys : Array TypeId} {b : Nat} {ys : List Nat} {s : Seg} (hd : dst = some d) (hn : Nat.blt d N = true) (hF : Fr N env a) (hx : xs.map a.eval = [.pointer (some ⟨b, 0, none⟩)]) (hS : St w0 [] bs w) (hs : HasS bs s) (hB : BldS b ys s)
    (h : ∀ a' w', Fr N ((d, .string (bstr ys)) :: env) a' → St w0 [] [[]] w' → K a' w') : Oper.wp Tryz.prog ⟨dst, .call ⟨.value (.func 39), xs.toArray, tys⟩, ty, pos, af, g⟩ a w K Q := by
  subst hd
  unfold Oper.wp
  rw [Fw.run_call hx, ent39, Oper.upon_enter]
  refine Calls.mono (Any.Builder_String_any Tryz.lays169 Tryz.Builder_Extra_169 w0.heap.size b (ys.map fun n => UInt8.ofNat n) w (bld_is hS hs hB) hS.size) ?_
  rintro e w' ⟨rfl, hb⟩
  exact h _ w' (hF.put hn _) ⟨hb.os.trans hS.os, hb.tape.trans hS.tape, hb.output.trans hS.output, Nat.le_trans hS.size hb.size, fun k hk _ => (hb.block k hk).trans (hS.keep k hk (by simp)), by simp, by simp, by simp [keys]⟩
def tgts (xs m : List Nat) : List Nat := (m.filter (isJump xs)).map (targetN xs)
theorem tg_T {xs m : List Nat} {q : Nat} (h : cAt xs q = 14 ∨ cAt xs q = 15) : tgts xs (m ++ [q]) = tgts xs m ++ [targetN xs q] := by
  simp [tgts, List.filter_append, isJump_of h]
theorem tg_F {xs m : List Nat} {q : Nat} (h : ¬ (cAt xs q = 14 ∨ cAt xs q = 15)) : tgts xs (m ++ [q]) = tgts xs m := by
  have : isJump xs q = false := by simpa [isJump] using h
  simp [tgts, List.filter_append, this]
theorem tg_go (xs l : List Nat) (p : Nat) : (tgts xs l).contains p = goN xs l p := by
  rw [Bool.eq_iff_iff]
  simp [tgts, goN, and_assoc]
theorem tg_lt {xs l : List Nat} (hc : chkN xs = true) (hl : placesN xs = some l) {q : Nat} (hq : q ∈ l) (hj : cAt xs q = 14 ∨ cAt xs q = 15) : targetN xs q < xs.length ∧ xs.length ≤ 1024 := by
  have h1 : (l.all fun p => !isJump xs p || l.contains (targetN xs p)) = true := by
    simp only [chkN, hl, Bool.and_eq_true] at hc; exact hc.2
  have h3 : xs.length ≤ 1024 := by
    simp only [chkN, Bool.and_eq_true, decide_eq_true_eq] at hc; omega
  have h2 := List.all_eq_true.1 h1 q hq
  rw [isJump_of hj] at h2
  exact ⟨(places_mem hl _ (by simpa using h2)).1, h3⟩
def begL (l : List Nat) : List Value := (List.range 1024).map fun j => .bool (l.contains j)
theorem length_begL (l : List Nat) : (begL l).length = 1024 := by simp [begL]
theorem begL_at {xs l : List Nat} {j off : Nat} (h : j < 1024) (ho : off = j) : (begL (tgts xs l))[off]? = some (.bool (decide (goN xs l j = true))) := by
  subst ho
  rw [show decide (goN xs l off = true) = goN xs l off by simp, ← tg_go]
  simp [begL, h]
theorem begL_set {l : List Nat} {i off : Nat} (ho : off = i) : (begL l).set off (.bool true) = begL (l ++ [i]) := by
  subst ho
  apply List.ext_getElem?
  intro j
  rw [List.getElem?_set]
  by_cases hj : j < 1024
  · have e : ∀ m : List Nat, (begL m)[j]? = some (.bool (m.contains j)) := fun m => by simp [begL, hj]
    rw [e, e, length_begL]
    by_cases e : off = j
    · subst e; simp [hj]
    · rw [if_neg e]
      have : ¬ j = off := fun h => e h.symm
      simp [this]
  · rw [List.getElem?_eq_none (by rw [length_begL]; omega), List.getElem?_eq_none (by rw [length_begL]; omega)]
    by_cases e : off = j
    · rw [if_pos e, if_neg (by rw [length_begL]; omega)]
    · rw [if_neg e]
theorem ze69b : zeT Tryz.prog 69 (.agg (begL []).toArray) := by unfold zeT; kernel_rfl
theorem row_name {c : Nat} (h : c < 28) : tabR[c]? = some (rowC (bstr (nameN c)) c) := by
  have hcases : c = 0 ∨ c = 1 ∨ c = 2 ∨ c = 3 ∨ c = 4 ∨ c = 5 ∨ c = 6 ∨ c = 7 ∨ c = 8 ∨ c = 9 ∨ c = 10 ∨ c = 11 ∨ c = 12 ∨ c = 13 ∨ c = 14 ∨ c = 15 ∨ c = 16 ∨ c = 17 ∨ c = 18 ∨ c = 19 ∨ c = 20 ∨ c = 21 ∨ c = 22 ∨ c = 23 ∨ c = 24 ∨ c = 25 ∨ c = 26 ∨ c = 27 := by omega
  rcases hcases with rfl | rfl | rfl | rfl | rfl | rfl | rfl | rfl | rfl | rfl | rfl | rfl | rfl | rfl | rfl | rfl | rfl | rfl | rfl | rfl | rfl | rfl | rfl | rfl | rfl | rfl | rfl | rfl <;> exact rfl
theorem row_nm {c off : Nat} (h : c < 28) (ho : off = c * 5) : ∀ j v, (rowC (bstr (nameN c)) c)[j]? = some v → tabL[off + j]? = some v := by
  subst ho
  exact flat_at (by decide +kernel) (row_name h)
theorem line_m {xs l m o : List Nat} {i : Nat} (h : o = linesN xs l m) : o ++ labN xs l i ++ nameN (cAt xs i) ++ operL xs i ++ [10] = linesN xs l (m ++ [i]) := by
  rw [lines_snoc, ← h]
  unfold lineN
  simp only [List.append_assoc]
theorem plcs_all {xs l : List Nat} (h : placesN xs = some l) : plcs xs 0 = some l := h
theorem oper1 {c : Nat} (h : ((operN c : Nat) : Int) = 1) : c = 2 := (operN_spec c).1.1 (by omega)
theorem oper2 {c : Nat} (h : ((operN c : Nat) : Int) = 2) : c = 4 ∨ c = 5 ∨ c = 16 := (operN_spec c).2.1.1 (by omega)
theorem oper3 {c : Nat} (h : ((operN c : Nat) : Int) = 3) : c = 14 ∨ c = 15 := (operN_spec c).2.2.1 (by omega)
set_option maxHeartbeats 4000000 in
theorem mtext_good (A : Option Addr) (n c : Nat) (xs : List Nat) (l : List Nat) (w0 : World) (hA : Rd w0 A (byts xs)) (hn : xs.length = n) (hnc : n ≤ c) (hc : c ≤ 9223372036854775807) (hB : Byt xs) (ht : TabW w0) (hck : chkN xs = true) (hl : placesN xs = some l) (hn2 : n ≤ 1024) : Ret Tryz.prog 9 [.slice A n c] w0 [] (fun v s => v = .tuple #[.string (bstr (textN xs)), .int .i64 0] ∧ s = []) := by
 refine fn_start Tryz.func9 Y Tryz.ntmps9 Y [(0, .slice A n c)] ⟨Y, trivial⟩ ?_
 intro Q a hP J hR hN
 have G := St.start w0
 refine wp_seq_k fun K1 hK1=> wp_region_lit <| av J Y Y fun a J=> av J Y Y fun a J=> s0 <| then_n (hK1 _ _ <| wp_seq_k fun K2 hK2=> wp_seq_k fun K3 hK3=> wp_region_lit <| mv J Y Y fun a J=> so (wn Y) (O.call Y Y J ent14 (J.evs Y) G (check_calls A n c xs _ (hA.old G) hn hnc hc hB) fun v s16 a w hR J G=> ?_))
 obtain ⟨rfl, rfl⟩ := hR
 rw [show chkV xs = .int .i64 0 from by rw [chkV, hck]; rfl] at J
 refine av J Y Y fun a J=> s0 <| then_n (hK3 _ _ <| wp_seq_k fun K4 hK4=> wp_region_lit <| mv J Y Y fun a J=> sw J Y Y Y (R.as (u := .bool false) (R.neq (p := 0) (q := 0) (J.ev Y) (J.ev Y)) (Y)) fun a J=> s0 <| then_n (hK4 _ _ <| cF J Y <| wp_skip <| then_n (hK2 _ _ <| wp_seq_k fun K5 hK5=> wp_region_lit <| so (wn Y) (O.alloc Y Y J ze69b Y G fun b5 a w J G=> ?_))))
 refine s0 <| then_n (hK5 _ _ <| wp_seq_k fun K6 hK6=> wp_seq_k fun K7 hK7=> wp_region_lit <| av J Y Y fun a J=> s0 <| then_n (hK7 _ _ <| wp_block <| wp_loop_N (fun g a w=> ∃ (i : Nat) (m : List Nat) (r : List Nat), n - i = g ∧ Fr 122 [(0, .slice A n c), (5, .pointer (some ⟨b5, 0, none⟩)), (6, .int .i64 ((i : Nat) : Int))] a ∧ St w0 [] [[(b5, Cel (begL (tgts xs m)) 69)]] w ∧ (i ≤ n) ∧ (plcs xs i = some r) ∧ (l = m ++ r)) (n - 0) ?_ ?_))
 ·exact ⟨0, [], l, Y, J.sub ⟨Y, Y, Y, trivial⟩, G.sel [0] Y Y, by omega, plcs_all hl, Y⟩
 rintro KL1 g a w ⟨i, m, r, hg1, J, G, hi, hr, hlr⟩ hKL1
 refine wp_seq_k fun K8 hK8=> wp_seq_k fun K9 hK9=> wp_region_lit <| mv J Y Y fun a J=> mv J Y Y fun a J=> sw J Y Y Y (R.len Tryz.underlying22 (J.ev Y)) fun a J=> lS J Y Y Y fun a J=> s0 <| then_n (hK9 _ _ <| cD J Y (fun c2=> ?_) (fun c2=> ?_))
 ·obtain ⟨r', hs2, rfl, hr2⟩ := plcs_cons (by omega) hr
  have hql : i ∈ l := by rw [hlr]; simp
  have hb := cAt_lt hB i; have hsz := (sizeN_le xs i).resolve_left hs2; have hc28 := size_28 hs2
  refine wp_skip <| then_n (hK8 _ _ <| wp_seq_k fun K10 hK10=> ?_)
  have hK10' : ∀ a w, (∃ (t : List Nat), Fr 122 [(0, .slice A n c), (5, .pointer (some ⟨b5, 0, none⟩)), (6, .int .i64 ((i : Nat) : Int))] a ∧ St w0 [] [[(b5, Cel (begL (t)) 69)]] w ∧ (t = tgts xs (m ++ [i]))) → K10 a w := by
   rintro a w ⟨t, J, G, htt⟩
   refine hK10 _ _ ?_
   subst htt
   refine wp_region_lit <| mv J Y Y fun a J=> mv J Y Y fun a J=> mv J Y Y fun a J=> so (wn Y) (O.call Y Y J ent31 (J.evs Y) G (size_calls A n c xs i w (hA.old G) hn hnc hc hB (by omega)) fun v s27 a w hR J G=> ?_)
   obtain ⟨rfl, rfl⟩ := hR
   refine aI J Y Y Y (by omega) fun a J=> av J Y Y fun a J=> s0 <| then_n (hKL1 (n - (i + sizeN xs i)) _ _ ?_ ?_)
   ·omega
   exact ⟨i + sizeN xs i, m ++ [i], r', Y, J.sub ⟨Y, Y, (congrArg (fun z => some (Value.int .i64 z)) (by omega)), trivial⟩, G.sel [1] Y Y, by omega, hr2, by rw [hlr]; simp⟩
  refine wp_block <| wp_seq_k fun K11 hK11=> ?_
  have hK11' : ∀ a w, (Fr 122 [(0, .slice A n c), (5, .pointer (some ⟨b5, 0, none⟩)), (6, .int .i64 ((i : Nat) : Int)), (40, .bool (decide (cAt xs i = 14 ∨ cAt xs i = 15)))] a ∧ St w0 [] [[(b5, Cel (begL (tgts xs m)) 69)]] w) → K11 a w := by
   rintro a w ⟨J, G⟩
   refine hK11 _ _ ?_
   refine cD J Y (fun c3=> ?_) (fun c3=> ?_)
   ·have htl := tg_lt hck hl hql c3
    refine wp_region_lit <| mv J Y Y fun a J=> mv J Y Y fun a J=> so (wn Y) (O.call Y Y J ent32 (J.evs Y) G (target_calls A n c xs i w (hA.old G) hn hnc hc hB (by have := sz_three hs2 c3; omega)) fun v s43 a w hR J G=> ?_)
    obtain ⟨rfl, rfl⟩ := hR
    refine sw J Y Y Y (R.indexA Tryz.underlying69 sz4 (J.ev Y) (J.ev Y) (by omega) (by omega)) fun a J=> so (wn Y) (O.store sz4 (J.ev Y) (J.ev Y) Y Y G (.t .h) (begL_set (i := targetN xs i) (by omega)) (by rw [length_begL]; omega) fun w G=> ?_)
    refine s0 <| blk_n ?_
    exact then_n (hK10' _ _ ⟨tgts xs m ++ [targetN xs i], J.sub ⟨Y, Y, Y, trivial⟩, G.sel [1] Y Y, (tg_T c3).symm⟩)
   refine wp_skip <| blk_n ?_
   exact then_n (hK10' _ _ ⟨tgts xs m, J.sub ⟨Y, Y, Y, trivial⟩, G.sel [0] Y Y, (tg_F c3).symm⟩)
  refine wp_region_lit <| mv J Y Y fun a J=> mv J Y Y fun a J=> sw J Y Y Y (R.indexO Tryz.underlying22 sz5 (J.ev Y) (Rd.ne hA (by rw [length_byts]; omega)) (J.ev Y) (by omega) (by omega)) fun a J=> sw J Y Y Y (R.loadO one5 (J.ev Y) (hA.old G) (cb_at (i := i) (by omega) (by omega))) fun a J=> eL J Y Y Y fun a J=> mv J Y Y fun a J=> J.splitD (t := 34) Y (fun h34 J=> ?_) (fun h34 J=> ?_)
  ·refine kz J Y Y Y Y Y Y fun a J=> kz J Y Y Y Y Y Y fun a J=> kz J Y Y Y Y Y Y fun a J=> kz J Y Y Y Y Y Y fun a J=> kz J Y Y Y Y Y Y fun a J=> pT J Y Y Y fun a J=> s0 ?_
   exact then_n (hK11' _ _ ⟨J.sub ⟨Y, Y, Y, (congrArg (fun z => some (Value.bool z)) (by first | exact (decide_eq_true (by omega)).symm | exact (decide_eq_false (by omega)).symm | exact decide_eq_decide.2 (by omega))), trivial⟩, G.sel [0] Y Y⟩)
  refine my J Y Y Y Y fun a J=> my J Y Y Y Y fun a J=> sv' J (wy J Y Y Y) Y Y (R.indexO Tryz.underlying22 sz5 (J.ev Y) (Rd.ne hA (by rw [length_byts]; omega)) (J.ev Y) (by omega) (by omega)) fun a J=> sv' J (wy J Y Y Y) Y Y (R.loadO one5 (J.ev Y) (hA.old G) (cb_at (i := i) (by omega) (by omega))) fun a J=> sv' J (wy J Y Y Y) Y Y (R.eql (J.ev Y) (J.ev Y)) fun a J=> pF J Y Y Y fun a J=> s0 ?_
  exact then_n (hK11' _ _ ⟨J.sub ⟨Y, Y, Y, (congrArg (fun z => some (Value.bool z)) (by first | exact (decide_eq_true (by omega)).symm | exact (decide_eq_false (by omega)).symm | exact decide_eq_decide.2 (by omega))), trivial⟩, G.sel [0] Y Y⟩)
 have hre : r = [] := by (rw [plcs_end (p := i) (by omega)] at hr; simpa using hr.symm)
 subst hre
 rw [List.append_nil] at hlr
 subst hlr
 refine wp_exit (then_x (then_x (blk_hit <| then_n (hK6 _ _ <| wp_seq_k fun K12 hK12=> wp_region_lit <| so (wn Y) (O.call Y Y J ent33 (J.evs Y) G (table_calls w) fun v s45 a w hR J G=> ?_)))))
 obtain ⟨rfl, rfl⟩ := hR
 refine so (wn Y) (O.alloc Y Y J ze73 Y G fun b7 a w J G=> ?_)
 refine so (wn Y) (O.storeW sz73 (J.ev Y) (J.ev Y) (Y) Y (one_tab) G .h (Y) fun w G=> ?_)
 refine s0 <| then_n (hK12 _ _ <| wp_seq_k fun K13 hK13=> wp_region_lit <| so (wn Y) (O.alloc Y Y J ze77 Y G fun b8 a w J G=> ?_))
 refine s0 <| then_n (hK13 _ _ <| wp_seq_k fun K14 hK14=> wp_seq_k fun K15 hK15=> wp_region_lit <| av J Y Y fun a J=> s0 <| then_n (hK15 _ _ <| wp_block <| wp_loop_N (fun g a w=> ∃ (i : Nat) (m : List Nat) (r : List Nat) (o : List Nat) (z : Seg), n - i = g ∧ Fr 122 [(0, .slice A n c), (5, .pointer (some ⟨b5, 0, none⟩)), (7, .pointer (some ⟨b7, 0, none⟩)), (8, .pointer (some ⟨b8, 0, none⟩)), (9, .int .i64 ((i : Nat) : Int))] a ∧ St w0 [] [z, [(b7, Cel tabL 73)], [(b5, Cel (begL (tgts xs l)) 69)]] w ∧ (i ≤ n) ∧ (plcs xs i = some r) ∧ (l = m ++ r) ∧ (o = linesN xs l m) ∧ (o.length ≤ 400 * i) ∧ (BldS b8 o z)) (n - 0) ?_ ?_))
 ·exact ⟨0, [], l, [], _, Y, J.sub ⟨Y, Y, Y, Y, Y, trivial⟩, G.sel [0, 1, 3] Y Y, by omega, plcs_all hl, Y, Y, by decide, bld_new b8⟩
 rintro KL2 g a w ⟨i, m, r, o, z, hg2, J, G, hi, hr, hlr, ho, hol, hZ⟩ hKL2
 refine wp_seq_k fun K16 hK16=> wp_seq_k fun K17 hK17=> wp_region_lit <| mv J Y Y fun a J=> mv J Y Y fun a J=> sw J Y Y Y (R.len Tryz.underlying22 (J.ev Y)) fun a J=> lS J Y Y Y fun a J=> s0 <| then_n (hK17 _ _ <| cD J Y (fun c4=> ?_) (fun c4=> ?_))
 ·obtain ⟨r', hs2, rfl, hr2⟩ := plcs_cons (by omega) hr
  have hql : i ∈ l := by rw [hlr]; simp
  have hb := cAt_lt hB i; have hsz := (sizeN_le xs i).resolve_left hs2; have hc28 := size_28 hs2
  have hb1 := cAt_lt hB (i + 1); have hdq := len_decS (n := i) (by omega)
  refine wp_skip <| then_n (hK16 _ _ <| wp_block <| wp_seq_k fun K18 hK18=> wp_region_lit <| mv J Y Y fun a J=> mv J Y Y fun a J=> so (wn Y) (O.call Y Y J ent31 (J.evs Y) G (size_calls A n c xs i w (hA.old G) hn hnc hc hB (by omega)) fun v s52 a w hR J G=> ?_))
  obtain ⟨rfl, rfl⟩ := hR
  refine av J Y Y fun a J=> s0 <| then_n (hK18 _ _ <| wp_seq_k fun K19 hK19=> ?_)
  have hK19' : ∀ a w, (∃ (z : Seg), Fr 122 [(0, .slice A n c), (5, .pointer (some ⟨b5, 0, none⟩)), (7, .pointer (some ⟨b7, 0, none⟩)), (8, .pointer (some ⟨b8, 0, none⟩)), (9, .int .i64 ((i : Nat) : Int)), (10, .int .i64 ((sizeN xs i : Nat) : Int))] a ∧ St w0 [] [z, [(b7, Cel tabL 73)], [(b5, Cel (begL (tgts xs l)) 69)]] w ∧ (BldS b8 (o ++ labN xs l i) z)) → K19 a w := by
   rintro a w ⟨z, J, G, hZ⟩
   refine hK19 _ _ ?_
   have hlb : (labN xs l i).length ≤ 81 := by (unfold labN; split; simp only [List.length_append, List.length_cons, List.length_nil]; omega; exact Nat.zero_le _)
   have hnm := len_name (cAt xs i)
   refine wp_seq_k fun K20 hK20=> wp_region_lit <| mv J Y Y fun a J=> mv J Y Y fun a J=> sw J Y Y Y (R.indexO Tryz.underlying22 sz5 (J.ev Y) (Rd.ne hA (by rw [length_byts]; omega)) (J.ev Y) (by omega) (by omega)) fun a J=> sw J Y Y Y (R.loadO one5 (J.ev Y) (hA.old G) (cb_at (i := i) (by omega) (by omega))) fun a J=> sw J Y Y Y (R.indexA Tryz.underlying73 sz72 (J.ev Y) (J.ev Y) (by omega) (by omega)) fun a J=> sw J Y Y Y (R.loadA (cs := rowC (bstr (nameN (cAt xs i))) (cAt xs i)) agg72 (J.ev Y) G (.t .h) sz72 Y (row_nm (c := (cAt xs i)) (by omega) (by omega))) fun a J=> so (wn Y) (O.alloc Y Y J ze72 Y G fun b11 a w J G=> ?_)
   refine so (wn Y) (O.storeW sz72 (J.ev Y) (J.ev Y) (Y) Y (one_row _ _) G .h (Y) fun w G=> ?_)
   refine s0 <| then_n (hK20 _ _ <| wp_seq_k fun K21 hK21=> wp_region_lit <| sw J Y Y Y (R.fieldAddr (k := 0) Tryz.underlying72 Y nz9 (J.ev Y) Y) fun a J=> sw J Y Y Y (R.load one9 (J.ev Y) G .h (Y)) fun a J=> so (wn Y) (O.callK Y Y J ent34 (J.evs Y) G (write_calls b8 (o ++ labN xs l i) (nameN (cAt xs i)) _ w hZ (G.own1 (.t .h)) (by simp only [List.length_append, List.length_cons, List.length_nil]; omega)) (fun _=> (.t .h)) fun v s69 a w hR J G=> ?_))
   obtain ⟨rfl, hZ⟩ := hR
   refine s0 <| then_n (hK21 _ _ <| wp_seq_k fun K22 hK22=> ?_)
   have hK22' : ∀ a w, (∃ (z : Seg), Fr 122 [(0, .slice A n c), (5, .pointer (some ⟨b5, 0, none⟩)), (7, .pointer (some ⟨b7, 0, none⟩)), (8, .pointer (some ⟨b8, 0, none⟩)), (9, .int .i64 ((i : Nat) : Int)), (10, .int .i64 ((sizeN xs i : Nat) : Int))] a ∧ St w0 [] [z, [(b7, Cel tabL 73)], [(b5, Cel (begL (tgts xs l)) 69)]] w ∧ (BldS b8 (o ++ labN xs l i ++ nameN (cAt xs i) ++ operL xs i) z)) → K22 a w := by
    rintro a w ⟨z, J, G, hZ⟩
    refine hK22 _ _ ?_
    have hop : (operL xs i).length ≤ 80 := len_oper hB (by omega) hs2
    refine wp_seq_k fun K23 hK23=> wp_region_lit <| so (wn Y) (O.callK Y Y J ent34 (J.evs Y) G (write_calls b8 (o ++ labN xs l i ++ nameN (cAt xs i) ++ operL xs i) ([10]) _ w hZ (G.own1 .h) (by simp only [List.length_append, List.length_cons, List.length_nil]; omega)) (fun _=> .h) fun v s117 a w hR J G=> ?_)
    obtain ⟨rfl, hZ⟩ := hR
    refine s0 <| then_n (hK23 _ _ <| wp_region_lit <| mv J Y Y fun a J=> mv J Y Y fun a J=> aI J Y Y Y (by omega) fun a J=> av J Y Y fun a J=> s0 <| blk_n <| then_n (hKL2 (n - (i + sizeN xs i)) _ _ ?_ ?_))
    ·omega
    exact ⟨i + sizeN xs i, m ++ [i], r', _, _, Y, J.sub ⟨Y, Y, Y, Y, (congrArg (fun z => some (Value.int .i64 z)) (by omega)), trivial⟩, G.sel [0, 1, 2] Y Y, by omega, hr2, by rw [hlr]; simp, line_m ho, (by simp only [List.length_append, List.length_cons, List.length_nil]; omega), hZ⟩
   refine wp_seq_k fun K24 hK24=> wp_region_lit <| mv J Y Y fun a J=> mv J Y Y fun a J=> sw J Y Y Y (R.indexO Tryz.underlying22 sz5 (J.ev Y) (Rd.ne hA (by rw [length_byts]; omega)) (J.ev Y) (by omega) (by omega)) fun a J=> sw J Y Y Y (R.loadO one5 (J.ev Y) (hA.old G) (cb_at (i := i) (by omega) (by omega))) fun a J=> sw J Y Y Y (R.convI Tryz.underlying5 Tryz.underlying3 (J.ev Y) (by omega)) fun a J=> so (wn Y) (O.call Y Y J ent36 (J.evs Y) G (operandOf_calls (cAt xs i) w) fun v s75 a w hR J G=> ?_)
   obtain ⟨rfl, rfl⟩ := hR
   refine s0 <| then_n (hK24 _ _ <| wp_block <| wp_seq_k fun K25 hK25=> wp_region_lit <| eL J Y Y Y fun a J=> av J Y Y fun a J=> s0 <| then_n (hK25 _ _ <| cD J Y (fun c6=> ?_) (fun c6=> ?_)))
   ·have hc3 := oper1 c6; have hsp := sz_push hs2 hc3
    obtain ⟨k, hk⟩ : ∃ k, k = cAt xs (i + 1) := ⟨_, rfl⟩
    have hlk : ((xs.drop (i + 2)).take k).length = k := by (rw [List.length_take, List.length_drop]; omega)
    have hBk : Byt ((xs.drop (i + 2)).take k) := fun d hd => hB d (List.drop_subset _ _ (List.take_subset _ _ hd))
    have hnb : numB ((xs.drop (i + 2)).take k) < 115792089237316195423570985008687907853269984665640564039457584007913129639936 := numB_lt32 (by omega) hBk
    have hdn := len_decS hnb
    refine wp_seq_k fun K26 hK26=> wp_region_lit <| so (wn Y) (O.alloc Y Y J ze101b Y G fun b12 a w J G=> ?_)
    refine s0 <| then_n (hK26 _ _ <| wp_seq_k fun K27 hK27=> wp_drawG G (G.sel [2] Y Y) [(0, 0), (1, 0), (2, 0), (3, 0), (4, 0), (5, 0), (6, 0), (7, 0), (8, 0), (9, 0), (10, 2)] mix (by kernel_rfl) (hP.then.block.then.block.then.block.then) fun w G hD=> ?_)
    refine dm J Y Y Y fun a J=> dv J Y Y Y Y (fun w=> R.subI (J.ev Y) (J.ev Y) (by omega)) fun a J=> dv J Y Y Y Y (fun w=> R.sliceArrLo (p := 32 - k) Tryz.underlying83 sz5 (J.ev Y) ((J.ev Y).trans (congrArg (Value.int .i64) (by omega))) (by omega)) fun a J=> dm J Y Y Y fun a J=> dm J Y Y Y fun a J=> dv J Y Y Y Y (fun w=> R.addI (J.ev Y) (J.ev Y) (by omega)) fun a J=> dm J Y Y Y fun a J=> dm J Y Y Y fun a J=> dv J Y Y Y Y (fun w=> R.addI (J.ev Y) (J.ev Y) (by omega)) fun a J=> dv J Y Y Y Y (fun w=> R.as (u := .slice (if c = i + 2 then A else A.map (·.add ((i + 2) * 1))) k (c - (i + 2))) (R.sliceMid (p := i + 2) (q := i + 2 + k) Tryz.underlying22 (J.ev Y) ((J.ev Y).trans (congrArg (Value.int .i64) (by omega))) ((J.ev Y).trans (congrArg (Value.int .i64) (by omega))) (by omega) (by omega) sz5) (congrArg (fun z=> Value.slice _ z _) (by omega))) fun a J=> ?_
    have hrd : Rd w (if c = i + 2 then A else A.map (·.add ((i + 2) * 1))) (byts ((xs.drop (i + 2)).take k)) := by (rw [← byts_takeK]; exact (rd_dropB (hA.old G) (by omega) (i + 2)).sub k)
    refine dl Y (wn Y) (O.copyAt (cs := byts ((xs.drop (i + 2)).take k)) Y Y J Tryz.underlying22 sz5 (J.ev Y) (J.ev Y) G hrd (by rw [length_byts, hlk, Nat.mul_one]) (by decide) (one_byts _) .h (spl_push hlk (by omega)) (by rw [length_byts]; simp; omega) fun a w J G=> ⟨fun hD=> G.sel [2] Y Y, ?_⟩)
    have hD := G.sel [2] rfl rfl
    refine d0 <| then_n (hK27 _ _ <| wp_seq_k fun K28 hK28=> wp_region_lit <| sw J Y Y Y (R.sliceAll Tryz.underlying83 sz5 (J.ev Y)) fun a J=> so (wn Y) (O.call Y Y J ent37 (J.evs Y) G (read32_calls ((xs.drop (i + 2)).take k) (32 - k) _ (Rd.own0 G .h) (by rw [hlk]; omega) hBk) fun v s91 a w hR J G=> ?_))
    obtain ⟨rfl, rfl⟩ := hR
    refine mv J Y Y fun a J=> xv J Y Y Y fun a J=> xv J Y Y Y fun a J=> so (wn Y) (O.alloc Y Y J ze32 Y G fun b13 a w J G=> ?_)
    refine so (wn Y) (O.storeW sz32 (J.ev Y) (J.ev Y) (Y) Y (by simp [Value.oneCell']) G .h (Y) fun w G=> ?_)
    refine av J Y Y fun a J=> s0 <| then_n (hK28 _ _ <| wp_region_lit <| sw J Y Y Y (R.loadW agg32 (J.ev Y) G .h sz32 (Y)) fun a J=> so (wn Y) (O.call Y Y J ent38 (J.evs Y) G (text_calls (numB ((xs.drop (i + 2)).take k)) w hnb) fun v s95 a w hR J G=> ?_))
    obtain ⟨rfl, rfl⟩ := hR
    refine sw J Y Y Y (R.catS (xs := [32]) (ys := (decS (numB ((xs.drop (i + 2)).take k)))) (J.ev Y) (J.ev Y) (by simp only [List.length_append, List.length_cons, List.length_nil]; omega)) fun a J=> so (wn Y) (O.callK Y Y J ent34 (J.evs Y) G (write_calls b8 (o ++ labN xs l i ++ nameN (cAt xs i)) ([32] ++ (decS (numB ((xs.drop (i + 2)).take k)))) _ w hZ (G.own1 (.t (.t (.t (.t (.t (.t .h))))))) (by simp only [List.length_append, List.length_cons, List.length_nil]; omega)) (fun _=> (.t (.t (.t (.t (.t (.t .h))))))) fun v s97 a w hR J G=> ?_)
    obtain ⟨rfl, hZ⟩ := hR
    refine s0 <| blk_n ?_
    exact then_n (hK22' _ _ ⟨_, J.sub ⟨Y, Y, Y, Y, Y, Y, trivial⟩, G.sel [6, 7, 8] Y Y, (by rw [op_2 hc3, show sizeN xs i - 2 = k by omega]; simpa using hZ)⟩)
   refine wp_seq_k fun K29 hK29=> wp_region_lit <| eL J Y Y Y fun a J=> av J Y Y fun a J=> s0 <| then_n (hK29 _ _ <| cD J Y (fun c7=> ?_) (fun c7=> ?_))
   ·have hc3 := oper2 c7; have hsp := sz_two hs2 hc3; have hdo := len_decS (n := cAt xs (i + 1)) (by omega)
    refine wp_region_lit <| mv J Y Y fun a J=> mv J Y Y fun a J=> aI J Y Y Y (by omega) fun a J=> sw J Y Y Y (R.indexO Tryz.underlying22 sz5 (J.ev Y) (Rd.ne hA (by rw [length_byts]; omega)) (J.ev Y) (by omega) (by omega)) fun a J=> sw J Y Y Y (R.loadO one5 (J.ev Y) (hA.old G) (cb_at (i := i + 1) (by omega) (by omega))) fun a J=> sw J Y Y Y (R.convI Tryz.underlying5 Tryz.underlying3 (J.ev Y) (by omega)) fun a J=> so (wn Y) (O.call Y Y J ent35 (J.evs Y) G (itoa_calls (cAt xs (i + 1)) w (ht.old G) (by omega)) fun v s106 a w hR J G=> ?_)
    obtain ⟨rfl, rfl⟩ := hR
    refine sw J Y Y Y (R.catS (xs := [32]) (ys := (decS (cAt xs (i + 1)))) (J.ev Y) (J.ev Y) (by simp only [List.length_append, List.length_cons, List.length_nil]; omega)) fun a J=> so (wn Y) (O.callK Y Y J ent34 (J.evs Y) G (write_calls b8 (o ++ labN xs l i ++ nameN (cAt xs i)) ([32] ++ (decS (cAt xs (i + 1)))) _ w hZ (G.own1 (.t (.t (.t .h)))) (by simp only [List.length_append, List.length_cons, List.length_nil]; omega)) (fun _=> (.t (.t (.t .h)))) fun v s108 a w hR J G=> ?_)
    obtain ⟨rfl, hZ⟩ := hR
    refine s0 <| blk_n ?_
    exact then_n (hK22' _ _ ⟨_, J.sub ⟨Y, Y, Y, Y, Y, Y, trivial⟩, G.sel [3, 4, 5] Y Y, (by rw [op_4 hc3]; simpa using hZ)⟩)
   refine wp_seq_k fun K30 hK30=> wp_region_lit <| eL J Y Y Y fun a J=> av J Y Y fun a J=> s0 <| then_n (hK30 _ _ <| cD J Y (fun c8=> ?_) (fun c8=> ?_))
   ·have hc3 := oper3 c8; have hsp := sz_three hs2 hc3
    have htg : targetN xs i ≤ 65535 := by (have := cAt_lt hB (i + 2); unfold targetN; omega)
    have hdt := len_decS (n := targetN xs i) (by omega)
    refine wp_region_lit <| mv J Y Y fun a J=> mv J Y Y fun a J=> so (wn Y) (O.call Y Y J ent32 (J.evs Y) G (target_calls A n c xs i w (hA.old G) hn hnc hc hB (by have := sz_three hs2 hc3; omega)) fun v s113 a w hR J G=> ?_)
    obtain ⟨rfl, rfl⟩ := hR
    refine so (wn Y) (O.call Y Y J ent35 (J.evs Y) G (itoa_calls (targetN xs i) w (ht.old G) (by omega)) fun v s114 a w hR J G=> ?_)
    obtain ⟨rfl, rfl⟩ := hR
    refine sw J Y Y Y (R.catS (xs := [32, 76]) (ys := (decS (targetN xs i))) (J.ev Y) (J.ev Y) (by simp only [List.length_append, List.length_cons, List.length_nil]; omega)) fun a J=> so (wn Y) (O.callK Y Y J ent34 (J.evs Y) G (write_calls b8 (o ++ labN xs l i ++ nameN (cAt xs i)) ([32, 76] ++ (decS (targetN xs i))) _ w hZ (G.own1 (.t (.t (.t (.t .h))))) (by simp only [List.length_append, List.length_cons, List.length_nil]; omega)) (fun _=> (.t (.t (.t (.t .h))))) fun v s116 a w hR J G=> ?_)
    obtain ⟨rfl, hZ⟩ := hR
    refine s0 <| blk_n ?_
    exact then_n (hK22' _ _ ⟨_, J.sub ⟨Y, Y, Y, Y, Y, Y, trivial⟩, G.sel [4, 5, 6] Y Y, (by rw [op_j hc3]; simpa using hZ)⟩)
   refine wp_skip <| blk_n ?_
   exact then_n (hK22' _ _ ⟨_, J.sub ⟨Y, Y, Y, Y, Y, Y, trivial⟩, G.sel [2, 3, 4] Y Y, (by rw [op_n (by have := operN_spec (cAt xs i); omega), List.append_nil]; exact hZ)⟩)
  refine wp_seq_k fun K31 hK31=> wp_region_lit <| mv J Y Y fun a J=> sw J Y Y Y (R.indexA Tryz.underlying69 sz4 (J.ev Y) (J.ev Y) (by omega) (by omega)) fun a J=> sw J Y Y Y (R.load one4 (J.ev Y) G (.t (.t (.t .h))) (begL_at (j := i) (by omega) (by omega))) fun a J=> s0 <| then_n (hK31 _ _ <| cD J Y (fun c5=> ?_) (fun c5=> ?_))
  ·refine wp_region_lit <| mv J Y Y fun a J=> so (wn Y) (O.call Y Y J ent35 (J.evs Y) G (itoa_calls (i) w (ht.old G) (by omega)) fun v s57 a w hR J G=> ?_)
   obtain ⟨rfl, rfl⟩ := hR
   refine sw J Y Y Y (R.catS (xs := [76]) (ys := decS i) (J.ev Y) (J.ev Y) (by simp only [List.length_append, List.length_cons, List.length_nil]; omega)) fun a J=> sw J Y Y Y (R.catS (xs := ([76] ++ decS i)) (ys := [58, 10]) (J.ev Y) (J.ev Y) (by simp only [List.length_append, List.length_cons, List.length_nil]; omega)) fun a J=> so (wn Y) (O.callK Y Y J ent34 (J.evs Y) G (write_calls b8 o (([76] ++ decS i) ++ [58, 10]) _ w hZ (G.own1 (.t (.t .h))) (by simp only [List.length_append, List.length_cons, List.length_nil]; omega)) (fun _=> (.t (.t .h))) fun v s60 a w hR J G=> ?_)
   obtain ⟨rfl, hZ⟩ := hR
   refine s0 ?_
   exact then_n (hK19' _ _ ⟨_, J.sub ⟨Y, Y, Y, Y, Y, Y, trivial⟩, G.sel [2, 3, 4] Y Y, (by rw [lab_T c5]; simpa using hZ)⟩)
  refine wp_skip ?_
  exact then_n (hK19' _ _ ⟨_, J.sub ⟨Y, Y, Y, Y, Y, Y, trivial⟩, G.sel [1, 2, 3] Y Y, (by rw [lab_F c5, List.append_nil]; exact hZ)⟩)
 have hre : r = [] := by (rw [plcs_end (p := i) (by omega)] at hr; simpa using hr.symm)
 subst hre
 rw [List.append_nil] at hlr
 subst hlr
 refine wp_exit (then_x (then_x (blk_hit <| then_n (hK14 _ _ <| wp_seq_k fun K32 hK32=> wp_region_lit <| so (wn Y) (string_op Y Y J (J.evs Y) G .h hZ fun a w J G=> ?_)))))
 refine av J Y Y fun a J=> av J Y Y fun a J=> s0 <| then_n (hK32 _ _ <| wp_ret (hR _ _ _ _ _ J (run_results Tryz.results9 (.t J Y (.t J Y (.nil)))) ?_))
 exact ⟨_, [], Y, ⟨by rw [text_of hl, ← ho]; rfl, Y⟩, G⟩
theorem mtext_bad (A : Option Addr) (n c : Nat) (xs : List Nat) (w0 : World) (hA : Rd w0 A (byts xs)) (hn : xs.length = n) (hnc : n ≤ c) (hc : c ≤ 9223372036854775807) (hB : Byt xs) (hck : chkN xs = false) : Ret Tryz.prog 9 [.slice A n c] w0 [] (fun v s => v = .tuple #[.string ⟨#[]⟩, .int .i64 100] ∧ s = []) := by
 refine fn_start Tryz.func9 Y Tryz.ntmps9 Y [(0, .slice A n c)] ⟨Y, trivial⟩ ?_
 intro Q a hP J hR hN
 have G := St.start w0
 refine wp_seq_k fun K1 hK1=> wp_region_lit <| av J Y Y fun a J=> av J Y Y fun a J=> s0 <| then_n (hK1 _ _ <| wp_seq_k fun K2 hK2=> wp_seq_k fun K3 hK3=> wp_region_lit <| mv J Y Y fun a J=> so (wn Y) (O.call Y Y J ent14 (J.evs Y) G (check_calls A n c xs _ (hA.old G) hn hnc hc hB) fun v s16 a w hR J G=> ?_))
 obtain ⟨rfl, rfl⟩ := hR
 rw [show chkV xs = .int .i64 100 from by rw [chkV, hck]; rfl] at J
 refine av J Y Y fun a J=> s0 <| then_n (hK3 _ _ <| wp_seq_k fun K4 hK4=> wp_region_lit <| mv J Y Y fun a J=> sw J Y Y Y (R.as (u := .bool true) (R.neq (p := 100) (q := 0) (J.ev Y) (J.ev Y)) (Y)) fun a J=> s0 <| then_n (hK4 _ _ <| cT J Y <| wp_seq_k fun K5 hK5=> wp_region_lit <| mv J Y Y fun a J=> av J Y Y fun a J=> av J Y Y fun a J=> s0 <| then_n (hK5 _ _ <| wp_ret (then_r (hR _ _ _ _ _ J (run_results Tryz.results9 (.t J Y (.t J Y (.nil)))) ?_)))))
 exact ⟨_, [], Y, ⟨Y, Y⟩, G.none⟩
end Go.Proofs.YtlapmbkfmbkdoaaGreatDoor
end
section
namespace Go.Proofs.YtlapmbkfmbkdoaaGreatDoor
open Go Go.Fw Go.RowKit
attribute [local irreducible] Go.Oper.wp Go.Code.wp Go.wpList Go.Fw.WL Go.Calls
theorem plc_len {xs : List Nat} : ∀ (f p : Nat) (l : List Nat), plc xs f p = some l → l.length ≤ xs.length - p
  | 0, _, _, h => by simp [plc] at h
  | f + 1, p, l, h => by
    simp only [plc] at h
    split at h
    · simp at h; subst h; simp
    split at h
    · simp at h
    · rename_i h1 h2
      cases hr : plc xs f (p + sizeN xs p) with
      | none => rw [hr] at h; simp at h
      | some r =>
        rw [hr] at h
        simp only [Option.map_some, Option.some.injEq] at h
        subst h
        have := plc_len f _ r hr
        have := (sizeN_le xs p).resolve_left h2
        rw [List.length_cons]; omega
def tS (xs : List Nat) : List Nat := if chkN xs then textN xs else []
def tE (xs : List Nat) : Int := if chkN xs then 0 else 100
theorem chk_places {xs : List Nat} (h : chkN xs = true) : ∃ l, placesN xs = some l ∧ xs.length ≤ 1024 ∧ l.length ≤ 1024 := by
  have h3 : xs.length ≤ 1024 := by
    simp only [chkN, Bool.and_eq_true, decide_eq_true_eq] at h; omega
  cases hl : placesN xs with
  | none => simp [chkN, hl] at h
  | some l => exact ⟨l, rfl, h3, by have := plc_len _ _ _ hl; omega⟩
theorem mtext_calls (A : Option Addr) (n c : Nat) (xs : List Nat) (w0 : World) (hA : Rd w0 A (byts xs)) (hn : xs.length = n) (hnc : n ≤ c) (hc : c ≤ 9223372036854775807) (hB : Byt xs) (ht : TabW w0) : Ret Tryz.prog 9 [.slice A n c] w0 [] (fun v s => v = .tuple #[.string (bstr (tS xs)), .int .i64 (tE xs)] ∧ s = []) := by
  cases hck : chkN xs with
  | true =>
    obtain ⟨l, hl, h3, h4⟩ := chk_places hck
    have := mtext_good A n c xs l w0 hA hn hnc hc hB ht hck hl (by omega)
    simpa only [tS, tE, hck, if_true] using this
  | false =>
    have := mtext_bad A n c xs w0 hA hn hnc hc hB hck
    simp only [tS, tE, hck, Bool.false_eq_true, if_false]
    exact this
end Go.Proofs.YtlapmbkfmbkdoaaGreatDoor
end
section
namespace Go.Proofs.YtlapmbkfmbkdoaaGreatDoor
open Go Go.Fw Go.RowKit
attribute [local irreducible] Go.Oper.wp Go.Code.wp Go.wpList Go.Fw.WL Go.Calls
theorem sameBytes_eq (A B : Option Addr) (n c d : Nat) (xs : List Nat) (w0 : World) (hA : Rd w0 A (byts xs)) (hB : Rd w0 B (byts xs)) (hn : xs.length = n) : Ret Tryz.prog 19 [.slice A n c, .slice B n d] w0 [] (fun v s => v = .bool true ∧ s = []) := by
 refine fn_start Tryz.func19 Y Tryz.ntmps19 Y [(0, .slice A n c), (1, .slice B n d)] ⟨Y, Y, trivial⟩ ?_
 intro Q a hP J hR hN
 have G := St.start w0
 refine wp_seq_k fun K1 hK1=> wp_region_lit <| av J Y Y fun a J=> s0 <| then_n (hK1 _ _ <| wp_seq_k fun K2 hK2=> wp_region_lit <| mv J Y Y fun a J=> sw J Y Y Y (R.convStr Tryz.underlying22 Tryz.underlying5 Tryz.underlying9 (J.ev Y) (hA.old G) hn) fun a J=> mv J Y Y fun a J=> sw J Y Y Y (R.convStr Tryz.underlying22 Tryz.underlying5 Tryz.underlying9 (J.ev Y) (hB.old G) hn) fun a J=> sw J Y Y Y (R.as (u := .bool true) (R.eqlStr (J.ev Y) (J.ev Y)) (congrArg Value.bool (decide_eq_true (Y)))) fun a J=> av J Y Y fun a J=> s0 <| then_n (hK2 _ _ <| wp_ret (hR _ _ _ _ _ J (run_results Tryz.results19 (.t J Y (.nil))) ?_)))
 exact ⟨_, [], Y, ⟨Y, Y⟩, G.none⟩
end Go.Proofs.YtlapmbkfmbkdoaaGreatDoor
end
section
namespace Go.Proofs.YtlapmbkfmbkdoaaGreatDoor
open Go Go.Fw Go.RowKit
attribute [local irreducible] Go.Oper.wp Go.Code.wp Go.wpList Go.Fw.WL Go.Calls
theorem play_in2 {F : Fx} {w : World} (hp : PlayIn F w) {A : Option Addr} {c : Nat} {xs : List Nat} (hB : Byt xs) (hc : xs.length ≤ c) (hc2 : c ≤ 9223372036854775807) (hR : Rd w A (byts xs)) (hb : xs.length ≤ 140737488351232) : PlayIn { F with cA := A, cc := c, code := xs } w :=
  ⟨⟨hB, hc, hc2, hp.ok.argsW, hp.ok.acap, hp.ok.acap2, hp.ok.self, hp.ok.caller, hp.ok.amount, hp.ok.reps, hp.ok.qlen⟩, hp.inner, hR, hp.args, hp.reps, hb, hp.b2, hp.b3, hp.tok, hp.time, hp.gas, hp.errs⟩
end Go.Proofs.YtlapmbkfmbkdoaaGreatDoor
end
