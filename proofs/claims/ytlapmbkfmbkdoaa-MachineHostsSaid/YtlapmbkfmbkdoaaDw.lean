/- Run, not refused. -/
import Derived.Test.YtlapmbkfmbkdoaaDv
namespace Go.Proofs.Ytlapmbkfmbkdoaa
open Go Go.Fw Go.RowKit
attribute [local irreducible] Go.Oper.wp Go.Code.wp Go.wpList Go.Fw.WL Go.Calls
def gasN (F : Fx) : Nat := F.cl.gas.toNat
theorem runN_more {cl : Cl} {code : List Nat} {rep : Nat → Nat × Int} {f : Nat} {stk stk' : List Nat} {left p left' p' : Nat} {asks asks' : List Fw.Ask} (h : stp cl code rep stk left p asks = .more stk' left' p' asks') : Fw.runN cl code rep (f + 1) stk left p asks = Fw.runN cl code rep f stk' left' p' asks' := by
  rw [Fw.runN, h]
theorem runN_fin {cl : Cl} {code : List Nat} {rep : Nat → Nat × Int} {f : Nat} {stk : List Nat} {left p v left' : Nat} {asks asks' : List Fw.Ask} (h : stp cl code rep stk left p asks = .fin v left' asks') : Fw.runN cl code rep (f + 1) stk left p asks = ⟨v, left', 0, asks'⟩ := by
  rw [Fw.runN, h]
theorem runN_err {cl : Cl} {code : List Nat} {rep : Nat → Nat × Int} {f : Nat} {stk : List Nat} {left p : Nat} {e : Int} {asks asks' : List Fw.Ask} (h : stp cl code rep stk left p asks = .err e asks') : Fw.runN cl code rep (f + 1) stk left p asks = ⟨0, 0, e, asks'⟩ := by
  rw [Fw.runN, h]
/-- what a play that is not refused answers -/
theorem play_fin {cl : Cl} {code : List Nat} {rep : Nat → Nat × Int} (h1 : chkN code = true) (h2 : callOk cl = true) {v left : Nat} {a : List Fw.Ask} (h : Fw.runN cl code rep (cl.gas.toNat + 1) [] cl.gas.toNat 0 [] = ⟨v, left, 0, a⟩) : playN cl code rep = ⟨v, cl.gas - left, 0, a⟩ := by
  simp [playN, h1, h2, h]
theorem play_err {cl : Cl} {code : List Nat} {rep : Nat → Nat × Int} (h1 : chkN code = true) (h2 : callOk cl = true) {e : Int} (he : e ≠ 0) {a : List Fw.Ask} (h : Fw.runN cl code rep (cl.gas.toNat + 1) [] cl.gas.toNat 0 [] = ⟨0, 0, e, a⟩) : playN cl code rep = ⟨0, 0, e, a⟩ := by
  simp [playN, h1, h2, h, he]
theorem do_fin {cl : Cl} {code : List Nat} {rep : Nat → Nat × Int} {c b p left : Nat} {st : List Nat} {u : Nat → Nat} {asks : List Fw.Ask} {v l : Nat} {a : List Fw.Ask} (h : doN cl code rep c b p left st u asks = .fin v l a) : l = left ∧ v = u 0 := by
  unfold doN at h
  by_cases k0 : c = 0
  · rw [if_pos k0] at h
    cases h
  rw [if_neg k0] at h
  by_cases k1 : c = 1
  · rw [if_pos k1] at h
    injection h with h1 h2 h3; exact ⟨h2.symm, h1.symm⟩
  rw [if_neg k1] at h
  by_cases k2 : c = 2
  · rw [if_pos k2] at h
    cases h
  rw [if_neg k2] at h
  by_cases k3 : c = 3
  · rw [if_pos k3] at h
    cases h
  rw [if_neg k3] at h
  by_cases k4 : c = 4
  · rw [if_pos k4] at h
    cases h
  rw [if_neg k4] at h
  by_cases k5 : c = 5
  · rw [if_pos k5] at h
    cases h
  rw [if_neg k5] at h
  by_cases k6 : c ≤ 12
  · rw [if_pos k6] at h
    cases ha : arithN c (u 0) (u 1) with
    | none => rw [ha] at h; cases h
    | some r => rw [ha] at h; cases h
  rw [if_neg k6] at h
  by_cases k7 : c = 13
  · rw [if_pos k7] at h
    cases h
  rw [if_neg k7] at h
  by_cases k8 : c = 14
  · rw [if_pos k8] at h
    cases h
  rw [if_neg k8] at h
  by_cases k9 : c = 15
  · rw [if_pos k9] at h
    cases h
  rw [if_neg k9] at h
  by_cases k10 : c ≤ 23
  · rw [if_pos k10] at h
    cases h
  rw [if_neg k10] at h
  cases ha : askN c u with
  | none => rw [ha] at h; cases h
  | some q =>
    rw [ha] at h
    simp only at h
    by_cases k : (rep asks.length).2 ≠ 0
    · rw [if_pos k] at h; cases h
    · rw [if_neg k] at h; cases h
theorem stp_fin {cl : Cl} {code : List Nat} {rep : Nat → Nat × Int} {p left : Nat} {stk : List Nat} {asks : List Fw.Ask} {v l : Nat} {a : List Fw.Ask} (h : stp cl code rep stk left p asks = .fin v l a) : l ≤ left := by
  by_cases h1 : code.length ≤ p
  · rw [stp_end h1] at h; simp at h
  have hp : p < code.length := by omega
  by_cases h2 : left < priceN (cAt code p)
  · rw [stp_gas hp h2] at h; simp at h
  by_cases h3 : stk.length < deepN code p ∨ 64 < stk.length - takesN (cAt code p) + laysN (cAt code p)
  · rw [stp_stack hp h2 h3] at h; simp at h
  rw [stp_do hp h2 h3] at h
  have := (do_fin h).1
  omega
theorem rds_rb {F : Fx} {b : Nat} {w : World} {ks : List Nat} (h : F.Rds w ks) : ({ F with rb := b } : Fx).Rds w ks := ⟨h.code, h.args, h.reps, h.inner⟩
theorem next_rb {F : Fx} {b : Nat} (h : NextOK F) : NextOK { F with rb := b } := h
theorem ok_rb {F : Fx} {b : Nat} (h : F.Ok) : ({ F with rb := b } : Fx).Ok := ⟨h.len, h.byt, h.cap, h.cap2, h.chk, h.call, h.argsW, h.acap, h.acap2, h.self, h.caller, h.amount, h.reps, h.qlen⟩

set_option maxHeartbeats 4000000 in
theorem run_good (F : Fx) (s2 : Seg) (w0 : World) (h0 : Fx.Ok0 F) (hH : HostS F [] s2) (ho : Own w0 s2) (hD' : F.Rds w0 (s2.map (·.1))) (hNX : NextOK F) (hc : chkN F.code = true) (hcl : callOk F.cl = true) : Ret Try.prog 18 [.slice F.cA F.code.length F.cc, .agg (callc F).toArray, .iface 53 (.pointer (some ⟨F.hb, 0, none⟩))] w0 (s2.map (·.1)) (fun x s' => x = .tuple #[.agg (wc (playN F.cl F.code F.rep).v ++ [Value.int .i64 (playN F.cl F.code F.rep).gas]).toArray, .int .i64 (playN F.cl F.code F.rep).e] ∧ HostS F (playN F.cl F.code F.rep).asks s') := by
  refine fn_start Try.func18 rfl Try.ntmps18 rfl [(0, .slice F.cA F.code.length F.cc), (1, .agg (callc F).toArray), (2, .iface 53 (.pointer (some ⟨F.hb, 0, none⟩)))] ⟨rfl, rfl, rfl, trivial⟩ ?_
  intro Q a hP hF hR hN
  have hS := St.enter ho
  have hK := ok_of h0 hc hcl; have hcp := callOk_tok hcl
  refine wp_seq_k fun K1 hK1 => ?_
  refine wp_region_lit ?_
  refine so (wn rfl) (O.box rfl rfl hF (hF.ev rfl) rfl hS fun b4 a w hF hS => ?_)
  refine so (wn rfl) (O.alloc rfl rfl hF ze39 rfl hS fun b6 a w hF hS => ?_)
  refine sv' hF (wn rfl) rfl rfl (R.assign (hF.ev rfl)) fun a hF => ?_
  refine s0 ?_
  refine then_n (hK1 _ _ ?_)
  refine wp_scope_straight ?_
  refine wp_seq_k fun K2 hK2 => ?_
  refine wp_block ?_
  refine wp_seq_k fun K3 hK3 => ?_
  refine wp_region_lit ?_
  refine sv' hF (wn rfl) rfl rfl (R.move (hF.ev rfl)) fun a hF => ?_
  refine sv' hF (wn rfl) rfl rfl (R.ifaceNil Try.underlying78 (hF.ev rfl) (hF.ev rfl)) fun a hF => ?_
  refine sv' hF (wn rfl) rfl rfl (R.assign (hF.ev rfl)) fun a hF => ?_
  refine s0 ?_
  refine then_n (hK3 _ _ ?_)
  refine cF hF rfl ?_
  refine wp_seq_k fun K4 hK4 => ?_
  refine wp_region_lit ?_
  refine sv' hF (wn rfl) rfl rfl (R.move (hF.ev rfl)) fun a hF => ?_
  refine so (wn rfl) (O.call rfl rfl hF ent12 (hF.evs rfl) hS (check_calls F.cA F.code.length F.cc F.code w (hD'.code.old hS) rfl h0.cap h0.cap2 h0.byt) fun v s17 a w hR hF hS => ?_)
  obtain ⟨rfl, rfl⟩ := hR
  rw [show chkV F.code = .int .i64 0 from by rw [chkV, hc]; rfl] at hF
  refine sv' hF (wn rfl) rfl rfl (R.as (u := .bool false) (R.neq (p := 0) (q := 0) (hF.ev rfl) (hF.ev rfl)) (rfl)) fun a hF => ?_
  refine sv' hF (wn rfl) rfl rfl (R.assign (hF.ev rfl)) fun a hF => ?_
  refine s0 ?_
  refine then_n (hK4 _ _ ?_)
  refine cF hF rfl ?_
  refine wp_seq_k fun K5 hK5 => ?_
  have hK5' : ∀ a w, (Fr 93 [(0, .slice F.cA F.code.length F.cc), (2, .iface 53 (.pointer (some ⟨F.hb, 0, none⟩))), (4, .pointer (some ⟨b4, 0, none⟩)), (6, .pointer (some ⟨b6, 0, none⟩)), (20, .bool (!callOk F.cl))] a ∧ St w0 (s2.map (·.1)) [[(b4, Cel (callc F) 34)], [(b6, Cel [.int .u64 0, .int .u64 0, .int .u64 0, .int .u64 0, .int .i64 0] 39)], s2] w) → K5 a w := by
    rintro a w ⟨hF, hS⟩
    refine hK5 _ _ ?_
    refine cS hF rfl (fun c9 => ?_) (fun c9 => ?_)
    ·
      rw [hcl] at c9; exact absurd c9 (by decide)
    ·
      refine wp_skip ?_
      refine blk_n ?_
      refine then_n (hK2 _ _ ?_)
      refine wp_seq_k fun K6 hK6 => ?_
      refine wp_region_lit ?_
      refine sv' hF (wn rfl) rfl rfl (R.move (hF.ev rfl)) fun a hF => ?_
      refine sv' hF (wn rfl) rfl rfl (R.loadW agg34 (hF.ev rfl) hS .h sz34 (rfl)) fun a hF => ?_
      refine sv' hF (wn rfl) rfl rfl (R.move (hF.ev rfl)) fun a hF => ?_
      refine sv' hF (wn rfl) rfl rfl (R.fieldAddr (k := 47) Try.underlying34 rfl nz3 (hF.ev rfl) rfl) fun a hF => ?_
      refine sv' hF (wn rfl) rfl rfl (R.as (u := .int .i64 ((F.cl.gas.toNat : Nat) : Int)) (R.load one3 (hF.ev rfl) hS .h rfl) (congrArg (Value.int .i64) (by omega))) fun a hF => ?_
      refine sv' hF (wn rfl) rfl rfl (R.buildStr (l := rcells F (.slice none 0 0) ⟨F.cl.gas.toNat, 0, 0, false, 0⟩) Try.underlying81 ze81 pl81 (hF.evp rfl) (by kernel_rfl)) fun a hF => ?_
      refine so (wn rfl) (O.box rfl rfl hF (hF.ev rfl) rfl hS fun b62 a w hF hS => ?_)
      refine sv' hF (wn rfl) rfl rfl (R.assign (hF.ev rfl)) fun a hF => ?_
      refine s0 ?_
      refine then_n (hK6 _ _ ?_)
      refine wp_seq_k fun K7 hK7 => ?_
      refine wp_region_lit ?_
      refine so (wn rfl) (O.call rfl rfl hF ent37 (hF.evs rfl) hS (table_calls _) fun v s63 a w hR hF hS => ?_)
      obtain ⟨rfl, rfl⟩ := hR
      refine so (wn rfl) (O.alloc rfl rfl hF ze85 rfl hS fun b9 a w hF hS => ?_)
      refine so (wn rfl) (O.storeW sz85 (hF.ev rfl) (hF.ev rfl) (rfl) rfl (one_tab) hS .h (rfl) fun w hS => ?_)
      refine s0 ?_
      refine then_n (hK7 _ _ ?_)
      refine wp_seq_k fun K8 hK8 => ?_
      refine wp_label ?_
      refine then_n (hK8 _ _ ?_)
      refine wp_seq_k fun K9 hK9 => ?_
      refine wp_block ?_
      have hS := (hS.sel [3, 4, 0, 2, 5] rfl rfl).flat (bs' := [[(b4, Cel (callc F) 34)], [(b6, Cel [.int .u64 0, .int .u64 0, .int .u64 0, .int .u64 0, .int .i64 0] 39)], [(b9, Cel tabL 85)], [(b62, Cel (rcells F (.slice none 0 0) ⟨F.cl.gas.toNat, 0, 0, false, 0⟩) 81)] ++ s2]) (by simp [selS])
      refine wp_loop_N (fun g a w => ∃ (V : Vr) (stk : List Nat) (asks : List Fw.Ask) (s1 : Seg) (s3 : Seg) (f : Nat), V.left = g ∧ Fr 93 [(4, .pointer (some ⟨b4, 0, none⟩)), (6, .pointer (some ⟨b6, 0, none⟩)), (8, .pointer (some ⟨b62, 0, none⟩)), (9, .pointer (some ⟨b9, 0, none⟩))] a ∧ St w0 (s2.map (·.1)) [[(b4, Cel (callc F) 34)], [(b6, Cel [.int .u64 0, .int .u64 0, .int .u64 0, .int .u64 0, .int .i64 0] 39)], [(b9, Cel tabL 85)], s1 ++ s3] w ∧ (RunS { F with rb := b62 } V stk s1) ∧ (HostS { F with rb := b62 } asks s3) ∧ (V.ended = false) ∧ (V.value = 0) ∧ (validP F.code V.p) ∧ (stk.length ≤ 64) ∧ (AllW stk) ∧ (asks.length + V.left ≤ 10000) ∧ (V.left < f) ∧ (Fw.runN F.cl F.code F.rep (F.cl.gas.toNat + 1) [] F.cl.gas.toNat 0 [] = Fw.runN F.cl F.code F.rep f stk V.left V.p asks)) (F.cl.gas.toNat) ?_ ?_
      · exact ⟨⟨F.cl.gas.toNat, 0, 0, false, 0⟩, [], [], [(b62, Cel (rcells F (.slice none 0 0) ⟨F.cl.gas.toNat, 0, 0, false, 0⟩) 81)], s2, F.cl.gas.toNat + 1, rfl, hF.sub ⟨rfl, rfl, rfl, rfl, trivial⟩, hS.sel [0, 1, 2, 3] rfl rfl, ⟨none, 0, [], rfl, OwnS.nil 31 4⟩, hH, rfl, rfl, valid_0 hc, by decide, by simp [AllW], by (show 0 + F.cl.gas.toNat ≤ 10000; omega), Nat.lt_succ_self _, rfl⟩
      · rintro KL1 g a w ⟨V, stk, asks, s1, s3, f, hg1, hF, hS, hR1, hH1, hV, hV2, hp, hl, hW, hsum, hf, hrun⟩ hKL1
        obtain ⟨f', rfl⟩ : ∃ f', f = f' + 1 := ⟨f - 1, by omega⟩
        refine wp_block ?_
        refine wp_seq_k fun K10 hK10 => ?_
        refine wp_seq_k fun K11 hK11 => ?_
        refine wp_region_lit ?_
        refine sv' hF (wn rfl) rfl rfl (R.move (hF.ev rfl)) fun a hF => ?_
        refine so (wn rfl) (O.callK rfl rfl hF ent38 (hF.evs rfl) hS (step_calls { F with rb := b62 } V stk asks s1 s3 b9 w (next_rb hNX) (ok_rb hK) (fun h => valid_size h hp) hR1 hH1 (hS.own1 (.t (.t (.t .h)))) (RdK.apart (hS.sel [2, 3] rfl rfl) (Rd.own0 hS (.t (.t .h))) (List.mem_singleton.2 rfl)) (rds_rb (hD'.down hS (.t (.t (.t .h))))) hl hW (by omega) (by omega)) (fun _ => (.t (.t (.t .h)))) fun v s65 a w hR hF hS => ?_)
        have hdid : DidS { F with rb := b62 } V (stp F.cl F.code F.rep stk V.left V.p asks) _ _ := hR; clear hR; obtain ⟨rfl, s1', s3', rfl, hH3, hor⟩ := did_go hdid
        refine sv' hF (wn rfl) rfl rfl (R.assign (hF.ev rfl)) fun a hF => ?_
        refine s0 ?_
        refine then_n (hK11 _ _ ?_)
        refine wp_seq_k fun K12 hK12 => ?_
        refine wp_region_lit ?_
        refine sv' hF (wn rfl) rfl rfl (R.move (hF.ev rfl)) fun a hF => ?_
        refine sv' hF (wn rfl) rfl rfl (R.neq (hF.ev rfl) (hF.ev rfl)) fun a hF => ?_
        refine s0 ?_
        refine then_n (hK12 _ _ ?_)
        refine cD hF rfl (fun c5 => ?_) (fun c5 => ?_)
        ·
          obtain ⟨e, a', hst⟩ := (hor.resolve_right (fun h => c5 h.1)).2
          have hpl := play_err hc hcl (by rw [hst] at c5; exact c5) (hrun.trans (runN_err hst))
          rw [hst] at hF hH3
          refine wp_seq_k fun K13 hK13 => ?_
          refine wp_region_lit ?_
          refine sv' hF (wn rfl) rfl rfl (R.buildStr (l := [_, _, _, _, _]) Try.underlying39 ze39 pl39 (hF.evp rfl) rfl) fun a hF => ?_
          refine sv' hF (wn rfl) rfl rfl (R.move (hF.ev rfl)) fun a hF => ?_
          refine so (wn rfl) (O.storeW sz39 (hF.ev rfl) (hF.ev rfl) (rfl) rfl (by simp [Value.oneCell']) hS (.t .h) (rfl) fun w hS => ?_)
          refine sv' hF (wn rfl) rfl rfl (R.assign (hF.ev rfl)) fun a hF => ?_
          refine s0 ?_
          refine then_n (hK13 _ _ ?_)
          refine wp_ret (then_r (blk_r (then_r (blk_r (then_r (sc_r (hR _ _ _ _ _ hF (run_results Try.results18 (.cw hF rfl agg39 hS (.t .h) sz39 (rfl) (.t hF rfl (.nil)))) ?_)))))))
          rw [hpl]
          dsimp only
          exact ⟨_, s3', rfl, ⟨rfl, hH3⟩, ((hS.sel [3] rfl rfl).flat (bs' := [s1', s3']) (by simp [selS])).tail⟩
        ·
          have c5' : errO (stp F.cl F.code F.rep stk V.left V.p asks) = 0 := Classical.not_not.1 c5
          obtain ⟨_, V', stk', hr1, hend, hcase⟩ := hor.resolve_left (fun h => h.1 c5')
          obtain ⟨A, c, sg, rfl, hO⟩ := hr1
          have hS := (hS.sel [0, 1, 2, 3] rfl rfl).flat (bs' := [[(b4, Cel (callc F) 34)], [(b6, Cel [.int .u64 0, .int .u64 0, .int .u64 0, .int .u64 0, .int .i64 0] 39)], [(b9, Cel tabL 85)], [(b62, Cel (rcells F (.slice A stk'.length c) V') 81)], sg, s3']) (by simp [selS]; rfl)
          refine wp_skip ?_
          refine then_n (hK10 _ _ ?_)
          refine wp_seq_k fun K14 hK14 => ?_
          refine wp_seq_k fun K15 hK15 => ?_
          refine wp_region_lit ?_
          refine sv' hF (wn rfl) rfl rfl (R.move (hF.ev rfl)) fun a hF => ?_
          refine sv' hF (wn rfl) rfl rfl (R.nilCheck (hF.ev rfl)) fun a hF => ?_
          refine sv' hF (wn rfl) rfl rfl (R.fieldAddr (k := 54) Try.underlying81 rfl nz4 (hF.ev rfl) rfl) fun a hF => ?_
          refine sv' hF (wn rfl) rfl rfl (R.load one4 (hF.ev rfl) hS (.t (.t (.t .h))) (rfl)) fun a hF => ?_
          refine s0 ?_
          refine then_n (hK15 _ _ ?_)
          refine cS hF rfl (fun c6 => ?_) (fun c6 => ?_)
          ·
            obtain ⟨_, hst⟩ := hcase.resolve_left (fun h => by rw [h.2.2.1, hV] at c6; exact absurd c6 (by decide))
            have hpl := play_fin hc hcl (hrun.trans (runN_fin hst)); have hfl := stp_fin hst
            refine wp_exit (then_x (blk_miss rfl (then_x (blk_hit ?_))))
            refine then_n (hK9 _ _ ?_)
            refine wp_seq_k fun K16 hK16 => ?_
            refine wp_drawS hS [(0, 0), (1, 0), (2, 0), (3, 1), (4, 0), (5, 1), (6, 0), (7, 0), (8, 0), (9, 1), (10, 0), (11, 0), (12, 3), (13, 0)] mix (by kernel_rfl) (hP.noGoto.then) fun w hS => ?_
            have hD := hS
            refine dq hF rfl (wn rfl) rfl rfl (fun w => R.move (hF.ev rfl)) fun a hF => ?_
            refine dq hF rfl (wn rfl) rfl rfl (fun w => R.nilCheck (hF.ev rfl)) fun a hF => ?_
            refine dq hF rfl (wn rfl) rfl rfl (fun w => R.fieldAddr (k := 55) Try.underlying81 rfl nz31 (hF.ev rfl) rfl) fun a hF => ?_
            refine dr hF rfl (wn rfl) rfl rfl hD (fun w hD => R.loadA (cs := [_, _, _, _]) agg31 (hF.ev rfl) hD (.t (.t (.t .h))) sz31 rfl (getAt rfl)) fun a hF => ?_
            refine dq hF rfl (wn rfl) rfl rfl (fun w => R.fieldAddr (k := 47) Try.underlying34 rfl nz3 (hF.ev rfl) rfl) fun a hF => ?_
            refine dr hF rfl (wn rfl) rfl rfl hD (fun w hD => R.load one3 (hF.ev rfl) hD .h (rfl)) fun a hF => ?_
            refine dq hF rfl (wn rfl) rfl rfl (fun w => R.move (hF.ev rfl)) fun a hF => ?_
            refine dq hF rfl (wn rfl) rfl rfl (fun w => R.nilCheck (hF.ev rfl)) fun a hF => ?_
            refine dq hF rfl (wn rfl) rfl rfl (fun w => R.fieldAddr (k := 51) Try.underlying81 rfl nz3 (hF.ev rfl) rfl) fun a hF => ?_
            refine dr hF rfl (wn rfl) rfl rfl hD (fun w hD => R.load one3 (hF.ev rfl) hD (.t (.t (.t .h))) (rfl)) fun a hF => ?_
            refine dq hF rfl (wn rfl) rfl rfl (fun w => R.subI (hF.ev rfl) (hF.ev rfl) (by omega)) fun a hF => ?_
            refine dq hF rfl (wn rfl) rfl rfl (fun w => R.buildStr (l := [_, _, _, _, _]) Try.underlying39 ze39 pl39 (hF.evp rfl) rfl) fun a hF => ?_
            refine dw rfl (wn rfl) (O.storeW sz39 (hF.ev rfl) (hF.ev rfl) (rfl) rfl (by simp [Value.oneCell']) hS (.t .h) (rfl) fun w hS => ?_)
            refine dq hF rfl (wn rfl) rfl rfl (fun w => R.assign (hF.ev rfl)) fun a hF => ?_
            refine d0 ?_
            refine then_n (hK16 _ _ ?_)
            refine wp_ret (sc_r (hR _ _ _ _ _ hF (run_results Try.results18 (.cw hF rfl agg39 hS (.t .h) sz39 (rfl) (.t hF rfl (.nil)))) ?_))
            rw [hpl]
            dsimp only
            exact ⟨_, s3', rfl, ⟨rfl, hH3⟩, hS.one (.t (.t (.t (.t (.t .h)))))⟩
          ·
            obtain ⟨_, hst, he1, he2⟩ := hcase.resolve_right (fun h => by (have h7 := hend; rw [h.1, Bool.or_true] at h7; rw [h7] at c6; exact absurd c6 (by decide)))
            obtain ⟨kv, kl, kW, klt, ksum⟩ := stp_more hK hp hl hW (by omega) hst
            refine wp_skip ?_
            refine then_n (hK14 _ _ ?_)
            refine wp_region_lit ?_
            refine sv' hF (wn rfl) rfl rfl (R.move (hF.ev rfl)) fun a hF => ?_
            refine sv' hF (wn rfl) rfl rfl (R.move (hF.ev rfl)) fun a hF => ?_
            refine sv' hF (wn rfl) rfl rfl (R.nilCheck (hF.ev rfl)) fun a hF => ?_
            refine sv' hF (wn rfl) rfl rfl (R.fieldAddr (k := 53) Try.underlying81 rfl nz3 (hF.ev rfl) rfl) fun a hF => ?_
            refine sv' hF (wn rfl) rfl rfl (R.load one3 (hF.ev rfl) hS (.t (.t (.t .h))) (rfl)) fun a hF => ?_
            refine sv' hF (wn rfl) rfl rfl (R.nilCheck (hF.ev rfl)) fun a hF => ?_
            refine sv' hF (wn rfl) rfl rfl (R.fieldAddr (k := 52) Try.underlying81 rfl nz3 (hF.ev rfl) rfl) fun a hF => ?_
            refine so (wn rfl) (O.store sz3 (hF.ev rfl) (hF.ev rfl) rfl rfl hS (.t (.t (.t .h))) (show List.set _ _ _ = rcells F (.slice A stk'.length c) { V' with p := V'.next } from rfl) (by first | decide | omega | (show _ < 59; decide) | (show _ < 3; decide) | simp) fun w hS => ?_)
            refine s0 ?_
            refine blk_n ?_
            have hS := (hS.sel [0, 1, 2, 3, 4, 5] rfl rfl).flat (bs' := [[(b4, Cel (callc F) 34)], [(b6, Cel [.int .u64 0, .int .u64 0, .int .u64 0, .int .u64 0, .int .i64 0] 39)], [(b9, Cel tabL 85)], ([(b62, Cel (rcells F (.slice A stk'.length c) { V' with p := V'.next }) 81)] ++ sg) ++ s3']) (by simp [selS])
            refine then_n (hKL1 (V'.left) _ _ ?_ ?_)
            · omega
            · exact ⟨{ V' with p := V'.next }, stk', (asksO (stp F.cl F.code F.rep stk V.left V.p asks)), [(b62, Cel (rcells F (.slice A stk'.length c) { V' with p := V'.next }) 81)] ++ sg, s3', f', rfl, hF.sub ⟨rfl, rfl, rfl, rfl, trivial⟩, hS.sel [0, 1, 2, 3] rfl rfl, ⟨A, c, sg, rfl, hO⟩, hH3, he1.trans hV, he2.trans hV2, kv, kl, kW, by (show (asksO (stp F.cl F.code F.rep stk V.left V.p asks)).length + V'.left ≤ 10000; omega), by (show V'.left < f'; omega), hrun.trans (runN_more hst)⟩
  refine wp_region_lit ?_
  refine sv' hF (wn rfl) rfl rfl (R.fieldAddr (k := 40) Try.underlying34 rfl nz3 (hF.ev rfl) rfl) fun a hF => ?_
  refine sv' hF (wn rfl) rfl rfl (R.load one3 (hF.ev rfl) hS (.t (.t .h)) (rfl)) fun a hF => ?_
  refine sv' hF (wn rfl) rfl rfl (R.lss (hF.ev rfl) (hF.ev rfl)) fun a hF => ?_
  refine sv' hF (wn rfl) rfl rfl (R.move (hF.ev rfl)) fun a hF => ?_
  refine hF.splitD (t := 24) rfl (fun h24 hF => ?_) (fun h24 hF => ?_)
  ·
    refine sk hF (ws hF rfl rfl rfl rfl) rfl rfl fun a hF => ?_
    refine sk hF (ws hF rfl rfl rfl rfl) rfl rfl fun a hF => ?_
    refine sk hF (ws hF rfl rfl rfl rfl) rfl rfl fun a hF => ?_
    refine sv' hF (wn rfl) rfl rfl (R.pickT (hF.ev rfl) (hF.ev rfl)) fun a hF => ?_
    refine sv' hF (wn rfl) rfl rfl (R.move (hF.ev rfl)) fun a hF => ?_
    refine sk hF (ws hF rfl rfl rfl rfl) rfl rfl fun a hF => ?_
    refine sk hF (ws hF rfl rfl rfl rfl) rfl rfl fun a hF => ?_
    refine sk hF (ws hF rfl rfl rfl rfl) rfl rfl fun a hF => ?_
    refine sk hF (ws hF rfl rfl rfl rfl) rfl rfl fun a hF => ?_
    refine sv' hF (wn rfl) rfl rfl (R.pickT (hF.ev rfl) (hF.ev rfl)) fun a hF => ?_
    refine sv' hF (wn rfl) rfl rfl (R.move (hF.ev rfl)) fun a hF => ?_
    refine sk hF (ws hF rfl rfl rfl rfl) rfl rfl fun a hF => ?_
    refine sk hF (ws hF rfl rfl rfl rfl) rfl rfl fun a hF => ?_
    refine sk hF (ws hF rfl rfl rfl rfl) rfl rfl fun a hF => ?_
    refine sv' hF (wn rfl) rfl rfl (R.pickT (hF.ev rfl) (hF.ev rfl)) fun a hF => ?_
    refine sv' hF (wn rfl) rfl rfl (R.move (hF.ev rfl)) fun a hF => ?_
    refine sk hF (ws hF rfl rfl rfl rfl) rfl rfl fun a hF => ?_
    refine sk hF (ws hF rfl rfl rfl rfl) rfl rfl fun a hF => ?_
    refine sk hF (ws hF rfl rfl rfl rfl) rfl rfl fun a hF => ?_
    refine sv' hF (wn rfl) rfl rfl (R.pickT (hF.ev rfl) (hF.ev rfl)) fun a hF => ?_
    refine sv' hF (wn rfl) rfl rfl (R.move (hF.ev rfl)) fun a hF => ?_
    refine sk hF (ws hF rfl rfl rfl rfl) rfl rfl fun a hF => ?_
    refine sk hF (ws hF rfl rfl rfl rfl) rfl rfl fun a hF => ?_
    refine sk hF (ws hF rfl rfl rfl rfl) rfl rfl fun a hF => ?_
    refine sv' hF (wn rfl) rfl rfl (R.pickT (hF.ev rfl) (hF.ev rfl)) fun a hF => ?_
    refine sv' hF (wn rfl) rfl rfl (R.move (hF.ev rfl)) fun a hF => ?_
    refine sk hF (ws hF rfl rfl rfl rfl) rfl rfl fun a hF => ?_
    refine sk hF (ws hF rfl rfl rfl rfl) rfl rfl fun a hF => ?_
    refine sk hF (ws hF rfl rfl rfl rfl) rfl rfl fun a hF => ?_
    refine sv' hF (wn rfl) rfl rfl (R.pickT (hF.ev rfl) (hF.ev rfl)) fun a hF => ?_
    refine sv' hF (wn rfl) rfl rfl (R.assign (hF.ev rfl)) fun a hF => ?_
    refine s0 ?_
    exact then_n (hK5' _ _ ⟨hF.sub ⟨rfl, rfl, rfl, rfl, (by first | exact cb_true (by omega) | exact cb_dec (by omega)), trivial⟩, hS.sel [2, 1, 3] rfl rfl⟩)
  ·
    refine sv' hF (wy hF rfl rfl rfl) rfl rfl (R.fieldAddr (k := 40) Try.underlying34 rfl nz3 (hF.ev rfl) rfl) fun a hF => ?_
    refine sv' hF (wy hF rfl rfl rfl) rfl rfl (R.load one3 (hF.ev rfl) hS (.t (.t .h)) (rfl)) fun a hF => ?_
    refine sv' hF (wy hF rfl rfl rfl) rfl rfl (R.geq (hF.ev rfl) (hF.ev rfl)) fun a hF => ?_
    refine sv' hF (wn rfl) rfl rfl (R.pickF (hF.ev rfl) (hF.ev rfl)) fun a hF => ?_
    refine sv' hF (wn rfl) rfl rfl (R.move (hF.ev rfl)) fun a hF => ?_
    refine hF.splitD (t := 29) rfl (fun h29 hF => ?_) (fun h29 hF => ?_)
    ·
      refine sk hF (ws hF rfl rfl rfl rfl) rfl rfl fun a hF => ?_
      refine sk hF (ws hF rfl rfl rfl rfl) rfl rfl fun a hF => ?_
      refine sk hF (ws hF rfl rfl rfl rfl) rfl rfl fun a hF => ?_
      refine sk hF (ws hF rfl rfl rfl rfl) rfl rfl fun a hF => ?_
      refine sv' hF (wn rfl) rfl rfl (R.pickT (hF.ev rfl) (hF.ev rfl)) fun a hF => ?_
      refine sv' hF (wn rfl) rfl rfl (R.move (hF.ev rfl)) fun a hF => ?_
      refine sk hF (ws hF rfl rfl rfl rfl) rfl rfl fun a hF => ?_
      refine sk hF (ws hF rfl rfl rfl rfl) rfl rfl fun a hF => ?_
      refine sk hF (ws hF rfl rfl rfl rfl) rfl rfl fun a hF => ?_
      refine sv' hF (wn rfl) rfl rfl (R.pickT (hF.ev rfl) (hF.ev rfl)) fun a hF => ?_
      refine sv' hF (wn rfl) rfl rfl (R.move (hF.ev rfl)) fun a hF => ?_
      refine sk hF (ws hF rfl rfl rfl rfl) rfl rfl fun a hF => ?_
      refine sk hF (ws hF rfl rfl rfl rfl) rfl rfl fun a hF => ?_
      refine sk hF (ws hF rfl rfl rfl rfl) rfl rfl fun a hF => ?_
      refine sv' hF (wn rfl) rfl rfl (R.pickT (hF.ev rfl) (hF.ev rfl)) fun a hF => ?_
      refine sv' hF (wn rfl) rfl rfl (R.move (hF.ev rfl)) fun a hF => ?_
      refine sk hF (ws hF rfl rfl rfl rfl) rfl rfl fun a hF => ?_
      refine sk hF (ws hF rfl rfl rfl rfl) rfl rfl fun a hF => ?_
      refine sk hF (ws hF rfl rfl rfl rfl) rfl rfl fun a hF => ?_
      refine sv' hF (wn rfl) rfl rfl (R.pickT (hF.ev rfl) (hF.ev rfl)) fun a hF => ?_
      refine sv' hF (wn rfl) rfl rfl (R.move (hF.ev rfl)) fun a hF => ?_
      refine sk hF (ws hF rfl rfl rfl rfl) rfl rfl fun a hF => ?_
      refine sk hF (ws hF rfl rfl rfl rfl) rfl rfl fun a hF => ?_
      refine sk hF (ws hF rfl rfl rfl rfl) rfl rfl fun a hF => ?_
      refine sv' hF (wn rfl) rfl rfl (R.pickT (hF.ev rfl) (hF.ev rfl)) fun a hF => ?_
      refine sv' hF (wn rfl) rfl rfl (R.assign (hF.ev rfl)) fun a hF => ?_
      refine s0 ?_
      exact then_n (hK5' _ _ ⟨hF.sub ⟨rfl, rfl, rfl, rfl, (by first | exact cb_true (by omega) | exact cb_dec (by omega)), trivial⟩, hS.sel [2, 1, 3] rfl rfl⟩)
    ·
      refine sv' hF (wy hF rfl rfl rfl) rfl rfl (R.fieldAddr (k := 45) Try.underlying34 rfl nz32 (hF.ev rfl) rfl) fun a hF => ?_
      refine sv' hF (wy hF rfl rfl rfl) rfl rfl (R.load one32 (hF.ev rfl) hS (.t (.t .h)) (rfl)) fun a hF => ?_
      refine sv' hF (wy hF rfl rfl rfl) rfl rfl (R.len Try.underlying32 (hF.ev rfl)) fun a hF => ?_
      refine sv' hF (wy hF rfl rfl rfl) rfl rfl (R.gtr (hF.ev rfl) (hF.ev rfl)) fun a hF => ?_
      refine sv' hF (wn rfl) rfl rfl (R.pickF (hF.ev rfl) (hF.ev rfl)) fun a hF => ?_
      refine sv' hF (wn rfl) rfl rfl (R.move (hF.ev rfl)) fun a hF => ?_
      refine hF.splitD (t := 35) rfl (fun h35 hF => ?_) (fun h35 hF => ?_)
      ·
        refine sk hF (ws hF rfl rfl rfl rfl) rfl rfl fun a hF => ?_
        refine sk hF (ws hF rfl rfl rfl rfl) rfl rfl fun a hF => ?_
        refine sk hF (ws hF rfl rfl rfl rfl) rfl rfl fun a hF => ?_
        refine sv' hF (wn rfl) rfl rfl (R.pickT (hF.ev rfl) (hF.ev rfl)) fun a hF => ?_
        refine sv' hF (wn rfl) rfl rfl (R.move (hF.ev rfl)) fun a hF => ?_
        refine sk hF (ws hF rfl rfl rfl rfl) rfl rfl fun a hF => ?_
        refine sk hF (ws hF rfl rfl rfl rfl) rfl rfl fun a hF => ?_
        refine sk hF (ws hF rfl rfl rfl rfl) rfl rfl fun a hF => ?_
        refine sv' hF (wn rfl) rfl rfl (R.pickT (hF.ev rfl) (hF.ev rfl)) fun a hF => ?_
        refine sv' hF (wn rfl) rfl rfl (R.move (hF.ev rfl)) fun a hF => ?_
        refine sk hF (ws hF rfl rfl rfl rfl) rfl rfl fun a hF => ?_
        refine sk hF (ws hF rfl rfl rfl rfl) rfl rfl fun a hF => ?_
        refine sk hF (ws hF rfl rfl rfl rfl) rfl rfl fun a hF => ?_
        refine sv' hF (wn rfl) rfl rfl (R.pickT (hF.ev rfl) (hF.ev rfl)) fun a hF => ?_
        refine sv' hF (wn rfl) rfl rfl (R.move (hF.ev rfl)) fun a hF => ?_
        refine sk hF (ws hF rfl rfl rfl rfl) rfl rfl fun a hF => ?_
        refine sk hF (ws hF rfl rfl rfl rfl) rfl rfl fun a hF => ?_
        refine sk hF (ws hF rfl rfl rfl rfl) rfl rfl fun a hF => ?_
        refine sv' hF (wn rfl) rfl rfl (R.pickT (hF.ev rfl) (hF.ev rfl)) fun a hF => ?_
        refine sv' hF (wn rfl) rfl rfl (R.assign (hF.ev rfl)) fun a hF => ?_
        refine s0 ?_
        exact then_n (hK5' _ _ ⟨hF.sub ⟨rfl, rfl, rfl, rfl, (by first | exact cb_true (by omega) | exact cb_dec (by omega)), trivial⟩, hS.sel [2, 1, 3] rfl rfl⟩)
      ·
        refine sv' hF (wy hF rfl rfl rfl) rfl rfl (R.fieldAddr (k := 46) Try.underlying34 rfl nz3 (hF.ev rfl) rfl) fun a hF => ?_
        refine sv' hF (wy hF rfl rfl rfl) rfl rfl (R.load one3 (hF.ev rfl) hS (.t (.t .h)) (rfl)) fun a hF => ?_
        refine sv' hF (wy hF rfl rfl rfl) rfl rfl (R.lss (hF.ev rfl) (hF.ev rfl)) fun a hF => ?_
        refine sv' hF (wn rfl) rfl rfl (R.pickF (hF.ev rfl) (hF.ev rfl)) fun a hF => ?_
        refine sv' hF (wn rfl) rfl rfl (R.move (hF.ev rfl)) fun a hF => ?_
        refine hF.splitD (t := 40) rfl (fun h40 hF => ?_) (fun h40 hF => ?_)
        ·
          refine sk hF (ws hF rfl rfl rfl rfl) rfl rfl fun a hF => ?_
          refine sk hF (ws hF rfl rfl rfl rfl) rfl rfl fun a hF => ?_
          refine sk hF (ws hF rfl rfl rfl rfl) rfl rfl fun a hF => ?_
          refine sv' hF (wn rfl) rfl rfl (R.pickT (hF.ev rfl) (hF.ev rfl)) fun a hF => ?_
          refine sv' hF (wn rfl) rfl rfl (R.move (hF.ev rfl)) fun a hF => ?_
          refine sk hF (ws hF rfl rfl rfl rfl) rfl rfl fun a hF => ?_
          refine sk hF (ws hF rfl rfl rfl rfl) rfl rfl fun a hF => ?_
          refine sk hF (ws hF rfl rfl rfl rfl) rfl rfl fun a hF => ?_
          refine sv' hF (wn rfl) rfl rfl (R.pickT (hF.ev rfl) (hF.ev rfl)) fun a hF => ?_
          refine sv' hF (wn rfl) rfl rfl (R.move (hF.ev rfl)) fun a hF => ?_
          refine sk hF (ws hF rfl rfl rfl rfl) rfl rfl fun a hF => ?_
          refine sk hF (ws hF rfl rfl rfl rfl) rfl rfl fun a hF => ?_
          refine sk hF (ws hF rfl rfl rfl rfl) rfl rfl fun a hF => ?_
          refine sv' hF (wn rfl) rfl rfl (R.pickT (hF.ev rfl) (hF.ev rfl)) fun a hF => ?_
          refine sv' hF (wn rfl) rfl rfl (R.assign (hF.ev rfl)) fun a hF => ?_
          refine s0 ?_
          exact then_n (hK5' _ _ ⟨hF.sub ⟨rfl, rfl, rfl, rfl, (by first | exact cb_true (by omega) | exact cb_dec (by omega)), trivial⟩, hS.sel [2, 1, 3] rfl rfl⟩)
        ·
          refine sv' hF (wy hF rfl rfl rfl) rfl rfl (R.fieldAddr (k := 46) Try.underlying34 rfl nz3 (hF.ev rfl) rfl) fun a hF => ?_
          refine sv' hF (wy hF rfl rfl rfl) rfl rfl (R.load one3 (hF.ev rfl) hS (.t (.t .h)) (rfl)) fun a hF => ?_
          refine sv' hF (wy hF rfl rfl rfl) rfl rfl (R.gtr (hF.ev rfl) (hF.ev rfl)) fun a hF => ?_
          refine sv' hF (wn rfl) rfl rfl (R.pickF (hF.ev rfl) (hF.ev rfl)) fun a hF => ?_
          refine sv' hF (wn rfl) rfl rfl (R.move (hF.ev rfl)) fun a hF => ?_
          refine hF.splitD (t := 45) rfl (fun h45 hF => ?_) (fun h45 hF => ?_)
          ·
            refine sk hF (ws hF rfl rfl rfl rfl) rfl rfl fun a hF => ?_
            refine sk hF (ws hF rfl rfl rfl rfl) rfl rfl fun a hF => ?_
            refine sk hF (ws hF rfl rfl rfl rfl) rfl rfl fun a hF => ?_
            refine sv' hF (wn rfl) rfl rfl (R.pickT (hF.ev rfl) (hF.ev rfl)) fun a hF => ?_
            refine sv' hF (wn rfl) rfl rfl (R.move (hF.ev rfl)) fun a hF => ?_
            refine sk hF (ws hF rfl rfl rfl rfl) rfl rfl fun a hF => ?_
            refine sk hF (ws hF rfl rfl rfl rfl) rfl rfl fun a hF => ?_
            refine sk hF (ws hF rfl rfl rfl rfl) rfl rfl fun a hF => ?_
            refine sv' hF (wn rfl) rfl rfl (R.pickT (hF.ev rfl) (hF.ev rfl)) fun a hF => ?_
            refine sv' hF (wn rfl) rfl rfl (R.assign (hF.ev rfl)) fun a hF => ?_
            refine s0 ?_
            exact then_n (hK5' _ _ ⟨hF.sub ⟨rfl, rfl, rfl, rfl, (by first | exact cb_true (by omega) | exact cb_dec (by omega)), trivial⟩, hS.sel [2, 1, 3] rfl rfl⟩)
          ·
            refine sv' hF (wy hF rfl rfl rfl) rfl rfl (R.fieldAddr (k := 47) Try.underlying34 rfl nz3 (hF.ev rfl) rfl) fun a hF => ?_
            refine sv' hF (wy hF rfl rfl rfl) rfl rfl (R.load one3 (hF.ev rfl) hS (.t (.t .h)) (rfl)) fun a hF => ?_
            refine sv' hF (wy hF rfl rfl rfl) rfl rfl (R.lss (hF.ev rfl) (hF.ev rfl)) fun a hF => ?_
            refine sv' hF (wn rfl) rfl rfl (R.pickF (hF.ev rfl) (hF.ev rfl)) fun a hF => ?_
            refine sv' hF (wn rfl) rfl rfl (R.move (hF.ev rfl)) fun a hF => ?_
            refine hF.splitD (t := 50) rfl (fun h50 hF => ?_) (fun h50 hF => ?_)
            ·
              refine sk hF (ws hF rfl rfl rfl rfl) rfl rfl fun a hF => ?_
              refine sk hF (ws hF rfl rfl rfl rfl) rfl rfl fun a hF => ?_
              refine sk hF (ws hF rfl rfl rfl rfl) rfl rfl fun a hF => ?_
              refine sv' hF (wn rfl) rfl rfl (R.pickT (hF.ev rfl) (hF.ev rfl)) fun a hF => ?_
              refine sv' hF (wn rfl) rfl rfl (R.assign (hF.ev rfl)) fun a hF => ?_
              refine s0 ?_
              exact then_n (hK5' _ _ ⟨hF.sub ⟨rfl, rfl, rfl, rfl, (by first | exact cb_true (by omega) | exact cb_dec (by omega)), trivial⟩, hS.sel [2, 1, 3] rfl rfl⟩)
            ·
              refine sv' hF (wy hF rfl rfl rfl) rfl rfl (R.fieldAddr (k := 47) Try.underlying34 rfl nz3 (hF.ev rfl) rfl) fun a hF => ?_
              refine sv' hF (wy hF rfl rfl rfl) rfl rfl (R.load one3 (hF.ev rfl) hS (.t (.t .h)) (rfl)) fun a hF => ?_
              refine sv' hF (wy hF rfl rfl rfl) rfl rfl (R.gtr (hF.ev rfl) (hF.ev rfl)) fun a hF => ?_
              refine sv' hF (wn rfl) rfl rfl (R.pickF (hF.ev rfl) (hF.ev rfl)) fun a hF => ?_
              refine sv' hF (wn rfl) rfl rfl (R.assign (hF.ev rfl)) fun a hF => ?_
              refine s0 ?_
              exact then_n (hK5' _ _ ⟨hF.sub ⟨rfl, rfl, rfl, rfl, (by first | exact cb_true (by omega) | exact cb_dec (by omega)), trivial⟩, hS.sel [2, 1, 3] rfl rfl⟩)

end Go.Proofs.Ytlapmbkfmbkdoaa
