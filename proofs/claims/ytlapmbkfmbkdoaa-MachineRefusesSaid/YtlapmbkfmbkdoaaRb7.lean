/- Part 7 of what the row MachineRefuses needs, with no condition beyond each lemma's own. -/
import Derived.Test.YtlapmbkfmbkdoaaRb6
section
namespace Go.Proofs.Ytlapmbkfmbkdoaa
open Go Go.Fw Go.RowKit
attribute [local irreducible] Go.Oper.wp Go.Code.wp Go.wpList Go.Fw.WL Go.Calls
theorem runR {r : Played} {v : Value} {s : Seg} (A : Option Addr) (c : Nat) (h1 : v = .tuple #[.agg (wc r.v ++ [Value.int .i64 r.gas]).toArray, .int .i64 r.e, .slice A r.asks.length c]) (h2 : OwnS s A r.asks.length c (r.asks.flatMap askc) 72 30) : RunR r v s := ⟨A, c, h1, h2⟩
theorem one_askc3 (q : Fw.Ask) : ∀ v ∈ askc q, v.oneCell' = true := by simp [askc, Value.oneCell']
theorem deep_45 {code : List Nat} {p : Nat} (h : cAt code p = 4 ∨ cAt code p = 5) : deepN code p = cAt code (p + 1) + 1 := if_pos h
theorem deep_no {code : List Nat} {p : Nat} (h : ¬ (cAt code p = 4 ∨ cAt code p = 5)) : deepN code p = takesN (cAt code p) := if_neg h
theorem tk_sum {c : Nat} (h : 6 ≤ c ∧ c ≤ 12) : takesN c = 2 := by
  have : ∀ c, c < 13 → 6 ≤ c → takesN c = 2 := by decide
  exact this c (by omega) h.1
theorem tk_is {c d : Nat} (h : c = d) : takesN c = takesN d := by rw [h]
theorem own_askL {s : Seg} {A : Option Addr} {c : Nat} {q : Fw.Ask} {b : List Fw.Ask} (h : OwnS s A (b.length + 1) c (b.flatMap askc ++ askc q) 72 30) : OwnS s A (b ++ [q]).length c ((b ++ [q]).flatMap askc) 72 30 := by
  rw [List.length_append]; exact own_ask h
theorem own_swap {g c b : Nat} {stk : List Nat} {rest : List Value} (hnc : stk.length ≤ c) (hcl : (stk.flatMap wc ++ rest).length = c * 4) (hcm : c ≤ maxLen) : OwnS [(g, Cel ((swapN stk b).flatMap wc ++ rest) 31)] (some ⟨g, 0, none⟩) stk.length c ((swapN stk b).flatMap wc) 31 4 :=
  OwnS.mk (by rw [wcs_length, swap_len]) hnc (by rw [List.length_append, wcs_length] at hcl ⊢; rw [swap_len]; exact hcl) hcm
theorem sum2_calls (c x y : Nat) (w0 : World) (hc : 6 ≤ c ∧ c ≤ 12) (hx : x < 115792089237316195423570985008687907853269984665640564039457584007913129639936) (hy : y < 115792089237316195423570985008687907853269984665640564039457584007913129639936) : Ret Try.prog 30 [.int .i64 ((c : Nat) : Int), wv x, wv y] w0 [] (fun v s => (∃ r ok, v = .tuple #[wv r, .bool ok] ∧ (ok = true → arithN c x y = some r) ∧ (ok = false → arithN c x y = none)) ∧ s = []) := by
  refine Ret.mono (sum_calls c x y w0 hc hx hy) ?_
  rintro v s ⟨h1, h2⟩
  refine ⟨?_, h2⟩
  unfold SumR at h1
  cases ha : arithN c x y with
  | none => rw [ha] at h1; obtain ⟨r, hr⟩ := h1; exact ⟨r, false, hr, (fun h => by cases h), (fun _ => rfl)⟩
  | some r => rw [ha] at h1; exact ⟨r, true, h1, (fun _ => rfl), (fun h => by cases h)⟩
theorem chk_dec {xs : List Nat} : Value.bool (decide (¬ ((if chkN xs then 0 else 100 : Int) = 0))) = .bool (decide (chkN xs = false)) := by cases chkN xs <;> simp
set_option maxHeartbeats 8000000 in
theorem rrun_calls (F : Fx) (w0 : World) (hpi : PlayIn F w0) : Ret Try.prog 14 [.slice F.cA F.code.length F.cc, .agg (callc F).toArray, .slice F.qA F.reps.length F.qc] w0 [] (RunR (playN F.cl F.code F.rep)) := by
  refine fn_start Try.func14 rfl Try.ntmps14 rfl [(0, .slice F.cA F.code.length F.cc), (1, .agg (callc F).toArray), (2, .slice F.qA F.reps.length F.qc)] ⟨rfl, rfl, rfl, trivial⟩ ?_
  intro Q a hP hF hR hN
  have hS := St.start w0
  refine wp_seq_k fun K1 hK1 => ?_
  refine wp_region_lit ?_
  refine so (wn rfl) (O.box rfl rfl hF (hF.ev rfl) rfl hS fun b4 a w hF hS => ?_)
  refine so (wn rfl) (O.alloc rfl rfl hF ze39 rfl hS fun b6 a w hF hS => ?_)
  refine sv' hF (wn rfl) rfl rfl (R.assign (hF.ev rfl)) fun a hF => ?_
  refine sv' hF (wn rfl) rfl rfl (R.assign (hF.ev rfl)) fun a hF => ?_
  refine s0 ?_
  refine then_n (hK1 _ _ ?_)
  refine wp_seq_k fun K2 hK2 => ?_
  refine wp_seq_k fun K3 hK3 => ?_
  refine wp_region_lit ?_
  refine sv' hF (wn rfl) rfl rfl (R.move (hF.ev rfl)) fun a hF => ?_
  refine so (wn rfl) (O.call rfl rfl hF ent13 (hF.evs rfl) hS (rcheck_calls F.cA F.code.length F.cc F.code w (hpi.code.old hS) rfl hpi.ok.cap hpi.ok.cap2 hpi.ok.byt) fun v s28 a w hR hF hS => ?_)
  obtain ⟨rfl, rfl⟩ := hR
  refine sv' hF (wn rfl) rfl rfl (R.as (u := .bool (decide (chkN F.code = false))) (R.neq (p := if chkN F.code then 0 else 100) (q := 0) (hF.ev rfl) (hF.ev rfl)) (chk_dec)) fun a hF => ?_
  refine s0 ?_
  refine then_n (hK3 _ _ ?_)
  refine cD hF rfl (fun hc1 => ?_) (fun hc1 => ?_)
  ·
    refine wp_seq_k fun K4 hK4 => ?_
    refine wp_region_lit ?_
    refine sv' hF (wn rfl) rfl rfl (R.buildStr (l := [_, _, _, _, _]) Try.underlying39 ze39 pl39 (hF.evp rfl) rfl) fun a hF => ?_
    refine so (wn rfl) (O.storeW sz39 (hF.ev rfl) (hF.ev rfl) (rfl) rfl (by simp [Value.oneCell']) hS (.t .h) (rfl) fun w hS => ?_)
    refine sv' hF (wn rfl) rfl rfl (R.assign (hF.ev rfl)) fun a hF => ?_
    refine sv' hF (wn rfl) rfl rfl (R.assign (hF.ev rfl)) fun a hF => ?_
    refine s0 ?_
    refine then_n (hK4 _ _ ?_)
    refine wp_ret (then_r (hR _ _ _ _ _ hF (run_results Try.results14 (.cw hF rfl agg39 hS (.t .h) sz39 (rfl) (.t hF rfl (.t hF rfl (.nil))))) ?_))
    rw [show playN F.cl F.code F.rep = ⟨0, 0, 100, []⟩ by simp [playN, hc1]]
    exact ⟨_, [], rfl, runR none 0 (by kernel_rfl) (OwnS.nil 72 30), hS.none⟩
  ·
    have hc : chkN F.code = true := by (cases h : chkN F.code; exact absurd h hc1; rfl)
    refine wp_skip ?_
    refine then_n (hK2 _ _ ?_)
    refine wp_seq_k fun K5 hK5 => ?_
    refine wp_seq_k fun K6 hK6 => ?_
    have hK6' : ∀ a w, (Fr 362 [(0, .slice F.cA F.code.length F.cc), (2, .slice F.qA F.reps.length F.qc), (4, .pointer (some ⟨b4, 0, none⟩)), (6, .pointer (some ⟨b6, 0, none⟩)), (64, .bool (decide (¬ (0 ≤ F.cl.token ∧ F.cl.token < 64 ∧ F.cl.args.length ≤ 8 ∧ 0 ≤ F.cl.time ∧ F.cl.time ≤ 4611686018427387904 ∧ 1 ≤ F.cl.gas ∧ F.cl.gas ≤ 10000))))] a ∧ St w0 [] [[(b4, Cel (callc F) 34)], [(b6, Cel [.int .u64 0, .int .u64 0, .int .u64 0, .int .u64 0, .int .i64 0] 39)]] w) → K6 a w := by
      rintro a w ⟨hF, hS⟩
      refine hK6 _ _ ?_
      refine cD hF rfl (fun hc2 => ?_) (fun hc2 => ?_)
      ·
        refine wp_seq_k fun K7 hK7 => ?_
        refine wp_region_lit ?_
        refine sv' hF (wn rfl) rfl rfl (R.buildStr (l := [_, _, _, _, _]) Try.underlying39 ze39 pl39 (hF.evp rfl) rfl) fun a hF => ?_
        refine so (wn rfl) (O.storeW sz39 (hF.ev rfl) (hF.ev rfl) (rfl) rfl (by simp [Value.oneCell']) hS (.t .h) (rfl) fun w hS => ?_)
        refine sv' hF (wn rfl) rfl rfl (R.assign (hF.ev rfl)) fun a hF => ?_
        refine sv' hF (wn rfl) rfl rfl (R.assign (hF.ev rfl)) fun a hF => ?_
        refine s0 ?_
        refine then_n (hK7 _ _ ?_)
        refine wp_ret (then_r (hR _ _ _ _ _ hF (run_results Try.results14 (.cw hF rfl agg39 hS (.t .h) sz39 (rfl) (.t hF rfl (.t hF rfl (.nil))))) ?_))
        rw [show playN F.cl F.code F.rep = ⟨0, 0, 101, []⟩ by (have hf : callOk F.cl = false := (by cases h : callOk F.cl; rfl; exact absurd (callOk_iff.1 h) hc2)); simp [playN, hc, hf]]
        exact ⟨_, [], rfl, runR none 0 (by kernel_rfl) (OwnS.nil 72 30), hS.none⟩
      ·
        have hcl : callOk F.cl = true := callOk_iff.2 (Classical.not_not.1 hc2)
        have hK := ok_of hpi.ok hc hcl; have hcp := callOk_tok hcl; have hlen := hK.len; obtain ⟨_, _, _, _, _, hg1, hg2⟩ := Classical.not_not.1 hc2
        refine wp_skip ?_
        refine then_n (hK5 _ _ ?_)
        refine wp_seq_k fun K8 hK8 => ?_
        refine wp_region_lit ?_
        refine sv' hF (wn rfl) rfl rfl (R.assign (hF.ev rfl)) fun a hF => ?_
        refine s0 ?_
        refine then_n (hK8 _ _ ?_)
        refine wp_seq_k fun K9 hK9 => ?_
        refine wp_region_lit ?_
        refine sv' hF (wn rfl) rfl rfl (R.assign (hF.ev rfl)) fun a hF => ?_
        refine s0 ?_
        refine then_n (hK9 _ _ ?_)
        refine wp_seq_k fun K10 hK10 => ?_
        refine wp_region_lit ?_
        refine sv' hF (wn rfl) rfl rfl (R.fieldAddr (k := 47) Try.underlying34 rfl nz3 (hF.ev rfl) rfl) fun a hF => ?_
        refine sv' hF (wn rfl) rfl rfl (R.as (u := .int .i64 ((F.cl.gas.toNat : Nat) : Int)) (R.load one3 (hF.ev rfl) hS .h rfl) (congrArg (Value.int .i64) (by omega))) fun a hF => ?_
        refine sv' hF (wn rfl) rfl rfl (R.assign (hF.ev rfl)) fun a hF => ?_
        refine s0 ?_
        refine then_n (hK10 _ _ ?_)
        refine wp_seq_k fun K11 hK11 => ?_
        refine wp_region_lit ?_
        refine sv' hF (wn rfl) rfl rfl (R.assign (hF.ev rfl)) fun a hF => ?_
        refine s0 ?_
        refine then_n (hK11 _ _ ?_)
        refine wp_block ?_
        have hS := hS.cons0.cons0
        refine wp_loop_N (fun g a w => ∃ (stk : List Nat) (left : Nat) (p : Nat) (asks : List Fw.Ask) (A9 : Option Addr) (c9 : Nat) (z9 : Seg) (A10 : Option Addr) (c10 : Nat) (z10 : Seg) (f : Nat), left = g ∧ Fr 362 [(0, .slice F.cA F.code.length F.cc), (2, .slice F.qA F.reps.length F.qc), (4, .pointer (some ⟨b4, 0, none⟩)), (6, .pointer (some ⟨b6, 0, none⟩)), (9, .slice A9 stk.length c9), (10, .slice A10 asks.length c10), (11, .int .i64 ((left : Nat) : Int)), (12, .int .i64 ((p : Nat) : Int))] a ∧ St w0 [] [z9, z10, [(b4, Cel (callc F) 34)], [(b6, Cel [.int .u64 0, .int .u64 0, .int .u64 0, .int .u64 0, .int .i64 0] 39)]] w ∧ (OwnS z9 A9 stk.length c9 (stk.flatMap wc) 31 4) ∧ (OwnS z10 A10 asks.length c10 (asks.flatMap askc) 72 30) ∧ (validP F.code p) ∧ (stk.length ≤ 64) ∧ (AllW stk) ∧ (asks.length + left ≤ 10000) ∧ (left < f) ∧ (Fw.runN F.cl F.code F.rep (F.cl.gas.toNat + 1) [] F.cl.gas.toNat 0 [] = Fw.runN F.cl F.code F.rep f stk left p asks)) (F.cl.gas.toNat) ?_ ?_
        · exact ⟨[], F.cl.gas.toNat, 0, [], none, 0, [], none, 0, [], F.cl.gas.toNat + 1, rfl, hF.sub ⟨rfl, rfl, rfl, rfl, rfl, rfl, rfl, rfl, trivial⟩, hS.sel [0, 1, 2, 3] rfl rfl, OwnS.nil 31 4, OwnS.nil 72 30, valid_0 hc, Nat.zero_le _, (by intro x hx; simp at hx), (by (show 0 + F.cl.gas.toNat ≤ 10000; omega)), Nat.lt_succ_self _, rfl⟩
        · rintro KL1 g a w ⟨stk, left, p, asks, A9, c9, z9, A10, c10, z10, f, hg1, hF, hS, hO9, hO10, hp, hl, hW, hsum, hf, hrun⟩ hKL1
          obtain ⟨f', rfl⟩ : ∃ f', f = f' + 1 := ⟨f - 1, by omega⟩
          refine wp_block ?_
          refine wp_seq_k fun K12 hK12 => ?_
          refine wp_seq_k fun K13 hK13 => ?_
          refine wp_region_lit ?_
          refine sv' hF (wn rfl) rfl rfl (R.move (hF.ev rfl)) fun a hF => ?_
          refine sv' hF (wn rfl) rfl rfl (R.move (hF.ev rfl)) fun a hF => ?_
          refine sv' hF (wn rfl) rfl rfl (R.len Try.underlying23 (hF.ev rfl)) fun a hF => ?_
          refine sv' hF (wn rfl) rfl rfl (R.geq (hF.ev rfl) (hF.ev rfl)) fun a hF => ?_
          refine s0 ?_
          refine then_n (hK13 _ _ ?_)
          refine cD hF rfl (fun c3 => ?_) (fun c3 => ?_)
          ·
            have hpl := play_err hc hcl (by decide) (hrun.trans (runN_err (e := 106) (stp_end (by omega))))
            refine wp_seq_k fun K14 hK14 => ?_
            refine wp_region_lit ?_
            refine sv' hF (wn rfl) rfl rfl (R.buildStr (l := [_, _, _, _, _]) Try.underlying39 ze39 pl39 (hF.evp rfl) rfl) fun a hF => ?_
            refine sv' hF (wn rfl) rfl rfl (R.move (hF.ev rfl)) fun a hF => ?_
            refine so (wn rfl) (O.storeW sz39 (hF.ev rfl) (hF.ev rfl) (rfl) rfl (by simp [Value.oneCell']) hS (.t (.t (.t .h))) (rfl) fun w hS => ?_)
            refine sv' hF (wn rfl) rfl rfl (R.assign (hF.ev rfl)) fun a hF => ?_
            refine sv' hF (wn rfl) rfl rfl (R.assign (hF.ev rfl)) fun a hF => ?_
            refine s0 ?_
            refine then_n (hK14 _ _ ?_)
            refine wp_ret (then_r (blk_r (then_r (blk_r (hR _ _ _ _ _ hF (run_results Try.results14 (.cw hF rfl agg39 hS (.t (.t (.t .h))) sz39 (rfl) (.t hF rfl (.t hF rfl (.nil))))) ?_)))))
            rw [hpl]
            exact ⟨_, z10, rfl, runR A10 c10 (by kernel_rfl) hO10, hS.one (.t .h)⟩
          ·
            have hpp : p < F.code.length := by omega
            have hs := valid_size hpp hp; have h28 := size_28 hs; have hpr := priceN_pos h28; have hsl := (sizeN_le F.code p).resolve_left hs; have hsm := take_small _ h28; have hcb := cAt_lt hpi.ok.byt p; have hcb1 := cAt_lt hpi.ok.byt (p + 1); have hdl : takesN (cAt F.code p) ≤ deepN F.code p := deep_le
            refine wp_skip ?_
            refine then_n (hK12 _ _ ?_)
            refine wp_seq_k fun K15 hK15 => ?_
            refine wp_region_lit ?_
            refine sv' hF (wn rfl) rfl rfl (R.move (hF.ev rfl)) fun a hF => ?_
            refine sv' hF (wn rfl) rfl rfl (R.move (hF.ev rfl)) fun a hF => ?_
            refine sv' hF (wn rfl) rfl rfl (R.indexO Try.underlying23 sz5 (hF.ev rfl) (Rd.ne hpi.code (by rw [length_byts]; omega)) (hF.ev rfl) (by omega) (by omega)) fun a hF => ?_
            refine sv' hF (wn rfl) rfl rfl (R.loadO one5 (hF.ev rfl) (hpi.code.old hS) (cb_at (i := p) (by omega) (by omega))) fun a hF => ?_
            refine sv' hF (wn rfl) rfl rfl (R.convI Try.underlying5 Try.underlying3 (hF.ev rfl) (by omega)) fun a hF => ?_
            refine sv' hF (wn rfl) rfl rfl (R.assign (hF.ev rfl)) fun a hF => ?_
            refine s0 ?_
            refine then_n (hK15 _ _ ?_)
            refine wp_seq_k fun K16 hK16 => ?_
            refine wp_region_lit ?_
            refine sv' hF (wn rfl) rfl rfl (R.move (hF.ev rfl)) fun a hF => ?_
            refine sv' hF (wn rfl) rfl rfl (R.move (hF.ev rfl)) fun a hF => ?_
            refine so (wn rfl) (O.call rfl rfl hF ent25 (hF.evs rfl) hS (rsize_calls F.cA F.code.length F.cc F.code p w (hpi.code.old hS) rfl hpi.ok.cap hpi.ok.cap2 hpi.ok.byt (by omega)) fun v s81 a w hR hF hS => ?_)
            obtain ⟨rfl, rfl⟩ := hR
            refine sv' hF (wn rfl) rfl rfl (R.assign (hF.ev rfl)) fun a hF => ?_
            refine s0 ?_
            refine then_n (hK16 _ _ ?_)
            refine wp_seq_k fun K17 hK17 => ?_
            refine wp_seq_k fun K18 hK18 => ?_
            refine wp_region_lit ?_
            refine sv' hF (wn rfl) rfl rfl (R.move (hF.ev rfl)) fun a hF => ?_
            refine so (wn rfl) (O.call rfl rfl hF ent26 (hF.evs rfl) hS (price_calls (cAt F.code p) w h28) fun v s83 a w hR hF hS => ?_)
            obtain ⟨rfl, rfl⟩ := hR
            refine sv' hF (wn rfl) rfl rfl (R.move (hF.ev rfl)) fun a hF => ?_
            refine sv' hF (wn rfl) rfl rfl (R.gtr (hF.ev rfl) (hF.ev rfl)) fun a hF => ?_
            refine s0 ?_
            refine then_n (hK18 _ _ ?_)
            refine cD hF rfl (fun c4 => ?_) (fun c4 => ?_)
            ·
              have hpl := play_err hc hcl (by decide) (hrun.trans (runN_err (e := 102) (stp_gas hpp (by omega))))
              refine wp_seq_k fun K19 hK19 => ?_
              refine wp_region_lit ?_
              refine sv' hF (wn rfl) rfl rfl (R.buildStr (l := [_, _, _, _, _]) Try.underlying39 ze39 pl39 (hF.evp rfl) rfl) fun a hF => ?_
              refine sv' hF (wn rfl) rfl rfl (R.move (hF.ev rfl)) fun a hF => ?_
              refine so (wn rfl) (O.storeW sz39 (hF.ev rfl) (hF.ev rfl) (rfl) rfl (by simp [Value.oneCell']) hS (.t (.t (.t (.t (.t .h))))) (rfl) fun w hS => ?_)
              refine sv' hF (wn rfl) rfl rfl (R.assign (hF.ev rfl)) fun a hF => ?_
              refine sv' hF (wn rfl) rfl rfl (R.assign (hF.ev rfl)) fun a hF => ?_
              refine s0 ?_
              refine then_n (hK19 _ _ ?_)
              refine wp_ret (then_r (blk_r (then_r (blk_r (hR _ _ _ _ _ hF (run_results Try.results14 (.cw hF rfl agg39 hS (.t (.t (.t (.t (.t .h))))) sz39 (rfl) (.t hF rfl (.t hF rfl (.nil))))) ?_)))))
              rw [hpl]
              exact ⟨_, z10, rfl, runR A10 c10 (by kernel_rfl) hO10, hS.one (.t (.t (.t .h)))⟩
            ·
              have h2 : ¬ left < priceN (cAt F.code p) := by omega
              refine wp_skip ?_
              refine then_n (hK17 _ _ ?_)
              refine wp_seq_k fun K20 hK20 => ?_
              refine wp_region_lit ?_
              refine sv' hF (wn rfl) rfl rfl (R.move (hF.ev rfl)) fun a hF => ?_
              refine sv' hF (wn rfl) rfl rfl (R.move (hF.ev rfl)) fun a hF => ?_
              refine so (wn rfl) (O.call rfl rfl hF ent26 (hF.evs rfl) hS (price_calls (cAt F.code p) w h28) fun v s90 a w hR hF hS => ?_)
              obtain ⟨rfl, rfl⟩ := hR
              refine sv' hF (wn rfl) rfl rfl (R.as (u := .int .i64 ((left - priceN (cAt F.code p) : Nat) : Int)) (R.subI (hF.ev rfl) (hF.ev rfl) (by omega)) (congrArg (Value.int .i64) (by omega))) fun a hF => ?_
              refine sv' hF (wn rfl) rfl rfl (R.assign (hF.ev rfl)) fun a hF => ?_
              refine s0 ?_
              refine then_n (hK20 _ _ ?_)
              refine wp_seq_k fun K21 hK21 => ?_
              refine wp_region_lit ?_
              refine sv' hF (wn rfl) rfl rfl (R.assign (hF.ev rfl)) fun a hF => ?_
              refine s0 ?_
              refine then_n (hK21 _ _ ?_)
              refine wp_seq_k fun K22 hK22 => ?_
              have hK22' : ∀ a w, (∃ (ob : Nat), Fr 362 [(0, .slice F.cA F.code.length F.cc), (2, .slice F.qA F.reps.length F.qc), (4, .pointer (some ⟨b4, 0, none⟩)), (6, .pointer (some ⟨b6, 0, none⟩)), (9, .slice A9 stk.length c9), (10, .slice A10 asks.length c10), (11, .int .i64 ((left - priceN (cAt F.code p) : Nat) : Int)), (12, .int .i64 ((p : Nat) : Int)), (13, .int .i64 ((cAt F.code p : Nat) : Int)), (14, .int .i64 ((sizeN F.code p : Nat) : Int)), (15, .int .i64 ((ob : Nat) : Int))] a ∧ St w0 [] [z9, z10, [(b4, Cel (callc F) 34)], [(b6, Cel [.int .u64 0, .int .u64 0, .int .u64 0, .int .u64 0, .int .i64 0] 39)]] w ∧ (sizeN F.code p = 2 → ob = cAt F.code (p + 1)) ∧ (ob ≤ 255)) → K22 a w := by
                rintro a w ⟨ob, hF, hS, hob, hob2⟩
                refine hK22 _ _ ?_
                refine wp_seq_k fun K23 hK23 => ?_
                refine wp_region_lit ?_
                refine sv' hF (wn rfl) rfl rfl (R.move (hF.ev rfl)) fun a hF => ?_
                refine so (wn rfl) (O.call rfl rfl hF ent27 (hF.evs rfl) hS (wants_calls (cAt F.code p) w h28) fun v s101 a w hR hF hS => ?_)
                obtain ⟨rfl, rfl⟩ := hR
                refine sv' hF (wn rfl) rfl rfl (R.assign (hF.ev rfl)) fun a hF => ?_
                refine s0 ?_
                refine then_n (hK23 _ _ ?_)
                refine wp_seq_k fun K24 hK24 => ?_
                have hK24' : ∀ a w, (Fr 362 [(0, .slice F.cA F.code.length F.cc), (2, .slice F.qA F.reps.length F.qc), (4, .pointer (some ⟨b4, 0, none⟩)), (6, .pointer (some ⟨b6, 0, none⟩)), (9, .slice A9 stk.length c9), (10, .slice A10 asks.length c10), (11, .int .i64 ((left - priceN (cAt F.code p) : Nat) : Int)), (12, .int .i64 ((p : Nat) : Int)), (13, .int .i64 ((cAt F.code p : Nat) : Int)), (14, .int .i64 ((sizeN F.code p : Nat) : Int)), (15, .int .i64 ((ob : Nat) : Int)), (16, .int .i64 ((deepN F.code p : Nat) : Int))] a ∧ St w0 [] [z9, z10, [(b4, Cel (callc F) 34)], [(b6, Cel [.int .u64 0, .int .u64 0, .int .u64 0, .int .u64 0, .int .i64 0] 39)]] w) → K24 a w := by
                  rintro a w ⟨hF, hS⟩
                  refine hK24 _ _ ?_
                  refine wp_seq_k fun K25 hK25 => ?_
                  refine wp_seq_k fun K26 hK26 => ?_
                  have hK26' : ∀ a w, (Fr 362 [(0, .slice F.cA F.code.length F.cc), (2, .slice F.qA F.reps.length F.qc), (4, .pointer (some ⟨b4, 0, none⟩)), (6, .pointer (some ⟨b6, 0, none⟩)), (9, .slice A9 stk.length c9), (10, .slice A10 asks.length c10), (11, .int .i64 ((left - priceN (cAt F.code p) : Nat) : Int)), (12, .int .i64 ((p : Nat) : Int)), (13, .int .i64 ((cAt F.code p : Nat) : Int)), (14, .int .i64 ((sizeN F.code p : Nat) : Int)), (15, .int .i64 ((ob : Nat) : Int)), (124, .bool (decide (stk.length < deepN F.code p ∨ 64 < stk.length - takesN (cAt F.code p) + laysN (cAt F.code p))))] a ∧ St w0 [] [z9, z10, [(b4, Cel (callc F) 34)], [(b6, Cel [.int .u64 0, .int .u64 0, .int .u64 0, .int .u64 0, .int .i64 0] 39)]] w) → K26 a w := by
                    rintro a w ⟨hF, hS⟩
                    refine hK26 _ _ ?_
                    refine cD hF rfl (fun c7 => ?_) (fun c7 => ?_)
                    ·
                      have hpl := play_err hc hcl (by decide) (hrun.trans (runN_err (e := 103) (stp_stack hpp h2 c7)))
                      refine wp_seq_k fun K27 hK27 => ?_
                      refine wp_region_lit ?_
                      refine sv' hF (wn rfl) rfl rfl (R.buildStr (l := [_, _, _, _, _]) Try.underlying39 ze39 pl39 (hF.evp rfl) rfl) fun a hF => ?_
                      refine sv' hF (wn rfl) rfl rfl (R.move (hF.ev rfl)) fun a hF => ?_
                      refine so (wn rfl) (O.storeW sz39 (hF.ev rfl) (hF.ev rfl) (rfl) rfl (by simp [Value.oneCell']) hS (.t (.t (.t .h))) (rfl) fun w hS => ?_)
                      refine sv' hF (wn rfl) rfl rfl (R.assign (hF.ev rfl)) fun a hF => ?_
                      refine sv' hF (wn rfl) rfl rfl (R.assign (hF.ev rfl)) fun a hF => ?_
                      refine s0 ?_
                      refine then_n (hK27 _ _ ?_)
                      refine wp_ret (then_r (blk_r (then_r (blk_r (hR _ _ _ _ _ hF (run_results Try.results14 (.cw hF rfl agg39 hS (.t (.t (.t .h))) sz39 (rfl) (.t hF rfl (.t hF rfl (.nil))))) ?_)))))
                      rw [hpl]
                      exact ⟨_, z10, rfl, runR A10 c10 (by kernel_rfl) hO10, hS.one (.t .h)⟩
                    ·
                      have hdo : DoAt F stk left p asks := do_at hpp h2 c7
                      refine wp_skip ?_
                      refine then_n (hK25 _ _ ?_)
                      refine wp_seq_k fun K28 hK28 => ?_
                      refine wp_region_lit ?_
                      refine sv' hF (wn rfl) rfl rfl (R.move (hF.ev rfl)) fun a hF => ?_
                      refine sv' hF (wn rfl) rfl rfl (R.len Try.underlying32 (hF.ev rfl)) fun a hF => ?_
                      refine sv' hF (wn rfl) rfl rfl (R.move (hF.ev rfl)) fun a hF => ?_
                      refine so (wn rfl) (O.call rfl rfl hF ent27 (hF.evs rfl) hS (wants_calls (cAt F.code p) w h28) fun v s130 a w hR hF hS => ?_)
                      obtain ⟨rfl, rfl⟩ := hR
                      refine sv' hF (wn rfl) rfl rfl (R.as (u := .int .i64 ((topN F stk p : Nat) : Int)) (R.subI (hF.ev rfl) (hF.ev rfl) (by omega)) (congrArg (Value.int .i64) (by unfold topN; omega))) fun a hF => ?_
                      refine sv' hF (wn rfl) rfl rfl (R.assign (hF.ev rfl)) fun a hF => ?_
                      refine s0 ?_
                      refine then_n (hK28 _ _ ?_)
                      refine wp_seq_k fun K29 hK29 => ?_
                      refine wp_region_lit ?_
                      have htop : topN F stk p = stk.length - takesN (cAt F.code p) := rfl
                      refine so (wn rfl) (O.buildSlice (l := []) rfl rfl hF Try.underlying32 inf31 rfl rfl (hF.evp rfl) (by decide) rfl hS fun b132 a w hF hS => ?_)
                      refine sv' hF (wn rfl) rfl rfl (R.move (hF.ev rfl)) fun a hF => ?_
                      refine sv' hF (wn rfl) rfl rfl (R.move (hF.ev rfl)) fun a hF => ?_
                      refine sv' hF (wn rfl) rfl rfl (R.sliceLo (p := topN F stk p) Try.underlying32 (hF.ev rfl) (hF.ev rfl) (by unfold topN; omega) sz31) fun a hF => ?_
                      refine so (wn rfl) (O.appendO rfl rfl hF Try.underlying32 inf31 rfl rfl (by decide) (hF.ev rfl) (hF.ev rfl) hS (own_nil31 b132) (fun _ => .h) (rd_drop (hO9.rd hS (.t (.t .h))) hO9.2.1 (topN F stk p)) (by rw [wcs_length, List.length_drop]) (wcs_one _) (by unfold maxLen; omega) (by omega) fun A136 c136 s136 a w hO136 hF hS => ?_)
                      rw [Nat.zero_add] at hF hO136; rw [List.flatMap_nil, List.nil_append] at hO136; have hvl : (stk.drop (topN F stk p)).length = takesN (cAt F.code p) := by (rw [List.length_drop]; omega)
                      refine sv' hF (wn rfl) rfl rfl (R.assign (hF.ev rfl)) fun a hF => ?_
                      refine s0 ?_
                      refine then_n (hK29 _ _ ?_)
                      refine wp_seq_k fun K30 hK30 => ?_
                      refine wp_region_lit ?_
                      refine sv' hF (wn rfl) rfl rfl (R.move (hF.ev rfl)) fun a hF => ?_
                      refine sv' hF (wn rfl) rfl rfl (R.move (hF.ev rfl)) fun a hF => ?_
                      refine sv' hF (wn rfl) rfl rfl (R.addI (hF.ev rfl) (hF.ev rfl) (by omega)) fun a hF => ?_
                      refine sv' hF (wn rfl) rfl rfl (R.assign (hF.ev rfl)) fun a hF => ?_
                      refine s0 ?_
                      refine then_n (hK30 _ _ ?_)
                      refine wp_seq_k fun K31 hK31 => ?_
                      refine wp_region_lit ?_
                      refine sv' hF (wn rfl) rfl rfl (R.assign (hF.ev rfl)) fun a hF => ?_
                      refine s0 ?_
                      refine then_n (hK31 _ _ ?_)
                      refine wp_seq_k fun K32 hK32 => ?_
                      have hK32' : ∀ a w, (∃ (stk2 : List Nat) (on : List Nat) (q : Nat) (asks2 : List Fw.Ask) (A20 : Option Addr) (c20 : Nat) (z20 : Seg) (A1 : Option Addr) (c1 : Nat) (z1 : Seg) (z2 : Seg), Fr 362 [(0, .slice F.cA F.code.length F.cc), (2, .slice F.qA F.reps.length F.qc), (4, .pointer (some ⟨b4, 0, none⟩)), (6, .pointer (some ⟨b6, 0, none⟩)), (9, .slice A9 stk.length c9), (10, .slice A1 asks2.length c1), (11, .int .i64 ((left - priceN (cAt F.code p) : Nat) : Int)), (13, .int .i64 ((cAt F.code p : Nat) : Int)), (17, .int .i64 ((topN F stk p : Nat) : Int)), (19, .int .i64 ((q : Nat) : Int)), (20, .slice A20 on.length c20)] a ∧ St w0 [] [z2, z1, z20, [(b4, Cel (callc F) 34)], [(b6, Cel [.int .u64 0, .int .u64 0, .int .u64 0, .int .u64 0, .int .i64 0] 39)]] w ∧ (OwnS z2 A9 stk.length c9 (stk2.flatMap wc) 31 4) ∧ (OwnS z1 A1 asks2.length c1 (asks2.flatMap askc) 72 30) ∧ (OwnS z20 A20 on.length c20 (on.flatMap wc) 31 4) ∧ (Mid F stk stk2 on left p q asks asks2)) → K32 a w := by
                        rintro a w ⟨stk2, on, q, asks2, A20, c20, z20, A1, c1, z1, z2, hF, hS, hO92, hO1, hO20, hmid⟩
                        refine hK32 _ _ ?_
                        refine wp_seq_k fun K33 hK33 => ?_
                        have hK33' : ∀ a w, (∃ (on2 : List Nat) (A21 : Option Addr) (c21 : Nat) (z21 : Seg), Fr 362 [(0, .slice F.cA F.code.length F.cc), (2, .slice F.qA F.reps.length F.qc), (4, .pointer (some ⟨b4, 0, none⟩)), (6, .pointer (some ⟨b6, 0, none⟩)), (9, .slice A9 stk.length c9), (10, .slice A1 asks2.length c1), (11, .int .i64 ((left - priceN (cAt F.code p) : Nat) : Int)), (17, .int .i64 ((topN F stk p : Nat) : Int)), (19, .int .i64 ((q : Nat) : Int)), (20, .slice A21 on2.length c21)] a ∧ St w0 [] [z2, z1, z21, [(b4, Cel (callc F) 34)], [(b6, Cel [.int .u64 0, .int .u64 0, .int .u64 0, .int .u64 0, .int .i64 0] 39)]] w ∧ (OwnS z21 A21 on2.length c21 (on2.flatMap wc) 31 4) ∧ (stp F.cl F.code F.rep stk left p asks = .more (stk2.take (topN F stk p) ++ on2) (left - priceN (cAt F.code p)) q asks2)) → K33 a w := by
                          rintro a w ⟨on2, A21, c21, z21, hF, hS, hO21, hst2⟩
                          refine hK33 _ _ ?_
                          have htp : topN F stk p ≤ stk.length := Nat.sub_le _ _; have h92 := hO92.2.1; have hlk := hO92.1; rw [wcs_length] at hlk
                          obtain ⟨kv, kl, kW, klt, ksum⟩ := stp_more hK hp hl hW (by omega) hst2; have hl2 := kl; rw [List.length_append, List.length_take] at hl2
                          refine wp_seq_k fun K34 hK34 => ?_
                          refine wp_region_lit ?_
                          refine so (wn rfl) (O.buildSlice (l := []) rfl rfl hF Try.underlying32 inf31 rfl rfl (hF.evp rfl) (by decide) rfl hS fun b354 a w hF hS => ?_)
                          refine sv' hF (wn rfl) rfl rfl (R.move (hF.ev rfl)) fun a hF => ?_
                          refine sv' hF (wn rfl) rfl rfl (R.move (hF.ev rfl)) fun a hF => ?_
                          refine sv' hF (wn rfl) rfl rfl (R.as (u := .slice A9 (topN F stk p) c9) (R.sliceHi Try.underlying32 (hF.ev rfl) (hF.ev rfl) (by omega) (by omega) _ sz31) (rfl)) fun a hF => ?_
                          refine so (wn rfl) (O.appendO rfl rfl hF Try.underlying32 inf31 rfl rfl (by decide) (hF.ev rfl) (hF.ev rfl) hS (own_nil31 b354) (fun _ => .h) (wcs_take stk2 (topN F stk p) ▸ (hO92.rd hS (.t .h)).sub (topN F stk p * 4)) (by rw [wcs_length, List.length_take]; omega) (wcs_one _) (by unfold maxLen; omega) (by omega) fun A358 c358 s358 a w hO358 hF hS => ?_)
                          rw [Nat.zero_add] at hF hO358; rw [List.flatMap_nil, List.nil_append] at hO358
                          refine sv' hF (wn rfl) rfl rfl (R.move (hF.ev rfl)) fun a hF => ?_
                          refine so (wn rfl) (O.appendO rfl rfl hF Try.underlying32 inf31 rfl rfl (by decide) (hF.ev rfl) (hF.ev rfl) hS hO358 (fun _ => .h) (hO21.rd hS (.t (.t (.t .h)))) (by rw [wcs_length]) (wcs_one _) (by unfold maxLen; omega) (by omega) fun A360 c360 s360 a w hO360 hF hS => ?_)
                          rw [← List.flatMap_append] at hO360
                          refine sv' hF (wn rfl) rfl rfl (R.assign (hF.ev rfl)) fun a hF => ?_
                          refine s0 ?_
                          refine then_n (hK34 _ _ ?_)
                          refine wp_region_lit ?_
                          refine sv' hF (wn rfl) rfl rfl (R.move (hF.ev rfl)) fun a hF => ?_
                          refine sv' hF (wn rfl) rfl rfl (R.assign (hF.ev rfl)) fun a hF => ?_
                          refine s0 ?_
                          refine blk_n ?_
                          refine then_n (hKL1 (left - priceN (cAt F.code p)) _ _ ?_ ?_)
                          · omega
                          · exact ⟨stk2.take (topN F stk p) ++ on2, left - priceN (cAt F.code p), q, asks2, A360, c360, s360, A1, c1, z1, f', rfl, hF.sub ⟨rfl, rfl, rfl, rfl, (congrArg (fun z => some (Value.slice A360 z c360)) (by rw [List.length_append, List.length_take]; omega)), rfl, rfl, rfl, trivial⟩, hS.sel [0, 2, 4, 5] rfl rfl, (by rw [List.length_append, List.length_take, Nat.min_eq_left (by omega)]; exact hO360), hO1, kv, kl, kW, by omega, by omega, hrun.trans (runN_more hst2)⟩
                        refine wp_seq_k fun K35 hK35 => ?_
                        refine wp_region_lit ?_
                        refine sv' hF (wn rfl) rfl rfl (R.move (hF.ev rfl)) fun a hF => ?_
                        refine sv' hF (wn rfl) rfl rfl (R.geq (hF.ev rfl) (hF.ev rfl)) fun a hF => ?_
                        refine s0 ?_
                        refine then_n (hK35 _ _ ?_)
                        refine cD hF rfl (fun c33 => ?_) (fun c33 => ?_)
                        ·
                          have hal := (mid_high hmid (by omega)).1
                          refine wp_seq_k fun K36 hK36 => ?_
                          refine wp_region_lit ?_
                          refine sv' hF (wn rfl) rfl rfl (R.move (hF.ev rfl)) fun a hF => ?_
                          refine sv' hF (wn rfl) rfl rfl (R.move (hF.ev rfl)) fun a hF => ?_
                          refine sv' hF (wn rfl) rfl rfl (R.len Try.underlying40 (hF.ev rfl)) fun a hF => ?_
                          refine sv' hF (wn rfl) rfl rfl (R.as (u := .int .i64 ((asks.length : Nat) : Int)) (R.subI (hF.ev rfl) (hF.ev rfl) (by omega)) (congrArg (Value.int .i64) (by have := (mid_high hmid (by omega)).1; omega))) fun a hF => ?_
                          refine so (wn rfl) (O.call rfl rfl hF ent36 (hF.evs rfl) hS (answer_calls F.qA F.qc asks.length F.reps w (hpi.reps.old hS)) fun v s337 a w hR hF hS => ?_)
                          obtain ⟨rfl, rfl⟩ := hR
                          refine so (wn rfl) (O.alloc rfl rfl hF ze48 rfl hS fun b26 a w hF hS => ?_)
                          refine so (wn rfl) (O.storeW sz48 (hF.ev rfl) (hF.ev rfl) (rfl) rfl (one_repc _) hS .h (rfl) fun w hS => ?_)
                          refine s0 ?_
                          refine then_n (hK36 _ _ ?_)
                          refine wp_seq_k fun K37 hK37 => ?_
                          refine wp_seq_k fun K38 hK38 => ?_
                          refine wp_region_lit ?_
                          refine sv' hF (wn rfl) rfl rfl (R.fieldAddr (k := 4) Try.underlying48 rfl nz24 (hF.ev rfl) rfl) fun a hF => ?_
                          refine sv' hF (wn rfl) rfl rfl (R.load one24 (hF.ev rfl) hS .h (rfl)) fun a hF => ?_
                          refine sv' hF (wn rfl) rfl rfl (R.neq (hF.ev rfl) (hF.ev rfl)) fun a hF => ?_
                          refine s0 ?_
                          refine then_n (hK38 _ _ ?_)
                          refine cD hF rfl (fun c34 => ?_) (fun c34 => ?_)
                          ·
                            have hpl := play_err hc hcl c34 (hrun.trans (runN_err (mid_err hmid (by omega) c34)))
                            refine wp_seq_k fun K39 hK39 => ?_
                            refine wp_drawG hS (hS.sel [0] rfl rfl) [(0, 0), (1, 0), (2, 1), (3, 0), (4, 2), (5, 0), (6, 0)] mix (by kernel_rfl) (hP.block.then.block.then.then.then) fun w hS hD => ?_
                            refine dq hF rfl (wn rfl) rfl rfl (fun w => R.buildStr (l := [_, _, _, _, _]) Try.underlying39 ze39 pl39 (hF.evp rfl) rfl) fun a hF => ?_
                            refine dq hF rfl (wn rfl) rfl rfl (fun w => R.fieldAddr (k := 4) Try.underlying48 rfl nz24 (hF.ev rfl) rfl) fun a hF => ?_
                            refine dr hF rfl (wn rfl) rfl rfl hD (fun w hD => R.load one24 (hF.ev rfl) hD .h (rfl)) fun a hF => ?_
                            refine dq hF rfl (wn rfl) rfl rfl (fun w => R.move (hF.ev rfl)) fun a hF => ?_
                            refine dl rfl (wn rfl) (O.storeW sz39 (hF.ev rfl) (hF.ev rfl) (rfl) rfl (by simp [Value.oneCell']) hS (.t (.t (.t (.t (.t (.t .h)))))) (rfl) fun w hS => ⟨fun hD => hS.sel [0] rfl rfl, ?_⟩)
                            have hD := hS.sel [0] rfl rfl
                            refine dq hF rfl (wn rfl) rfl rfl (fun w => R.assign (hF.ev rfl)) fun a hF => ?_
                            refine dq hF rfl (wn rfl) rfl rfl (fun w => R.assign (hF.ev rfl)) fun a hF => ?_
                            refine d0 ?_
                            refine then_n (hK39 _ _ ?_)
                            refine wp_ret (then_r (then_r (blk_r (then_r (blk_r (hR _ _ _ _ _ hF (run_results Try.results14 (.cw hF rfl agg39 hS (.t (.t (.t (.t (.t (.t .h)))))) sz39 (rfl) (.t hF rfl (.t hF rfl (.nil))))) ?_))))))
                            rw [hpl]
                            exact ⟨_, z1, rfl, runR A1 c1 (by kernel_rfl) hO1, hS.one (.t (.t (.t .h)))⟩
                          ·
                            have hre : (F.rep asks.length).2 = 0 := Classical.not_not.1 c34
                            refine wp_skip ?_
                            refine then_n (hK37 _ _ ?_)
                            refine wp_seq_k fun K40 hK40 => ?_
                            refine wp_region_lit ?_
                            refine sv' hF (wn rfl) rfl rfl (R.move (hF.ev rfl)) fun a hF => ?_
                            refine sv' hF (wn rfl) rfl rfl (R.eql (hF.ev rfl) (hF.ev rfl)) fun a hF => ?_
                            refine sv' hF (wn rfl) rfl rfl (R.move (hF.ev rfl)) fun a hF => ?_
                            refine hF.splitD (t := 347) rfl (fun h347 hF => ?_) (fun h347 hF => ?_)
                            ·
                              refine sk hF (ws hF rfl rfl rfl rfl) rfl rfl fun a hF => ?_
                              refine sk hF (ws hF rfl rfl rfl rfl) rfl rfl fun a hF => ?_
                              refine sv' hF (wn rfl) rfl rfl (R.pickT (hF.ev rfl) (hF.ev rfl)) fun a hF => ?_
                              refine s0 ?_
                              refine then_n (hK40 _ _ ?_)
                              refine cT hF rfl ?_
                              refine wp_region_lit ?_
                              refine sv' hF (wn rfl) rfl rfl (R.fieldAddr (k := 0) Try.underlying48 rfl nz31 (hF.ev rfl) rfl) fun a hF => ?_
                              refine sv' hF (wn rfl) rfl rfl (R.loadA (cs := [_, _, _, _]) agg31 (hF.ev rfl) hS .h sz31 rfl (getAt rfl)) fun a hF => ?_
                              refine so (wn rfl) (O.buildSlice (l := [_, _, _, _]) rfl rfl hF Try.underlying32 inf31 rfl rfl (hF.evp rfl) (by decide) rfl hS fun b353 a w hF hS => ?_)
                              refine sv' hF (wn rfl) rfl rfl (R.assign (hF.ev rfl)) fun a hF => ?_
                              refine s0 ?_
                              exact then_n (hK33' _ _ ⟨[(F.rep asks.length).1], _, _, _, hF.sub ⟨rfl, rfl, rfl, rfl, rfl, rfl, rfl, rfl, rfl, rfl, trivial⟩, hS.sel [3, 4, 0, 6, 7] rfl rfl, own_w1 b353 _, mid_on hmid (by omega) hre⟩)
                            ·
                              refine sv' hF (wy hF rfl rfl rfl) rfl rfl (R.move (hF.ev rfl)) fun a hF => ?_
                              refine sv' hF (wy hF rfl rfl rfl) rfl rfl (R.eql (hF.ev rfl) (hF.ev rfl)) fun a hF => ?_
                              refine sv' hF (wn rfl) rfl rfl (R.pickF (hF.ev rfl) (hF.ev rfl)) fun a hF => ?_
                              refine s0 ?_
                              refine then_n (hK40 _ _ ?_)
                              refine cD hF rfl (fun c35 => ?_) (fun c35 => ?_)
                              ·
                                refine wp_region_lit ?_
                                refine sv' hF (wn rfl) rfl rfl (R.fieldAddr (k := 0) Try.underlying48 rfl nz31 (hF.ev rfl) rfl) fun a hF => ?_
                                refine sv' hF (wn rfl) rfl rfl (R.loadA (cs := [_, _, _, _]) agg31 (hF.ev rfl) hS .h sz31 rfl (getAt rfl)) fun a hF => ?_
                                refine so (wn rfl) (O.buildSlice (l := [_, _, _, _]) rfl rfl hF Try.underlying32 inf31 rfl rfl (hF.evp rfl) (by decide) rfl hS fun b353 a w hF hS => ?_)
                                refine sv' hF (wn rfl) rfl rfl (R.assign (hF.ev rfl)) fun a hF => ?_
                                refine s0 ?_
                                exact then_n (hK33' _ _ ⟨[(F.rep asks.length).1], _, _, _, hF.sub ⟨rfl, rfl, rfl, rfl, rfl, rfl, rfl, rfl, rfl, rfl, trivial⟩, hS.sel [3, 4, 0, 6, 7] rfl rfl, own_w1 b353 _, mid_on hmid (by omega) hre⟩)
                              ·
                                refine wp_skip ?_
                                exact then_n (hK33' _ _ ⟨on, _, _, _, hF.sub ⟨rfl, rfl, rfl, rfl, rfl, rfl, rfl, rfl, rfl, rfl, trivial⟩, hS.sel [2, 3, 4, 5, 6] rfl rfl, hO20, mid_off hmid (by omega) (by omega) hre⟩)
                        ·
                          refine wp_skip ?_
                          exact then_n (hK33' _ _ ⟨on, _, _, _, hF.sub ⟨rfl, rfl, rfl, rfl, rfl, rfl, rfl, rfl, rfl, rfl, trivial⟩, hS.sel [0, 1, 2, 3, 4] rfl rfl, hO20, mid_low hmid (by omega)⟩)
                      refine wp_seq_k fun K41 hK41 => ?_
                      refine wp_region_lit ?_
                      refine sv' hF (wn rfl) rfl rfl (R.move (hF.ev rfl)) fun a hF => ?_
                      refine s0 ?_
                      refine then_n (hK41 _ _ ?_)
                      refine wp_block ?_
                      refine wp_seq_k fun K42 hK42 => ?_
                      refine wp_region_lit ?_
                      refine sv' hF (wn rfl) rfl rfl (R.eql (hF.ev rfl) (hF.ev rfl)) fun a hF => ?_
                      refine sv' hF (wn rfl) rfl rfl (R.assign (hF.ev rfl)) fun a hF => ?_
                      refine s0 ?_
                      refine then_n (hK42 _ _ ?_)
                      refine cD hF rfl (fun hC0 => ?_) (fun hC0 => ?_)
                      ·
                        have hpl := play_err hc hcl (by decide) (hrun.trans (runN_err (e := 105) (stop_0 hdo (by omega))))
                        refine wp_seq_k fun K43 hK43 => ?_
                        refine wp_region_lit ?_
                        refine sv' hF (wn rfl) rfl rfl (R.buildStr (l := [_, _, _, _, _]) Try.underlying39 ze39 pl39 (hF.evp rfl) rfl) fun a hF => ?_
                        refine sv' hF (wn rfl) rfl rfl (R.move (hF.ev rfl)) fun a hF => ?_
                        refine so (wn rfl) (O.storeW sz39 (hF.ev rfl) (hF.ev rfl) (rfl) rfl (by simp [Value.oneCell']) hS (.t (.t (.t (.t (.t .h))))) (rfl) fun w hS => ?_)
                        refine sv' hF (wn rfl) rfl rfl (R.assign (hF.ev rfl)) fun a hF => ?_
                        refine sv' hF (wn rfl) rfl rfl (R.assign (hF.ev rfl)) fun a hF => ?_
                        refine s0 ?_
                        refine then_n (hK43 _ _ ?_)
                        refine wp_ret (blk_r (then_r (blk_r (then_r (blk_r (hR _ _ _ _ _ hF (run_results Try.results14 (.cw hF rfl agg39 hS (.t (.t (.t (.t (.t .h))))) sz39 (rfl) (.t hF rfl (.t hF rfl (.nil))))) ?_))))))
                        rw [hpl]
                        exact ⟨_, z10, rfl, runR A10 c10 (by kernel_rfl) hO10, hS.one (.t (.t (.t .h)))⟩
                      ·
                        refine wp_seq_k fun K44 hK44 => ?_
                        refine wp_region_lit ?_
                        refine sv' hF (wn rfl) rfl rfl (R.eql (hF.ev rfl) (hF.ev rfl)) fun a hF => ?_
                        refine sv' hF (wn rfl) rfl rfl (R.assign (hF.ev rfl)) fun a hF => ?_
                        refine s0 ?_
                        refine then_n (hK44 _ _ ?_)
                        refine cD hF rfl (fun hC1 => ?_) (fun hC1 => ?_)
                        ·
                          have htk : takesN (cAt F.code p) = takesN 1 := tk_is (by omega); rw [show takesN 1 = 1 from rfl] at htk
                          have hpl := play_fin hc hcl (hrun.trans (runN_fin (done_1 hdo (by omega))))
                          refine wp_seq_k fun K45 hK45 => ?_
                          refine wp_drawS hS [(0, 0), (1, 0), (2, 1), (3, 0), (4, 1), (5, 0), (6, 0), (7, 0), (8, 0), (9, 3), (10, 0), (11, 0)] mix (by kernel_rfl) (hP.block.then.block.then.block.then) fun w hS => ?_
                          have hD := hS
                          refine dq hF rfl (wn rfl) rfl rfl (fun w => R.move (hF.ev rfl)) fun a hF => ?_
                          refine dq hF rfl (wn rfl) rfl rfl (fun w => R.indexO Try.underlying32 sz31 (hF.ev rfl) (Rd.ne (hO136.rd hS .h) (by rw [wcs_length, List.length_drop]; omega)) (hF.ev rfl) (by omega) (by omega)) fun a hF => ?_
                          refine dr hF rfl (wn rfl) rfl rfl hD (fun w hD => R.loadAO (cs := wc (uN F stk p 0)) agg31 (hF.ev rfl) (hO136.rd hD .h) sz31 rfl (Nat.succ_pos _) (wcs_at (k := 0) (by omega) (by omega))) fun a hF => ?_
                          refine dq hF rfl (wn rfl) rfl rfl (fun w => R.fieldAddr (k := 47) Try.underlying34 rfl nz3 (hF.ev rfl) rfl) fun a hF => ?_
                          refine dr hF rfl (wn rfl) rfl rfl hD (fun w hD => R.load one3 (hF.ev rfl) hD (.t (.t (.t (.t .h)))) (rfl)) fun a hF => ?_
                          refine dq hF rfl (wn rfl) rfl rfl (fun w => R.move (hF.ev rfl)) fun a hF => ?_
                          refine dq hF rfl (wn rfl) rfl rfl (fun w => R.subI (hF.ev rfl) (hF.ev rfl) (by omega)) fun a hF => ?_
                          refine dq hF rfl (wn rfl) rfl rfl (fun w => R.buildStr (l := [_, _, _, _, _]) Try.underlying39 ze39 pl39 (hF.evp rfl) rfl) fun a hF => ?_
                          refine dq hF rfl (wn rfl) rfl rfl (fun w => R.move (hF.ev rfl)) fun a hF => ?_
                          refine dw rfl (wn rfl) (O.storeW sz39 (hF.ev rfl) (hF.ev rfl) (rfl) rfl (by simp [Value.oneCell']) hS (.t (.t (.t (.t (.t .h))))) (rfl) fun w hS => ?_)
                          refine dq hF rfl (wn rfl) rfl rfl (fun w => R.assign (hF.ev rfl)) fun a hF => ?_
                          refine dq hF rfl (wn rfl) rfl rfl (fun w => R.assign (hF.ev rfl)) fun a hF => ?_
                          refine d0 ?_
                          refine then_n (hK45 _ _ ?_)
                          refine wp_ret (blk_r (then_r (blk_r (then_r (blk_r (hR _ _ _ _ _ hF (run_results Try.results14 (.cw hF rfl agg39 hS (.t (.t (.t (.t (.t .h))))) sz39 (rfl) (.t hF rfl (.t hF rfl (.nil))))) ?_))))))
                          rw [hpl]
                          exact ⟨_, z10, rfl, runR A10 c10 (by kernel_rfl) hO10, hS.one (.t (.t (.t .h)))⟩
                        ·
                          refine wp_seq_k fun K46 hK46 => ?_
                          refine wp_region_lit ?_
                          refine sv' hF (wn rfl) rfl rfl (R.eql (hF.ev rfl) (hF.ev rfl)) fun a hF => ?_
                          refine sv' hF (wn rfl) rfl rfl (R.assign (hF.ev rfl)) fun a hF => ?_
                          refine s0 ?_
                          refine then_n (hK46 _ _ ?_)
                          refine cD hF rfl (fun hC2 => ?_) (fun hC2 => ?_)
                          ·
                            have hsp := sz_push hs (by omega)
                            refine wp_seq_k fun K47 hK47 => ?_
                            refine wp_region_lit ?_
                            refine sv' hF (wn rfl) rfl rfl (R.move (hF.ev rfl)) fun a hF => ?_
                            refine sv' hF (wn rfl) rfl rfl (R.as (u := .int .i64 ((cAt F.code (p + 1) : Nat) : Int)) (R.subI (hF.ev rfl) (hF.ev rfl) (by omega)) (congrArg (Value.int .i64) (by omega))) fun a hF => ?_
                            refine so (wn rfl) (O.makeSlice rfl rfl hF Try.underlying61 inf3 rfl rfl (hF.ev rfl) (hF.ev rfl) (by omega) (by omega) (by omega) (by omega) hS fun b166 a w hF hS => ?_)
                            rw [show zeros [Value.int .i64 0] (Int.toNat ((cAt F.code (p + 1) : Nat) : Int)) = mki (cAt F.code (p + 1)) (fun i => cAt F.code (p + 2 + i)) 0 from mki_0 _ _] at hS
                            refine sv' hF (wn rfl) rfl rfl (R.assign (hF.ev rfl)) fun a hF => ?_
                            refine s0 ?_
                            refine then_n (hK47 _ _ ?_)
                            refine wp_seq_k fun K48 hK48 => ?_
                            refine wp_seq_k fun K49 hK49 => ?_
                            refine wp_region_lit ?_
                            refine sv' hF (wn rfl) rfl rfl (R.assign (hF.ev rfl)) fun a hF => ?_
                            refine s0 ?_
                            refine then_n (hK49 _ _ ?_)
                            refine wp_block ?_
                            refine wp_loop_N (fun g a w => ∃ (i : Nat), cAt F.code (p + 1) - i = g ∧ Fr 362 [(0, .slice F.cA F.code.length F.cc), (2, .slice F.qA F.reps.length F.qc), (4, .pointer (some ⟨b4, 0, none⟩)), (6, .pointer (some ⟨b6, 0, none⟩)), (9, .slice A9 stk.length c9), (10, .slice A10 asks.length c10), (11, .int .i64 ((left - priceN (cAt F.code p) : Nat) : Int)), (12, .int .i64 ((p : Nat) : Int)), (13, .int .i64 ((cAt F.code p : Nat) : Int)), (14, .int .i64 ((sizeN F.code p : Nat) : Int)), (15, .int .i64 ((ob : Nat) : Int)), (17, .int .i64 ((topN F stk p : Nat) : Int)), (19, .int .i64 ((p + sizeN F.code p : Nat) : Int)), (20, .slice none 0 0), (21, .slice (some ⟨b166, 0, none⟩) (cAt F.code (p + 1)) (cAt F.code (p + 1))), (22, .int .i64 ((i : Nat) : Int))] a ∧ St w0 [] [[(b166, Cel (mki (cAt F.code (p + 1)) (fun i => cAt F.code (p + 2 + i)) i) 3)], z9, z10, [(b4, Cel (callc F) 34)], [(b6, Cel [.int .u64 0, .int .u64 0, .int .u64 0, .int .u64 0, .int .i64 0] 39)]] w ∧ (i ≤ cAt F.code (p + 1))) (cAt F.code (p + 1) - 0) ?_ ?_
                            · exact ⟨0, rfl, hF.sub ⟨rfl, rfl, rfl, rfl, rfl, rfl, rfl, rfl, rfl, rfl, rfl, rfl, rfl, rfl, rfl, rfl, trivial⟩, hS.sel [0, 3, 4, 5, 6] rfl rfl, Nat.zero_le _⟩
                            · rintro KL2 g a w ⟨i, hg2, hF, hS, hi⟩ hKL2
                              have hcx := cAt_lt hpi.ok.byt (p + 2 + i)
                              refine wp_seq_k fun K50 hK50 => ?_
                              refine wp_seq_k fun K51 hK51 => ?_
                              refine wp_region_lit ?_
                              refine sv' hF (wn rfl) rfl rfl (R.move (hF.ev rfl)) fun a hF => ?_
                              refine sv' hF (wn rfl) rfl rfl (R.move (hF.ev rfl)) fun a hF => ?_
                              refine sv' hF (wn rfl) rfl rfl (R.len Try.underlying61 (hF.ev rfl)) fun a hF => ?_
                              refine sv' hF (wn rfl) rfl rfl (R.lss (hF.ev rfl) (hF.ev rfl)) fun a hF => ?_
                              refine s0 ?_
                              refine then_n (hK51 _ _ ?_)
                              refine cD hF rfl (fun cL => ?_) (fun cL => ?_)
                              ·
                                refine wp_skip ?_
                                refine then_n (hK50 _ _ ?_)
                                refine wp_seq_k fun K52 hK52 => ?_
                                refine wp_block ?_
                                refine wp_region_lit ?_
                                refine sv' hF (wn rfl) rfl rfl (R.move (hF.ev rfl)) fun a hF => ?_
                                refine sv' hF (wn rfl) rfl rfl (R.move (hF.ev rfl)) fun a hF => ?_
                                refine sv' hF (wn rfl) rfl rfl (R.move (hF.ev rfl)) fun a hF => ?_
                                refine sv' hF (wn rfl) rfl rfl (R.move (hF.ev rfl)) fun a hF => ?_
                                refine sv' hF (wn rfl) rfl rfl (R.addI (hF.ev rfl) (hF.ev rfl) (by omega)) fun a hF => ?_
                                refine sv' hF (wn rfl) rfl rfl (R.move (hF.ev rfl)) fun a hF => ?_
                                refine sv' hF (wn rfl) rfl rfl (R.addI (hF.ev rfl) (hF.ev rfl) (by omega)) fun a hF => ?_
                                refine sv' hF (wn rfl) rfl rfl (R.indexO Try.underlying23 sz5 (hF.ev rfl) (Rd.ne hpi.code (by rw [length_byts]; omega)) (hF.ev rfl) (by omega) (by omega)) fun a hF => ?_
                                refine sv' hF (wn rfl) rfl rfl (R.loadO one5 (hF.ev rfl) (hpi.code.old hS) (cb_at (i := p + 2 + i) (by omega) (by omega))) fun a hF => ?_
                                refine sv' hF (wn rfl) rfl rfl (R.convI Try.underlying5 Try.underlying3 (hF.ev rfl) (by omega)) fun a hF => ?_
                                refine sv' hF (wn rfl) rfl rfl (R.indexS Try.underlying61 sz3 (hF.ev rfl) (hF.ev rfl) (by omega) (by omega)) fun a hF => ?_
                                refine so (wn rfl) (O.store sz3 (hF.ev rfl) (hF.ev rfl) rfl rfl hS .h (mki_at (cAt F.code (p + 1)) (fun i => cAt F.code (p + 2 + i)) i _ rfl) (by rw [length_mki]; omega) fun w hS => ?_)
                                refine s0 ?_
                                refine blk_n ?_
                                refine then_n (hK52 _ _ ?_)
                                refine wp_region_lit ?_
                                refine sv' hF (wn rfl) rfl rfl (R.move (hF.ev rfl)) fun a hF => ?_
                                refine sv' hF (wn rfl) rfl rfl (R.addI (hF.ev rfl) (hF.ev rfl) (by omega)) fun a hF => ?_
                                refine sv' hF (wn rfl) rfl rfl (R.assign (hF.ev rfl)) fun a hF => ?_
                                refine s0 ?_
                                refine then_n (hKL2 (cAt F.code (p + 1) - (i + 1)) _ _ ?_ ?_)
                                · omega
                                · exact ⟨i + 1, rfl, hF.sub ⟨rfl, rfl, rfl, rfl, rfl, rfl, rfl, rfl, rfl, rfl, rfl, rfl, rfl, rfl, rfl, (congrArg (fun z => some (Value.int .i64 z)) (by omega)), trivial⟩, hS.sel [0, 1, 2, 3, 4] rfl rfl, by omega⟩
                              ·
                                have hLi : i = cAt F.code (p + 1) := by omega
                                subst hLi
                                rw [mki_all] at hS
                                have hbe : (List.range (cAt F.code (p + 1))).map (fun i => cAt F.code (p + 2 + i)) = (F.code.drop (p + 2)).take (sizeN F.code p - 2) := by (rw [show sizeN F.code p - 2 = cAt F.code (p + 1) by omega]; exact bytes_at (by omega))
                                refine wp_exit (then_x (then_x (blk_hit ?_)))
                                refine then_n (hK48 _ _ ?_)
                                refine wp_region_lit ?_
                                refine sv' hF (wn rfl) rfl rfl (R.move (hF.ev rfl)) fun a hF => ?_
                                refine so (wn rfl) (O.call rfl rfl hF ent29 (hF.evs rfl) hS (number_n (some ⟨b166, 0, none⟩) (cAt F.code (p + 1)) (cAt F.code (p + 1)) ((List.range (cAt F.code (p + 1))).map fun i => cAt F.code (p + 2 + i)) w (Rd.own0 hS .h) (byt_range (fun i => cAt_lt hpi.ok.byt _) _) (by omega) (by simp)) fun v s185 a w hR hF hS => ?_)
                                obtain ⟨rfl, rfl⟩ := hR
                                refine so (wn rfl) (O.buildSlice (l := [_, _, _, _]) rfl rfl hF Try.underlying32 inf31 rfl rfl (hF.evp rfl) (by decide) rfl hS fun b186 a w hF hS => ?_)
                                refine sv' hF (wn rfl) rfl rfl (R.assign (hF.ev rfl)) fun a hF => ?_
                                refine s0 ?_
                                refine blk_n ?_
                                exact then_n (hK32' _ _ ⟨stk, [numB ((List.range (cAt F.code (p + 1))).map (fun i => cAt F.code (p + 2 + i)))], _, asks, _, _, _, _, _, _, _, hF.sub ⟨rfl, rfl, rfl, rfl, rfl, rfl, rfl, rfl, rfl, rfl, rfl, trivial⟩, hS.sel [3, 4, 0, 5, 6] rfl rfl, hO9, hO10, own_w1 b186 _, (by rw [hbe]; exact mid_push hdo (by omega))⟩)
                          ·
                            refine wp_seq_k fun K53 hK53 => ?_
                            refine wp_region_lit ?_
                            refine sv' hF (wn rfl) rfl rfl (R.eql (hF.ev rfl) (hF.ev rfl)) fun a hF => ?_
                            refine sv' hF (wn rfl) rfl rfl (R.assign (hF.ev rfl)) fun a hF => ?_
                            refine s0 ?_
                            refine then_n (hK53 _ _ ?_)
                            refine cD hF rfl (fun hC3 => ?_) (fun hC3 => ?_)
                            ·
                              refine wp_skip ?_
                              refine blk_n ?_
                              have hS := hS.cons0
                              exact then_n (hK32' _ _ ⟨stk, [], _, asks, _, _, _, _, _, _, _, hF.sub ⟨rfl, rfl, rfl, rfl, rfl, rfl, rfl, rfl, rfl, rfl, rfl, trivial⟩, hS.sel [3, 4, 0, 5, 6] rfl rfl, hO9, hO10, OwnS.nil 31 4, mid_pop hdo (by omega)⟩)
                            ·
                              refine wp_seq_k fun K54 hK54 => ?_
                              refine wp_region_lit ?_
                              refine sv' hF (wn rfl) rfl rfl (R.eql (hF.ev rfl) (hF.ev rfl)) fun a hF => ?_
                              refine sv' hF (wn rfl) rfl rfl (R.assign (hF.ev rfl)) fun a hF => ?_
                              refine s0 ?_
                              refine then_n (hK54 _ _ ?_)
                              refine cD hF rfl (fun hC4 => ?_) (fun hC4 => ?_)
                              ·
                                have htk : takesN (cAt F.code p) = takesN 4 := tk_is (by omega); rw [show takesN 4 = 0 from rfl] at htk
                                have hb4 := sz_two hs (by omega); have hob4 := hob hb4; have hd4 := deep_45 (code := F.code) (p := p) (by omega)
                                refine wp_region_lit ?_
                                refine sv' hF (wn rfl) rfl rfl (R.move (hF.ev rfl)) fun a hF => ?_
                                refine sv' hF (wn rfl) rfl rfl (R.move (hF.ev rfl)) fun a hF => ?_
                                refine sv' hF (wn rfl) rfl rfl (R.len Try.underlying32 (hF.ev rfl)) fun a hF => ?_
                                refine sv' hF (wn rfl) rfl rfl (R.subI (hF.ev rfl) (hF.ev rfl) (by omega)) fun a hF => ?_
                                refine sv' hF (wn rfl) rfl rfl (R.move (hF.ev rfl)) fun a hF => ?_
                                refine sv' hF (wn rfl) rfl rfl (R.subI (hF.ev rfl) (hF.ev rfl) (by omega)) fun a hF => ?_
                                refine sv' hF (wn rfl) rfl rfl (R.indexO Try.underlying32 sz31 (hF.ev rfl) (Rd.ne (hO9.rd hS (.t (.t .h))) (by rw [wcs_length]; omega)) (hF.ev rfl) (by omega) (by omega)) fun a hF => ?_
                                refine sv' hF (wn rfl) rfl rfl (R.loadAO (cs := wc (stk.getD (stk.length - 1 - ob) 0)) agg31 (hF.ev rfl) (hO9.rd hS (.t (.t .h))) sz31 rfl (Nat.succ_pos _) (wcs_at (k := stk.length - 1 - ob) (by omega) (by omega))) fun a hF => ?_
                                refine so (wn rfl) (O.buildSlice (l := [_, _, _, _]) rfl rfl hF Try.underlying32 inf31 rfl rfl (hF.evp rfl) (by decide) rfl hS fun b199 a w hF hS => ?_)
                                refine sv' hF (wn rfl) rfl rfl (R.assign (hF.ev rfl)) fun a hF => ?_
                                refine s0 ?_
                                refine blk_n ?_
                                exact then_n (hK32' _ _ ⟨stk, [stk.getD (stk.length - 1 - ob) 0], _, asks, _, _, _, _, _, _, _, hF.sub ⟨rfl, rfl, rfl, rfl, rfl, rfl, rfl, rfl, rfl, rfl, rfl, trivial⟩, hS.sel [3, 4, 0, 5, 6] rfl rfl, hO9, hO10, own_w1 b199 _, mid_dup hdo (by omega) hob4⟩)
                              ·
                                refine wp_seq_k fun K55 hK55 => ?_
                                refine wp_region_lit ?_
                                refine sv' hF (wn rfl) rfl rfl (R.eql (hF.ev rfl) (hF.ev rfl)) fun a hF => ?_
                                refine sv' hF (wn rfl) rfl rfl (R.assign (hF.ev rfl)) fun a hF => ?_
                                refine s0 ?_
                                refine then_n (hK55 _ _ ?_)
                                refine cD hF rfl (fun hC5 => ?_) (fun hC5 => ?_)
                                ·
                                  have htk : takesN (cAt F.code p) = takesN 5 := tk_is (by omega); rw [show takesN 5 = 0 from rfl] at htk
                                  have hb4 := sz_two hs (by omega); have hob4 := hob hb4; have hd4 := deep_45 (code := F.code) (p := p) (by omega)
                                  obtain ⟨gb, rest, rfl, rfl, hnc, hcl9, hcm⟩ := own_open3 hO9 (by omega)
                                  refine wp_drawS hS [(0, 0), (1, 0), (2, 0), (3, 0), (4, 0), (5, 0), (6, 0), (7, 0), (8, 0), (9, 0), (10, 0), (11, 0), (12, 0), (13, 0), (14, 0), (15, 0), (16, 0), (17, 1), (18, 0), (19, 0), (20, 0), (21, 0), (22, 0), (23, 1), (24, 0), (25, 3), (26, 0), (27, 3)] mix (by kernel_rfl) (hP.block.then.block.then.block) fun w hS => ?_
                                  have hD := hS
                                  refine dq hF rfl (wn rfl) rfl rfl (fun w => R.move (hF.ev rfl)) fun a hF => ?_
                                  refine dq hF rfl (wn rfl) rfl rfl (fun w => R.move (hF.ev rfl)) fun a hF => ?_
                                  refine dq hF rfl (wn rfl) rfl rfl (fun w => R.len Try.underlying32 (hF.ev rfl)) fun a hF => ?_
                                  refine dq hF rfl (wn rfl) rfl rfl (fun w => R.subI (hF.ev rfl) (hF.ev rfl) (by omega)) fun a hF => ?_
                                  refine dq hF rfl (wn rfl) rfl rfl (fun w => R.move (hF.ev rfl)) fun a hF => ?_
                                  refine dq hF rfl (wn rfl) rfl rfl (fun w => R.move (hF.ev rfl)) fun a hF => ?_
                                  refine dq hF rfl (wn rfl) rfl rfl (fun w => R.len Try.underlying32 (hF.ev rfl)) fun a hF => ?_
                                  refine dq hF rfl (wn rfl) rfl rfl (fun w => R.subI (hF.ev rfl) (hF.ev rfl) (by omega)) fun a hF => ?_
                                  refine dq hF rfl (wn rfl) rfl rfl (fun w => R.move (hF.ev rfl)) fun a hF => ?_
                                  refine dq hF rfl (wn rfl) rfl rfl (fun w => R.subI (hF.ev rfl) (hF.ev rfl) (by omega)) fun a hF => ?_
                                  refine dq hF rfl (wn rfl) rfl rfl (fun w => R.move (hF.ev rfl)) fun a hF => ?_
                                  refine dq hF rfl (wn rfl) rfl rfl (fun w => R.move (hF.ev rfl)) fun a hF => ?_
                                  refine dq hF rfl (wn rfl) rfl rfl (fun w => R.len Try.underlying32 (hF.ev rfl)) fun a hF => ?_
                                  refine dq hF rfl (wn rfl) rfl rfl (fun w => R.subI (hF.ev rfl) (hF.ev rfl) (by omega)) fun a hF => ?_
                                  refine dq hF rfl (wn rfl) rfl rfl (fun w => R.move (hF.ev rfl)) fun a hF => ?_
                                  refine dq hF rfl (wn rfl) rfl rfl (fun w => R.subI (hF.ev rfl) (hF.ev rfl) (by omega)) fun a hF => ?_
                                  refine dq hF rfl (wn rfl) rfl rfl (fun w => R.indexS Try.underlying32 sz31 (hF.ev rfl) (hF.ev rfl) (by omega) (by omega)) fun a hF => ?_
                                  refine dr hF rfl (wn rfl) rfl rfl hD (fun w hD => R.loadA (cs := wc (stk.getD (stk.length - 1 - ob) 0)) agg31 (hF.ev rfl) hD (.t (.t .h)) sz31 rfl (wcs_atR (k := stk.length - 1 - ob) (by omega) (by omega))) fun a hF => ?_
                                  refine dq hF rfl (wn rfl) rfl rfl (fun w => R.move (hF.ev rfl)) fun a hF => ?_
                                  refine dq hF rfl (wn rfl) rfl rfl (fun w => R.move (hF.ev rfl)) fun a hF => ?_
                                  refine dq hF rfl (wn rfl) rfl rfl (fun w => R.len Try.underlying32 (hF.ev rfl)) fun a hF => ?_
                                  refine dq hF rfl (wn rfl) rfl rfl (fun w => R.subI (hF.ev rfl) (hF.ev rfl) (by omega)) fun a hF => ?_
                                  refine dq hF rfl (wn rfl) rfl rfl (fun w => R.indexS Try.underlying32 sz31 (hF.ev rfl) (hF.ev rfl) (by omega) (by omega)) fun a hF => ?_
                                  refine dr hF rfl (wn rfl) rfl rfl hD (fun w hD => R.loadA (cs := wc (stk.getD (stk.length - 1) 0)) agg31 (hF.ev rfl) hD (.t (.t .h)) sz31 rfl (wcs_atR (k := stk.length - 1) (by omega) (by omega))) fun a hF => ?_
                                  refine dq hF rfl (wn rfl) rfl rfl (fun w => R.indexS Try.underlying32 sz31 (hF.ev rfl) (hF.ev rfl) (by omega) (by omega)) fun a hF => ?_
                                  refine dw rfl (wn rfl) (O.storeA sz31 (hF.ev rfl) (hF.ev rfl) rfl rfl (by simp [Value.oneCell']) hS (.t (.t .h)) (wcs_splR (k := stk.length - 1) (by omega) (by omega)) (by rw [hcl9]; simp only [List.length_cons, List.length_nil]; omega) fun w hS => ?_)
                                  refine dq hF rfl (wn rfl) rfl rfl (fun w => R.indexS Try.underlying32 sz31 (hF.ev rfl) (hF.ev rfl) (by omega) (by omega)) fun a hF => ?_
                                  refine dw rfl (wn rfl) (O.storeA sz31 (hF.ev rfl) (hF.ev rfl) rfl rfl (by simp [Value.oneCell']) hS (.t (.t .h)) (wcs_splR (k := stk.length - 1 - ob) (by rw [List.length_set]; omega) (by omega)) (by rw [List.length_append, wcs_length, List.length_set, ← wcs_length, ← List.length_append, hcl9]; simp only [List.length_cons, List.length_nil]; omega) fun w hS => ?_)
                                  refine d0 ?_
                                  refine blk_n ?_
                                  have hS := hS.cons0
                                  exact then_n (hK32' _ _ ⟨swapN stk ob, [], _, asks, _, _, _, _, _, _, _, hF.sub ⟨rfl, rfl, rfl, rfl, rfl, rfl, rfl, rfl, rfl, rfl, rfl, trivial⟩, hS.sel [3, 4, 0, 5, 6] rfl rfl, own_swap hnc hcl9 hcm, hO10, OwnS.nil 31 4, mid_swap hdo (by omega) hob4⟩)
                                ·
                                  refine wp_seq_k fun K56 hK56 => ?_
                                  refine wp_seq_k fun K57 hK57 => ?_
                                  refine wp_region_lit ?_
                                  refine sv' hF (wn rfl) rfl rfl (R.eql (hF.ev rfl) (hF.ev rfl)) fun a hF => ?_
                                  refine sv' hF (wn rfl) rfl rfl (R.assign (hF.ev rfl)) fun a hF => ?_
                                  refine s0 ?_
                                  refine then_n (hK57 _ _ ?_)
                                  refine cD hF rfl (fun hCs => ?_) (fun hCs => ?_)
                                  ·
                                    have hF := hF.nowT (t := 228) rfl hCs
                                    have hC : 6 ≤ cAt F.code p ∧ cAt F.code p ≤ 12 := by omega
                                    have htk := tk_sum hC
                                    refine wp_skip ?_
                                    refine then_n (hK56 _ _ ?_)
                                    refine cT hF rfl ?_
                                    refine wp_seq_k fun K58 hK58 => ?_
                                    refine wp_draw2S hS [(0, 0), (1, 0), (2, 0), (3, 1), (4, 0), (5, 0), (6, 1)] [[(7, 2), (8, 0), (9, 0), (10, 0), (11, 2), (12, 3), (13, 0)], [(11, 2), (7, 2), (8, 0), (9, 0), (10, 0), (12, 3), (13, 0)]] mix (by kernel_rfl) (hP.block.then.block.then.block.then) fun w hS => ?_
                                    have hD := hS
                                    refine dq hF rfl (wn rfl) rfl rfl (fun w => R.move (hF.ev rfl)) fun a hF => ?_
                                    refine dq hF rfl (wn rfl) rfl rfl (fun w => R.move (hF.ev rfl)) fun a hF => ?_
                                    refine dq hF rfl (wn rfl) rfl rfl (fun w => R.indexO Try.underlying32 sz31 (hF.ev rfl) (Rd.ne (hO136.rd hS .h) (by rw [wcs_length, List.length_drop]; omega)) (hF.ev rfl) (by omega) (by omega)) fun a hF => ?_
                                    refine dr hF rfl (wn rfl) rfl rfl hD (fun w hD => R.loadAO (cs := wc (uN F stk p 0)) agg31 (hF.ev rfl) (hO136.rd hD .h) sz31 rfl (Nat.succ_pos _) (wcs_at (k := 0) (by omega) (by omega))) fun a hF => ?_
                                    refine dq hF rfl (wn rfl) rfl rfl (fun w => R.move (hF.ev rfl)) fun a hF => ?_
                                    refine dq hF rfl (wn rfl) rfl rfl (fun w => R.indexO Try.underlying32 sz31 (hF.ev rfl) (Rd.ne (hO136.rd hS .h) (by rw [wcs_length, List.length_drop]; omega)) (hF.ev rfl) (by omega) (by omega)) fun a hF => ?_
                                    refine dr hF rfl (wn rfl) rfl rfl hD (fun w hD => R.loadAO (cs := wc (uN F stk p 1)) agg31 (hF.ev rfl) (hO136.rd hD .h) sz31 rfl (Nat.succ_pos _) (wcs_at (k := 1) (by omega) (by omega))) fun a hF => ?_
                                    refine d0 ?_
                                    refine alts2 ?_ ?_
                                    ·
                                      refine dl rfl (wn rfl) (O.call rfl rfl hF ent30 (hF.evs rfl) hS (sum2_calls (cAt F.code p) (uN F stk p 0) (uN F stk p 1) w hC (uN_lt hW 0) (uN_lt hW 1)) fun v s244 a w hR hF hS => ⟨fun hD => hS.tail, ?_⟩)
                                      obtain ⟨⟨r3, ok3, rfl, hok, hno⟩, rfl⟩ := hR
                                      have hD := hS.tail
                                      refine dq hF rfl (wn rfl) rfl rfl (fun w => R.move (hF.ev rfl)) fun a hF => ?_
                                      refine dq hF rfl (wn rfl) rfl rfl (fun w => R.extract (hF.ev rfl) rfl) fun a hF => ?_
                                      refine dq hF rfl (wn rfl) rfl rfl (fun w => R.extract (hF.ev rfl) rfl) fun a hF => ?_
                                      refine dl rfl (wn rfl) (O.alloc rfl rfl hF ze31 rfl hS fun b23 a w hF hS => ⟨fun hD => hS.tail.tail, ?_⟩)
                                      have hD := hS.tail.tail
                                      refine dw rfl (wn rfl) (O.storeW sz31 (hF.ev rfl) (hF.ev rfl) (rfl) rfl (by simp [Value.oneCell']) hS .h (rfl) fun w hS => ?_)
                                      refine dq hF rfl (wn rfl) rfl rfl (fun w => R.assign (hF.ev rfl)) fun a hF => ?_
                                      refine d0 ?_
                                      refine then_n (hK58 _ _ ?_)
                                      refine wp_seq_k fun K59 hK59 => ?_
                                      refine wp_seq_k fun K60 hK60 => ?_
                                      refine wp_region_lit ?_
                                      refine sv' hF (wn rfl) rfl rfl (R.move (hF.ev rfl)) fun a hF => ?_
                                      refine sv' hF (wn rfl) rfl rfl (R.as (u := .bool (decide (ok3 = false))) (R.not (hF.ev rfl)) (by cases ok3 <;> rfl)) fun a hF => ?_
                                      refine s0 ?_
                                      refine then_n (hK60 _ _ ?_)
                                      refine cD hF rfl (fun c22 => ?_) (fun c22 => ?_)
                                      ·
                                        have hpl := play_err hc hcl (by decide) (hrun.trans (runN_err (e := 104) (sum_bad hdo hC (hno c22))))
                                        refine wp_seq_k fun K61 hK61 => ?_
                                        refine wp_region_lit ?_
                                        refine sv' hF (wn rfl) rfl rfl (R.buildStr (l := [_, _, _, _, _]) Try.underlying39 ze39 pl39 (hF.evp rfl) rfl) fun a hF => ?_
                                        refine sv' hF (wn rfl) rfl rfl (R.move (hF.ev rfl)) fun a hF => ?_
                                        refine so (wn rfl) (O.storeW sz39 (hF.ev rfl) (hF.ev rfl) (rfl) rfl (by simp [Value.oneCell']) hS (.t (.t (.t (.t (.t (.t (.t .h))))))) (rfl) fun w hS => ?_)
                                        refine sv' hF (wn rfl) rfl rfl (R.assign (hF.ev rfl)) fun a hF => ?_
                                        refine sv' hF (wn rfl) rfl rfl (R.assign (hF.ev rfl)) fun a hF => ?_
                                        refine s0 ?_
                                        refine then_n (hK61 _ _ ?_)
                                        refine wp_ret (then_r (blk_r (then_r (blk_r (then_r (blk_r (hR _ _ _ _ _ hF (run_results Try.results14 (.cw hF rfl agg39 hS (.t (.t (.t (.t (.t (.t (.t .h))))))) sz39 (rfl) (.t hF rfl (.t hF rfl (.nil))))) ?_)))))))
                                        rw [hpl]
                                        exact ⟨_, z10, rfl, runR A10 c10 (by kernel_rfl) hO10, hS.one (.t (.t (.t (.t (.t .h)))))⟩
                                      ·
                                        have hok3 : ok3 = true := by (cases ok3; exact absurd rfl c22; rfl)
                                        refine wp_skip ?_
                                        refine then_n (hK59 _ _ ?_)
                                        refine wp_region_lit ?_
                                        refine sv' hF (wn rfl) rfl rfl (R.loadW agg31 (hF.ev rfl) hS .h sz31 (rfl)) fun a hF => ?_
                                        refine so (wn rfl) (O.buildSlice (l := [_, _, _, _]) rfl rfl hF Try.underlying32 inf31 rfl rfl (hF.evp rfl) (by decide) rfl hS fun b252 a w hF hS => ?_)
                                        refine sv' hF (wn rfl) rfl rfl (R.assign (hF.ev rfl)) fun a hF => ?_
                                        refine s0 ?_
                                        refine blk_n ?_
                                        exact then_n (hK32' _ _ ⟨stk, [r3], _, asks, _, _, _, _, _, _, _, hF.sub ⟨rfl, rfl, rfl, rfl, rfl, rfl, rfl, rfl, rfl, rfl, rfl, trivial⟩, hS.sel [5, 6, 0, 7, 8] rfl rfl, hO9, hO10, own_w1 b252 _, mid_sum hdo hC (hok hok3)⟩)
                                    ·
                                      refine dl rfl (wn rfl) (O.alloc rfl rfl hF ze31 rfl hS fun b23 a w hF hS => ⟨fun hD => hS.tail, ?_⟩)
                                      have hD := hS.tail
                                      refine dl rfl (wn rfl) (O.call rfl rfl hF ent30 (hF.evs rfl) hS (sum2_calls (cAt F.code p) (uN F stk p 0) (uN F stk p 1) w hC (uN_lt hW 0) (uN_lt hW 1)) fun v s244 a w hR hF hS => ⟨fun hD => hS.tail.tail, ?_⟩)
                                      obtain ⟨⟨r3, ok3, rfl, hok, hno⟩, rfl⟩ := hR
                                      have hD := hS.tail.tail
                                      refine dq hF rfl (wn rfl) rfl rfl (fun w => R.move (hF.ev rfl)) fun a hF => ?_
                                      refine dq hF rfl (wn rfl) rfl rfl (fun w => R.extract (hF.ev rfl) rfl) fun a hF => ?_
                                      refine dq hF rfl (wn rfl) rfl rfl (fun w => R.extract (hF.ev rfl) rfl) fun a hF => ?_
                                      refine dw rfl (wn rfl) (O.storeW sz31 (hF.ev rfl) (hF.ev rfl) (rfl) rfl (by simp [Value.oneCell']) hS (.t .h) (rfl) fun w hS => ?_)
                                      refine dq hF rfl (wn rfl) rfl rfl (fun w => R.assign (hF.ev rfl)) fun a hF => ?_
                                      refine d0 ?_
                                      refine then_n (hK58 _ _ ?_)
                                      refine wp_seq_k fun K62 hK62 => ?_
                                      refine wp_seq_k fun K63 hK63 => ?_
                                      refine wp_region_lit ?_
                                      refine sv' hF (wn rfl) rfl rfl (R.move (hF.ev rfl)) fun a hF => ?_
                                      refine sv' hF (wn rfl) rfl rfl (R.as (u := .bool (decide (ok3 = false))) (R.not (hF.ev rfl)) (by cases ok3 <;> rfl)) fun a hF => ?_
                                      refine s0 ?_
                                      refine then_n (hK63 _ _ ?_)
                                      refine cD hF rfl (fun c22 => ?_) (fun c22 => ?_)
                                      ·
                                        have hpl := play_err hc hcl (by decide) (hrun.trans (runN_err (e := 104) (sum_bad hdo hC (hno c22))))
                                        refine wp_seq_k fun K64 hK64 => ?_
                                        refine wp_region_lit ?_
                                        refine sv' hF (wn rfl) rfl rfl (R.buildStr (l := [_, _, _, _, _]) Try.underlying39 ze39 pl39 (hF.evp rfl) rfl) fun a hF => ?_
                                        refine sv' hF (wn rfl) rfl rfl (R.move (hF.ev rfl)) fun a hF => ?_
                                        refine so (wn rfl) (O.storeW sz39 (hF.ev rfl) (hF.ev rfl) (rfl) rfl (by simp [Value.oneCell']) hS (.t (.t (.t (.t (.t (.t (.t .h))))))) (rfl) fun w hS => ?_)
                                        refine sv' hF (wn rfl) rfl rfl (R.assign (hF.ev rfl)) fun a hF => ?_
                                        refine sv' hF (wn rfl) rfl rfl (R.assign (hF.ev rfl)) fun a hF => ?_
                                        refine s0 ?_
                                        refine then_n (hK64 _ _ ?_)
                                        refine wp_ret (then_r (blk_r (then_r (blk_r (then_r (blk_r (hR _ _ _ _ _ hF (run_results Try.results14 (.cw hF rfl agg39 hS (.t (.t (.t (.t (.t (.t (.t .h))))))) sz39 (rfl) (.t hF rfl (.t hF rfl (.nil))))) ?_)))))))
                                        rw [hpl]
                                        exact ⟨_, z10, rfl, runR A10 c10 (by kernel_rfl) hO10, hS.one (.t (.t (.t (.t (.t .h)))))⟩
                                      ·
                                        have hok3 : ok3 = true := by (cases ok3; exact absurd rfl c22; rfl)
                                        refine wp_skip ?_
                                        refine then_n (hK62 _ _ ?_)
                                        refine wp_region_lit ?_
                                        refine sv' hF (wn rfl) rfl rfl (R.loadW agg31 (hF.ev rfl) hS (.t .h) sz31 (rfl)) fun a hF => ?_
                                        refine so (wn rfl) (O.buildSlice (l := [_, _, _, _]) rfl rfl hF Try.underlying32 inf31 rfl rfl (hF.evp rfl) (by decide) rfl hS fun b252 a w hF hS => ?_)
                                        refine sv' hF (wn rfl) rfl rfl (R.assign (hF.ev rfl)) fun a hF => ?_
                                        refine s0 ?_
                                        refine blk_n ?_
                                        exact then_n (hK32' _ _ ⟨stk, [r3], _, asks, _, _, _, _, _, _, _, hF.sub ⟨rfl, rfl, rfl, rfl, rfl, rfl, rfl, rfl, rfl, rfl, rfl, trivial⟩, hS.sel [5, 6, 0, 7, 8] rfl rfl, hO9, hO10, own_w1 b252 _, mid_sum hdo hC (hok hok3)⟩)
                                  ·
                                    have hF := hF.nowF (t := 228) rfl hCs
                                    refine wp_seq_k fun K65 hK65 => ?_
                                    refine wp_region_lit ?_
                                    refine sv' hF (wn rfl) rfl rfl (R.eql (hF.ev rfl) (hF.ev rfl)) fun a hF => ?_
                                    refine sv' hF (wn rfl) rfl rfl (R.assign (hF.ev rfl)) fun a hF => ?_
                                    refine s0 ?_
                                    refine then_n (hK65 _ _ ?_)
                                    refine cD hF rfl (fun hCs => ?_) (fun hCs => ?_)
                                    ·
                                      have hF := hF.nowT (t := 228) rfl hCs
                                      have hC : 6 ≤ cAt F.code p ∧ cAt F.code p ≤ 12 := by omega
                                      have htk := tk_sum hC
                                      refine wp_skip ?_
                                      refine then_n (hK56 _ _ ?_)
                                      refine cT hF rfl ?_
                                      refine wp_seq_k fun K66 hK66 => ?_
                                      refine wp_draw2S hS [(0, 0), (1, 0), (2, 0), (3, 1), (4, 0), (5, 0), (6, 1)] [[(7, 2), (8, 0), (9, 0), (10, 0), (11, 2), (12, 3), (13, 0)], [(11, 2), (7, 2), (8, 0), (9, 0), (10, 0), (12, 3), (13, 0)]] mix (by kernel_rfl) (hP.block.then.block.then.block.then) fun w hS => ?_
                                      have hD := hS
                                      refine dq hF rfl (wn rfl) rfl rfl (fun w => R.move (hF.ev rfl)) fun a hF => ?_
                                      refine dq hF rfl (wn rfl) rfl rfl (fun w => R.move (hF.ev rfl)) fun a hF => ?_
                                      refine dq hF rfl (wn rfl) rfl rfl (fun w => R.indexO Try.underlying32 sz31 (hF.ev rfl) (Rd.ne (hO136.rd hS .h) (by rw [wcs_length, List.length_drop]; omega)) (hF.ev rfl) (by omega) (by omega)) fun a hF => ?_
                                      refine dr hF rfl (wn rfl) rfl rfl hD (fun w hD => R.loadAO (cs := wc (uN F stk p 0)) agg31 (hF.ev rfl) (hO136.rd hD .h) sz31 rfl (Nat.succ_pos _) (wcs_at (k := 0) (by omega) (by omega))) fun a hF => ?_
                                      refine dq hF rfl (wn rfl) rfl rfl (fun w => R.move (hF.ev rfl)) fun a hF => ?_
                                      refine dq hF rfl (wn rfl) rfl rfl (fun w => R.indexO Try.underlying32 sz31 (hF.ev rfl) (Rd.ne (hO136.rd hS .h) (by rw [wcs_length, List.length_drop]; omega)) (hF.ev rfl) (by omega) (by omega)) fun a hF => ?_
                                      refine dr hF rfl (wn rfl) rfl rfl hD (fun w hD => R.loadAO (cs := wc (uN F stk p 1)) agg31 (hF.ev rfl) (hO136.rd hD .h) sz31 rfl (Nat.succ_pos _) (wcs_at (k := 1) (by omega) (by omega))) fun a hF => ?_
                                      refine d0 ?_
                                      refine alts2 ?_ ?_
                                      ·
                                        refine dl rfl (wn rfl) (O.call rfl rfl hF ent30 (hF.evs rfl) hS (sum2_calls (cAt F.code p) (uN F stk p 0) (uN F stk p 1) w hC (uN_lt hW 0) (uN_lt hW 1)) fun v s244 a w hR hF hS => ⟨fun hD => hS.tail, ?_⟩)
                                        obtain ⟨⟨r3, ok3, rfl, hok, hno⟩, rfl⟩ := hR
                                        have hD := hS.tail
                                        refine dq hF rfl (wn rfl) rfl rfl (fun w => R.move (hF.ev rfl)) fun a hF => ?_
                                        refine dq hF rfl (wn rfl) rfl rfl (fun w => R.extract (hF.ev rfl) rfl) fun a hF => ?_
                                        refine dq hF rfl (wn rfl) rfl rfl (fun w => R.extract (hF.ev rfl) rfl) fun a hF => ?_
                                        refine dl rfl (wn rfl) (O.alloc rfl rfl hF ze31 rfl hS fun b23 a w hF hS => ⟨fun hD => hS.tail.tail, ?_⟩)
                                        have hD := hS.tail.tail
                                        refine dw rfl (wn rfl) (O.storeW sz31 (hF.ev rfl) (hF.ev rfl) (rfl) rfl (by simp [Value.oneCell']) hS .h (rfl) fun w hS => ?_)
                                        refine dq hF rfl (wn rfl) rfl rfl (fun w => R.assign (hF.ev rfl)) fun a hF => ?_
                                        refine d0 ?_
                                        refine then_n (hK66 _ _ ?_)
                                        refine wp_seq_k fun K67 hK67 => ?_
                                        refine wp_seq_k fun K68 hK68 => ?_
                                        refine wp_region_lit ?_
                                        refine sv' hF (wn rfl) rfl rfl (R.move (hF.ev rfl)) fun a hF => ?_
                                        refine sv' hF (wn rfl) rfl rfl (R.as (u := .bool (decide (ok3 = false))) (R.not (hF.ev rfl)) (by cases ok3 <;> rfl)) fun a hF => ?_
                                        refine s0 ?_
                                        refine then_n (hK68 _ _ ?_)
                                        refine cD hF rfl (fun c22 => ?_) (fun c22 => ?_)
                                        ·
                                          have hpl := play_err hc hcl (by decide) (hrun.trans (runN_err (e := 104) (sum_bad hdo hC (hno c22))))
                                          refine wp_seq_k fun K69 hK69 => ?_
                                          refine wp_region_lit ?_
                                          refine sv' hF (wn rfl) rfl rfl (R.buildStr (l := [_, _, _, _, _]) Try.underlying39 ze39 pl39 (hF.evp rfl) rfl) fun a hF => ?_
                                          refine sv' hF (wn rfl) rfl rfl (R.move (hF.ev rfl)) fun a hF => ?_
                                          refine so (wn rfl) (O.storeW sz39 (hF.ev rfl) (hF.ev rfl) (rfl) rfl (by simp [Value.oneCell']) hS (.t (.t (.t (.t (.t (.t (.t .h))))))) (rfl) fun w hS => ?_)
                                          refine sv' hF (wn rfl) rfl rfl (R.assign (hF.ev rfl)) fun a hF => ?_
                                          refine sv' hF (wn rfl) rfl rfl (R.assign (hF.ev rfl)) fun a hF => ?_
                                          refine s0 ?_
                                          refine then_n (hK69 _ _ ?_)
                                          refine wp_ret (then_r (blk_r (then_r (blk_r (then_r (blk_r (hR _ _ _ _ _ hF (run_results Try.results14 (.cw hF rfl agg39 hS (.t (.t (.t (.t (.t (.t (.t .h))))))) sz39 (rfl) (.t hF rfl (.t hF rfl (.nil))))) ?_)))))))
                                          rw [hpl]
                                          exact ⟨_, z10, rfl, runR A10 c10 (by kernel_rfl) hO10, hS.one (.t (.t (.t (.t (.t .h)))))⟩
                                        ·
                                          have hok3 : ok3 = true := by (cases ok3; exact absurd rfl c22; rfl)
                                          refine wp_skip ?_
                                          refine then_n (hK67 _ _ ?_)
                                          refine wp_region_lit ?_
                                          refine sv' hF (wn rfl) rfl rfl (R.loadW agg31 (hF.ev rfl) hS .h sz31 (rfl)) fun a hF => ?_
                                          refine so (wn rfl) (O.buildSlice (l := [_, _, _, _]) rfl rfl hF Try.underlying32 inf31 rfl rfl (hF.evp rfl) (by decide) rfl hS fun b252 a w hF hS => ?_)
                                          refine sv' hF (wn rfl) rfl rfl (R.assign (hF.ev rfl)) fun a hF => ?_
                                          refine s0 ?_
                                          refine blk_n ?_
                                          exact then_n (hK32' _ _ ⟨stk, [r3], _, asks, _, _, _, _, _, _, _, hF.sub ⟨rfl, rfl, rfl, rfl, rfl, rfl, rfl, rfl, rfl, rfl, rfl, trivial⟩, hS.sel [5, 6, 0, 7, 8] rfl rfl, hO9, hO10, own_w1 b252 _, mid_sum hdo hC (hok hok3)⟩)
                                      ·
                                        refine dl rfl (wn rfl) (O.alloc rfl rfl hF ze31 rfl hS fun b23 a w hF hS => ⟨fun hD => hS.tail, ?_⟩)
                                        have hD := hS.tail
                                        refine dl rfl (wn rfl) (O.call rfl rfl hF ent30 (hF.evs rfl) hS (sum2_calls (cAt F.code p) (uN F stk p 0) (uN F stk p 1) w hC (uN_lt hW 0) (uN_lt hW 1)) fun v s244 a w hR hF hS => ⟨fun hD => hS.tail.tail, ?_⟩)
                                        obtain ⟨⟨r3, ok3, rfl, hok, hno⟩, rfl⟩ := hR
                                        have hD := hS.tail.tail
                                        refine dq hF rfl (wn rfl) rfl rfl (fun w => R.move (hF.ev rfl)) fun a hF => ?_
                                        refine dq hF rfl (wn rfl) rfl rfl (fun w => R.extract (hF.ev rfl) rfl) fun a hF => ?_
                                        refine dq hF rfl (wn rfl) rfl rfl (fun w => R.extract (hF.ev rfl) rfl) fun a hF => ?_
                                        refine dw rfl (wn rfl) (O.storeW sz31 (hF.ev rfl) (hF.ev rfl) (rfl) rfl (by simp [Value.oneCell']) hS (.t .h) (rfl) fun w hS => ?_)
                                        refine dq hF rfl (wn rfl) rfl rfl (fun w => R.assign (hF.ev rfl)) fun a hF => ?_
                                        refine d0 ?_
                                        refine then_n (hK66 _ _ ?_)
                                        refine wp_seq_k fun K70 hK70 => ?_
                                        refine wp_seq_k fun K71 hK71 => ?_
                                        refine wp_region_lit ?_
                                        refine sv' hF (wn rfl) rfl rfl (R.move (hF.ev rfl)) fun a hF => ?_
                                        refine sv' hF (wn rfl) rfl rfl (R.as (u := .bool (decide (ok3 = false))) (R.not (hF.ev rfl)) (by cases ok3 <;> rfl)) fun a hF => ?_
                                        refine s0 ?_
                                        refine then_n (hK71 _ _ ?_)
                                        refine cD hF rfl (fun c22 => ?_) (fun c22 => ?_)
                                        ·
                                          have hpl := play_err hc hcl (by decide) (hrun.trans (runN_err (e := 104) (sum_bad hdo hC (hno c22))))
                                          refine wp_seq_k fun K72 hK72 => ?_
                                          refine wp_region_lit ?_
                                          refine sv' hF (wn rfl) rfl rfl (R.buildStr (l := [_, _, _, _, _]) Try.underlying39 ze39 pl39 (hF.evp rfl) rfl) fun a hF => ?_
                                          refine sv' hF (wn rfl) rfl rfl (R.move (hF.ev rfl)) fun a hF => ?_
                                          refine so (wn rfl) (O.storeW sz39 (hF.ev rfl) (hF.ev rfl) (rfl) rfl (by simp [Value.oneCell']) hS (.t (.t (.t (.t (.t (.t (.t .h))))))) (rfl) fun w hS => ?_)
                                          refine sv' hF (wn rfl) rfl rfl (R.assign (hF.ev rfl)) fun a hF => ?_
                                          refine sv' hF (wn rfl) rfl rfl (R.assign (hF.ev rfl)) fun a hF => ?_
                                          refine s0 ?_
                                          refine then_n (hK72 _ _ ?_)
                                          refine wp_ret (then_r (blk_r (then_r (blk_r (then_r (blk_r (hR _ _ _ _ _ hF (run_results Try.results14 (.cw hF rfl agg39 hS (.t (.t (.t (.t (.t (.t (.t .h))))))) sz39 (rfl) (.t hF rfl (.t hF rfl (.nil))))) ?_)))))))
                                          rw [hpl]
                                          exact ⟨_, z10, rfl, runR A10 c10 (by kernel_rfl) hO10, hS.one (.t (.t (.t (.t (.t .h)))))⟩
                                        ·
                                          have hok3 : ok3 = true := by (cases ok3; exact absurd rfl c22; rfl)
                                          refine wp_skip ?_
                                          refine then_n (hK70 _ _ ?_)
                                          refine wp_region_lit ?_
                                          refine sv' hF (wn rfl) rfl rfl (R.loadW agg31 (hF.ev rfl) hS (.t .h) sz31 (rfl)) fun a hF => ?_
                                          refine so (wn rfl) (O.buildSlice (l := [_, _, _, _]) rfl rfl hF Try.underlying32 inf31 rfl rfl (hF.evp rfl) (by decide) rfl hS fun b252 a w hF hS => ?_)
                                          refine sv' hF (wn rfl) rfl rfl (R.assign (hF.ev rfl)) fun a hF => ?_
                                          refine s0 ?_
                                          refine blk_n ?_
                                          exact then_n (hK32' _ _ ⟨stk, [r3], _, asks, _, _, _, _, _, _, _, hF.sub ⟨rfl, rfl, rfl, rfl, rfl, rfl, rfl, rfl, rfl, rfl, rfl, trivial⟩, hS.sel [5, 6, 0, 7, 8] rfl rfl, hO9, hO10, own_w1 b252 _, mid_sum hdo hC (hok hok3)⟩)
                                    ·
                                      have hF := hF.nowF (t := 228) rfl hCs
                                      refine wp_seq_k fun K73 hK73 => ?_
                                      refine wp_region_lit ?_
                                      refine sv' hF (wn rfl) rfl rfl (R.eql (hF.ev rfl) (hF.ev rfl)) fun a hF => ?_
                                      refine sv' hF (wn rfl) rfl rfl (R.assign (hF.ev rfl)) fun a hF => ?_
                                      refine s0 ?_
                                      refine then_n (hK73 _ _ ?_)
                                      refine cD hF rfl (fun hCs => ?_) (fun hCs => ?_)
                                      ·
                                        have hF := hF.nowT (t := 228) rfl hCs
                                        have hC : 6 ≤ cAt F.code p ∧ cAt F.code p ≤ 12 := by omega
                                        have htk := tk_sum hC
                                        refine wp_skip ?_
                                        refine then_n (hK56 _ _ ?_)
                                        refine cT hF rfl ?_
                                        refine wp_seq_k fun K74 hK74 => ?_
                                        refine wp_draw2S hS [(0, 0), (1, 0), (2, 0), (3, 1), (4, 0), (5, 0), (6, 1)] [[(7, 2), (8, 0), (9, 0), (10, 0), (11, 2), (12, 3), (13, 0)], [(11, 2), (7, 2), (8, 0), (9, 0), (10, 0), (12, 3), (13, 0)]] mix (by kernel_rfl) (hP.block.then.block.then.block.then) fun w hS => ?_
                                        have hD := hS
                                        refine dq hF rfl (wn rfl) rfl rfl (fun w => R.move (hF.ev rfl)) fun a hF => ?_
                                        refine dq hF rfl (wn rfl) rfl rfl (fun w => R.move (hF.ev rfl)) fun a hF => ?_
                                        refine dq hF rfl (wn rfl) rfl rfl (fun w => R.indexO Try.underlying32 sz31 (hF.ev rfl) (Rd.ne (hO136.rd hS .h) (by rw [wcs_length, List.length_drop]; omega)) (hF.ev rfl) (by omega) (by omega)) fun a hF => ?_
                                        refine dr hF rfl (wn rfl) rfl rfl hD (fun w hD => R.loadAO (cs := wc (uN F stk p 0)) agg31 (hF.ev rfl) (hO136.rd hD .h) sz31 rfl (Nat.succ_pos _) (wcs_at (k := 0) (by omega) (by omega))) fun a hF => ?_
                                        refine dq hF rfl (wn rfl) rfl rfl (fun w => R.move (hF.ev rfl)) fun a hF => ?_
                                        refine dq hF rfl (wn rfl) rfl rfl (fun w => R.indexO Try.underlying32 sz31 (hF.ev rfl) (Rd.ne (hO136.rd hS .h) (by rw [wcs_length, List.length_drop]; omega)) (hF.ev rfl) (by omega) (by omega)) fun a hF => ?_
                                        refine dr hF rfl (wn rfl) rfl rfl hD (fun w hD => R.loadAO (cs := wc (uN F stk p 1)) agg31 (hF.ev rfl) (hO136.rd hD .h) sz31 rfl (Nat.succ_pos _) (wcs_at (k := 1) (by omega) (by omega))) fun a hF => ?_
                                        refine d0 ?_
                                        refine alts2 ?_ ?_
                                        ·
                                          refine dl rfl (wn rfl) (O.call rfl rfl hF ent30 (hF.evs rfl) hS (sum2_calls (cAt F.code p) (uN F stk p 0) (uN F stk p 1) w hC (uN_lt hW 0) (uN_lt hW 1)) fun v s244 a w hR hF hS => ⟨fun hD => hS.tail, ?_⟩)
                                          obtain ⟨⟨r3, ok3, rfl, hok, hno⟩, rfl⟩ := hR
                                          have hD := hS.tail
                                          refine dq hF rfl (wn rfl) rfl rfl (fun w => R.move (hF.ev rfl)) fun a hF => ?_
                                          refine dq hF rfl (wn rfl) rfl rfl (fun w => R.extract (hF.ev rfl) rfl) fun a hF => ?_
                                          refine dq hF rfl (wn rfl) rfl rfl (fun w => R.extract (hF.ev rfl) rfl) fun a hF => ?_
                                          refine dl rfl (wn rfl) (O.alloc rfl rfl hF ze31 rfl hS fun b23 a w hF hS => ⟨fun hD => hS.tail.tail, ?_⟩)
                                          have hD := hS.tail.tail
                                          refine dw rfl (wn rfl) (O.storeW sz31 (hF.ev rfl) (hF.ev rfl) (rfl) rfl (by simp [Value.oneCell']) hS .h (rfl) fun w hS => ?_)
                                          refine dq hF rfl (wn rfl) rfl rfl (fun w => R.assign (hF.ev rfl)) fun a hF => ?_
                                          refine d0 ?_
                                          refine then_n (hK74 _ _ ?_)
                                          refine wp_seq_k fun K75 hK75 => ?_
                                          refine wp_seq_k fun K76 hK76 => ?_
                                          refine wp_region_lit ?_
                                          refine sv' hF (wn rfl) rfl rfl (R.move (hF.ev rfl)) fun a hF => ?_
                                          refine sv' hF (wn rfl) rfl rfl (R.as (u := .bool (decide (ok3 = false))) (R.not (hF.ev rfl)) (by cases ok3 <;> rfl)) fun a hF => ?_
                                          refine s0 ?_
                                          refine then_n (hK76 _ _ ?_)
                                          refine cD hF rfl (fun c22 => ?_) (fun c22 => ?_)
                                          ·
                                            have hpl := play_err hc hcl (by decide) (hrun.trans (runN_err (e := 104) (sum_bad hdo hC (hno c22))))
                                            refine wp_seq_k fun K77 hK77 => ?_
                                            refine wp_region_lit ?_
                                            refine sv' hF (wn rfl) rfl rfl (R.buildStr (l := [_, _, _, _, _]) Try.underlying39 ze39 pl39 (hF.evp rfl) rfl) fun a hF => ?_
                                            refine sv' hF (wn rfl) rfl rfl (R.move (hF.ev rfl)) fun a hF => ?_
                                            refine so (wn rfl) (O.storeW sz39 (hF.ev rfl) (hF.ev rfl) (rfl) rfl (by simp [Value.oneCell']) hS (.t (.t (.t (.t (.t (.t (.t .h))))))) (rfl) fun w hS => ?_)
                                            refine sv' hF (wn rfl) rfl rfl (R.assign (hF.ev rfl)) fun a hF => ?_
                                            refine sv' hF (wn rfl) rfl rfl (R.assign (hF.ev rfl)) fun a hF => ?_
                                            refine s0 ?_
                                            refine then_n (hK77 _ _ ?_)
                                            refine wp_ret (then_r (blk_r (then_r (blk_r (then_r (blk_r (hR _ _ _ _ _ hF (run_results Try.results14 (.cw hF rfl agg39 hS (.t (.t (.t (.t (.t (.t (.t .h))))))) sz39 (rfl) (.t hF rfl (.t hF rfl (.nil))))) ?_)))))))
                                            rw [hpl]
                                            exact ⟨_, z10, rfl, runR A10 c10 (by kernel_rfl) hO10, hS.one (.t (.t (.t (.t (.t .h)))))⟩
                                          ·
                                            have hok3 : ok3 = true := by (cases ok3; exact absurd rfl c22; rfl)
                                            refine wp_skip ?_
                                            refine then_n (hK75 _ _ ?_)
                                            refine wp_region_lit ?_
                                            refine sv' hF (wn rfl) rfl rfl (R.loadW agg31 (hF.ev rfl) hS .h sz31 (rfl)) fun a hF => ?_
                                            refine so (wn rfl) (O.buildSlice (l := [_, _, _, _]) rfl rfl hF Try.underlying32 inf31 rfl rfl (hF.evp rfl) (by decide) rfl hS fun b252 a w hF hS => ?_)
                                            refine sv' hF (wn rfl) rfl rfl (R.assign (hF.ev rfl)) fun a hF => ?_
                                            refine s0 ?_
                                            refine blk_n ?_
                                            exact then_n (hK32' _ _ ⟨stk, [r3], _, asks, _, _, _, _, _, _, _, hF.sub ⟨rfl, rfl, rfl, rfl, rfl, rfl, rfl, rfl, rfl, rfl, rfl, trivial⟩, hS.sel [5, 6, 0, 7, 8] rfl rfl, hO9, hO10, own_w1 b252 _, mid_sum hdo hC (hok hok3)⟩)
                                        ·
                                          refine dl rfl (wn rfl) (O.alloc rfl rfl hF ze31 rfl hS fun b23 a w hF hS => ⟨fun hD => hS.tail, ?_⟩)
                                          have hD := hS.tail
                                          refine dl rfl (wn rfl) (O.call rfl rfl hF ent30 (hF.evs rfl) hS (sum2_calls (cAt F.code p) (uN F stk p 0) (uN F stk p 1) w hC (uN_lt hW 0) (uN_lt hW 1)) fun v s244 a w hR hF hS => ⟨fun hD => hS.tail.tail, ?_⟩)
                                          obtain ⟨⟨r3, ok3, rfl, hok, hno⟩, rfl⟩ := hR
                                          have hD := hS.tail.tail
                                          refine dq hF rfl (wn rfl) rfl rfl (fun w => R.move (hF.ev rfl)) fun a hF => ?_
                                          refine dq hF rfl (wn rfl) rfl rfl (fun w => R.extract (hF.ev rfl) rfl) fun a hF => ?_
                                          refine dq hF rfl (wn rfl) rfl rfl (fun w => R.extract (hF.ev rfl) rfl) fun a hF => ?_
                                          refine dw rfl (wn rfl) (O.storeW sz31 (hF.ev rfl) (hF.ev rfl) (rfl) rfl (by simp [Value.oneCell']) hS (.t .h) (rfl) fun w hS => ?_)
                                          refine dq hF rfl (wn rfl) rfl rfl (fun w => R.assign (hF.ev rfl)) fun a hF => ?_
                                          refine d0 ?_
                                          refine then_n (hK74 _ _ ?_)
                                          refine wp_seq_k fun K78 hK78 => ?_
                                          refine wp_seq_k fun K79 hK79 => ?_
                                          refine wp_region_lit ?_
                                          refine sv' hF (wn rfl) rfl rfl (R.move (hF.ev rfl)) fun a hF => ?_
                                          refine sv' hF (wn rfl) rfl rfl (R.as (u := .bool (decide (ok3 = false))) (R.not (hF.ev rfl)) (by cases ok3 <;> rfl)) fun a hF => ?_
                                          refine s0 ?_
                                          refine then_n (hK79 _ _ ?_)
                                          refine cD hF rfl (fun c22 => ?_) (fun c22 => ?_)
                                          ·
                                            have hpl := play_err hc hcl (by decide) (hrun.trans (runN_err (e := 104) (sum_bad hdo hC (hno c22))))
                                            refine wp_seq_k fun K80 hK80 => ?_
                                            refine wp_region_lit ?_
                                            refine sv' hF (wn rfl) rfl rfl (R.buildStr (l := [_, _, _, _, _]) Try.underlying39 ze39 pl39 (hF.evp rfl) rfl) fun a hF => ?_
                                            refine sv' hF (wn rfl) rfl rfl (R.move (hF.ev rfl)) fun a hF => ?_
                                            refine so (wn rfl) (O.storeW sz39 (hF.ev rfl) (hF.ev rfl) (rfl) rfl (by simp [Value.oneCell']) hS (.t (.t (.t (.t (.t (.t (.t .h))))))) (rfl) fun w hS => ?_)
                                            refine sv' hF (wn rfl) rfl rfl (R.assign (hF.ev rfl)) fun a hF => ?_
                                            refine sv' hF (wn rfl) rfl rfl (R.assign (hF.ev rfl)) fun a hF => ?_
                                            refine s0 ?_
                                            refine then_n (hK80 _ _ ?_)
                                            refine wp_ret (then_r (blk_r (then_r (blk_r (then_r (blk_r (hR _ _ _ _ _ hF (run_results Try.results14 (.cw hF rfl agg39 hS (.t (.t (.t (.t (.t (.t (.t .h))))))) sz39 (rfl) (.t hF rfl (.t hF rfl (.nil))))) ?_)))))))
                                            rw [hpl]
                                            exact ⟨_, z10, rfl, runR A10 c10 (by kernel_rfl) hO10, hS.one (.t (.t (.t (.t (.t .h)))))⟩
                                          ·
                                            have hok3 : ok3 = true := by (cases ok3; exact absurd rfl c22; rfl)
                                            refine wp_skip ?_
                                            refine then_n (hK78 _ _ ?_)
                                            refine wp_region_lit ?_
                                            refine sv' hF (wn rfl) rfl rfl (R.loadW agg31 (hF.ev rfl) hS (.t .h) sz31 (rfl)) fun a hF => ?_
                                            refine so (wn rfl) (O.buildSlice (l := [_, _, _, _]) rfl rfl hF Try.underlying32 inf31 rfl rfl (hF.evp rfl) (by decide) rfl hS fun b252 a w hF hS => ?_)
                                            refine sv' hF (wn rfl) rfl rfl (R.assign (hF.ev rfl)) fun a hF => ?_
                                            refine s0 ?_
                                            refine blk_n ?_
                                            exact then_n (hK32' _ _ ⟨stk, [r3], _, asks, _, _, _, _, _, _, _, hF.sub ⟨rfl, rfl, rfl, rfl, rfl, rfl, rfl, rfl, rfl, rfl, rfl, trivial⟩, hS.sel [5, 6, 0, 7, 8] rfl rfl, hO9, hO10, own_w1 b252 _, mid_sum hdo hC (hok hok3)⟩)
                                      ·
                                        have hF := hF.nowF (t := 228) rfl hCs
                                        refine wp_seq_k fun K81 hK81 => ?_
                                        refine wp_region_lit ?_
                                        refine sv' hF (wn rfl) rfl rfl (R.eql (hF.ev rfl) (hF.ev rfl)) fun a hF => ?_
                                        refine sv' hF (wn rfl) rfl rfl (R.assign (hF.ev rfl)) fun a hF => ?_
                                        refine s0 ?_
                                        refine then_n (hK81 _ _ ?_)
                                        refine cD hF rfl (fun hCs => ?_) (fun hCs => ?_)
                                        ·
                                          have hF := hF.nowT (t := 228) rfl hCs
                                          have hC : 6 ≤ cAt F.code p ∧ cAt F.code p ≤ 12 := by omega
                                          have htk := tk_sum hC
                                          refine wp_skip ?_
                                          refine then_n (hK56 _ _ ?_)
                                          refine cT hF rfl ?_
                                          refine wp_seq_k fun K82 hK82 => ?_
                                          refine wp_draw2S hS [(0, 0), (1, 0), (2, 0), (3, 1), (4, 0), (5, 0), (6, 1)] [[(7, 2), (8, 0), (9, 0), (10, 0), (11, 2), (12, 3), (13, 0)], [(11, 2), (7, 2), (8, 0), (9, 0), (10, 0), (12, 3), (13, 0)]] mix (by kernel_rfl) (hP.block.then.block.then.block.then) fun w hS => ?_
                                          have hD := hS
                                          refine dq hF rfl (wn rfl) rfl rfl (fun w => R.move (hF.ev rfl)) fun a hF => ?_
                                          refine dq hF rfl (wn rfl) rfl rfl (fun w => R.move (hF.ev rfl)) fun a hF => ?_
                                          refine dq hF rfl (wn rfl) rfl rfl (fun w => R.indexO Try.underlying32 sz31 (hF.ev rfl) (Rd.ne (hO136.rd hS .h) (by rw [wcs_length, List.length_drop]; omega)) (hF.ev rfl) (by omega) (by omega)) fun a hF => ?_
                                          refine dr hF rfl (wn rfl) rfl rfl hD (fun w hD => R.loadAO (cs := wc (uN F stk p 0)) agg31 (hF.ev rfl) (hO136.rd hD .h) sz31 rfl (Nat.succ_pos _) (wcs_at (k := 0) (by omega) (by omega))) fun a hF => ?_
                                          refine dq hF rfl (wn rfl) rfl rfl (fun w => R.move (hF.ev rfl)) fun a hF => ?_
                                          refine dq hF rfl (wn rfl) rfl rfl (fun w => R.indexO Try.underlying32 sz31 (hF.ev rfl) (Rd.ne (hO136.rd hS .h) (by rw [wcs_length, List.length_drop]; omega)) (hF.ev rfl) (by omega) (by omega)) fun a hF => ?_
                                          refine dr hF rfl (wn rfl) rfl rfl hD (fun w hD => R.loadAO (cs := wc (uN F stk p 1)) agg31 (hF.ev rfl) (hO136.rd hD .h) sz31 rfl (Nat.succ_pos _) (wcs_at (k := 1) (by omega) (by omega))) fun a hF => ?_
                                          refine d0 ?_
                                          refine alts2 ?_ ?_
                                          ·
                                            refine dl rfl (wn rfl) (O.call rfl rfl hF ent30 (hF.evs rfl) hS (sum2_calls (cAt F.code p) (uN F stk p 0) (uN F stk p 1) w hC (uN_lt hW 0) (uN_lt hW 1)) fun v s244 a w hR hF hS => ⟨fun hD => hS.tail, ?_⟩)
                                            obtain ⟨⟨r3, ok3, rfl, hok, hno⟩, rfl⟩ := hR
                                            have hD := hS.tail
                                            refine dq hF rfl (wn rfl) rfl rfl (fun w => R.move (hF.ev rfl)) fun a hF => ?_
                                            refine dq hF rfl (wn rfl) rfl rfl (fun w => R.extract (hF.ev rfl) rfl) fun a hF => ?_
                                            refine dq hF rfl (wn rfl) rfl rfl (fun w => R.extract (hF.ev rfl) rfl) fun a hF => ?_
                                            refine dl rfl (wn rfl) (O.alloc rfl rfl hF ze31 rfl hS fun b23 a w hF hS => ⟨fun hD => hS.tail.tail, ?_⟩)
                                            have hD := hS.tail.tail
                                            refine dw rfl (wn rfl) (O.storeW sz31 (hF.ev rfl) (hF.ev rfl) (rfl) rfl (by simp [Value.oneCell']) hS .h (rfl) fun w hS => ?_)
                                            refine dq hF rfl (wn rfl) rfl rfl (fun w => R.assign (hF.ev rfl)) fun a hF => ?_
                                            refine d0 ?_
                                            refine then_n (hK82 _ _ ?_)
                                            refine wp_seq_k fun K83 hK83 => ?_
                                            refine wp_seq_k fun K84 hK84 => ?_
                                            refine wp_region_lit ?_
                                            refine sv' hF (wn rfl) rfl rfl (R.move (hF.ev rfl)) fun a hF => ?_
                                            refine sv' hF (wn rfl) rfl rfl (R.as (u := .bool (decide (ok3 = false))) (R.not (hF.ev rfl)) (by cases ok3 <;> rfl)) fun a hF => ?_
                                            refine s0 ?_
                                            refine then_n (hK84 _ _ ?_)
                                            refine cD hF rfl (fun c22 => ?_) (fun c22 => ?_)
                                            ·
                                              have hpl := play_err hc hcl (by decide) (hrun.trans (runN_err (e := 104) (sum_bad hdo hC (hno c22))))
                                              refine wp_seq_k fun K85 hK85 => ?_
                                              refine wp_region_lit ?_
                                              refine sv' hF (wn rfl) rfl rfl (R.buildStr (l := [_, _, _, _, _]) Try.underlying39 ze39 pl39 (hF.evp rfl) rfl) fun a hF => ?_
                                              refine sv' hF (wn rfl) rfl rfl (R.move (hF.ev rfl)) fun a hF => ?_
                                              refine so (wn rfl) (O.storeW sz39 (hF.ev rfl) (hF.ev rfl) (rfl) rfl (by simp [Value.oneCell']) hS (.t (.t (.t (.t (.t (.t (.t .h))))))) (rfl) fun w hS => ?_)
                                              refine sv' hF (wn rfl) rfl rfl (R.assign (hF.ev rfl)) fun a hF => ?_
                                              refine sv' hF (wn rfl) rfl rfl (R.assign (hF.ev rfl)) fun a hF => ?_
                                              refine s0 ?_
                                              refine then_n (hK85 _ _ ?_)
                                              refine wp_ret (then_r (blk_r (then_r (blk_r (then_r (blk_r (hR _ _ _ _ _ hF (run_results Try.results14 (.cw hF rfl agg39 hS (.t (.t (.t (.t (.t (.t (.t .h))))))) sz39 (rfl) (.t hF rfl (.t hF rfl (.nil))))) ?_)))))))
                                              rw [hpl]
                                              exact ⟨_, z10, rfl, runR A10 c10 (by kernel_rfl) hO10, hS.one (.t (.t (.t (.t (.t .h)))))⟩
                                            ·
                                              have hok3 : ok3 = true := by (cases ok3; exact absurd rfl c22; rfl)
                                              refine wp_skip ?_
                                              refine then_n (hK83 _ _ ?_)
                                              refine wp_region_lit ?_
                                              refine sv' hF (wn rfl) rfl rfl (R.loadW agg31 (hF.ev rfl) hS .h sz31 (rfl)) fun a hF => ?_
                                              refine so (wn rfl) (O.buildSlice (l := [_, _, _, _]) rfl rfl hF Try.underlying32 inf31 rfl rfl (hF.evp rfl) (by decide) rfl hS fun b252 a w hF hS => ?_)
                                              refine sv' hF (wn rfl) rfl rfl (R.assign (hF.ev rfl)) fun a hF => ?_
                                              refine s0 ?_
                                              refine blk_n ?_
                                              exact then_n (hK32' _ _ ⟨stk, [r3], _, asks, _, _, _, _, _, _, _, hF.sub ⟨rfl, rfl, rfl, rfl, rfl, rfl, rfl, rfl, rfl, rfl, rfl, trivial⟩, hS.sel [5, 6, 0, 7, 8] rfl rfl, hO9, hO10, own_w1 b252 _, mid_sum hdo hC (hok hok3)⟩)
                                          ·
                                            refine dl rfl (wn rfl) (O.alloc rfl rfl hF ze31 rfl hS fun b23 a w hF hS => ⟨fun hD => hS.tail, ?_⟩)
                                            have hD := hS.tail
                                            refine dl rfl (wn rfl) (O.call rfl rfl hF ent30 (hF.evs rfl) hS (sum2_calls (cAt F.code p) (uN F stk p 0) (uN F stk p 1) w hC (uN_lt hW 0) (uN_lt hW 1)) fun v s244 a w hR hF hS => ⟨fun hD => hS.tail.tail, ?_⟩)
                                            obtain ⟨⟨r3, ok3, rfl, hok, hno⟩, rfl⟩ := hR
                                            have hD := hS.tail.tail
                                            refine dq hF rfl (wn rfl) rfl rfl (fun w => R.move (hF.ev rfl)) fun a hF => ?_
                                            refine dq hF rfl (wn rfl) rfl rfl (fun w => R.extract (hF.ev rfl) rfl) fun a hF => ?_
                                            refine dq hF rfl (wn rfl) rfl rfl (fun w => R.extract (hF.ev rfl) rfl) fun a hF => ?_
                                            refine dw rfl (wn rfl) (O.storeW sz31 (hF.ev rfl) (hF.ev rfl) (rfl) rfl (by simp [Value.oneCell']) hS (.t .h) (rfl) fun w hS => ?_)
                                            refine dq hF rfl (wn rfl) rfl rfl (fun w => R.assign (hF.ev rfl)) fun a hF => ?_
                                            refine d0 ?_
                                            refine then_n (hK82 _ _ ?_)
                                            refine wp_seq_k fun K86 hK86 => ?_
                                            refine wp_seq_k fun K87 hK87 => ?_
                                            refine wp_region_lit ?_
                                            refine sv' hF (wn rfl) rfl rfl (R.move (hF.ev rfl)) fun a hF => ?_
                                            refine sv' hF (wn rfl) rfl rfl (R.as (u := .bool (decide (ok3 = false))) (R.not (hF.ev rfl)) (by cases ok3 <;> rfl)) fun a hF => ?_
                                            refine s0 ?_
                                            refine then_n (hK87 _ _ ?_)
                                            refine cD hF rfl (fun c22 => ?_) (fun c22 => ?_)
                                            ·
                                              have hpl := play_err hc hcl (by decide) (hrun.trans (runN_err (e := 104) (sum_bad hdo hC (hno c22))))
                                              refine wp_seq_k fun K88 hK88 => ?_
                                              refine wp_region_lit ?_
                                              refine sv' hF (wn rfl) rfl rfl (R.buildStr (l := [_, _, _, _, _]) Try.underlying39 ze39 pl39 (hF.evp rfl) rfl) fun a hF => ?_
                                              refine sv' hF (wn rfl) rfl rfl (R.move (hF.ev rfl)) fun a hF => ?_
                                              refine so (wn rfl) (O.storeW sz39 (hF.ev rfl) (hF.ev rfl) (rfl) rfl (by simp [Value.oneCell']) hS (.t (.t (.t (.t (.t (.t (.t .h))))))) (rfl) fun w hS => ?_)
                                              refine sv' hF (wn rfl) rfl rfl (R.assign (hF.ev rfl)) fun a hF => ?_
                                              refine sv' hF (wn rfl) rfl rfl (R.assign (hF.ev rfl)) fun a hF => ?_
                                              refine s0 ?_
                                              refine then_n (hK88 _ _ ?_)
                                              refine wp_ret (then_r (blk_r (then_r (blk_r (then_r (blk_r (hR _ _ _ _ _ hF (run_results Try.results14 (.cw hF rfl agg39 hS (.t (.t (.t (.t (.t (.t (.t .h))))))) sz39 (rfl) (.t hF rfl (.t hF rfl (.nil))))) ?_)))))))
                                              rw [hpl]
                                              exact ⟨_, z10, rfl, runR A10 c10 (by kernel_rfl) hO10, hS.one (.t (.t (.t (.t (.t .h)))))⟩
                                            ·
                                              have hok3 : ok3 = true := by (cases ok3; exact absurd rfl c22; rfl)
                                              refine wp_skip ?_
                                              refine then_n (hK86 _ _ ?_)
                                              refine wp_region_lit ?_
                                              refine sv' hF (wn rfl) rfl rfl (R.loadW agg31 (hF.ev rfl) hS (.t .h) sz31 (rfl)) fun a hF => ?_
                                              refine so (wn rfl) (O.buildSlice (l := [_, _, _, _]) rfl rfl hF Try.underlying32 inf31 rfl rfl (hF.evp rfl) (by decide) rfl hS fun b252 a w hF hS => ?_)
                                              refine sv' hF (wn rfl) rfl rfl (R.assign (hF.ev rfl)) fun a hF => ?_
                                              refine s0 ?_
                                              refine blk_n ?_
                                              exact then_n (hK32' _ _ ⟨stk, [r3], _, asks, _, _, _, _, _, _, _, hF.sub ⟨rfl, rfl, rfl, rfl, rfl, rfl, rfl, rfl, rfl, rfl, rfl, trivial⟩, hS.sel [5, 6, 0, 7, 8] rfl rfl, hO9, hO10, own_w1 b252 _, mid_sum hdo hC (hok hok3)⟩)
                                        ·
                                          have hF := hF.nowF (t := 228) rfl hCs
                                          refine wp_seq_k fun K89 hK89 => ?_
                                          refine wp_region_lit ?_
                                          refine sv' hF (wn rfl) rfl rfl (R.eql (hF.ev rfl) (hF.ev rfl)) fun a hF => ?_
                                          refine sv' hF (wn rfl) rfl rfl (R.assign (hF.ev rfl)) fun a hF => ?_
                                          refine s0 ?_
                                          refine then_n (hK89 _ _ ?_)
                                          refine cD hF rfl (fun hCs => ?_) (fun hCs => ?_)
                                          ·
                                            have hF := hF.nowT (t := 228) rfl hCs
                                            have hC : 6 ≤ cAt F.code p ∧ cAt F.code p ≤ 12 := by omega
                                            have htk := tk_sum hC
                                            refine wp_skip ?_
                                            refine then_n (hK56 _ _ ?_)
                                            refine cT hF rfl ?_
                                            refine wp_seq_k fun K90 hK90 => ?_
                                            refine wp_draw2S hS [(0, 0), (1, 0), (2, 0), (3, 1), (4, 0), (5, 0), (6, 1)] [[(7, 2), (8, 0), (9, 0), (10, 0), (11, 2), (12, 3), (13, 0)], [(11, 2), (7, 2), (8, 0), (9, 0), (10, 0), (12, 3), (13, 0)]] mix (by kernel_rfl) (hP.block.then.block.then.block.then) fun w hS => ?_
                                            have hD := hS
                                            refine dq hF rfl (wn rfl) rfl rfl (fun w => R.move (hF.ev rfl)) fun a hF => ?_
                                            refine dq hF rfl (wn rfl) rfl rfl (fun w => R.move (hF.ev rfl)) fun a hF => ?_
                                            refine dq hF rfl (wn rfl) rfl rfl (fun w => R.indexO Try.underlying32 sz31 (hF.ev rfl) (Rd.ne (hO136.rd hS .h) (by rw [wcs_length, List.length_drop]; omega)) (hF.ev rfl) (by omega) (by omega)) fun a hF => ?_
                                            refine dr hF rfl (wn rfl) rfl rfl hD (fun w hD => R.loadAO (cs := wc (uN F stk p 0)) agg31 (hF.ev rfl) (hO136.rd hD .h) sz31 rfl (Nat.succ_pos _) (wcs_at (k := 0) (by omega) (by omega))) fun a hF => ?_
                                            refine dq hF rfl (wn rfl) rfl rfl (fun w => R.move (hF.ev rfl)) fun a hF => ?_
                                            refine dq hF rfl (wn rfl) rfl rfl (fun w => R.indexO Try.underlying32 sz31 (hF.ev rfl) (Rd.ne (hO136.rd hS .h) (by rw [wcs_length, List.length_drop]; omega)) (hF.ev rfl) (by omega) (by omega)) fun a hF => ?_
                                            refine dr hF rfl (wn rfl) rfl rfl hD (fun w hD => R.loadAO (cs := wc (uN F stk p 1)) agg31 (hF.ev rfl) (hO136.rd hD .h) sz31 rfl (Nat.succ_pos _) (wcs_at (k := 1) (by omega) (by omega))) fun a hF => ?_
                                            refine d0 ?_
                                            refine alts2 ?_ ?_
                                            ·
                                              refine dl rfl (wn rfl) (O.call rfl rfl hF ent30 (hF.evs rfl) hS (sum2_calls (cAt F.code p) (uN F stk p 0) (uN F stk p 1) w hC (uN_lt hW 0) (uN_lt hW 1)) fun v s244 a w hR hF hS => ⟨fun hD => hS.tail, ?_⟩)
                                              obtain ⟨⟨r3, ok3, rfl, hok, hno⟩, rfl⟩ := hR
                                              have hD := hS.tail
                                              refine dq hF rfl (wn rfl) rfl rfl (fun w => R.move (hF.ev rfl)) fun a hF => ?_
                                              refine dq hF rfl (wn rfl) rfl rfl (fun w => R.extract (hF.ev rfl) rfl) fun a hF => ?_
                                              refine dq hF rfl (wn rfl) rfl rfl (fun w => R.extract (hF.ev rfl) rfl) fun a hF => ?_
                                              refine dl rfl (wn rfl) (O.alloc rfl rfl hF ze31 rfl hS fun b23 a w hF hS => ⟨fun hD => hS.tail.tail, ?_⟩)
                                              have hD := hS.tail.tail
                                              refine dw rfl (wn rfl) (O.storeW sz31 (hF.ev rfl) (hF.ev rfl) (rfl) rfl (by simp [Value.oneCell']) hS .h (rfl) fun w hS => ?_)
                                              refine dq hF rfl (wn rfl) rfl rfl (fun w => R.assign (hF.ev rfl)) fun a hF => ?_
                                              refine d0 ?_
                                              refine then_n (hK90 _ _ ?_)
                                              refine wp_seq_k fun K91 hK91 => ?_
                                              refine wp_seq_k fun K92 hK92 => ?_
                                              refine wp_region_lit ?_
                                              refine sv' hF (wn rfl) rfl rfl (R.move (hF.ev rfl)) fun a hF => ?_
                                              refine sv' hF (wn rfl) rfl rfl (R.as (u := .bool (decide (ok3 = false))) (R.not (hF.ev rfl)) (by cases ok3 <;> rfl)) fun a hF => ?_
                                              refine s0 ?_
                                              refine then_n (hK92 _ _ ?_)
                                              refine cD hF rfl (fun c22 => ?_) (fun c22 => ?_)
                                              ·
                                                have hpl := play_err hc hcl (by decide) (hrun.trans (runN_err (e := 104) (sum_bad hdo hC (hno c22))))
                                                refine wp_seq_k fun K93 hK93 => ?_
                                                refine wp_region_lit ?_
                                                refine sv' hF (wn rfl) rfl rfl (R.buildStr (l := [_, _, _, _, _]) Try.underlying39 ze39 pl39 (hF.evp rfl) rfl) fun a hF => ?_
                                                refine sv' hF (wn rfl) rfl rfl (R.move (hF.ev rfl)) fun a hF => ?_
                                                refine so (wn rfl) (O.storeW sz39 (hF.ev rfl) (hF.ev rfl) (rfl) rfl (by simp [Value.oneCell']) hS (.t (.t (.t (.t (.t (.t (.t .h))))))) (rfl) fun w hS => ?_)
                                                refine sv' hF (wn rfl) rfl rfl (R.assign (hF.ev rfl)) fun a hF => ?_
                                                refine sv' hF (wn rfl) rfl rfl (R.assign (hF.ev rfl)) fun a hF => ?_
                                                refine s0 ?_
                                                refine then_n (hK93 _ _ ?_)
                                                refine wp_ret (then_r (blk_r (then_r (blk_r (then_r (blk_r (hR _ _ _ _ _ hF (run_results Try.results14 (.cw hF rfl agg39 hS (.t (.t (.t (.t (.t (.t (.t .h))))))) sz39 (rfl) (.t hF rfl (.t hF rfl (.nil))))) ?_)))))))
                                                rw [hpl]
                                                exact ⟨_, z10, rfl, runR A10 c10 (by kernel_rfl) hO10, hS.one (.t (.t (.t (.t (.t .h)))))⟩
                                              ·
                                                have hok3 : ok3 = true := by (cases ok3; exact absurd rfl c22; rfl)
                                                refine wp_skip ?_
                                                refine then_n (hK91 _ _ ?_)
                                                refine wp_region_lit ?_
                                                refine sv' hF (wn rfl) rfl rfl (R.loadW agg31 (hF.ev rfl) hS .h sz31 (rfl)) fun a hF => ?_
                                                refine so (wn rfl) (O.buildSlice (l := [_, _, _, _]) rfl rfl hF Try.underlying32 inf31 rfl rfl (hF.evp rfl) (by decide) rfl hS fun b252 a w hF hS => ?_)
                                                refine sv' hF (wn rfl) rfl rfl (R.assign (hF.ev rfl)) fun a hF => ?_
                                                refine s0 ?_
                                                refine blk_n ?_
                                                exact then_n (hK32' _ _ ⟨stk, [r3], _, asks, _, _, _, _, _, _, _, hF.sub ⟨rfl, rfl, rfl, rfl, rfl, rfl, rfl, rfl, rfl, rfl, rfl, trivial⟩, hS.sel [5, 6, 0, 7, 8] rfl rfl, hO9, hO10, own_w1 b252 _, mid_sum hdo hC (hok hok3)⟩)
                                            ·
                                              refine dl rfl (wn rfl) (O.alloc rfl rfl hF ze31 rfl hS fun b23 a w hF hS => ⟨fun hD => hS.tail, ?_⟩)
                                              have hD := hS.tail
                                              refine dl rfl (wn rfl) (O.call rfl rfl hF ent30 (hF.evs rfl) hS (sum2_calls (cAt F.code p) (uN F stk p 0) (uN F stk p 1) w hC (uN_lt hW 0) (uN_lt hW 1)) fun v s244 a w hR hF hS => ⟨fun hD => hS.tail.tail, ?_⟩)
                                              obtain ⟨⟨r3, ok3, rfl, hok, hno⟩, rfl⟩ := hR
                                              have hD := hS.tail.tail
                                              refine dq hF rfl (wn rfl) rfl rfl (fun w => R.move (hF.ev rfl)) fun a hF => ?_
                                              refine dq hF rfl (wn rfl) rfl rfl (fun w => R.extract (hF.ev rfl) rfl) fun a hF => ?_
                                              refine dq hF rfl (wn rfl) rfl rfl (fun w => R.extract (hF.ev rfl) rfl) fun a hF => ?_
                                              refine dw rfl (wn rfl) (O.storeW sz31 (hF.ev rfl) (hF.ev rfl) (rfl) rfl (by simp [Value.oneCell']) hS (.t .h) (rfl) fun w hS => ?_)
                                              refine dq hF rfl (wn rfl) rfl rfl (fun w => R.assign (hF.ev rfl)) fun a hF => ?_
                                              refine d0 ?_
                                              refine then_n (hK90 _ _ ?_)
                                              refine wp_seq_k fun K94 hK94 => ?_
                                              refine wp_seq_k fun K95 hK95 => ?_
                                              refine wp_region_lit ?_
                                              refine sv' hF (wn rfl) rfl rfl (R.move (hF.ev rfl)) fun a hF => ?_
                                              refine sv' hF (wn rfl) rfl rfl (R.as (u := .bool (decide (ok3 = false))) (R.not (hF.ev rfl)) (by cases ok3 <;> rfl)) fun a hF => ?_
                                              refine s0 ?_
                                              refine then_n (hK95 _ _ ?_)
                                              refine cD hF rfl (fun c22 => ?_) (fun c22 => ?_)
                                              ·
                                                have hpl := play_err hc hcl (by decide) (hrun.trans (runN_err (e := 104) (sum_bad hdo hC (hno c22))))
                                                refine wp_seq_k fun K96 hK96 => ?_
                                                refine wp_region_lit ?_
                                                refine sv' hF (wn rfl) rfl rfl (R.buildStr (l := [_, _, _, _, _]) Try.underlying39 ze39 pl39 (hF.evp rfl) rfl) fun a hF => ?_
                                                refine sv' hF (wn rfl) rfl rfl (R.move (hF.ev rfl)) fun a hF => ?_
                                                refine so (wn rfl) (O.storeW sz39 (hF.ev rfl) (hF.ev rfl) (rfl) rfl (by simp [Value.oneCell']) hS (.t (.t (.t (.t (.t (.t (.t .h))))))) (rfl) fun w hS => ?_)
                                                refine sv' hF (wn rfl) rfl rfl (R.assign (hF.ev rfl)) fun a hF => ?_
                                                refine sv' hF (wn rfl) rfl rfl (R.assign (hF.ev rfl)) fun a hF => ?_
                                                refine s0 ?_
                                                refine then_n (hK96 _ _ ?_)
                                                refine wp_ret (then_r (blk_r (then_r (blk_r (then_r (blk_r (hR _ _ _ _ _ hF (run_results Try.results14 (.cw hF rfl agg39 hS (.t (.t (.t (.t (.t (.t (.t .h))))))) sz39 (rfl) (.t hF rfl (.t hF rfl (.nil))))) ?_)))))))
                                                rw [hpl]
                                                exact ⟨_, z10, rfl, runR A10 c10 (by kernel_rfl) hO10, hS.one (.t (.t (.t (.t (.t .h)))))⟩
                                              ·
                                                have hok3 : ok3 = true := by (cases ok3; exact absurd rfl c22; rfl)
                                                refine wp_skip ?_
                                                refine then_n (hK94 _ _ ?_)
                                                refine wp_region_lit ?_
                                                refine sv' hF (wn rfl) rfl rfl (R.loadW agg31 (hF.ev rfl) hS (.t .h) sz31 (rfl)) fun a hF => ?_
                                                refine so (wn rfl) (O.buildSlice (l := [_, _, _, _]) rfl rfl hF Try.underlying32 inf31 rfl rfl (hF.evp rfl) (by decide) rfl hS fun b252 a w hF hS => ?_)
                                                refine sv' hF (wn rfl) rfl rfl (R.assign (hF.ev rfl)) fun a hF => ?_
                                                refine s0 ?_
                                                refine blk_n ?_
                                                exact then_n (hK32' _ _ ⟨stk, [r3], _, asks, _, _, _, _, _, _, _, hF.sub ⟨rfl, rfl, rfl, rfl, rfl, rfl, rfl, rfl, rfl, rfl, rfl, trivial⟩, hS.sel [5, 6, 0, 7, 8] rfl rfl, hO9, hO10, own_w1 b252 _, mid_sum hdo hC (hok hok3)⟩)
                                          ·
                                            have hF := hF.nowF (t := 228) rfl hCs
                                            refine wp_seq_k fun K97 hK97 => ?_
                                            refine wp_region_lit ?_
                                            refine sv' hF (wn rfl) rfl rfl (R.eql (hF.ev rfl) (hF.ev rfl)) fun a hF => ?_
                                            refine sv' hF (wn rfl) rfl rfl (R.assign (hF.ev rfl)) fun a hF => ?_
                                            refine s0 ?_
                                            refine then_n (hK97 _ _ ?_)
                                            refine cD hF rfl (fun hCs => ?_) (fun hCs => ?_)
                                            ·
                                              have hF := hF.nowT (t := 228) rfl hCs
                                              have hC : 6 ≤ cAt F.code p ∧ cAt F.code p ≤ 12 := by omega
                                              have htk := tk_sum hC
                                              refine wp_skip ?_
                                              refine then_n (hK56 _ _ ?_)
                                              refine cT hF rfl ?_
                                              refine wp_seq_k fun K98 hK98 => ?_
                                              refine wp_draw2S hS [(0, 0), (1, 0), (2, 0), (3, 1), (4, 0), (5, 0), (6, 1)] [[(7, 2), (8, 0), (9, 0), (10, 0), (11, 2), (12, 3), (13, 0)], [(11, 2), (7, 2), (8, 0), (9, 0), (10, 0), (12, 3), (13, 0)]] mix (by kernel_rfl) (hP.block.then.block.then.block.then) fun w hS => ?_
                                              have hD := hS
                                              refine dq hF rfl (wn rfl) rfl rfl (fun w => R.move (hF.ev rfl)) fun a hF => ?_
                                              refine dq hF rfl (wn rfl) rfl rfl (fun w => R.move (hF.ev rfl)) fun a hF => ?_
                                              refine dq hF rfl (wn rfl) rfl rfl (fun w => R.indexO Try.underlying32 sz31 (hF.ev rfl) (Rd.ne (hO136.rd hS .h) (by rw [wcs_length, List.length_drop]; omega)) (hF.ev rfl) (by omega) (by omega)) fun a hF => ?_
                                              refine dr hF rfl (wn rfl) rfl rfl hD (fun w hD => R.loadAO (cs := wc (uN F stk p 0)) agg31 (hF.ev rfl) (hO136.rd hD .h) sz31 rfl (Nat.succ_pos _) (wcs_at (k := 0) (by omega) (by omega))) fun a hF => ?_
                                              refine dq hF rfl (wn rfl) rfl rfl (fun w => R.move (hF.ev rfl)) fun a hF => ?_
                                              refine dq hF rfl (wn rfl) rfl rfl (fun w => R.indexO Try.underlying32 sz31 (hF.ev rfl) (Rd.ne (hO136.rd hS .h) (by rw [wcs_length, List.length_drop]; omega)) (hF.ev rfl) (by omega) (by omega)) fun a hF => ?_
                                              refine dr hF rfl (wn rfl) rfl rfl hD (fun w hD => R.loadAO (cs := wc (uN F stk p 1)) agg31 (hF.ev rfl) (hO136.rd hD .h) sz31 rfl (Nat.succ_pos _) (wcs_at (k := 1) (by omega) (by omega))) fun a hF => ?_
                                              refine d0 ?_
                                              refine alts2 ?_ ?_
                                              ·
                                                refine dl rfl (wn rfl) (O.call rfl rfl hF ent30 (hF.evs rfl) hS (sum2_calls (cAt F.code p) (uN F stk p 0) (uN F stk p 1) w hC (uN_lt hW 0) (uN_lt hW 1)) fun v s244 a w hR hF hS => ⟨fun hD => hS.tail, ?_⟩)
                                                obtain ⟨⟨r3, ok3, rfl, hok, hno⟩, rfl⟩ := hR
                                                have hD := hS.tail
                                                refine dq hF rfl (wn rfl) rfl rfl (fun w => R.move (hF.ev rfl)) fun a hF => ?_
                                                refine dq hF rfl (wn rfl) rfl rfl (fun w => R.extract (hF.ev rfl) rfl) fun a hF => ?_
                                                refine dq hF rfl (wn rfl) rfl rfl (fun w => R.extract (hF.ev rfl) rfl) fun a hF => ?_
                                                refine dl rfl (wn rfl) (O.alloc rfl rfl hF ze31 rfl hS fun b23 a w hF hS => ⟨fun hD => hS.tail.tail, ?_⟩)
                                                have hD := hS.tail.tail
                                                refine dw rfl (wn rfl) (O.storeW sz31 (hF.ev rfl) (hF.ev rfl) (rfl) rfl (by simp [Value.oneCell']) hS .h (rfl) fun w hS => ?_)
                                                refine dq hF rfl (wn rfl) rfl rfl (fun w => R.assign (hF.ev rfl)) fun a hF => ?_
                                                refine d0 ?_
                                                refine then_n (hK98 _ _ ?_)
                                                refine wp_seq_k fun K99 hK99 => ?_
                                                refine wp_seq_k fun K100 hK100 => ?_
                                                refine wp_region_lit ?_
                                                refine sv' hF (wn rfl) rfl rfl (R.move (hF.ev rfl)) fun a hF => ?_
                                                refine sv' hF (wn rfl) rfl rfl (R.as (u := .bool (decide (ok3 = false))) (R.not (hF.ev rfl)) (by cases ok3 <;> rfl)) fun a hF => ?_
                                                refine s0 ?_
                                                refine then_n (hK100 _ _ ?_)
                                                refine cD hF rfl (fun c22 => ?_) (fun c22 => ?_)
                                                ·
                                                  have hpl := play_err hc hcl (by decide) (hrun.trans (runN_err (e := 104) (sum_bad hdo hC (hno c22))))
                                                  refine wp_seq_k fun K101 hK101 => ?_
                                                  refine wp_region_lit ?_
                                                  refine sv' hF (wn rfl) rfl rfl (R.buildStr (l := [_, _, _, _, _]) Try.underlying39 ze39 pl39 (hF.evp rfl) rfl) fun a hF => ?_
                                                  refine sv' hF (wn rfl) rfl rfl (R.move (hF.ev rfl)) fun a hF => ?_
                                                  refine so (wn rfl) (O.storeW sz39 (hF.ev rfl) (hF.ev rfl) (rfl) rfl (by simp [Value.oneCell']) hS (.t (.t (.t (.t (.t (.t (.t .h))))))) (rfl) fun w hS => ?_)
                                                  refine sv' hF (wn rfl) rfl rfl (R.assign (hF.ev rfl)) fun a hF => ?_
                                                  refine sv' hF (wn rfl) rfl rfl (R.assign (hF.ev rfl)) fun a hF => ?_
                                                  refine s0 ?_
                                                  refine then_n (hK101 _ _ ?_)
                                                  refine wp_ret (then_r (blk_r (then_r (blk_r (then_r (blk_r (hR _ _ _ _ _ hF (run_results Try.results14 (.cw hF rfl agg39 hS (.t (.t (.t (.t (.t (.t (.t .h))))))) sz39 (rfl) (.t hF rfl (.t hF rfl (.nil))))) ?_)))))))
                                                  rw [hpl]
                                                  exact ⟨_, z10, rfl, runR A10 c10 (by kernel_rfl) hO10, hS.one (.t (.t (.t (.t (.t .h)))))⟩
                                                ·
                                                  have hok3 : ok3 = true := by (cases ok3; exact absurd rfl c22; rfl)
                                                  refine wp_skip ?_
                                                  refine then_n (hK99 _ _ ?_)
                                                  refine wp_region_lit ?_
                                                  refine sv' hF (wn rfl) rfl rfl (R.loadW agg31 (hF.ev rfl) hS .h sz31 (rfl)) fun a hF => ?_
                                                  refine so (wn rfl) (O.buildSlice (l := [_, _, _, _]) rfl rfl hF Try.underlying32 inf31 rfl rfl (hF.evp rfl) (by decide) rfl hS fun b252 a w hF hS => ?_)
                                                  refine sv' hF (wn rfl) rfl rfl (R.assign (hF.ev rfl)) fun a hF => ?_
                                                  refine s0 ?_
                                                  refine blk_n ?_
                                                  exact then_n (hK32' _ _ ⟨stk, [r3], _, asks, _, _, _, _, _, _, _, hF.sub ⟨rfl, rfl, rfl, rfl, rfl, rfl, rfl, rfl, rfl, rfl, rfl, trivial⟩, hS.sel [5, 6, 0, 7, 8] rfl rfl, hO9, hO10, own_w1 b252 _, mid_sum hdo hC (hok hok3)⟩)
                                              ·
                                                refine dl rfl (wn rfl) (O.alloc rfl rfl hF ze31 rfl hS fun b23 a w hF hS => ⟨fun hD => hS.tail, ?_⟩)
                                                have hD := hS.tail
                                                refine dl rfl (wn rfl) (O.call rfl rfl hF ent30 (hF.evs rfl) hS (sum2_calls (cAt F.code p) (uN F stk p 0) (uN F stk p 1) w hC (uN_lt hW 0) (uN_lt hW 1)) fun v s244 a w hR hF hS => ⟨fun hD => hS.tail.tail, ?_⟩)
                                                obtain ⟨⟨r3, ok3, rfl, hok, hno⟩, rfl⟩ := hR
                                                have hD := hS.tail.tail
                                                refine dq hF rfl (wn rfl) rfl rfl (fun w => R.move (hF.ev rfl)) fun a hF => ?_
                                                refine dq hF rfl (wn rfl) rfl rfl (fun w => R.extract (hF.ev rfl) rfl) fun a hF => ?_
                                                refine dq hF rfl (wn rfl) rfl rfl (fun w => R.extract (hF.ev rfl) rfl) fun a hF => ?_
                                                refine dw rfl (wn rfl) (O.storeW sz31 (hF.ev rfl) (hF.ev rfl) (rfl) rfl (by simp [Value.oneCell']) hS (.t .h) (rfl) fun w hS => ?_)
                                                refine dq hF rfl (wn rfl) rfl rfl (fun w => R.assign (hF.ev rfl)) fun a hF => ?_
                                                refine d0 ?_
                                                refine then_n (hK98 _ _ ?_)
                                                refine wp_seq_k fun K102 hK102 => ?_
                                                refine wp_seq_k fun K103 hK103 => ?_
                                                refine wp_region_lit ?_
                                                refine sv' hF (wn rfl) rfl rfl (R.move (hF.ev rfl)) fun a hF => ?_
                                                refine sv' hF (wn rfl) rfl rfl (R.as (u := .bool (decide (ok3 = false))) (R.not (hF.ev rfl)) (by cases ok3 <;> rfl)) fun a hF => ?_
                                                refine s0 ?_
                                                refine then_n (hK103 _ _ ?_)
                                                refine cD hF rfl (fun c22 => ?_) (fun c22 => ?_)
                                                ·
                                                  have hpl := play_err hc hcl (by decide) (hrun.trans (runN_err (e := 104) (sum_bad hdo hC (hno c22))))
                                                  refine wp_seq_k fun K104 hK104 => ?_
                                                  refine wp_region_lit ?_
                                                  refine sv' hF (wn rfl) rfl rfl (R.buildStr (l := [_, _, _, _, _]) Try.underlying39 ze39 pl39 (hF.evp rfl) rfl) fun a hF => ?_
                                                  refine sv' hF (wn rfl) rfl rfl (R.move (hF.ev rfl)) fun a hF => ?_
                                                  refine so (wn rfl) (O.storeW sz39 (hF.ev rfl) (hF.ev rfl) (rfl) rfl (by simp [Value.oneCell']) hS (.t (.t (.t (.t (.t (.t (.t .h))))))) (rfl) fun w hS => ?_)
                                                  refine sv' hF (wn rfl) rfl rfl (R.assign (hF.ev rfl)) fun a hF => ?_
                                                  refine sv' hF (wn rfl) rfl rfl (R.assign (hF.ev rfl)) fun a hF => ?_
                                                  refine s0 ?_
                                                  refine then_n (hK104 _ _ ?_)
                                                  refine wp_ret (then_r (blk_r (then_r (blk_r (then_r (blk_r (hR _ _ _ _ _ hF (run_results Try.results14 (.cw hF rfl agg39 hS (.t (.t (.t (.t (.t (.t (.t .h))))))) sz39 (rfl) (.t hF rfl (.t hF rfl (.nil))))) ?_)))))))
                                                  rw [hpl]
                                                  exact ⟨_, z10, rfl, runR A10 c10 (by kernel_rfl) hO10, hS.one (.t (.t (.t (.t (.t .h)))))⟩
                                                ·
                                                  have hok3 : ok3 = true := by (cases ok3; exact absurd rfl c22; rfl)
                                                  refine wp_skip ?_
                                                  refine then_n (hK102 _ _ ?_)
                                                  refine wp_region_lit ?_
                                                  refine sv' hF (wn rfl) rfl rfl (R.loadW agg31 (hF.ev rfl) hS (.t .h) sz31 (rfl)) fun a hF => ?_
                                                  refine so (wn rfl) (O.buildSlice (l := [_, _, _, _]) rfl rfl hF Try.underlying32 inf31 rfl rfl (hF.evp rfl) (by decide) rfl hS fun b252 a w hF hS => ?_)
                                                  refine sv' hF (wn rfl) rfl rfl (R.assign (hF.ev rfl)) fun a hF => ?_
                                                  refine s0 ?_
                                                  refine blk_n ?_
                                                  exact then_n (hK32' _ _ ⟨stk, [r3], _, asks, _, _, _, _, _, _, _, hF.sub ⟨rfl, rfl, rfl, rfl, rfl, rfl, rfl, rfl, rfl, rfl, rfl, trivial⟩, hS.sel [5, 6, 0, 7, 8] rfl rfl, hO9, hO10, own_w1 b252 _, mid_sum hdo hC (hok hok3)⟩)
                                            ·
                                              have hF := hF.nowF (t := 228) rfl hCs
                                              refine wp_region_lit ?_
                                              refine sv' hF (wn rfl) rfl rfl (R.eql (hF.ev rfl) (hF.ev rfl)) fun a hF => ?_
                                              refine sv' hF (wn rfl) rfl rfl (R.assign (hF.ev rfl)) fun a hF => ?_
                                              refine s0 ?_
                                              refine then_n (hK56 _ _ ?_)
                                              refine cD hF rfl (fun hCs => ?_) (fun hCs => ?_)
                                              ·
                                                have hF := hF.nowT (t := 228) rfl hCs
                                                have hC : 6 ≤ cAt F.code p ∧ cAt F.code p ≤ 12 := by omega
                                                have htk := tk_sum hC
                                                refine wp_seq_k fun K105 hK105 => ?_
                                                refine wp_draw2S hS [(0, 0), (1, 0), (2, 0), (3, 1), (4, 0), (5, 0), (6, 1)] [[(7, 2), (8, 0), (9, 0), (10, 0), (11, 2), (12, 3), (13, 0)], [(11, 2), (7, 2), (8, 0), (9, 0), (10, 0), (12, 3), (13, 0)]] mix (by kernel_rfl) (hP.block.then.block.then.block.then) fun w hS => ?_
                                                have hD := hS
                                                refine dq hF rfl (wn rfl) rfl rfl (fun w => R.move (hF.ev rfl)) fun a hF => ?_
                                                refine dq hF rfl (wn rfl) rfl rfl (fun w => R.move (hF.ev rfl)) fun a hF => ?_
                                                refine dq hF rfl (wn rfl) rfl rfl (fun w => R.indexO Try.underlying32 sz31 (hF.ev rfl) (Rd.ne (hO136.rd hS .h) (by rw [wcs_length, List.length_drop]; omega)) (hF.ev rfl) (by omega) (by omega)) fun a hF => ?_
                                                refine dr hF rfl (wn rfl) rfl rfl hD (fun w hD => R.loadAO (cs := wc (uN F stk p 0)) agg31 (hF.ev rfl) (hO136.rd hD .h) sz31 rfl (Nat.succ_pos _) (wcs_at (k := 0) (by omega) (by omega))) fun a hF => ?_
                                                refine dq hF rfl (wn rfl) rfl rfl (fun w => R.move (hF.ev rfl)) fun a hF => ?_
                                                refine dq hF rfl (wn rfl) rfl rfl (fun w => R.indexO Try.underlying32 sz31 (hF.ev rfl) (Rd.ne (hO136.rd hS .h) (by rw [wcs_length, List.length_drop]; omega)) (hF.ev rfl) (by omega) (by omega)) fun a hF => ?_
                                                refine dr hF rfl (wn rfl) rfl rfl hD (fun w hD => R.loadAO (cs := wc (uN F stk p 1)) agg31 (hF.ev rfl) (hO136.rd hD .h) sz31 rfl (Nat.succ_pos _) (wcs_at (k := 1) (by omega) (by omega))) fun a hF => ?_
                                                refine d0 ?_
                                                refine alts2 ?_ ?_
                                                ·
                                                  refine dl rfl (wn rfl) (O.call rfl rfl hF ent30 (hF.evs rfl) hS (sum2_calls (cAt F.code p) (uN F stk p 0) (uN F stk p 1) w hC (uN_lt hW 0) (uN_lt hW 1)) fun v s244 a w hR hF hS => ⟨fun hD => hS.tail, ?_⟩)
                                                  obtain ⟨⟨r3, ok3, rfl, hok, hno⟩, rfl⟩ := hR
                                                  have hD := hS.tail
                                                  refine dq hF rfl (wn rfl) rfl rfl (fun w => R.move (hF.ev rfl)) fun a hF => ?_
                                                  refine dq hF rfl (wn rfl) rfl rfl (fun w => R.extract (hF.ev rfl) rfl) fun a hF => ?_
                                                  refine dq hF rfl (wn rfl) rfl rfl (fun w => R.extract (hF.ev rfl) rfl) fun a hF => ?_
                                                  refine dl rfl (wn rfl) (O.alloc rfl rfl hF ze31 rfl hS fun b23 a w hF hS => ⟨fun hD => hS.tail.tail, ?_⟩)
                                                  have hD := hS.tail.tail
                                                  refine dw rfl (wn rfl) (O.storeW sz31 (hF.ev rfl) (hF.ev rfl) (rfl) rfl (by simp [Value.oneCell']) hS .h (rfl) fun w hS => ?_)
                                                  refine dq hF rfl (wn rfl) rfl rfl (fun w => R.assign (hF.ev rfl)) fun a hF => ?_
                                                  refine d0 ?_
                                                  refine then_n (hK105 _ _ ?_)
                                                  refine wp_seq_k fun K106 hK106 => ?_
                                                  refine wp_seq_k fun K107 hK107 => ?_
                                                  refine wp_region_lit ?_
                                                  refine sv' hF (wn rfl) rfl rfl (R.move (hF.ev rfl)) fun a hF => ?_
                                                  refine sv' hF (wn rfl) rfl rfl (R.as (u := .bool (decide (ok3 = false))) (R.not (hF.ev rfl)) (by cases ok3 <;> rfl)) fun a hF => ?_
                                                  refine s0 ?_
                                                  refine then_n (hK107 _ _ ?_)
                                                  refine cD hF rfl (fun c22 => ?_) (fun c22 => ?_)
                                                  ·
                                                    have hpl := play_err hc hcl (by decide) (hrun.trans (runN_err (e := 104) (sum_bad hdo hC (hno c22))))
                                                    refine wp_seq_k fun K108 hK108 => ?_
                                                    refine wp_region_lit ?_
                                                    refine sv' hF (wn rfl) rfl rfl (R.buildStr (l := [_, _, _, _, _]) Try.underlying39 ze39 pl39 (hF.evp rfl) rfl) fun a hF => ?_
                                                    refine sv' hF (wn rfl) rfl rfl (R.move (hF.ev rfl)) fun a hF => ?_
                                                    refine so (wn rfl) (O.storeW sz39 (hF.ev rfl) (hF.ev rfl) (rfl) rfl (by simp [Value.oneCell']) hS (.t (.t (.t (.t (.t (.t (.t .h))))))) (rfl) fun w hS => ?_)
                                                    refine sv' hF (wn rfl) rfl rfl (R.assign (hF.ev rfl)) fun a hF => ?_
                                                    refine sv' hF (wn rfl) rfl rfl (R.assign (hF.ev rfl)) fun a hF => ?_
                                                    refine s0 ?_
                                                    refine then_n (hK108 _ _ ?_)
                                                    refine wp_ret (then_r (blk_r (then_r (blk_r (then_r (blk_r (hR _ _ _ _ _ hF (run_results Try.results14 (.cw hF rfl agg39 hS (.t (.t (.t (.t (.t (.t (.t .h))))))) sz39 (rfl) (.t hF rfl (.t hF rfl (.nil))))) ?_)))))))
                                                    rw [hpl]
                                                    exact ⟨_, z10, rfl, runR A10 c10 (by kernel_rfl) hO10, hS.one (.t (.t (.t (.t (.t .h)))))⟩
                                                  ·
                                                    have hok3 : ok3 = true := by (cases ok3; exact absurd rfl c22; rfl)
                                                    refine wp_skip ?_
                                                    refine then_n (hK106 _ _ ?_)
                                                    refine wp_region_lit ?_
                                                    refine sv' hF (wn rfl) rfl rfl (R.loadW agg31 (hF.ev rfl) hS .h sz31 (rfl)) fun a hF => ?_
                                                    refine so (wn rfl) (O.buildSlice (l := [_, _, _, _]) rfl rfl hF Try.underlying32 inf31 rfl rfl (hF.evp rfl) (by decide) rfl hS fun b252 a w hF hS => ?_)
                                                    refine sv' hF (wn rfl) rfl rfl (R.assign (hF.ev rfl)) fun a hF => ?_
                                                    refine s0 ?_
                                                    refine blk_n ?_
                                                    exact then_n (hK32' _ _ ⟨stk, [r3], _, asks, _, _, _, _, _, _, _, hF.sub ⟨rfl, rfl, rfl, rfl, rfl, rfl, rfl, rfl, rfl, rfl, rfl, trivial⟩, hS.sel [5, 6, 0, 7, 8] rfl rfl, hO9, hO10, own_w1 b252 _, mid_sum hdo hC (hok hok3)⟩)
                                                ·
                                                  refine dl rfl (wn rfl) (O.alloc rfl rfl hF ze31 rfl hS fun b23 a w hF hS => ⟨fun hD => hS.tail, ?_⟩)
                                                  have hD := hS.tail
                                                  refine dl rfl (wn rfl) (O.call rfl rfl hF ent30 (hF.evs rfl) hS (sum2_calls (cAt F.code p) (uN F stk p 0) (uN F stk p 1) w hC (uN_lt hW 0) (uN_lt hW 1)) fun v s244 a w hR hF hS => ⟨fun hD => hS.tail.tail, ?_⟩)
                                                  obtain ⟨⟨r3, ok3, rfl, hok, hno⟩, rfl⟩ := hR
                                                  have hD := hS.tail.tail
                                                  refine dq hF rfl (wn rfl) rfl rfl (fun w => R.move (hF.ev rfl)) fun a hF => ?_
                                                  refine dq hF rfl (wn rfl) rfl rfl (fun w => R.extract (hF.ev rfl) rfl) fun a hF => ?_
                                                  refine dq hF rfl (wn rfl) rfl rfl (fun w => R.extract (hF.ev rfl) rfl) fun a hF => ?_
                                                  refine dw rfl (wn rfl) (O.storeW sz31 (hF.ev rfl) (hF.ev rfl) (rfl) rfl (by simp [Value.oneCell']) hS (.t .h) (rfl) fun w hS => ?_)
                                                  refine dq hF rfl (wn rfl) rfl rfl (fun w => R.assign (hF.ev rfl)) fun a hF => ?_
                                                  refine d0 ?_
                                                  refine then_n (hK105 _ _ ?_)
                                                  refine wp_seq_k fun K109 hK109 => ?_
                                                  refine wp_seq_k fun K110 hK110 => ?_
                                                  refine wp_region_lit ?_
                                                  refine sv' hF (wn rfl) rfl rfl (R.move (hF.ev rfl)) fun a hF => ?_
                                                  refine sv' hF (wn rfl) rfl rfl (R.as (u := .bool (decide (ok3 = false))) (R.not (hF.ev rfl)) (by cases ok3 <;> rfl)) fun a hF => ?_
                                                  refine s0 ?_
                                                  refine then_n (hK110 _ _ ?_)
                                                  refine cD hF rfl (fun c22 => ?_) (fun c22 => ?_)
                                                  ·
                                                    have hpl := play_err hc hcl (by decide) (hrun.trans (runN_err (e := 104) (sum_bad hdo hC (hno c22))))
                                                    refine wp_seq_k fun K111 hK111 => ?_
                                                    refine wp_region_lit ?_
                                                    refine sv' hF (wn rfl) rfl rfl (R.buildStr (l := [_, _, _, _, _]) Try.underlying39 ze39 pl39 (hF.evp rfl) rfl) fun a hF => ?_
                                                    refine sv' hF (wn rfl) rfl rfl (R.move (hF.ev rfl)) fun a hF => ?_
                                                    refine so (wn rfl) (O.storeW sz39 (hF.ev rfl) (hF.ev rfl) (rfl) rfl (by simp [Value.oneCell']) hS (.t (.t (.t (.t (.t (.t (.t .h))))))) (rfl) fun w hS => ?_)
                                                    refine sv' hF (wn rfl) rfl rfl (R.assign (hF.ev rfl)) fun a hF => ?_
                                                    refine sv' hF (wn rfl) rfl rfl (R.assign (hF.ev rfl)) fun a hF => ?_
                                                    refine s0 ?_
                                                    refine then_n (hK111 _ _ ?_)
                                                    refine wp_ret (then_r (blk_r (then_r (blk_r (then_r (blk_r (hR _ _ _ _ _ hF (run_results Try.results14 (.cw hF rfl agg39 hS (.t (.t (.t (.t (.t (.t (.t .h))))))) sz39 (rfl) (.t hF rfl (.t hF rfl (.nil))))) ?_)))))))
                                                    rw [hpl]
                                                    exact ⟨_, z10, rfl, runR A10 c10 (by kernel_rfl) hO10, hS.one (.t (.t (.t (.t (.t .h)))))⟩
                                                  ·
                                                    have hok3 : ok3 = true := by (cases ok3; exact absurd rfl c22; rfl)
                                                    refine wp_skip ?_
                                                    refine then_n (hK109 _ _ ?_)
                                                    refine wp_region_lit ?_
                                                    refine sv' hF (wn rfl) rfl rfl (R.loadW agg31 (hF.ev rfl) hS (.t .h) sz31 (rfl)) fun a hF => ?_
                                                    refine so (wn rfl) (O.buildSlice (l := [_, _, _, _]) rfl rfl hF Try.underlying32 inf31 rfl rfl (hF.evp rfl) (by decide) rfl hS fun b252 a w hF hS => ?_)
                                                    refine sv' hF (wn rfl) rfl rfl (R.assign (hF.ev rfl)) fun a hF => ?_
                                                    refine s0 ?_
                                                    refine blk_n ?_
                                                    exact then_n (hK32' _ _ ⟨stk, [r3], _, asks, _, _, _, _, _, _, _, hF.sub ⟨rfl, rfl, rfl, rfl, rfl, rfl, rfl, rfl, rfl, rfl, rfl, trivial⟩, hS.sel [5, 6, 0, 7, 8] rfl rfl, hO9, hO10, own_w1 b252 _, mid_sum hdo hC (hok hok3)⟩)
                                              ·
                                                have hF := hF.nowF (t := 228) rfl hCs
                                                refine wp_seq_k fun K112 hK112 => ?_
                                                refine wp_region_lit ?_
                                                refine sv' hF (wn rfl) rfl rfl (R.eql (hF.ev rfl) (hF.ev rfl)) fun a hF => ?_
                                                refine sv' hF (wn rfl) rfl rfl (R.assign (hF.ev rfl)) fun a hF => ?_
                                                refine s0 ?_
                                                refine then_n (hK112 _ _ ?_)
                                                refine cD hF rfl (fun hC13 => ?_) (fun hC13 => ?_)
                                                ·
                                                  have htk : takesN (cAt F.code p) = takesN 13 := tk_is (by omega); rw [show takesN 13 = 1 from rfl] at htk
                                                  refine wp_region_lit ?_
                                                  refine sv' hF (wn rfl) rfl rfl (R.move (hF.ev rfl)) fun a hF => ?_
                                                  refine sv' hF (wn rfl) rfl rfl (R.indexO Try.underlying32 sz31 (hF.ev rfl) (Rd.ne (hO136.rd hS .h) (by rw [wcs_length, List.length_drop]; omega)) (hF.ev rfl) (by omega) (by omega)) fun a hF => ?_
                                                  refine sv' hF (wn rfl) rfl rfl (R.loadAO (cs := wc (uN F stk p 0)) agg31 (hF.ev rfl) (hO136.rd hS .h) sz31 rfl (Nat.succ_pos _) (wcs_at (k := 0) (by omega) (by omega))) fun a hF => ?_
                                                  refine so (wn rfl) (O.call rfl rfl hF ent32 (hF.evs rfl) hS (nought_calls (uN F stk p 0) w (uN_lt hW 0)) fun v s258 a w hR hF hS => ?_)
                                                  obtain ⟨rfl, rfl⟩ := hR
                                                  refine so (wn rfl) (O.call rfl rfl hF ent31 (hF.evs rfl) hS (rtruth_calls (uN F stk p 0 = 0) w) fun v s259 a w hR hF hS => ?_)
                                                  obtain ⟨rfl, rfl⟩ := hR
                                                  refine so (wn rfl) (O.buildSlice (l := [_, _, _, _]) rfl rfl hF Try.underlying32 inf31 rfl rfl (hF.evp rfl) (by decide) rfl hS fun b260 a w hF hS => ?_)
                                                  refine sv' hF (wn rfl) rfl rfl (R.assign (hF.ev rfl)) fun a hF => ?_
                                                  refine s0 ?_
                                                  refine blk_n ?_
                                                  exact then_n (hK32' _ _ ⟨stk, [bit1 (decide (uN F stk p 0 = 0))], _, asks, _, _, _, _, _, _, _, hF.sub ⟨rfl, rfl, rfl, rfl, rfl, rfl, rfl, rfl, rfl, rfl, rfl, trivial⟩, hS.sel [5, 6, 0, 7, 8] rfl rfl, hO9, hO10, own_w1 b260 _, mid_not hdo (by omega)⟩)
                                                ·
                                                  refine wp_seq_k fun K113 hK113 => ?_
                                                  refine wp_region_lit ?_
                                                  refine sv' hF (wn rfl) rfl rfl (R.eql (hF.ev rfl) (hF.ev rfl)) fun a hF => ?_
                                                  refine sv' hF (wn rfl) rfl rfl (R.assign (hF.ev rfl)) fun a hF => ?_
                                                  refine s0 ?_
                                                  refine then_n (hK113 _ _ ?_)
                                                  refine cD hF rfl (fun hC14 => ?_) (fun hC14 => ?_)
                                                  ·
                                                    have hsz3 := sz_three hs (by omega)
                                                    refine wp_region_lit ?_
                                                    refine sv' hF (wn rfl) rfl rfl (R.move (hF.ev rfl)) fun a hF => ?_
                                                    refine sv' hF (wn rfl) rfl rfl (R.move (hF.ev rfl)) fun a hF => ?_
                                                    refine so (wn rfl) (O.call rfl rfl hF ent24 (hF.evs rfl) hS (rtarget_calls F.cA F.code.length F.cc F.code p w (hpi.code.old hS) rfl hpi.ok.cap hpi.ok.cap2 hpi.ok.byt (by omega)) fun v s265 a w hR hF hS => ?_)
                                                    obtain ⟨rfl, rfl⟩ := hR
                                                    refine sv' hF (wn rfl) rfl rfl (R.assign (hF.ev rfl)) fun a hF => ?_
                                                    refine s0 ?_
                                                    refine blk_n ?_
                                                    have hS := hS.cons0
                                                    exact then_n (hK32' _ _ ⟨stk, [], _, asks, _, _, _, _, _, _, _, hF.sub ⟨rfl, rfl, rfl, rfl, rfl, rfl, rfl, rfl, rfl, rfl, rfl, trivial⟩, hS.sel [4, 5, 0, 6, 7] rfl rfl, hO9, hO10, OwnS.nil 31 4, mid_jump hdo (by omega)⟩)
                                                  ·
                                                    refine wp_seq_k fun K114 hK114 => ?_
                                                    refine wp_region_lit ?_
                                                    refine sv' hF (wn rfl) rfl rfl (R.eql (hF.ev rfl) (hF.ev rfl)) fun a hF => ?_
                                                    refine sv' hF (wn rfl) rfl rfl (R.assign (hF.ev rfl)) fun a hF => ?_
                                                    refine s0 ?_
                                                    refine then_n (hK114 _ _ ?_)
                                                    refine cD hF rfl (fun hC15 => ?_) (fun hC15 => ?_)
                                                    ·
                                                      have htk : takesN (cAt F.code p) = takesN 15 := tk_is (by omega); rw [show takesN 15 = 1 from rfl] at htk
                                                      have hsz3 := sz_three hs (by omega)
                                                      refine wp_seq_k fun K115 hK115 => ?_
                                                      refine wp_region_lit ?_
                                                      refine sv' hF (wn rfl) rfl rfl (R.move (hF.ev rfl)) fun a hF => ?_
                                                      refine sv' hF (wn rfl) rfl rfl (R.indexO Try.underlying32 sz31 (hF.ev rfl) (Rd.ne (hO136.rd hS .h) (by rw [wcs_length, List.length_drop]; omega)) (hF.ev rfl) (by omega) (by omega)) fun a hF => ?_
                                                      refine sv' hF (wn rfl) rfl rfl (R.loadAO (cs := wc (uN F stk p 0)) agg31 (hF.ev rfl) (hO136.rd hS .h) sz31 rfl (Nat.succ_pos _) (wcs_at (k := 0) (by omega) (by omega))) fun a hF => ?_
                                                      refine so (wn rfl) (O.call rfl rfl hF ent32 (hF.evs rfl) hS (nought_calls (uN F stk p 0) w (uN_lt hW 0)) fun v s271 a w hR hF hS => ?_)
                                                      obtain ⟨rfl, rfl⟩ := hR
                                                      refine sv' hF (wn rfl) rfl rfl ((by first | exact R.notD (hF.ev rfl) | exact R.not (hF.ev rfl))) fun a hF => ?_
                                                      refine s0 ?_
                                                      refine then_n (hK115 _ _ ?_)
                                                      refine cD hF rfl (fun c26 => ?_) (fun c26 => ?_)
                                                      ·
                                                        refine wp_region_lit ?_
                                                        refine sv' hF (wn rfl) rfl rfl (R.move (hF.ev rfl)) fun a hF => ?_
                                                        refine sv' hF (wn rfl) rfl rfl (R.move (hF.ev rfl)) fun a hF => ?_
                                                        refine so (wn rfl) (O.call rfl rfl hF ent24 (hF.evs rfl) hS (rtarget_calls F.cA F.code.length F.cc F.code p w (hpi.code.old hS) rfl hpi.ok.cap hpi.ok.cap2 hpi.ok.byt (by omega)) fun v s275 a w hR hF hS => ?_)
                                                        obtain ⟨rfl, rfl⟩ := hR
                                                        refine sv' hF (wn rfl) rfl rfl (R.assign (hF.ev rfl)) fun a hF => ?_
                                                        refine s0 ?_
                                                        refine blk_n ?_
                                                        have hS := hS.cons0
                                                        exact then_n (hK32' _ _ ⟨stk, [], _, asks, _, _, _, _, _, _, _, hF.sub ⟨rfl, rfl, rfl, rfl, rfl, rfl, rfl, rfl, rfl, rfl, rfl, trivial⟩, hS.sel [5, 6, 0, 7, 8] rfl rfl, hO9, hO10, OwnS.nil 31 4, mid_whenT hdo (by omega) c26⟩)
                                                      ·
                                                        refine wp_skip ?_
                                                        refine blk_n ?_
                                                        have hS := hS.cons0
                                                        exact then_n (hK32' _ _ ⟨stk, [], _, asks, _, _, _, _, _, _, _, hF.sub ⟨rfl, rfl, rfl, rfl, rfl, rfl, rfl, rfl, rfl, rfl, rfl, trivial⟩, hS.sel [4, 5, 0, 6, 7] rfl rfl, hO9, hO10, OwnS.nil 31 4, mid_whenF hdo (by omega) c26⟩)
                                                    ·
                                                      refine wp_seq_k fun K116 hK116 => ?_
                                                      refine wp_region_lit ?_
                                                      refine sv' hF (wn rfl) rfl rfl (R.eql (hF.ev rfl) (hF.ev rfl)) fun a hF => ?_
                                                      refine sv' hF (wn rfl) rfl rfl (R.assign (hF.ev rfl)) fun a hF => ?_
                                                      refine s0 ?_
                                                      refine then_n (hK116 _ _ ?_)
                                                      refine cD hF rfl (fun hC24 => ?_) (fun hC24 => ?_)
                                                      ·
                                                        have htk : takesN (cAt F.code p) = takesN 24 := tk_is (by omega); rw [show takesN 24 = 1 from rfl] at htk
                                                        refine wp_region_lit ?_
                                                        refine sv' hF (wn rfl) rfl rfl (R.move (hF.ev rfl)) fun a hF => ?_
                                                        refine sv' hF (wn rfl) rfl rfl (R.move (hF.ev rfl)) fun a hF => ?_
                                                        refine sv' hF (wn rfl) rfl rfl (R.indexO Try.underlying32 sz31 (hF.ev rfl) (Rd.ne (hO136.rd hS .h) (by rw [wcs_length, List.length_drop]; omega)) (hF.ev rfl) (by omega) (by omega)) fun a hF => ?_
                                                        refine sv' hF (wn rfl) rfl rfl (R.loadAO (cs := wc (uN F stk p 0)) agg31 (hF.ev rfl) (hO136.rd hS .h) sz31 rfl (Nat.succ_pos _) (wcs_at (k := 0) (by omega) (by omega))) fun a hF => ?_
                                                        refine sv' hF (wn rfl) rfl rfl (R.buildStr (l := askc ⟨1, uN F stk p 0, 0, 0, 0⟩) Try.underlying72 ze72 pl72 (hF.evp rfl) (by kernel_rfl)) fun a hF => ?_
                                                        refine so (wn rfl) (O.buildSlice (l := askc ⟨1, uN F stk p 0, 0, 0, 0⟩) rfl rfl hF Try.underlying40 inf72 rfl rfl (hF.evp rfl) (by decide) rfl hS fun b283 a w hF hS => ?_)
                                                        refine so (wn rfl) (O.append rfl rfl hF Try.underlying40 inf72 rfl rfl (by decide) (hF.ev rfl) (hF.ev rfl) hS hO10 (fun _ => (.t (.t (.t (.t .h))))) (Rd.own0 hS .h) (rfl) (one_askc3 _) (by unfold maxLen; omega) (by omega) fun A284 c284 s284 a w hO284 hF hS => ?_)
                                                        refine sv' hF (wn rfl) rfl rfl (R.assign (hF.ev rfl)) fun a hF => ?_
                                                        refine s0 ?_
                                                        refine blk_n ?_
                                                        have hS := hS.cons0
                                                        exact then_n (hK32' _ _ ⟨stk, [], _, _, _, _, _, _, _, _, _, hF.sub ⟨rfl, rfl, rfl, rfl, rfl, (by rw [List.length_append]; rfl), rfl, rfl, rfl, rfl, rfl, trivial⟩, hS.sel [4, 5, 0, 6, 7] rfl rfl, hO9, own_askL hO284, OwnS.nil 31 4, mid_ask hdo (by omega) (ask_24 (by omega))⟩)
                                                      ·
                                                        refine wp_seq_k fun K117 hK117 => ?_
                                                        refine wp_region_lit ?_
                                                        refine sv' hF (wn rfl) rfl rfl (R.eql (hF.ev rfl) (hF.ev rfl)) fun a hF => ?_
                                                        refine sv' hF (wn rfl) rfl rfl (R.assign (hF.ev rfl)) fun a hF => ?_
                                                        refine s0 ?_
                                                        refine then_n (hK117 _ _ ?_)
                                                        refine cD hF rfl (fun hC25 => ?_) (fun hC25 => ?_)
                                                        ·
                                                          have htk : takesN (cAt F.code p) = takesN 25 := tk_is (by omega); rw [show takesN 25 = 2 from rfl] at htk
                                                          refine wp_drawG hS (hS.sel [0] rfl rfl) [(0, 0), (1, 0), (2, 0), (3, 1), (4, 0), (5, 0), (6, 1), (7, 0), (8, 2), (9, 2), (10, 0)] mix (by kernel_rfl) (hP.block.then.block.then.block) fun w hS hD => ?_
                                                          refine dq hF rfl (wn rfl) rfl rfl (fun w => R.move (hF.ev rfl)) fun a hF => ?_
                                                          refine dq hF rfl (wn rfl) rfl rfl (fun w => R.move (hF.ev rfl)) fun a hF => ?_
                                                          refine dq hF rfl (wn rfl) rfl rfl (fun w => R.indexO Try.underlying32 sz31 (hF.ev rfl) (Rd.ne (hO136.rd hS .h) (by rw [wcs_length, List.length_drop]; omega)) (hF.ev rfl) (by omega) (by omega)) fun a hF => ?_
                                                          refine dr hF rfl (wn rfl) rfl rfl hD (fun w hD => R.loadAO (cs := wc (uN F stk p 0)) agg31 (hF.ev rfl) (hO136.rd hD .h) sz31 rfl (Nat.succ_pos _) (wcs_at (k := 0) (by omega) (by omega))) fun a hF => ?_
                                                          refine dq hF rfl (wn rfl) rfl rfl (fun w => R.move (hF.ev rfl)) fun a hF => ?_
                                                          refine dq hF rfl (wn rfl) rfl rfl (fun w => R.indexO Try.underlying32 sz31 (hF.ev rfl) (Rd.ne (hO136.rd hS .h) (by rw [wcs_length, List.length_drop]; omega)) (hF.ev rfl) (by omega) (by omega)) fun a hF => ?_
                                                          refine dr hF rfl (wn rfl) rfl rfl hD (fun w hD => R.loadAO (cs := wc (uN F stk p 1)) agg31 (hF.ev rfl) (hO136.rd hD .h) sz31 rfl (Nat.succ_pos _) (wcs_at (k := 1) (by omega) (by omega))) fun a hF => ?_
                                                          refine dq hF rfl (wn rfl) rfl rfl (fun w => R.buildStr (l := askc ⟨2, uN F stk p 0, uN F stk p 1, 0, 0⟩) Try.underlying72 ze72 pl72 (hF.evp rfl) (by kernel_rfl)) fun a hF => ?_
                                                          refine dl rfl (wn rfl) (O.buildSlice (l := askc ⟨2, uN F stk p 0, uN F stk p 1, 0, 0⟩) rfl rfl hF Try.underlying40 inf72 rfl rfl (hF.evp rfl) (by decide) rfl hS fun b295 a w hF hS => ⟨fun hD => hS.sel [1] rfl rfl, ?_⟩)
                                                          have hD := hS.sel [1] rfl rfl
                                                          refine dl rfl (wn rfl) (O.append rfl rfl hF Try.underlying40 inf72 rfl rfl (by decide) (hF.ev rfl) (hF.ev rfl) hS hO10 (fun _ => (.t (.t (.t (.t .h))))) (Rd.own0 hS .h) (rfl) (one_askc3 _) (by unfold maxLen; omega) (by omega) fun A296 c296 s296 a w hO296 hF hS => ⟨fun hD => hS.sel [1] rfl rfl, ?_⟩)
                                                          have hD := hS.sel [1] rfl rfl
                                                          refine dq hF rfl (wn rfl) rfl rfl (fun w => R.assign (hF.ev rfl)) fun a hF => ?_
                                                          refine d0 ?_
                                                          refine blk_n ?_
                                                          have hS := hS.cons0
                                                          exact then_n (hK32' _ _ ⟨stk, [], _, _, _, _, _, _, _, _, _, hF.sub ⟨rfl, rfl, rfl, rfl, rfl, (by rw [List.length_append]; rfl), rfl, rfl, rfl, rfl, rfl, trivial⟩, hS.sel [4, 5, 0, 6, 7] rfl rfl, hO9, own_askL hO296, OwnS.nil 31 4, mid_ask hdo (by omega) (ask_25 (by omega))⟩)
                                                        ·
                                                          refine wp_seq_k fun K118 hK118 => ?_
                                                          refine wp_seq_k fun K119 hK119 => ?_
                                                          refine wp_region_lit ?_
                                                          refine sv' hF (wn rfl) rfl rfl (R.eql (hF.ev rfl) (hF.ev rfl)) fun a hF => ?_
                                                          refine sv' hF (wn rfl) rfl rfl (R.assign (hF.ev rfl)) fun a hF => ?_
                                                          refine s0 ?_
                                                          refine then_n (hK119 _ _ ?_)
                                                          refine cD hF rfl (fun hCt => ?_) (fun hCt => ?_)
                                                          ·
                                                            have hF := hF.nowT (t := 297) rfl hCt
                                                            have hC : cAt F.code p = 26 ∨ cAt F.code p = 27 := by omega
                                                            have htk2 : 2 ≤ takesN (cAt F.code p) := by (rcases hC with h | h <;> rw [h] <;> decide)
                                                            refine wp_skip ?_
                                                            refine then_n (hK118 _ _ ?_)
                                                            refine cT hF rfl ?_
                                                            refine wp_seq_k fun K120 hK120 => ?_
                                                            refine wp_region_lit ?_
                                                            refine sv' hF (wn rfl) rfl rfl (R.move (hF.ev rfl)) fun a hF => ?_
                                                            refine sv' hF (wn rfl) rfl rfl (R.indexO Try.underlying32 sz31 (hF.ev rfl) (Rd.ne (hO136.rd hS .h) (by rw [wcs_length, List.length_drop]; omega)) (hF.ev rfl) (by omega) (by omega)) fun a hF => ?_
                                                            refine sv' hF (wn rfl) rfl rfl (R.loadAO (cs := wc (uN F stk p 0)) agg31 (hF.ev rfl) (hO136.rd hS .h) sz31 rfl (Nat.succ_pos _) (wcs_at (k := 0) (by omega) (by omega))) fun a hF => ?_
                                                            refine so (wn rfl) (O.call rfl rfl hF ent33 (hF.evs rfl) hS (token_calls (uN F stk p 0) w (uN_lt hW 0) (tok_iff (uN_lt hW 0))) fun v s303 a w hR hF hS => ?_)
                                                            obtain ⟨rfl, rfl⟩ := hR
                                                            refine sv' hF (wn rfl) rfl rfl (R.assign (hF.ev rfl)) fun a hF => ?_
                                                            refine s0 ?_
                                                            refine then_n (hK120 _ _ ?_)
                                                            refine wp_seq_k fun K121 hK121 => ?_
                                                            refine wp_seq_k fun K122 hK122 => ?_
                                                            refine wp_region_lit ?_
                                                            refine sv' hF (wn rfl) rfl rfl (R.move (hF.ev rfl)) fun a hF => ?_
                                                            refine sv' hF (wn rfl) rfl rfl (R.lss (hF.ev rfl) (hF.ev rfl)) fun a hF => ?_
                                                            refine s0 ?_
                                                            refine then_n (hK122 _ _ ?_)
                                                            refine cD hF rfl (fun c31 => ?_) (fun c31 => ?_)
                                                            ·
                                                              have hv0 : ¬ uN F stk p 0 < 64 := fun h => by rw [if_pos h] at c31; omega
                                                              have hpl := play_err hc hcl (by decide) (hrun.trans (runN_err (e := 104) (ask_bad hdo (by omega) (ask_no hC hv0))))
                                                              refine wp_seq_k fun K123 hK123 => ?_
                                                              refine wp_region_lit ?_
                                                              refine sv' hF (wn rfl) rfl rfl (R.buildStr (l := [_, _, _, _, _]) Try.underlying39 ze39 pl39 (hF.evp rfl) rfl) fun a hF => ?_
                                                              refine sv' hF (wn rfl) rfl rfl (R.move (hF.ev rfl)) fun a hF => ?_
                                                              refine so (wn rfl) (O.storeW sz39 (hF.ev rfl) (hF.ev rfl) (rfl) rfl (by simp [Value.oneCell']) hS (.t (.t (.t (.t (.t (.t .h)))))) (rfl) fun w hS => ?_)
                                                              refine sv' hF (wn rfl) rfl rfl (R.assign (hF.ev rfl)) fun a hF => ?_
                                                              refine sv' hF (wn rfl) rfl rfl (R.assign (hF.ev rfl)) fun a hF => ?_
                                                              refine s0 ?_
                                                              refine then_n (hK123 _ _ ?_)
                                                              refine wp_ret (then_r (blk_r (then_r (blk_r (then_r (blk_r (hR _ _ _ _ _ hF (run_results Try.results14 (.cw hF rfl agg39 hS (.t (.t (.t (.t (.t (.t .h)))))) sz39 (rfl) (.t hF rfl (.t hF rfl (.nil))))) ?_)))))))
                                                              rw [hpl]
                                                              exact ⟨_, z10, rfl, runR A10 c10 (by kernel_rfl) hO10, hS.one (.t (.t (.t (.t .h))))⟩
                                                            ·
                                                              have hv0 : uN F stk p 0 < 64 := Classical.byContradiction fun h => c31 (by rw [if_neg h]; decide)
                                                              rw [if_pos hv0] at hF
                                                              refine wp_skip ?_
                                                              refine then_n (hK121 _ _ ?_)
                                                              refine wp_seq_k fun K124 hK124 => ?_
                                                              refine wp_region_lit ?_
                                                              refine sv' hF (wn rfl) rfl rfl (R.move (hF.ev rfl)) fun a hF => ?_
                                                              refine sv' hF (wn rfl) rfl rfl (R.eql (hF.ev rfl) (hF.ev rfl)) fun a hF => ?_
                                                              refine s0 ?_
                                                              refine then_n (hK124 _ _ ?_)
                                                              refine cD hF rfl (fun c32 => ?_) (fun c32 => ?_)
                                                              ·
                                                                refine wp_region_lit ?_
                                                                refine sv' hF (wn rfl) rfl rfl (R.move (hF.ev rfl)) fun a hF => ?_
                                                                refine sv' hF (wn rfl) rfl rfl (R.move (hF.ev rfl)) fun a hF => ?_
                                                                refine sv' hF (wn rfl) rfl rfl (R.move (hF.ev rfl)) fun a hF => ?_
                                                                refine sv' hF (wn rfl) rfl rfl (R.indexO Try.underlying32 sz31 (hF.ev rfl) (Rd.ne (hO136.rd hS (.t .h)) (by rw [wcs_length, List.length_drop]; omega)) (hF.ev rfl) (by omega) (by omega)) fun a hF => ?_
                                                                refine sv' hF (wn rfl) rfl rfl (R.loadAO (cs := wc (uN F stk p 1)) agg31 (hF.ev rfl) (hO136.rd hS (.t .h)) sz31 rfl (Nat.succ_pos _) (wcs_at (k := 1) (by omega) (by omega))) fun a hF => ?_
                                                                refine so (wn rfl) (O.call rfl rfl hF ent34 (hF.evs rfl) hS (addr_calls (uN F stk p 1) w) fun v s315 a w hR hF hS => ?_)
                                                                obtain ⟨rfl, rfl⟩ := hR
                                                                refine sv' hF (wn rfl) rfl rfl (R.buildStr (l := askc ⟨3, 0, 0, uN F stk p 0, uN F stk p 1⟩) Try.underlying72 ze72 pl72 (hF.evp rfl) (by kernel_rfl)) fun a hF => ?_
                                                                refine so (wn rfl) (O.buildSlice (l := askc ⟨3, 0, 0, uN F stk p 0, uN F stk p 1⟩) rfl rfl hF Try.underlying40 inf72 rfl rfl (hF.evp rfl) (by decide) rfl hS fun b317 a w hF hS => ?_)
                                                                refine so (wn rfl) (O.append rfl rfl hF Try.underlying40 inf72 rfl rfl (by decide) (hF.ev rfl) (hF.ev rfl) hS hO10 (fun _ => (.t (.t (.t (.t (.t (.t .h))))))) (Rd.own0 hS .h) (rfl) (one_askc3 _) (by unfold maxLen; omega) (by omega) fun A318 c318 s318 a w hO318 hF hS => ?_)
                                                                refine sv' hF (wn rfl) rfl rfl (R.assign (hF.ev rfl)) fun a hF => ?_
                                                                refine s0 ?_
                                                                refine blk_n ?_
                                                                have hS := hS.cons0
                                                                exact then_n (hK32' _ _ ⟨stk, [], _, _, _, _, _, _, _, _, _, hF.sub ⟨rfl, rfl, rfl, rfl, rfl, (by rw [List.length_append]; rfl), rfl, rfl, rfl, rfl, rfl, trivial⟩, hS.sel [6, 7, 0, 8, 9] rfl rfl, hO9, own_askL hO318, OwnS.nil 31 4, mid_ask hdo (by omega) (ask_26 (by omega) hv0)⟩)
                                                              ·
                                                                have htk : takesN (cAt F.code p) = takesN 27 := tk_is (by omega); rw [show takesN 27 = 3 from rfl] at htk
                                                                refine wp_drawG hS (hS.sel [1] rfl rfl) [(0, 0), (1, 0), (2, 0), (3, 0), (4, 1), (6, 0), (7, 0), (8, 1), (5, 2), (9, 0), (10, 2), (11, 2), (12, 0)] mix (by kernel_rfl) (hP.block.then.block.then.block) fun w hS hD => ?_
                                                                refine dq hF rfl (wn rfl) rfl rfl (fun w => R.move (hF.ev rfl)) fun a hF => ?_
                                                                refine dq hF rfl (wn rfl) rfl rfl (fun w => R.move (hF.ev rfl)) fun a hF => ?_
                                                                refine dq hF rfl (wn rfl) rfl rfl (fun w => R.move (hF.ev rfl)) fun a hF => ?_
                                                                refine dq hF rfl (wn rfl) rfl rfl (fun w => R.indexO Try.underlying32 sz31 (hF.ev rfl) (Rd.ne (hO136.rd hS (.t .h)) (by rw [wcs_length, List.length_drop]; omega)) (hF.ev rfl) (by omega) (by omega)) fun a hF => ?_
                                                                refine dr hF rfl (wn rfl) rfl rfl hD (fun w hD => R.loadAO (cs := wc (uN F stk p 1)) agg31 (hF.ev rfl) (hO136.rd hD .h) sz31 rfl (Nat.succ_pos _) (wcs_at (k := 1) (by omega) (by omega))) fun a hF => ?_
                                                                refine dq hF rfl (wn rfl) rfl rfl (fun w => R.move (hF.ev rfl)) fun a hF => ?_
                                                                refine dq hF rfl (wn rfl) rfl rfl (fun w => R.indexO Try.underlying32 sz31 (hF.ev rfl) (Rd.ne (hO136.rd hS (.t .h)) (by rw [wcs_length, List.length_drop]; omega)) (hF.ev rfl) (by omega) (by omega)) fun a hF => ?_
                                                                refine dr hF rfl (wn rfl) rfl rfl hD (fun w hD => R.loadAO (cs := wc (uN F stk p 2)) agg31 (hF.ev rfl) (hO136.rd hD .h) sz31 rfl (Nat.succ_pos _) (wcs_at (k := 2) (by omega) (by omega))) fun a hF => ?_
                                                                refine dl rfl (wn rfl) (O.call rfl rfl hF ent34 (hF.evs rfl) hS (addr_calls (uN F stk p 1) w) fun v s324 a w hR hF hS => ⟨fun hD => hS.sel [2] rfl rfl, ?_⟩)
                                                                obtain ⟨rfl, rfl⟩ := hR
                                                                have hD := hS.sel [2] rfl rfl
                                                                refine dq hF rfl (wn rfl) rfl rfl (fun w => R.buildStr (l := askc ⟨4, uN F stk p 2, 0, uN F stk p 0, uN F stk p 1⟩) Try.underlying72 ze72 pl72 (hF.evp rfl) (by kernel_rfl)) fun a hF => ?_
                                                                refine dl rfl (wn rfl) (O.buildSlice (l := askc ⟨4, uN F stk p 2, 0, uN F stk p 0, uN F stk p 1⟩) rfl rfl hF Try.underlying40 inf72 rfl rfl (hF.evp rfl) (by decide) rfl hS fun b329 a w hF hS => ⟨fun hD => hS.sel [3] rfl rfl, ?_⟩)
                                                                have hD := hS.sel [3] rfl rfl
                                                                refine dl rfl (wn rfl) (O.append rfl rfl hF Try.underlying40 inf72 rfl rfl (by decide) (hF.ev rfl) (hF.ev rfl) hS hO10 (fun _ => (.t (.t (.t (.t (.t (.t .h))))))) (Rd.own0 hS .h) (rfl) (one_askc3 _) (by unfold maxLen; omega) (by omega) fun A330 c330 s330 a w hO330 hF hS => ⟨fun hD => hS.sel [3] rfl rfl, ?_⟩)
                                                                have hD := hS.sel [3] rfl rfl
                                                                refine dq hF rfl (wn rfl) rfl rfl (fun w => R.assign (hF.ev rfl)) fun a hF => ?_
                                                                refine d0 ?_
                                                                refine blk_n ?_
                                                                have hS := hS.cons0
                                                                exact then_n (hK32' _ _ ⟨stk, [], _, _, _, _, _, _, _, _, _, hF.sub ⟨rfl, rfl, rfl, rfl, rfl, (by rw [List.length_append]; rfl), rfl, rfl, rfl, rfl, rfl, trivial⟩, hS.sel [6, 7, 0, 8, 9] rfl rfl, hO9, own_askL hO330, OwnS.nil 31 4, mid_ask hdo (by omega) (ask_27 (by omega) hv0)⟩)
                                                          ·
                                                            have hF := hF.nowF (t := 297) rfl hCt
                                                            have hC9 : cAt F.code p ≠ 26 := by omega
                                                            refine wp_region_lit ?_
                                                            refine sv' hF (wn rfl) rfl rfl (R.eql (hF.ev rfl) (hF.ev rfl)) fun a hF => ?_
                                                            refine sv' hF (wn rfl) rfl rfl (R.assign (hF.ev rfl)) fun a hF => ?_
                                                            refine s0 ?_
                                                            refine then_n (hK118 _ _ ?_)
                                                            refine cD hF rfl (fun hCt => ?_) (fun hCt => ?_)
                                                            ·
                                                              have hF := hF.nowT (t := 297) rfl hCt
                                                              have hC : cAt F.code p = 26 ∨ cAt F.code p = 27 := by omega
                                                              have htk2 : 2 ≤ takesN (cAt F.code p) := by (rcases hC with h | h <;> rw [h] <;> decide)
                                                              refine wp_seq_k fun K125 hK125 => ?_
                                                              refine wp_region_lit ?_
                                                              refine sv' hF (wn rfl) rfl rfl (R.move (hF.ev rfl)) fun a hF => ?_
                                                              refine sv' hF (wn rfl) rfl rfl (R.indexO Try.underlying32 sz31 (hF.ev rfl) (Rd.ne (hO136.rd hS .h) (by rw [wcs_length, List.length_drop]; omega)) (hF.ev rfl) (by omega) (by omega)) fun a hF => ?_
                                                              refine sv' hF (wn rfl) rfl rfl (R.loadAO (cs := wc (uN F stk p 0)) agg31 (hF.ev rfl) (hO136.rd hS .h) sz31 rfl (Nat.succ_pos _) (wcs_at (k := 0) (by omega) (by omega))) fun a hF => ?_
                                                              refine so (wn rfl) (O.call rfl rfl hF ent33 (hF.evs rfl) hS (token_calls (uN F stk p 0) w (uN_lt hW 0) (tok_iff (uN_lt hW 0))) fun v s303 a w hR hF hS => ?_)
                                                              obtain ⟨rfl, rfl⟩ := hR
                                                              refine sv' hF (wn rfl) rfl rfl (R.assign (hF.ev rfl)) fun a hF => ?_
                                                              refine s0 ?_
                                                              refine then_n (hK125 _ _ ?_)
                                                              refine wp_seq_k fun K126 hK126 => ?_
                                                              refine wp_seq_k fun K127 hK127 => ?_
                                                              refine wp_region_lit ?_
                                                              refine sv' hF (wn rfl) rfl rfl (R.move (hF.ev rfl)) fun a hF => ?_
                                                              refine sv' hF (wn rfl) rfl rfl (R.lss (hF.ev rfl) (hF.ev rfl)) fun a hF => ?_
                                                              refine s0 ?_
                                                              refine then_n (hK127 _ _ ?_)
                                                              refine cD hF rfl (fun c31 => ?_) (fun c31 => ?_)
                                                              ·
                                                                have hv0 : ¬ uN F stk p 0 < 64 := fun h => by rw [if_pos h] at c31; omega
                                                                have hpl := play_err hc hcl (by decide) (hrun.trans (runN_err (e := 104) (ask_bad hdo (by omega) (ask_no hC hv0))))
                                                                refine wp_seq_k fun K128 hK128 => ?_
                                                                refine wp_region_lit ?_
                                                                refine sv' hF (wn rfl) rfl rfl (R.buildStr (l := [_, _, _, _, _]) Try.underlying39 ze39 pl39 (hF.evp rfl) rfl) fun a hF => ?_
                                                                refine sv' hF (wn rfl) rfl rfl (R.move (hF.ev rfl)) fun a hF => ?_
                                                                refine so (wn rfl) (O.storeW sz39 (hF.ev rfl) (hF.ev rfl) (rfl) rfl (by simp [Value.oneCell']) hS (.t (.t (.t (.t (.t (.t .h)))))) (rfl) fun w hS => ?_)
                                                                refine sv' hF (wn rfl) rfl rfl (R.assign (hF.ev rfl)) fun a hF => ?_
                                                                refine sv' hF (wn rfl) rfl rfl (R.assign (hF.ev rfl)) fun a hF => ?_
                                                                refine s0 ?_
                                                                refine then_n (hK128 _ _ ?_)
                                                                refine wp_ret (then_r (blk_r (then_r (blk_r (then_r (blk_r (hR _ _ _ _ _ hF (run_results Try.results14 (.cw hF rfl agg39 hS (.t (.t (.t (.t (.t (.t .h)))))) sz39 (rfl) (.t hF rfl (.t hF rfl (.nil))))) ?_)))))))
                                                                rw [hpl]
                                                                exact ⟨_, z10, rfl, runR A10 c10 (by kernel_rfl) hO10, hS.one (.t (.t (.t (.t .h))))⟩
                                                              ·
                                                                have hv0 : uN F stk p 0 < 64 := Classical.byContradiction fun h => c31 (by rw [if_neg h]; decide)
                                                                rw [if_pos hv0] at hF
                                                                refine wp_skip ?_
                                                                refine then_n (hK126 _ _ ?_)
                                                                refine wp_seq_k fun K129 hK129 => ?_
                                                                refine wp_region_lit ?_
                                                                refine sv' hF (wn rfl) rfl rfl (R.move (hF.ev rfl)) fun a hF => ?_
                                                                refine sv' hF (wn rfl) rfl rfl (R.eql (hF.ev rfl) (hF.ev rfl)) fun a hF => ?_
                                                                refine s0 ?_
                                                                refine then_n (hK129 _ _ ?_)
                                                                refine cD hF rfl (fun c32 => ?_) (fun c32 => ?_)
                                                                ·
                                                                  refine wp_region_lit ?_
                                                                  refine sv' hF (wn rfl) rfl rfl (R.move (hF.ev rfl)) fun a hF => ?_
                                                                  refine sv' hF (wn rfl) rfl rfl (R.move (hF.ev rfl)) fun a hF => ?_
                                                                  refine sv' hF (wn rfl) rfl rfl (R.move (hF.ev rfl)) fun a hF => ?_
                                                                  refine sv' hF (wn rfl) rfl rfl (R.indexO Try.underlying32 sz31 (hF.ev rfl) (Rd.ne (hO136.rd hS (.t .h)) (by rw [wcs_length, List.length_drop]; omega)) (hF.ev rfl) (by omega) (by omega)) fun a hF => ?_
                                                                  refine sv' hF (wn rfl) rfl rfl (R.loadAO (cs := wc (uN F stk p 1)) agg31 (hF.ev rfl) (hO136.rd hS (.t .h)) sz31 rfl (Nat.succ_pos _) (wcs_at (k := 1) (by omega) (by omega))) fun a hF => ?_
                                                                  refine so (wn rfl) (O.call rfl rfl hF ent34 (hF.evs rfl) hS (addr_calls (uN F stk p 1) w) fun v s315 a w hR hF hS => ?_)
                                                                  obtain ⟨rfl, rfl⟩ := hR
                                                                  refine sv' hF (wn rfl) rfl rfl (R.buildStr (l := askc ⟨3, 0, 0, uN F stk p 0, uN F stk p 1⟩) Try.underlying72 ze72 pl72 (hF.evp rfl) (by kernel_rfl)) fun a hF => ?_
                                                                  refine so (wn rfl) (O.buildSlice (l := askc ⟨3, 0, 0, uN F stk p 0, uN F stk p 1⟩) rfl rfl hF Try.underlying40 inf72 rfl rfl (hF.evp rfl) (by decide) rfl hS fun b317 a w hF hS => ?_)
                                                                  refine so (wn rfl) (O.append rfl rfl hF Try.underlying40 inf72 rfl rfl (by decide) (hF.ev rfl) (hF.ev rfl) hS hO10 (fun _ => (.t (.t (.t (.t (.t (.t .h))))))) (Rd.own0 hS .h) (rfl) (one_askc3 _) (by unfold maxLen; omega) (by omega) fun A318 c318 s318 a w hO318 hF hS => ?_)
                                                                  refine sv' hF (wn rfl) rfl rfl (R.assign (hF.ev rfl)) fun a hF => ?_
                                                                  refine s0 ?_
                                                                  refine blk_n ?_
                                                                  have hS := hS.cons0
                                                                  exact then_n (hK32' _ _ ⟨stk, [], _, _, _, _, _, _, _, _, _, hF.sub ⟨rfl, rfl, rfl, rfl, rfl, (by rw [List.length_append]; rfl), rfl, rfl, rfl, rfl, rfl, trivial⟩, hS.sel [6, 7, 0, 8, 9] rfl rfl, hO9, own_askL hO318, OwnS.nil 31 4, mid_ask hdo (by omega) (ask_26 (by omega) hv0)⟩)
                                                                ·
                                                                  have htk : takesN (cAt F.code p) = takesN 27 := tk_is (by omega); rw [show takesN 27 = 3 from rfl] at htk
                                                                  refine wp_drawG hS (hS.sel [1] rfl rfl) [(0, 0), (1, 0), (2, 0), (3, 0), (4, 1), (6, 0), (7, 0), (8, 1), (5, 2), (9, 0), (10, 2), (11, 2), (12, 0)] mix (by kernel_rfl) (hP.block.then.block.then.block) fun w hS hD => ?_
                                                                  refine dq hF rfl (wn rfl) rfl rfl (fun w => R.move (hF.ev rfl)) fun a hF => ?_
                                                                  refine dq hF rfl (wn rfl) rfl rfl (fun w => R.move (hF.ev rfl)) fun a hF => ?_
                                                                  refine dq hF rfl (wn rfl) rfl rfl (fun w => R.move (hF.ev rfl)) fun a hF => ?_
                                                                  refine dq hF rfl (wn rfl) rfl rfl (fun w => R.indexO Try.underlying32 sz31 (hF.ev rfl) (Rd.ne (hO136.rd hS (.t .h)) (by rw [wcs_length, List.length_drop]; omega)) (hF.ev rfl) (by omega) (by omega)) fun a hF => ?_
                                                                  refine dr hF rfl (wn rfl) rfl rfl hD (fun w hD => R.loadAO (cs := wc (uN F stk p 1)) agg31 (hF.ev rfl) (hO136.rd hD .h) sz31 rfl (Nat.succ_pos _) (wcs_at (k := 1) (by omega) (by omega))) fun a hF => ?_
                                                                  refine dq hF rfl (wn rfl) rfl rfl (fun w => R.move (hF.ev rfl)) fun a hF => ?_
                                                                  refine dq hF rfl (wn rfl) rfl rfl (fun w => R.indexO Try.underlying32 sz31 (hF.ev rfl) (Rd.ne (hO136.rd hS (.t .h)) (by rw [wcs_length, List.length_drop]; omega)) (hF.ev rfl) (by omega) (by omega)) fun a hF => ?_
                                                                  refine dr hF rfl (wn rfl) rfl rfl hD (fun w hD => R.loadAO (cs := wc (uN F stk p 2)) agg31 (hF.ev rfl) (hO136.rd hD .h) sz31 rfl (Nat.succ_pos _) (wcs_at (k := 2) (by omega) (by omega))) fun a hF => ?_
                                                                  refine dl rfl (wn rfl) (O.call rfl rfl hF ent34 (hF.evs rfl) hS (addr_calls (uN F stk p 1) w) fun v s324 a w hR hF hS => ⟨fun hD => hS.sel [2] rfl rfl, ?_⟩)
                                                                  obtain ⟨rfl, rfl⟩ := hR
                                                                  have hD := hS.sel [2] rfl rfl
                                                                  refine dq hF rfl (wn rfl) rfl rfl (fun w => R.buildStr (l := askc ⟨4, uN F stk p 2, 0, uN F stk p 0, uN F stk p 1⟩) Try.underlying72 ze72 pl72 (hF.evp rfl) (by kernel_rfl)) fun a hF => ?_
                                                                  refine dl rfl (wn rfl) (O.buildSlice (l := askc ⟨4, uN F stk p 2, 0, uN F stk p 0, uN F stk p 1⟩) rfl rfl hF Try.underlying40 inf72 rfl rfl (hF.evp rfl) (by decide) rfl hS fun b329 a w hF hS => ⟨fun hD => hS.sel [3] rfl rfl, ?_⟩)
                                                                  have hD := hS.sel [3] rfl rfl
                                                                  refine dl rfl (wn rfl) (O.append rfl rfl hF Try.underlying40 inf72 rfl rfl (by decide) (hF.ev rfl) (hF.ev rfl) hS hO10 (fun _ => (.t (.t (.t (.t (.t (.t .h))))))) (Rd.own0 hS .h) (rfl) (one_askc3 _) (by unfold maxLen; omega) (by omega) fun A330 c330 s330 a w hO330 hF hS => ⟨fun hD => hS.sel [3] rfl rfl, ?_⟩)
                                                                  have hD := hS.sel [3] rfl rfl
                                                                  refine dq hF rfl (wn rfl) rfl rfl (fun w => R.assign (hF.ev rfl)) fun a hF => ?_
                                                                  refine d0 ?_
                                                                  refine blk_n ?_
                                                                  have hS := hS.cons0
                                                                  exact then_n (hK32' _ _ ⟨stk, [], _, _, _, _, _, _, _, _, _, hF.sub ⟨rfl, rfl, rfl, rfl, rfl, (by rw [List.length_append]; rfl), rfl, rfl, rfl, rfl, rfl, trivial⟩, hS.sel [6, 7, 0, 8, 9] rfl rfl, hO9, own_askL hO330, OwnS.nil 31 4, mid_ask hdo (by omega) (ask_27 (by omega) hv0)⟩)
                                                            ·
                                                              have hF := hF.nowF (t := 297) rfl hCt
                                                              have hC9 : cAt F.code p ≠ 26 := by omega
                                                              have hC : 16 ≤ cAt F.code p ∧ cAt F.code p ≤ 23 := by omega
                                                              refine wp_region_lit ?_
                                                              refine sv' hF (wn rfl) rfl rfl (R.move (hF.ev rfl)) fun a hF => ?_
                                                              refine sv' hF (wn rfl) rfl rfl (R.move (hF.ev rfl)) fun a hF => ?_
                                                              refine sv' hF (wn rfl) rfl rfl (R.loadW agg34 (hF.ev rfl) hS (.t (.t (.t (.t .h)))) sz34 (rfl)) fun a hF => ?_
                                                              refine sv' hF (wn rfl) rfl rfl (R.move (hF.ev rfl)) fun a hF => ?_
                                                              refine so (wn rfl) (O.call rfl rfl hF ent35 (hF.evs rfl) hS (told_calls F (cAt F.code p) ob (left - priceN (cAt F.code p)) w hC hK (hpi.args.old hS) (by omega) hob2) fun v s145 a w hR hF hS => ?_)
                                                              obtain ⟨rfl, rfl⟩ := hR
                                                              refine so (wn rfl) (O.buildSlice (l := [_, _, _, _]) rfl rfl hF Try.underlying32 inf31 rfl rfl (hF.evp rfl) (by decide) rfl hS fun b146 a w hF hS => ?_)
                                                              refine sv' hF (wn rfl) rfl rfl (R.assign (hF.ev rfl)) fun a hF => ?_
                                                              refine s0 ?_
                                                              refine blk_n ?_
                                                              exact then_n (hK32' _ _ ⟨stk, [toldN F.cl (cAt F.code p) ob (left - priceN (cAt F.code p))], _, asks, _, _, _, _, _, _, _, hF.sub ⟨rfl, rfl, rfl, rfl, rfl, rfl, rfl, rfl, rfl, rfl, rfl, trivial⟩, hS.sel [4, 5, 0, 6, 7] rfl rfl, hO9, hO10, own_w1 b146 _, mid_told hdo hC (fun h => hob (sz_two hs (by omega)))⟩)
                  refine wp_region_lit ?_
                  refine sv' hF (wn rfl) rfl rfl (R.move (hF.ev rfl)) fun a hF => ?_
                  refine sv' hF (wn rfl) rfl rfl (R.len Try.underlying32 (hF.ev rfl)) fun a hF => ?_
                  refine sv' hF (wn rfl) rfl rfl (R.move (hF.ev rfl)) fun a hF => ?_
                  refine sv' hF (wn rfl) rfl rfl (R.lss (hF.ev rfl) (hF.ev rfl)) fun a hF => ?_
                  refine sv' hF (wn rfl) rfl rfl (R.move (hF.ev rfl)) fun a hF => ?_
                  refine hF.splitD (t := 114) rfl (fun h114 hF => ?_) (fun h114 hF => ?_)
                  ·
                    refine sk hF (ws hF rfl rfl rfl rfl) rfl rfl fun a hF => ?_
                    refine sk hF (ws hF rfl rfl rfl rfl) rfl rfl fun a hF => ?_
                    refine sk hF (ws hF rfl rfl rfl rfl) rfl rfl fun a hF => ?_
                    refine sk hF (ws hF rfl rfl rfl rfl) rfl rfl fun a hF => ?_
                    refine sk hF (ws hF rfl rfl rfl rfl) rfl rfl fun a hF => ?_
                    refine sk hF (ws hF rfl rfl rfl rfl) rfl rfl fun a hF => ?_
                    refine sk hF (ws hF rfl rfl rfl rfl) rfl rfl fun a hF => ?_
                    refine sk hF (ws hF rfl rfl rfl rfl) rfl rfl fun a hF => ?_
                    refine sk hF (ws hF rfl rfl rfl rfl) rfl rfl fun a hF => ?_
                    refine sv' hF (wn rfl) rfl rfl (R.pickT (hF.ev rfl) (hF.ev rfl)) fun a hF => ?_
                    refine s0 ?_
                    exact then_n (hK26' _ _ ⟨hF.sub ⟨rfl, rfl, rfl, rfl, rfl, rfl, rfl, rfl, rfl, rfl, rfl, (congrArg (fun z => some (Value.bool z)) (by first | exact (decide_eq_true (by omega)).symm | exact (decide_eq_false (by omega)).symm | exact decide_eq_decide.2 (by omega))), trivial⟩, hS.sel [0, 1, 2, 3] rfl rfl⟩)
                  ·
                    refine sv' hF (wy hF rfl rfl rfl) rfl rfl (R.move (hF.ev rfl)) fun a hF => ?_
                    refine sv' hF (wy hF rfl rfl rfl) rfl rfl (R.len Try.underlying32 (hF.ev rfl)) fun a hF => ?_
                    refine sv' hF (wy hF rfl rfl rfl) rfl rfl (R.move (hF.ev rfl)) fun a hF => ?_
                    refine so (wy hF rfl rfl rfl) (O.call rfl rfl hF ent27 (hF.evs rfl) hS (wants_calls (cAt F.code p) w h28) fun v s118 a w hR hF hS => ?_)
                    obtain ⟨rfl, rfl⟩ := hR
                    refine sv' hF (wy hF rfl rfl rfl) rfl rfl (R.subI (hF.ev rfl) (hF.ev rfl) (by omega)) fun a hF => ?_
                    refine sv' hF (wy hF rfl rfl rfl) rfl rfl (R.move (hF.ev rfl)) fun a hF => ?_
                    refine so (wy hF rfl rfl rfl) (O.call rfl rfl hF ent28 (hF.evs rfl) hS (leaves_calls (cAt F.code p) w h28) fun v s121 a w hR hF hS => ?_)
                    obtain ⟨rfl, rfl⟩ := hR
                    refine sv' hF (wy hF rfl rfl rfl) rfl rfl (R.addI (hF.ev rfl) (hF.ev rfl) (by omega)) fun a hF => ?_
                    refine sv' hF (wy hF rfl rfl rfl) rfl rfl (R.gtr (hF.ev rfl) (hF.ev rfl)) fun a hF => ?_
                    refine sv' hF (wn rfl) rfl rfl (R.pickF (hF.ev rfl) (hF.ev rfl)) fun a hF => ?_
                    refine s0 ?_
                    exact then_n (hK26' _ _ ⟨hF.sub ⟨rfl, rfl, rfl, rfl, rfl, rfl, rfl, rfl, rfl, rfl, rfl, (congrArg (fun z => some (Value.bool z)) (by first | exact (decide_eq_true (by omega)).symm | exact (decide_eq_false (by omega)).symm | exact decide_eq_decide.2 (by omega))), trivial⟩, hS.sel [2, 3, 4, 5] rfl rfl⟩)
                refine wp_seq_k fun K130 hK130 => ?_
                refine wp_region_lit ?_
                refine sv' hF (wn rfl) rfl rfl (R.move (hF.ev rfl)) fun a hF => ?_
                refine sv' hF (wn rfl) rfl rfl (R.eql (hF.ev rfl) (hF.ev rfl)) fun a hF => ?_
                refine sv' hF (wn rfl) rfl rfl (R.move (hF.ev rfl)) fun a hF => ?_
                refine hF.splitD (t := 104) rfl (fun h104 hF => ?_) (fun h104 hF => ?_)
                ·
                  refine sk hF (ws hF rfl rfl rfl rfl) rfl rfl fun a hF => ?_
                  refine sk hF (ws hF rfl rfl rfl rfl) rfl rfl fun a hF => ?_
                  refine sv' hF (wn rfl) rfl rfl (R.pickT (hF.ev rfl) (hF.ev rfl)) fun a hF => ?_
                  refine s0 ?_
                  refine then_n (hK130 _ _ ?_)
                  refine cT hF rfl ?_
                  refine wp_region_lit ?_
                  refine sv' hF (wn rfl) rfl rfl (R.move (hF.ev rfl)) fun a hF => ?_
                  refine sv' hF (wn rfl) rfl rfl (R.addI (hF.ev rfl) (hF.ev rfl) (by omega)) fun a hF => ?_
                  refine sv' hF (wn rfl) rfl rfl (R.assign (hF.ev rfl)) fun a hF => ?_
                  refine s0 ?_
                  exact then_n (hK24' _ _ ⟨hF.sub ⟨rfl, rfl, rfl, rfl, rfl, rfl, rfl, rfl, rfl, rfl, rfl, (congrArg (fun z => some (Value.int .i64 z)) (by have := deep_45 (code := F.code) (p := p) (by omega); have := hob (sz_two hs (by omega)); omega)), trivial⟩, hS.sel [1, 2, 3, 4] rfl rfl⟩)
                ·
                  refine sv' hF (wy hF rfl rfl rfl) rfl rfl (R.move (hF.ev rfl)) fun a hF => ?_
                  refine sv' hF (wy hF rfl rfl rfl) rfl rfl (R.eql (hF.ev rfl) (hF.ev rfl)) fun a hF => ?_
                  refine sv' hF (wn rfl) rfl rfl (R.pickF (hF.ev rfl) (hF.ev rfl)) fun a hF => ?_
                  refine s0 ?_
                  refine then_n (hK130 _ _ ?_)
                  refine cD hF rfl (fun c6 => ?_) (fun c6 => ?_)
                  ·
                    refine wp_region_lit ?_
                    refine sv' hF (wn rfl) rfl rfl (R.move (hF.ev rfl)) fun a hF => ?_
                    refine sv' hF (wn rfl) rfl rfl (R.addI (hF.ev rfl) (hF.ev rfl) (by omega)) fun a hF => ?_
                    refine sv' hF (wn rfl) rfl rfl (R.assign (hF.ev rfl)) fun a hF => ?_
                    refine s0 ?_
                    exact then_n (hK24' _ _ ⟨hF.sub ⟨rfl, rfl, rfl, rfl, rfl, rfl, rfl, rfl, rfl, rfl, rfl, (congrArg (fun z => some (Value.int .i64 z)) (by have := deep_45 (code := F.code) (p := p) (by omega); have := hob (sz_two hs (by omega)); omega)), trivial⟩, hS.sel [1, 2, 3, 4] rfl rfl⟩)
                  ·
                    refine wp_skip ?_
                    exact then_n (hK24' _ _ ⟨hF.sub ⟨rfl, rfl, rfl, rfl, rfl, rfl, rfl, rfl, rfl, rfl, rfl, (congrArg (fun z => some (Value.int .i64 z)) (by have := deep_no (code := F.code) (p := p) (by omega); omega)), trivial⟩, hS.sel [1, 2, 3, 4] rfl rfl⟩)
              refine wp_seq_k fun K131 hK131 => ?_
              refine wp_region_lit ?_
              refine sv' hF (wn rfl) rfl rfl (R.move (hF.ev rfl)) fun a hF => ?_
              refine sv' hF (wn rfl) rfl rfl (R.eql (hF.ev rfl) (hF.ev rfl)) fun a hF => ?_
              refine s0 ?_
              refine then_n (hK131 _ _ ?_)
              refine cD hF rfl (fun c5 => ?_) (fun c5 => ?_)
              ·
                refine wp_region_lit ?_
                refine sv' hF (wn rfl) rfl rfl (R.move (hF.ev rfl)) fun a hF => ?_
                refine sv' hF (wn rfl) rfl rfl (R.move (hF.ev rfl)) fun a hF => ?_
                refine sv' hF (wn rfl) rfl rfl (R.addI (hF.ev rfl) (hF.ev rfl) (by omega)) fun a hF => ?_
                refine sv' hF (wn rfl) rfl rfl (R.indexO Try.underlying23 sz5 (hF.ev rfl) (Rd.ne hpi.code (by rw [length_byts]; omega)) (hF.ev rfl) (by omega) (by omega)) fun a hF => ?_
                refine sv' hF (wn rfl) rfl rfl (R.loadO one5 (hF.ev rfl) (hpi.code.old hS) (cb_at (i := p + 1) (by omega) (by omega))) fun a hF => ?_
                refine sv' hF (wn rfl) rfl rfl (R.convI Try.underlying5 Try.underlying3 (hF.ev rfl) (by omega)) fun a hF => ?_
                refine sv' hF (wn rfl) rfl rfl (R.assign (hF.ev rfl)) fun a hF => ?_
                refine s0 ?_
                exact then_n (hK22' _ _ ⟨cAt F.code (p + 1), hF.sub ⟨rfl, rfl, rfl, rfl, rfl, rfl, rfl, rfl, rfl, rfl, rfl, trivial⟩, hS.sel [3, 4, 5, 6] rfl rfl, fun _ => rfl, by omega⟩)
              ·
                refine wp_skip ?_
                exact then_n (hK22' _ _ ⟨0, hF.sub ⟨rfl, rfl, rfl, rfl, rfl, rfl, rfl, rfl, rfl, rfl, rfl, trivial⟩, hS.sel [3, 4, 5, 6] rfl rfl, fun h => absurd h (by omega), by omega⟩)
    refine wp_region_lit ?_
    refine sv' hF (wn rfl) rfl rfl (R.fieldAddr (k := 40) Try.underlying34 rfl nz3 (hF.ev rfl) rfl) fun a hF => ?_
    refine sv' hF (wn rfl) rfl rfl (R.load one3 (hF.ev rfl) hS (.t (.t .h)) (rfl)) fun a hF => ?_
    refine sv' hF (wn rfl) rfl rfl (R.lss (hF.ev rfl) (hF.ev rfl)) fun a hF => ?_
    refine sv' hF (wn rfl) rfl rfl (R.move (hF.ev rfl)) fun a hF => ?_
    refine hF.splitD (t := 34) rfl (fun h34 hF => ?_) (fun h34 hF => ?_)
    ·
      refine sk hF (ws hF rfl rfl rfl rfl) rfl rfl fun a hF => ?_
      refine sk hF (ws hF rfl rfl rfl rfl) rfl rfl fun a hF => ?_
      refine sk hF (ws hF rfl rfl rfl rfl) rfl rfl fun a hF => ?_
      refine sv' hF (wn rfl) rfl rfl (R.pickT (hF.ev rfl) (hF.ev rfl)) fun a hF => ?_
      refine sv' hF (wn rfl) rfl rfl (R.move (hF.ev rfl)) fun a hF => ?_
      refine sk hF (ws hF rfl rfl rfl rfl) rfl rfl fun a hF => ?_
      refine sk hF (ws hF rfl rfl rfl rfl) rfl rfl fun a hF => ?_
      refine sk hF (ws hF rfl rfl rfl rfl) rfl rfl fun a hF => ?_
      refine sk hF (ws hF rfl rfl rfl rfl) rfl rfl fun a hF => ?_
      refine sv' hF (wn rfl) rfl rfl (R.pickT (hF.ev rfl) (hF.ev rfl)) fun a hF => ?_
      refine sv' hF (wn rfl) rfl rfl (R.move (hF.ev rfl)) fun a hF => ?_
      refine sk hF (ws hF rfl rfl rfl rfl) rfl rfl fun a hF => ?_
      refine sk hF (ws hF rfl rfl rfl rfl) rfl rfl fun a hF => ?_
      refine sk hF (ws hF rfl rfl rfl rfl) rfl rfl fun a hF => ?_
      refine sv' hF (wn rfl) rfl rfl (R.pickT (hF.ev rfl) (hF.ev rfl)) fun a hF => ?_
      refine sv' hF (wn rfl) rfl rfl (R.move (hF.ev rfl)) fun a hF => ?_
      refine sk hF (ws hF rfl rfl rfl rfl) rfl rfl fun a hF => ?_
      refine sk hF (ws hF rfl rfl rfl rfl) rfl rfl fun a hF => ?_
      refine sk hF (ws hF rfl rfl rfl rfl) rfl rfl fun a hF => ?_
      refine sv' hF (wn rfl) rfl rfl (R.pickT (hF.ev rfl) (hF.ev rfl)) fun a hF => ?_
      refine sv' hF (wn rfl) rfl rfl (R.move (hF.ev rfl)) fun a hF => ?_
      refine sk hF (ws hF rfl rfl rfl rfl) rfl rfl fun a hF => ?_
      refine sk hF (ws hF rfl rfl rfl rfl) rfl rfl fun a hF => ?_
      refine sk hF (ws hF rfl rfl rfl rfl) rfl rfl fun a hF => ?_
      refine sv' hF (wn rfl) rfl rfl (R.pickT (hF.ev rfl) (hF.ev rfl)) fun a hF => ?_
      refine sv' hF (wn rfl) rfl rfl (R.move (hF.ev rfl)) fun a hF => ?_
      refine sk hF (ws hF rfl rfl rfl rfl) rfl rfl fun a hF => ?_
      refine sk hF (ws hF rfl rfl rfl rfl) rfl rfl fun a hF => ?_
      refine sk hF (ws hF rfl rfl rfl rfl) rfl rfl fun a hF => ?_
      refine sv' hF (wn rfl) rfl rfl (R.pickT (hF.ev rfl) (hF.ev rfl)) fun a hF => ?_
      refine s0 ?_
      exact then_n (hK6' _ _ ⟨hF.sub ⟨rfl, rfl, rfl, rfl, (congrArg (fun z => some (Value.bool z)) (by first | exact (decide_eq_true (by omega)).symm | exact (decide_eq_false (by omega)).symm | exact decide_eq_decide.2 (by omega))), trivial⟩, hS.sel [2, 1] rfl rfl⟩)
    ·
      refine sv' hF (wy hF rfl rfl rfl) rfl rfl (R.fieldAddr (k := 40) Try.underlying34 rfl nz3 (hF.ev rfl) rfl) fun a hF => ?_
      refine sv' hF (wy hF rfl rfl rfl) rfl rfl (R.load one3 (hF.ev rfl) hS (.t (.t .h)) (rfl)) fun a hF => ?_
      refine sv' hF (wy hF rfl rfl rfl) rfl rfl (R.geq (hF.ev rfl) (hF.ev rfl)) fun a hF => ?_
      refine sv' hF (wn rfl) rfl rfl (R.pickF (hF.ev rfl) (hF.ev rfl)) fun a hF => ?_
      refine sv' hF (wn rfl) rfl rfl (R.move (hF.ev rfl)) fun a hF => ?_
      refine hF.splitD (t := 39) rfl (fun h39 hF => ?_) (fun h39 hF => ?_)
      ·
        refine sk hF (ws hF rfl rfl rfl rfl) rfl rfl fun a hF => ?_
        refine sk hF (ws hF rfl rfl rfl rfl) rfl rfl fun a hF => ?_
        refine sk hF (ws hF rfl rfl rfl rfl) rfl rfl fun a hF => ?_
        refine sk hF (ws hF rfl rfl rfl rfl) rfl rfl fun a hF => ?_
        refine sv' hF (wn rfl) rfl rfl (R.pickT (hF.ev rfl) (hF.ev rfl)) fun a hF => ?_
        refine sv' hF (wn rfl) rfl rfl (R.move (hF.ev rfl)) fun a hF => ?_
        refine sk hF (ws hF rfl rfl rfl rfl) rfl rfl fun a hF => ?_
        refine sk hF (ws hF rfl rfl rfl rfl) rfl rfl fun a hF => ?_
        refine sk hF (ws hF rfl rfl rfl rfl) rfl rfl fun a hF => ?_
        refine sv' hF (wn rfl) rfl rfl (R.pickT (hF.ev rfl) (hF.ev rfl)) fun a hF => ?_
        refine sv' hF (wn rfl) rfl rfl (R.move (hF.ev rfl)) fun a hF => ?_
        refine sk hF (ws hF rfl rfl rfl rfl) rfl rfl fun a hF => ?_
        refine sk hF (ws hF rfl rfl rfl rfl) rfl rfl fun a hF => ?_
        refine sk hF (ws hF rfl rfl rfl rfl) rfl rfl fun a hF => ?_
        refine sv' hF (wn rfl) rfl rfl (R.pickT (hF.ev rfl) (hF.ev rfl)) fun a hF => ?_
        refine sv' hF (wn rfl) rfl rfl (R.move (hF.ev rfl)) fun a hF => ?_
        refine sk hF (ws hF rfl rfl rfl rfl) rfl rfl fun a hF => ?_
        refine sk hF (ws hF rfl rfl rfl rfl) rfl rfl fun a hF => ?_
        refine sk hF (ws hF rfl rfl rfl rfl) rfl rfl fun a hF => ?_
        refine sv' hF (wn rfl) rfl rfl (R.pickT (hF.ev rfl) (hF.ev rfl)) fun a hF => ?_
        refine sv' hF (wn rfl) rfl rfl (R.move (hF.ev rfl)) fun a hF => ?_
        refine sk hF (ws hF rfl rfl rfl rfl) rfl rfl fun a hF => ?_
        refine sk hF (ws hF rfl rfl rfl rfl) rfl rfl fun a hF => ?_
        refine sk hF (ws hF rfl rfl rfl rfl) rfl rfl fun a hF => ?_
        refine sv' hF (wn rfl) rfl rfl (R.pickT (hF.ev rfl) (hF.ev rfl)) fun a hF => ?_
        refine s0 ?_
        exact then_n (hK6' _ _ ⟨hF.sub ⟨rfl, rfl, rfl, rfl, (congrArg (fun z => some (Value.bool z)) (by first | exact (decide_eq_true (by omega)).symm | exact (decide_eq_false (by omega)).symm | exact decide_eq_decide.2 (by omega))), trivial⟩, hS.sel [2, 1] rfl rfl⟩)
      ·
        refine sv' hF (wy hF rfl rfl rfl) rfl rfl (R.fieldAddr (k := 45) Try.underlying34 rfl nz32 (hF.ev rfl) rfl) fun a hF => ?_
        refine sv' hF (wy hF rfl rfl rfl) rfl rfl (R.load one32 (hF.ev rfl) hS (.t (.t .h)) (rfl)) fun a hF => ?_
        refine sv' hF (wy hF rfl rfl rfl) rfl rfl (R.len Try.underlying32 (hF.ev rfl)) fun a hF => ?_
        refine sv' hF (wy hF rfl rfl rfl) rfl rfl (R.gtr (hF.ev rfl) (hF.ev rfl)) fun a hF => ?_
        refine sv' hF (wn rfl) rfl rfl (R.pickF (hF.ev rfl) (hF.ev rfl)) fun a hF => ?_
        refine sv' hF (wn rfl) rfl rfl (R.move (hF.ev rfl)) fun a hF => ?_
        refine hF.splitD (t := 45) rfl (fun h45 hF => ?_) (fun h45 hF => ?_)
        ·
          refine sk hF (ws hF rfl rfl rfl rfl) rfl rfl fun a hF => ?_
          refine sk hF (ws hF rfl rfl rfl rfl) rfl rfl fun a hF => ?_
          refine sk hF (ws hF rfl rfl rfl rfl) rfl rfl fun a hF => ?_
          refine sv' hF (wn rfl) rfl rfl (R.pickT (hF.ev rfl) (hF.ev rfl)) fun a hF => ?_
          refine sv' hF (wn rfl) rfl rfl (R.move (hF.ev rfl)) fun a hF => ?_
          refine sk hF (ws hF rfl rfl rfl rfl) rfl rfl fun a hF => ?_
          refine sk hF (ws hF rfl rfl rfl rfl) rfl rfl fun a hF => ?_
          refine sk hF (ws hF rfl rfl rfl rfl) rfl rfl fun a hF => ?_
          refine sv' hF (wn rfl) rfl rfl (R.pickT (hF.ev rfl) (hF.ev rfl)) fun a hF => ?_
          refine sv' hF (wn rfl) rfl rfl (R.move (hF.ev rfl)) fun a hF => ?_
          refine sk hF (ws hF rfl rfl rfl rfl) rfl rfl fun a hF => ?_
          refine sk hF (ws hF rfl rfl rfl rfl) rfl rfl fun a hF => ?_
          refine sk hF (ws hF rfl rfl rfl rfl) rfl rfl fun a hF => ?_
          refine sv' hF (wn rfl) rfl rfl (R.pickT (hF.ev rfl) (hF.ev rfl)) fun a hF => ?_
          refine sv' hF (wn rfl) rfl rfl (R.move (hF.ev rfl)) fun a hF => ?_
          refine sk hF (ws hF rfl rfl rfl rfl) rfl rfl fun a hF => ?_
          refine sk hF (ws hF rfl rfl rfl rfl) rfl rfl fun a hF => ?_
          refine sk hF (ws hF rfl rfl rfl rfl) rfl rfl fun a hF => ?_
          refine sv' hF (wn rfl) rfl rfl (R.pickT (hF.ev rfl) (hF.ev rfl)) fun a hF => ?_
          refine s0 ?_
          exact then_n (hK6' _ _ ⟨hF.sub ⟨rfl, rfl, rfl, rfl, (congrArg (fun z => some (Value.bool z)) (by first | exact (decide_eq_true (by omega)).symm | exact (decide_eq_false (by omega)).symm | exact decide_eq_decide.2 (by omega))), trivial⟩, hS.sel [2, 1] rfl rfl⟩)
        ·
          refine sv' hF (wy hF rfl rfl rfl) rfl rfl (R.fieldAddr (k := 46) Try.underlying34 rfl nz3 (hF.ev rfl) rfl) fun a hF => ?_
          refine sv' hF (wy hF rfl rfl rfl) rfl rfl (R.load one3 (hF.ev rfl) hS (.t (.t .h)) (rfl)) fun a hF => ?_
          refine sv' hF (wy hF rfl rfl rfl) rfl rfl (R.lss (hF.ev rfl) (hF.ev rfl)) fun a hF => ?_
          refine sv' hF (wn rfl) rfl rfl (R.pickF (hF.ev rfl) (hF.ev rfl)) fun a hF => ?_
          refine sv' hF (wn rfl) rfl rfl (R.move (hF.ev rfl)) fun a hF => ?_
          refine hF.splitD (t := 50) rfl (fun h50 hF => ?_) (fun h50 hF => ?_)
          ·
            refine sk hF (ws hF rfl rfl rfl rfl) rfl rfl fun a hF => ?_
            refine sk hF (ws hF rfl rfl rfl rfl) rfl rfl fun a hF => ?_
            refine sk hF (ws hF rfl rfl rfl rfl) rfl rfl fun a hF => ?_
            refine sv' hF (wn rfl) rfl rfl (R.pickT (hF.ev rfl) (hF.ev rfl)) fun a hF => ?_
            refine sv' hF (wn rfl) rfl rfl (R.move (hF.ev rfl)) fun a hF => ?_
            refine sk hF (ws hF rfl rfl rfl rfl) rfl rfl fun a hF => ?_
            refine sk hF (ws hF rfl rfl rfl rfl) rfl rfl fun a hF => ?_
            refine sk hF (ws hF rfl rfl rfl rfl) rfl rfl fun a hF => ?_
            refine sv' hF (wn rfl) rfl rfl (R.pickT (hF.ev rfl) (hF.ev rfl)) fun a hF => ?_
            refine sv' hF (wn rfl) rfl rfl (R.move (hF.ev rfl)) fun a hF => ?_
            refine sk hF (ws hF rfl rfl rfl rfl) rfl rfl fun a hF => ?_
            refine sk hF (ws hF rfl rfl rfl rfl) rfl rfl fun a hF => ?_
            refine sk hF (ws hF rfl rfl rfl rfl) rfl rfl fun a hF => ?_
            refine sv' hF (wn rfl) rfl rfl (R.pickT (hF.ev rfl) (hF.ev rfl)) fun a hF => ?_
            refine s0 ?_
            exact then_n (hK6' _ _ ⟨hF.sub ⟨rfl, rfl, rfl, rfl, (congrArg (fun z => some (Value.bool z)) (by first | exact (decide_eq_true (by omega)).symm | exact (decide_eq_false (by omega)).symm | exact decide_eq_decide.2 (by omega))), trivial⟩, hS.sel [2, 1] rfl rfl⟩)
          ·
            refine sv' hF (wy hF rfl rfl rfl) rfl rfl (R.fieldAddr (k := 46) Try.underlying34 rfl nz3 (hF.ev rfl) rfl) fun a hF => ?_
            refine sv' hF (wy hF rfl rfl rfl) rfl rfl (R.load one3 (hF.ev rfl) hS (.t (.t .h)) (rfl)) fun a hF => ?_
            refine sv' hF (wy hF rfl rfl rfl) rfl rfl (R.gtr (hF.ev rfl) (hF.ev rfl)) fun a hF => ?_
            refine sv' hF (wn rfl) rfl rfl (R.pickF (hF.ev rfl) (hF.ev rfl)) fun a hF => ?_
            refine sv' hF (wn rfl) rfl rfl (R.move (hF.ev rfl)) fun a hF => ?_
            refine hF.splitD (t := 55) rfl (fun h55 hF => ?_) (fun h55 hF => ?_)
            ·
              refine sk hF (ws hF rfl rfl rfl rfl) rfl rfl fun a hF => ?_
              refine sk hF (ws hF rfl rfl rfl rfl) rfl rfl fun a hF => ?_
              refine sk hF (ws hF rfl rfl rfl rfl) rfl rfl fun a hF => ?_
              refine sv' hF (wn rfl) rfl rfl (R.pickT (hF.ev rfl) (hF.ev rfl)) fun a hF => ?_
              refine sv' hF (wn rfl) rfl rfl (R.move (hF.ev rfl)) fun a hF => ?_
              refine sk hF (ws hF rfl rfl rfl rfl) rfl rfl fun a hF => ?_
              refine sk hF (ws hF rfl rfl rfl rfl) rfl rfl fun a hF => ?_
              refine sk hF (ws hF rfl rfl rfl rfl) rfl rfl fun a hF => ?_
              refine sv' hF (wn rfl) rfl rfl (R.pickT (hF.ev rfl) (hF.ev rfl)) fun a hF => ?_
              refine s0 ?_
              exact then_n (hK6' _ _ ⟨hF.sub ⟨rfl, rfl, rfl, rfl, (congrArg (fun z => some (Value.bool z)) (by first | exact (decide_eq_true (by omega)).symm | exact (decide_eq_false (by omega)).symm | exact decide_eq_decide.2 (by omega))), trivial⟩, hS.sel [2, 1] rfl rfl⟩)
            ·
              refine sv' hF (wy hF rfl rfl rfl) rfl rfl (R.fieldAddr (k := 47) Try.underlying34 rfl nz3 (hF.ev rfl) rfl) fun a hF => ?_
              refine sv' hF (wy hF rfl rfl rfl) rfl rfl (R.load one3 (hF.ev rfl) hS (.t (.t .h)) (rfl)) fun a hF => ?_
              refine sv' hF (wy hF rfl rfl rfl) rfl rfl (R.lss (hF.ev rfl) (hF.ev rfl)) fun a hF => ?_
              refine sv' hF (wn rfl) rfl rfl (R.pickF (hF.ev rfl) (hF.ev rfl)) fun a hF => ?_
              refine sv' hF (wn rfl) rfl rfl (R.move (hF.ev rfl)) fun a hF => ?_
              refine hF.splitD (t := 60) rfl (fun h60 hF => ?_) (fun h60 hF => ?_)
              ·
                refine sk hF (ws hF rfl rfl rfl rfl) rfl rfl fun a hF => ?_
                refine sk hF (ws hF rfl rfl rfl rfl) rfl rfl fun a hF => ?_
                refine sk hF (ws hF rfl rfl rfl rfl) rfl rfl fun a hF => ?_
                refine sv' hF (wn rfl) rfl rfl (R.pickT (hF.ev rfl) (hF.ev rfl)) fun a hF => ?_
                refine s0 ?_
                exact then_n (hK6' _ _ ⟨hF.sub ⟨rfl, rfl, rfl, rfl, (congrArg (fun z => some (Value.bool z)) (by first | exact (decide_eq_true (by omega)).symm | exact (decide_eq_false (by omega)).symm | exact decide_eq_decide.2 (by omega))), trivial⟩, hS.sel [2, 1] rfl rfl⟩)
              ·
                refine sv' hF (wy hF rfl rfl rfl) rfl rfl (R.fieldAddr (k := 47) Try.underlying34 rfl nz3 (hF.ev rfl) rfl) fun a hF => ?_
                refine sv' hF (wy hF rfl rfl rfl) rfl rfl (R.load one3 (hF.ev rfl) hS (.t (.t .h)) (rfl)) fun a hF => ?_
                refine sv' hF (wy hF rfl rfl rfl) rfl rfl (R.gtr (hF.ev rfl) (hF.ev rfl)) fun a hF => ?_
                refine sv' hF (wn rfl) rfl rfl (R.pickF (hF.ev rfl) (hF.ev rfl)) fun a hF => ?_
                refine s0 ?_
                exact then_n (hK6' _ _ ⟨hF.sub ⟨rfl, rfl, rfl, rfl, (congrArg (fun z => some (Value.bool z)) (by first | exact (decide_eq_true (by omega)).symm | exact (decide_eq_false (by omega)).symm | exact decide_eq_decide.2 (by omega))), trivial⟩, hS.sel [2, 1] rfl rfl⟩)
end Go.Proofs.Ytlapmbkfmbkdoaa
end
section
namespace Go.Proofs.Ytlapmbkfmbkdoaa
open Go Go.Fw Go.RowKit
attribute [local irreducible] Go.Oper.wp Go.Code.wp Go.wpList Go.Fw.WL Go.Calls
theorem do_err_in {cl : Cl} {code : List Nat} {rep : Nat → Nat × Int} {c b p l : Nat} {st : List Nat} {u : Nat → Nat} {asks : List Fw.Ask} {e : Int} {a : List Fw.Ask} (h : doN cl code rep c b p l st u asks = .err e a) : e = 104 ∨ e = 105 ∨ (e ≠ 0 ∧ ∃ k, e = (rep k).2) := by
  unfold doN at h
  by_cases h0 : c = 0
  · rw [if_pos h0] at h
    cases h; exact .inr (.inl rfl)
  by_cases h1 : c = 1
  · rw [if_neg h0, if_pos h1] at h
    cases h
  by_cases h2 : c = 2
  · rw [if_neg h0, if_neg h1, if_pos h2] at h
    cases h
  by_cases h3 : c = 3
  · rw [if_neg h0, if_neg h1, if_neg h2, if_pos h3] at h
    cases h
  by_cases h4 : c = 4
  · rw [if_neg h0, if_neg h1, if_neg h2, if_neg h3, if_pos h4] at h
    cases h
  by_cases h5 : c = 5
  · rw [if_neg h0, if_neg h1, if_neg h2, if_neg h3, if_neg h4, if_pos h5] at h
    cases h
  by_cases h6 : c ≤ 12
  · rw [if_neg h0, if_neg h1, if_neg h2, if_neg h3, if_neg h4, if_neg h5, if_pos h6] at h
    cases ha : arithN c (u 0) (u 1) with
    | none => rw [ha] at h; cases h; exact .inl rfl
    | some r => rw [ha] at h; cases h
  by_cases h7 : c = 13
  · rw [if_neg h0, if_neg h1, if_neg h2, if_neg h3, if_neg h4, if_neg h5, if_neg h6, if_pos h7] at h
    cases h
  by_cases h8 : c = 14
  · rw [if_neg h0, if_neg h1, if_neg h2, if_neg h3, if_neg h4, if_neg h5, if_neg h6, if_neg h7, if_pos h8] at h
    cases h
  by_cases h9 : c = 15
  · rw [if_neg h0, if_neg h1, if_neg h2, if_neg h3, if_neg h4, if_neg h5, if_neg h6, if_neg h7, if_neg h8, if_pos h9] at h
    cases h
  by_cases h10 : c ≤ 23
  · rw [if_neg h0, if_neg h1, if_neg h2, if_neg h3, if_neg h4, if_neg h5, if_neg h6, if_neg h7, if_neg h8, if_neg h9, if_pos h10] at h
    cases h
  rw [if_neg h0, if_neg h1, if_neg h2, if_neg h3, if_neg h4, if_neg h5, if_neg h6, if_neg h7, if_neg h8, if_neg h9, if_neg h10] at h
  cases ha : askN c u with
  | none => rw [ha] at h; cases h; exact .inl rfl
  | some q =>
    rw [ha] at h
    replace h : (if (rep asks.length).2 ≠ 0 then Out.err (rep asks.length).2 (asks ++ [q]) else Out.more (if c = 24 ∨ c = 26 then st ++ [(rep asks.length).1] else st) l (p + sizeN code p) (asks ++ [q])) = _ := h
    by_cases h11 : (rep asks.length).2 ≠ 0
    · rw [if_pos h11] at h; cases h; exact .inr (.inr ⟨h11, _, rfl⟩)
    · rw [if_neg h11] at h; cases h
theorem stp_err_in {cl : Cl} {code : List Nat} {rep : Nat → Nat × Int} {l p : Nat} {st : List Nat} {asks : List Fw.Ask} {e : Int} {a : List Fw.Ask} (h0 : ∀ k, (rep k).2 = 0) (h : stp cl code rep st l p asks = .err e a) : e ≠ 101 := by
  have hd : ∀ {c b p l : Nat} {st : List Nat} {u : Nat → Nat} {asks : List Fw.Ask} {e : Int} {a : List Fw.Ask}, doN cl code rep c b p l st u asks = .err e a → e ≠ 101 := fun h => by
    rcases do_err_in h with rfl | rfl | ⟨h1, k, rfl⟩
    · decide
    · decide
    · exact absurd (h0 k) h1
  unfold stp at h
  repeat' split at h
  all_goals first | exact hd h | (cases h; decide)
theorem run_no101 {cl : Cl} {code : List Nat} {rep : Nat → Nat × Int} (h0 : ∀ k, (rep k).2 = 0) : ∀ (f : Nat) (stk : List Nat) (left p : Nat) (asks : List Fw.Ask), (Fw.runN cl code rep f stk left p asks).e ≠ 101
  | 0, _, _, _, _ => by simp [Fw.runN]
  | f + 1, stk, left, p, asks => by
    cases hd : stp cl code rep stk left p asks with
    | more s l q a => rw [runN_more hd]; exact run_no101 h0 f s l q a
    | fin v l a => rw [runN_fin hd]; show (0 : Int) ≠ 101; decide
    | err e a => rw [runN_err hd]; exact stp_err_in h0 hd
theorem play_101 {cl : Cl} {code : List Nat} {rep : Nat → Nat × Int} (h0 : ∀ k, (rep k).2 = 0) (hc : chkN code = true) (h : (playN cl code rep).e = 101) : callOk cl = false := by
  cases hcl : callOk cl with
  | false => rfl
  | true =>
    rw [play_run hc hcl] at h
    dsimp only at h
    split at h
    · exact absurd h (by show ¬ (0 : Int) = 101; decide)
    · exact absurd h (run_no101 h0 _ _ _ _ _)
theorem play_bad {cl : Cl} {code : List Nat} {rep : Nat → Nat × Int} (hc : chkN code = false) : playN cl code rep = ⟨0, 0, 100, []⟩ := by simp [playN, hc]
theorem play_ref {cl : Cl} {code : List Nat} {rep : Nat → Nat × Int} (hc : chkN code = true) (hcl : callOk cl = false) : playN cl code rep = ⟨0, 0, 101, []⟩ := by simp [playN, hc, hcl]
theorem nil_rep (F : Fx) (k : Nat) : ((hostF F none 0 []).rep k).2 = 0 := rfl
theorem run_nil (F : Fx) (A : Option Addr) (n c : Nat) (w0 : World) : Ret Try.prog 18 [.slice A n c, .agg (callc F).toArray, .nilIface] w0 [] (fun v s => v = .tuple #[.agg #[.int .u64 0, .int .u64 0, .int .u64 0, .int .u64 0, .int .i64 0], .int .i64 1] ∧ s = []) := by
  refine fn_start Try.func18 rfl Try.ntmps18 rfl [(0, .slice A n c), (1, .agg (callc F).toArray), (2, .nilIface)] ⟨rfl, rfl, rfl, trivial⟩ ?_
  intro Q a hP hF hR hN
  have hS := St.start w0
  refine wp_seq_k fun K1 hK1 => ?_
  refine wp_region_lit ?_
  refine so (wn rfl) (O.box rfl rfl hF (hF.ev rfl) rfl hS fun b4 a w hF hS => ?_)
  refine so (wn rfl) (O.alloc rfl rfl hF ze39 rfl hS fun b6 a w hF hS => ?_)
  refine sv' hF (wn rfl) rfl rfl (R.assign (hF.ev rfl)) fun a hF => ?_
  refine s0 ?_
  refine then_n (hK1 _ _ ?_)
  refine wp_scope_straight ?_
  refine wp_seq_k fun K2 hK2 => ?_
  refine wp_block ?_
  refine wp_seq_k fun K3 hK3 => ?_
  refine wp_region_lit ?_
  refine sv' hF (wn rfl) rfl rfl (R.move (hF.ev rfl)) fun a hF => ?_
  refine sv' hF (wn rfl) rfl rfl (R.nilNil Try.underlying78 (hF.ev rfl) rfl) fun a hF => ?_
  refine sv' hF (wn rfl) rfl rfl (R.assign (hF.ev rfl)) fun a hF => ?_
  refine s0 ?_
  refine then_n (hK3 _ _ ?_)
  refine cT hF rfl ?_
  refine wp_seq_k fun K4 hK4 => ?_
  refine wp_region_lit ?_
  refine sv' hF (wn rfl) rfl rfl (R.buildStr (l := [_, _, _, _, _]) Try.underlying39 ze39 pl39 (hF.evp rfl) rfl) fun a hF => ?_
  refine so (wn rfl) (O.storeW sz39 (hF.ev rfl) (hF.ev rfl) (rfl) rfl (by simp [Value.oneCell']) hS .h (rfl) fun w hS => ?_)
  refine sv' hF (wn rfl) rfl rfl (R.assign (hF.ev rfl)) fun a hF => ?_
  refine s0 ?_
  refine then_n (hK4 _ _ ?_)
  refine wp_ret (blk_r (then_r (sc_r (hR _ _ _ _ _ hF (run_results Try.results18 (.cw hF rfl agg39 hS .h sz39 (rfl) (.t hF rfl (.nil)))) ?_))))
  exact ⟨_, [], rfl, ⟨rfl, rfl⟩, hS.none⟩
set_option maxHeartbeats 4000000 in
theorem refuses_calls (F : Fx) (w0 : World) (hp : PlayIn F w0) : Ret Try.prog 9 [.agg (plays F).toArray] w0 [] (fun v s => v = .bool true ∧ s = []) := by
  refine fn_start Try.func9 rfl Try.ntmps9 rfl [(0, .agg (plays F).toArray)] ⟨rfl, trivial⟩ ?_
  intro Q a hP hF hR hN
  have hS := St.start w0
  refine wp_seq_k fun K1 hK1 => ?_
  refine wp_region_lit ?_
  refine so (wn rfl) (O.box rfl rfl hF (hF.ev rfl) rfl hS fun b1 a w hF hS => ?_)
  refine sv' hF (wn rfl) rfl rfl (R.assign (hF.ev rfl)) fun a hF => ?_
  refine s0 ?_
  refine then_n (hK1 _ _ ?_)
  refine wp_seq_k fun K2 hK2 => ?_
  have hK2' : ∀ a w, (Fr 75 [(1, .pointer (some ⟨b1, 0, none⟩)), (4, .int .i64 1)] a ∧ St w0 [] [[(b1, Cel (plays F) 37)]] w) → K2 a w := by
    rintro a w ⟨hF, hS⟩
    refine hK2 _ _ ?_
    refine wp_seq_k fun K3 hK3 => ?_
    refine wp_seq_k fun K4 hK4 => ?_
    refine wp_region_lit ?_
    refine sv' hF (wn rfl) rfl rfl (R.move (hF.ev rfl)) fun a hF => ?_
    refine sv' hF (wn rfl) rfl rfl (R.as (u := .bool false) (R.neq (p := 1) (q := 1) (hF.ev rfl) (hF.ev rfl)) (congrArg Value.bool (decide_eq_false (fun h => h rfl)))) fun a hF => ?_
    refine s0 ?_
    refine then_n (hK4 _ _ ?_)
    refine cF hF rfl ?_
    refine wp_skip ?_
    refine then_n (hK3 _ _ ?_)
    refine wp_seq_k fun K5 hK5 => ?_
    refine wp_region_lit ?_
    refine sv' hF (wn rfl) rfl rfl (R.fieldAddr (k := 49) Try.underlying37 rfl nz35 (hF.ev rfl) rfl) fun a hF => ?_
    refine sv' hF (wn rfl) rfl rfl (R.load one35 (hF.ev rfl) hS .h (rfl)) fun a hF => ?_
    refine sv' hF (wn rfl) rfl rfl (R.buildStr (l := [_, _, _]) Try.underlying55 ze55 pl55 (hF.evp rfl) rfl) fun a hF => ?_
    refine so (wn rfl) (O.box rfl rfl hF (hF.ev rfl) rfl hS fun b26 a w hF hS => ?_)
    refine sv' hF (wn rfl) rfl rfl (R.assign (hF.ev rfl)) fun a hF => ?_
    refine s0 ?_
    refine then_n (hK5 _ _ ?_)
    refine wp_seq_k fun K6 hK6 => ?_
    have hK6' : ∀ a w, (∃ (bh : Nat) (A5 : Option Addr) (c5 : Nat), Fr 75 [(1, .pointer (some ⟨b1, 0, none⟩)), (5, .pointer (some ⟨bh, 0, none⟩)), (7, .int .i64 (playN F.cl F.code F.rep).e)] a ∧ St w0 [] [[(bh, Cel [.slice F.qA F.reps.length F.qc, .slice A5 (playN F.cl F.code F.rep).asks.length c5, .slice none 0 0] 55)], [(b1, Cel (plays F) 37)]] w) → K6 a w := by
      rintro a w ⟨bh, A5, c5, hF, hS⟩
      refine hK6 _ _ ?_
      refine wp_seq_k fun K7 hK7 => ?_
      refine wp_seq_k fun K8 hK8 => ?_
      refine wp_region_lit ?_
      refine sv' hF (wn rfl) rfl rfl (R.fieldAddr (k := 0) Try.underlying37 rfl nz23 (hF.ev rfl) rfl) fun a hF => ?_
      refine sv' hF (wn rfl) rfl rfl (R.load one23 (hF.ev rfl) hS (.t .h) (rfl)) fun a hF => ?_
      refine so (wn rfl) (O.call rfl rfl hF ent13 (hF.evs rfl) hS (rcheck_calls F.cA F.code.length F.cc F.code w (hp.code.old hS) rfl hp.ok.cap hp.ok.cap2 hp.ok.byt) fun v s41 a w hR hF hS => ?_)
      obtain ⟨rfl, rfl⟩ := hR
      refine sv' hF (wn rfl) rfl rfl (R.as (u := .bool (decide (chkN F.code = false))) (R.neq (p := if chkN F.code then 0 else 100) (q := 0) (hF.ev rfl) (hF.ev rfl)) (chk_dec)) fun a hF => ?_
      refine s0 ?_
      refine then_n (hK8 _ _ ?_)
      refine cD hF rfl (fun c2 => ?_) (fun c2 => ?_)
      ·
        have hr := play_bad (cl := F.cl) (rep := F.rep) c2
        refine wp_seq_k fun K9 hK9 => ?_
        refine wp_region_lit ?_
        refine sv' hF (wn rfl) rfl rfl (R.move (hF.ev rfl)) fun a hF => ?_
        refine sv' hF (wn rfl) rfl rfl (R.as (u := .bool true) (R.eql (p := (playN F.cl F.code F.rep).e) (q := 100) (hF.ev rfl) (hF.ev rfl)) (congrArg Value.bool (decide_eq_true (by rw [hr])))) fun a hF => ?_
        refine sv' hF (wn rfl) rfl rfl (R.move (hF.ev rfl)) fun a hF => ?_
        refine sv' hF (wy hF rfl rfl rfl) rfl rfl (R.move (hF.ev rfl)) fun a hF => ?_
        refine sv' hF (wy hF rfl rfl rfl) rfl rfl (R.nilCheck (hF.ev rfl)) fun a hF => ?_
        refine sv' hF (wy hF rfl rfl rfl) rfl rfl (R.fieldAddr (k := 1) Try.underlying55 rfl nz40 (hF.ev rfl) rfl) fun a hF => ?_
        refine sv' hF (wy hF rfl rfl rfl) rfl rfl (R.load one40 (hF.ev rfl) hS (.t .h) (rfl)) fun a hF => ?_
        refine sv' hF (wy hF rfl rfl rfl) rfl rfl (R.len Try.underlying40 (hF.ev rfl)) fun a hF => ?_
        refine sv' hF (wy hF rfl rfl rfl) rfl rfl (R.as (u := .bool true) (R.eql (p := (((playN F.cl F.code F.rep).asks.length : Nat) : Int)) (q := 0) (hF.ev rfl) (hF.ev rfl)) (congrArg Value.bool (decide_eq_true (by rw [hr]; rfl)))) fun a hF => ?_
        refine sv' hF (wn rfl) rfl rfl (R.pickT (hF.ev rfl) (hF.ev rfl)) fun a hF => ?_
        refine sv' hF (wn rfl) rfl rfl (R.assign (hF.ev rfl)) fun a hF => ?_
        refine s0 ?_
        refine then_n (hK9 _ _ ?_)
        refine wp_ret (then_r (hR _ _ _ _ _ hF (run_results Try.results9 (.t hF rfl (.nil))) ?_))
        exact ⟨_, [], rfl, ⟨rfl, rfl⟩, hS.none⟩
      ·
        have hc : chkN F.code = true := by (cases h : chkN F.code; exact absurd h c2; rfl)
        refine wp_skip ?_
        refine then_n (hK7 _ _ ?_)
        refine wp_seq_k fun K10 hK10 => ?_
        refine wp_region_lit ?_
        refine sv' hF (wn rfl) rfl rfl (R.fieldAddr (k := 0) Try.underlying37 rfl nz23 (hF.ev rfl) rfl) fun a hF => ?_
        refine sv' hF (wn rfl) rfl rfl (R.load one23 (hF.ev rfl) hS (.t (.t .h)) (rfl)) fun a hF => ?_
        refine sv' hF (wn rfl) rfl rfl (R.fieldAddr (k := 1) Try.underlying37 rfl nz34 (hF.ev rfl) rfl) fun a hF => ?_
        refine sv' hF (wn rfl) rfl rfl (R.loadA (cs := [_, _, _, _, _, _, _, _, _, _, _, _, _, _, _, _, _, _, _, _, _, _, _, _, _, _, _, _, _, _, _, _, _, _, _, _, _, _, _, _, _, _, _, _, _, _, _, _]) agg34 (hF.ev rfl) hS (.t (.t .h)) sz34 rfl (getAt rfl)) fun a hF => ?_
        refine so (wn rfl) (O.call rfl rfl hF ent14 (hF.evs rfl) hS (rrun_calls (hostF F none 0 []) w ((hp.old hS).hostF (Nat.zero_le _) (by intro r hr; simp at hr) (Rd.nil _ _))) fun v s58 a w hR hF hS => ?_)
        obtain ⟨A58, c58, rfl, hO58⟩ := hR
        refine sv' hF (wn rfl) rfl rfl (R.move (hF.ev rfl)) fun a hF => ?_
        refine sv' hF (wn rfl) rfl rfl (R.extract (hF.ev rfl) rfl) fun a hF => ?_
        refine sv' hF (wn rfl) rfl rfl (R.extract (hF.ev rfl) rfl) fun a hF => ?_
        refine sv' hF (wn rfl) rfl rfl (R.extract (hF.ev rfl) rfl) fun a hF => ?_
        refine so (wn rfl) (O.alloc rfl rfl hF ze39 rfl hS fun b8 a w hF hS => ?_)
        refine so (wn rfl) (O.storeW sz39 (hF.ev rfl) (hF.ev rfl) (rfl) rfl (by simp [Value.oneCell']) hS .h (rfl) fun w hS => ?_)
        refine sv' hF (wn rfl) rfl rfl (R.assign (hF.ev rfl)) fun a hF => ?_
        refine sv' hF (wn rfl) rfl rfl (R.assign (hF.ev rfl)) fun a hF => ?_
        refine s0 ?_
        refine then_n (hK10 _ _ ?_)
        refine wp_seq_k fun K11 hK11 => ?_
        refine wp_seq_k fun K12 hK12 => ?_
        refine wp_region_lit ?_
        refine sv' hF (wn rfl) rfl rfl (R.move (hF.ev rfl)) fun a hF => ?_
        refine sv' hF (wn rfl) rfl rfl (R.eql (hF.ev rfl) (hF.ev rfl)) fun a hF => ?_
        refine s0 ?_
        refine then_n (hK12 _ _ ?_)
        refine cD hF rfl (fun c3 => ?_) (fun c3 => ?_)
        ·
          have hr : playN F.cl F.code F.rep = ⟨0, 0, 101, []⟩ := play_ref hc (play_101 (cl := F.cl) (code := F.code) (rep := (hostF F none 0 []).rep) (nil_rep F) hc c3)
          refine wp_seq_k fun K13 hK13 => ?_
          refine wp_region_lit ?_
          refine sv' hF (wn rfl) rfl rfl (R.move (hF.ev rfl)) fun a hF => ?_
          refine sv' hF (wn rfl) rfl rfl (R.as (u := .bool true) (R.eql (p := (playN F.cl F.code F.rep).e) (q := 101) (hF.ev rfl) (hF.ev rfl)) (congrArg Value.bool (decide_eq_true (by rw [hr])))) fun a hF => ?_
          refine sv' hF (wn rfl) rfl rfl (R.move (hF.ev rfl)) fun a hF => ?_
          refine sv' hF (wy hF rfl rfl rfl) rfl rfl (R.move (hF.ev rfl)) fun a hF => ?_
          refine sv' hF (wy hF rfl rfl rfl) rfl rfl (R.nilCheck (hF.ev rfl)) fun a hF => ?_
          refine sv' hF (wy hF rfl rfl rfl) rfl rfl (R.fieldAddr (k := 1) Try.underlying55 rfl nz40 (hF.ev rfl) rfl) fun a hF => ?_
          refine sv' hF (wy hF rfl rfl rfl) rfl rfl (R.load one40 (hF.ev rfl) hS (.t (.t (.t .h))) (rfl)) fun a hF => ?_
          refine sv' hF (wy hF rfl rfl rfl) rfl rfl (R.len Try.underlying40 (hF.ev rfl)) fun a hF => ?_
          refine sv' hF (wy hF rfl rfl rfl) rfl rfl (R.as (u := .bool true) (R.eql (p := (((playN F.cl F.code F.rep).asks.length : Nat) : Int)) (q := 0) (hF.ev rfl) (hF.ev rfl)) (congrArg Value.bool (decide_eq_true (by rw [hr]; rfl)))) fun a hF => ?_
          refine sv' hF (wn rfl) rfl rfl (R.pickT (hF.ev rfl) (hF.ev rfl)) fun a hF => ?_
          refine sv' hF (wn rfl) rfl rfl (R.assign (hF.ev rfl)) fun a hF => ?_
          refine s0 ?_
          refine then_n (hK13 _ _ ?_)
          refine wp_ret (then_r (hR _ _ _ _ _ hF (run_results Try.results9 (.t hF rfl (.nil))) ?_))
          exact ⟨_, [], rfl, ⟨rfl, rfl⟩, hS.none⟩
        ·
          refine wp_skip ?_
          refine then_n (hK11 _ _ ?_)
          refine wp_seq_k fun K14 hK14 => ?_
          refine wp_region_lit ?_
          refine so (wn rfl) (O.call rfl rfl hF ent11 (hF.evs rfl) hS (alive_calls _) fun v s74 a w hR hF hS => ?_)
          obtain ⟨rfl, rfl⟩ := hR
          refine sv' hF (wn rfl) rfl rfl (R.assign (hF.ev rfl)) fun a hF => ?_
          refine s0 ?_
          refine then_n (hK14 _ _ ?_)
          refine wp_ret (hR _ _ _ _ _ hF (run_results Try.results9 (.t hF rfl (.nil))) ?_)
          exact ⟨_, [], rfl, ⟨rfl, rfl⟩, hS.none⟩
    refine wp_drawN hS (hS.sel [1] rfl rfl) [(1, 0), (2, 1), (4, 0), (5, 1), (6, 0), (7, 0), (0, 2), (3, 2), (8, 2), (9, 0), (10, 0), (11, 0), (12, 2), (13, 2), (14, 0)] (.node [(1, 0), (2, 1), (4, 0), (5, 1), (6, 0), (7, 0)] (.node [(0, 2)] (.node [(3, 2)] (.leaf [(8, 2), (9, 0), (10, 0), (11, 0), (12, 2), (13, 2), (14, 0)]) (.leaf [(12, 2), (8, 2), (9, 0), (10, 0), (11, 0), (13, 2), (14, 0)])) (.leaf [(12, 2), (3, 2), (8, 2), (9, 0), (10, 0), (11, 0), (13, 2), (14, 0)])) (.leaf [(12, 2), (0, 2), (3, 2), (8, 2), (9, 0), (10, 0), (11, 0), (13, 2), (14, 0)])) mix (by kernel_rfl) (hP.then) fun w hS hD => ?_
    refine dq hF rfl (wn rfl) rfl rfl (fun w => R.fieldAddr (k := 0) Try.underlying37 rfl nz23 (hF.ev rfl) rfl) fun a hF => ?_
    refine dr hF rfl (wn rfl) rfl rfl hD (fun w hD => R.load one23 (hF.ev rfl) hD .h (rfl)) fun a hF => ?_
    refine dq hF rfl (wn rfl) rfl rfl (fun w => R.fieldAddr (k := 1) Try.underlying37 rfl nz34 (hF.ev rfl) rfl) fun a hF => ?_
    refine dr hF rfl (wn rfl) rfl rfl hD (fun w hD => R.loadA (cs := [_, _, _, _, _, _, _, _, _, _, _, _, _, _, _, _, _, _, _, _, _, _, _, _, _, _, _, _, _, _, _, _, _, _, _, _, _, _, _, _, _, _, _, _, _, _, _, _]) agg34 (hF.ev rfl) hD .h sz34 rfl (getAt rfl)) fun a hF => ?_
    refine dq hF rfl (wn rfl) rfl rfl (fun w => R.move (hF.ev rfl)) fun a hF => ?_
    refine dq hF rfl (wn rfl) rfl rfl (fun w => R.mkI Try.underlying53 (hF.ev rfl)) fun a hF => ?_
    refine d0 ?_
    refine ⟨?_, ?_⟩
    ·
      refine dl rfl (wn rfl) (O.buildSlice (l := []) rfl rfl hF Try.underlying23 inf5 rfl rfl (hF.evp rfl) (by decide) rfl hS fun b28 a w hF hS => ⟨fun hD => hS.sel [2] rfl rfl, ?_⟩)
      have hD := hS.sel [2] rfl rfl
      refine d0 ?_
      refine ⟨?_, ?_⟩
      ·
        refine dl rfl (wn rfl) (O.appendO rfl rfl hF Try.underlying23 inf5 rfl rfl (by decide) (hF.ev rfl) (hF.ev rfl) hS (own_nil5 b28) (fun _ => .h) (hp.code.old hS) (by rw [length_byts, Nat.mul_one]) (byts_one _) (by unfold maxLen; have := hp.b1; omega) (by have := hp.b1; omega) fun A31 c31 s31 a w hO31 hF hS => ⟨fun hD => hS.sel [2] rfl rfl, ?_⟩)
        have hD := hS.sel [2] rfl rfl
        rw [Nat.zero_add] at hF hO31; rw [show byts [] = [] from rfl, List.nil_append] at hO31
        refine d0 ?_
        refine ⟨?_, ?_⟩
        ·
          refine dl rfl (wn rfl) (O.callK rfl rfl hF ent18 (hF.evs rfl) hS (run_calls ({ F with hb := b26, cA := A31, cc := c31, iA := none, ic := 0, inner := [] }) [(b26, Cel (hcells ({ F with hb := b26, cA := A31, cc := c31, iA := none, ic := 0, inner := [] }) (.slice none 0 0)) 55)] w ⟨hp.ok.byt, hO31.2.1, hO31.cap, hp.ok.argsW, hp.ok.acap, hp.ok.acap2, hp.ok.self, hp.ok.caller, hp.ok.amount, hp.ok.reps, hp.ok.qlen⟩ ⟨none, 0, [], rfl, OwnS.nil 72 30⟩ (hS.own1 (.t .h)) ⟨RdK.ownS (hS.sel [0, 1] rfl rfl) hO31, (RdK.nok hp.args).down hS (.t .h), (RdK.nok hp.reps).down hS (.t .h), RdK.nil _ _ _⟩ (next0_ok rfl)) (fun _ => (.t .h)) fun v s36 a w hR hF hS => ⟨fun hD => hS.sel [2] rfl rfl, ?_⟩)
          obtain ⟨rfl, hH4⟩ := hR
          have hD := hS.sel [2] rfl rfl
          refine dq hF rfl (wn rfl) rfl rfl (fun w => R.move (hF.ev rfl)) fun a hF => ?_
          refine dq hF rfl (wn rfl) rfl rfl (fun w => R.extract (hF.ev rfl) rfl) fun a hF => ?_
          refine dq hF rfl (wn rfl) rfl rfl (fun w => R.extract (hF.ev rfl) rfl) fun a hF => ?_
          refine dl rfl (wn rfl) (O.alloc rfl rfl hF ze39 rfl hS fun b6 a w hF hS => ⟨fun hD => hS.sel [3] rfl rfl, ?_⟩)
          have hD := hS.sel [3] rfl rfl
          refine dl rfl (wn rfl) (O.storeW sz39 (hF.ev rfl) (hF.ev rfl) (rfl) rfl (by simp [Value.oneCell']) hS .h (rfl) fun w hS => ⟨fun hD => hS.sel [3] rfl rfl, ?_⟩)
          have hD := hS.sel [3] rfl rfl
          refine dq hF rfl (wn rfl) rfl rfl (fun w => R.assign (hF.ev rfl)) fun a hF => ?_
          refine d0 ?_
          obtain ⟨A5, c5, hg, rfl, hO5⟩ := hH4
          have hS := (hS.sel [2, 3] rfl rfl).flat (bs' := [[(b26, Cel [.slice F.qA F.reps.length F.qc, .slice A5 (playN F.cl F.code F.rep).asks.length c5, .slice none 0 0] 55)], hg, [(b1, Cel (plays F) 37)]]) rfl
          exact then_n (hK6' _ _ ⟨b26, A5, c5, hF.sub ⟨rfl, rfl, rfl, trivial⟩, hS.sel [0, 2] rfl rfl⟩)
        ·
          refine dl rfl (wn rfl) (O.alloc rfl rfl hF ze39 rfl hS fun b6 a w hF hS => ⟨fun hD => hS.sel [3] rfl rfl, ?_⟩)
          have hD := hS.sel [3] rfl rfl
          refine dl rfl (wn rfl) (O.callK rfl rfl hF ent18 (hF.evs rfl) hS (run_calls ({ F with hb := b26, cA := A31, cc := c31, iA := none, ic := 0, inner := [] }) [(b26, Cel (hcells ({ F with hb := b26, cA := A31, cc := c31, iA := none, ic := 0, inner := [] }) (.slice none 0 0)) 55)] w ⟨hp.ok.byt, hO31.2.1, hO31.cap, hp.ok.argsW, hp.ok.acap, hp.ok.acap2, hp.ok.self, hp.ok.caller, hp.ok.amount, hp.ok.reps, hp.ok.qlen⟩ ⟨none, 0, [], rfl, OwnS.nil 72 30⟩ (hS.own1 (.t (.t .h))) ⟨RdK.ownS (hS.sel [1, 2] rfl rfl) hO31, (RdK.nok hp.args).down hS (.t (.t .h)), (RdK.nok hp.reps).down hS (.t (.t .h)), RdK.nil _ _ _⟩ (next0_ok rfl)) (fun _ => (.t (.t .h))) fun v s36 a w hR hF hS => ⟨fun hD => hS.sel [3] rfl rfl, ?_⟩)
          obtain ⟨rfl, hH4⟩ := hR
          have hD := hS.sel [3] rfl rfl
          refine dq hF rfl (wn rfl) rfl rfl (fun w => R.move (hF.ev rfl)) fun a hF => ?_
          refine dq hF rfl (wn rfl) rfl rfl (fun w => R.extract (hF.ev rfl) rfl) fun a hF => ?_
          refine dq hF rfl (wn rfl) rfl rfl (fun w => R.extract (hF.ev rfl) rfl) fun a hF => ?_
          refine dl rfl (wn rfl) (O.storeW sz39 (hF.ev rfl) (hF.ev rfl) (rfl) rfl (by simp [Value.oneCell']) hS .h (rfl) fun w hS => ⟨fun hD => hS.sel [3] rfl rfl, ?_⟩)
          have hD := hS.sel [3] rfl rfl
          refine dq hF rfl (wn rfl) rfl rfl (fun w => R.assign (hF.ev rfl)) fun a hF => ?_
          refine d0 ?_
          obtain ⟨A5, c5, hg, rfl, hO5⟩ := hH4
          have hS := (hS.sel [2, 3] rfl rfl).flat (bs' := [[(b26, Cel [.slice F.qA F.reps.length F.qc, .slice A5 (playN F.cl F.code F.rep).asks.length c5, .slice none 0 0] 55)], hg, [(b1, Cel (plays F) 37)]]) rfl
          exact then_n (hK6' _ _ ⟨b26, A5, c5, hF.sub ⟨rfl, rfl, rfl, trivial⟩, hS.sel [0, 2] rfl rfl⟩)
      ·
        refine dl rfl (wn rfl) (O.alloc rfl rfl hF ze39 rfl hS fun b6 a w hF hS => ⟨fun hD => hS.sel [3] rfl rfl, ?_⟩)
        have hD := hS.sel [3] rfl rfl
        refine dl rfl (wn rfl) (O.appendO rfl rfl hF Try.underlying23 inf5 rfl rfl (by decide) (hF.ev rfl) (hF.ev rfl) hS (own_nil5 b28) (fun _ => (.t .h)) (hp.code.old hS) (by rw [length_byts, Nat.mul_one]) (byts_one _) (by unfold maxLen; have := hp.b1; omega) (by have := hp.b1; omega) fun A31 c31 s31 a w hO31 hF hS => ⟨fun hD => hS.sel [3] rfl rfl, ?_⟩)
        have hD := hS.sel [3] rfl rfl
        rw [Nat.zero_add] at hF hO31; rw [show byts [] = [] from rfl, List.nil_append] at hO31
        refine dl rfl (wn rfl) (O.callK rfl rfl hF ent18 (hF.evs rfl) hS (run_calls ({ F with hb := b26, cA := A31, cc := c31, iA := none, ic := 0, inner := [] }) [(b26, Cel (hcells ({ F with hb := b26, cA := A31, cc := c31, iA := none, ic := 0, inner := [] }) (.slice none 0 0)) 55)] w ⟨hp.ok.byt, hO31.2.1, hO31.cap, hp.ok.argsW, hp.ok.acap, hp.ok.acap2, hp.ok.self, hp.ok.caller, hp.ok.amount, hp.ok.reps, hp.ok.qlen⟩ ⟨none, 0, [], rfl, OwnS.nil 72 30⟩ (hS.own1 (.t (.t .h))) ⟨RdK.ownS (hS.sel [1, 2] rfl rfl) hO31, (RdK.nok hp.args).down hS (.t (.t .h)), (RdK.nok hp.reps).down hS (.t (.t .h)), RdK.nil _ _ _⟩ (next0_ok rfl)) (fun _ => (.t (.t .h))) fun v s36 a w hR hF hS => ⟨fun hD => hS.sel [3] rfl rfl, ?_⟩)
        obtain ⟨rfl, hH4⟩ := hR
        have hD := hS.sel [3] rfl rfl
        refine dq hF rfl (wn rfl) rfl rfl (fun w => R.move (hF.ev rfl)) fun a hF => ?_
        refine dq hF rfl (wn rfl) rfl rfl (fun w => R.extract (hF.ev rfl) rfl) fun a hF => ?_
        refine dq hF rfl (wn rfl) rfl rfl (fun w => R.extract (hF.ev rfl) rfl) fun a hF => ?_
        refine dl rfl (wn rfl) (O.storeW sz39 (hF.ev rfl) (hF.ev rfl) (rfl) rfl (by simp [Value.oneCell']) hS .h (rfl) fun w hS => ⟨fun hD => hS.sel [3] rfl rfl, ?_⟩)
        have hD := hS.sel [3] rfl rfl
        refine dq hF rfl (wn rfl) rfl rfl (fun w => R.assign (hF.ev rfl)) fun a hF => ?_
        refine d0 ?_
        obtain ⟨A5, c5, hg, rfl, hO5⟩ := hH4
        have hS := (hS.sel [2, 3] rfl rfl).flat (bs' := [[(b26, Cel [.slice F.qA F.reps.length F.qc, .slice A5 (playN F.cl F.code F.rep).asks.length c5, .slice none 0 0] 55)], hg, [(b1, Cel (plays F) 37)]]) rfl
        exact then_n (hK6' _ _ ⟨b26, A5, c5, hF.sub ⟨rfl, rfl, rfl, trivial⟩, hS.sel [0, 2] rfl rfl⟩)
    ·
      refine dl rfl (wn rfl) (O.alloc rfl rfl hF ze39 rfl hS fun b6 a w hF hS => ⟨fun hD => hS.sel [2] rfl rfl, ?_⟩)
      have hD := hS.sel [2] rfl rfl
      refine dl rfl (wn rfl) (O.buildSlice (l := []) rfl rfl hF Try.underlying23 inf5 rfl rfl (hF.evp rfl) (by decide) rfl hS fun b28 a w hF hS => ⟨fun hD => hS.sel [3] rfl rfl, ?_⟩)
      have hD := hS.sel [3] rfl rfl
      refine dl rfl (wn rfl) (O.appendO rfl rfl hF Try.underlying23 inf5 rfl rfl (by decide) (hF.ev rfl) (hF.ev rfl) hS (own_nil5 b28) (fun _ => .h) (hp.code.old hS) (by rw [length_byts, Nat.mul_one]) (byts_one _) (by unfold maxLen; have := hp.b1; omega) (by have := hp.b1; omega) fun A31 c31 s31 a w hO31 hF hS => ⟨fun hD => hS.sel [3] rfl rfl, ?_⟩)
      have hD := hS.sel [3] rfl rfl
      rw [Nat.zero_add] at hF hO31; rw [show byts [] = [] from rfl, List.nil_append] at hO31
      refine dl rfl (wn rfl) (O.callK rfl rfl hF ent18 (hF.evs rfl) hS (run_calls ({ F with hb := b26, cA := A31, cc := c31, iA := none, ic := 0, inner := [] }) [(b26, Cel (hcells ({ F with hb := b26, cA := A31, cc := c31, iA := none, ic := 0, inner := [] }) (.slice none 0 0)) 55)] w ⟨hp.ok.byt, hO31.2.1, hO31.cap, hp.ok.argsW, hp.ok.acap, hp.ok.acap2, hp.ok.self, hp.ok.caller, hp.ok.amount, hp.ok.reps, hp.ok.qlen⟩ ⟨none, 0, [], rfl, OwnS.nil 72 30⟩ (hS.own1 (.t (.t .h))) ⟨RdK.ownS (hS.sel [0, 2] rfl rfl) hO31, (RdK.nok hp.args).down hS (.t (.t .h)), (RdK.nok hp.reps).down hS (.t (.t .h)), RdK.nil _ _ _⟩ (next0_ok rfl)) (fun _ => (.t (.t .h))) fun v s36 a w hR hF hS => ⟨fun hD => hS.sel [3] rfl rfl, ?_⟩)
      obtain ⟨rfl, hH4⟩ := hR
      have hD := hS.sel [3] rfl rfl
      refine dq hF rfl (wn rfl) rfl rfl (fun w => R.move (hF.ev rfl)) fun a hF => ?_
      refine dq hF rfl (wn rfl) rfl rfl (fun w => R.extract (hF.ev rfl) rfl) fun a hF => ?_
      refine dq hF rfl (wn rfl) rfl rfl (fun w => R.extract (hF.ev rfl) rfl) fun a hF => ?_
      refine dl rfl (wn rfl) (O.storeW sz39 (hF.ev rfl) (hF.ev rfl) (rfl) rfl (by simp [Value.oneCell']) hS (.t .h) (rfl) fun w hS => ⟨fun hD => hS.sel [3] rfl rfl, ?_⟩)
      have hD := hS.sel [3] rfl rfl
      refine dq hF rfl (wn rfl) rfl rfl (fun w => R.assign (hF.ev rfl)) fun a hF => ?_
      refine d0 ?_
      obtain ⟨A5, c5, hg, rfl, hO5⟩ := hH4
      have hS := (hS.sel [2, 3] rfl rfl).flat (bs' := [[(b26, Cel [.slice F.qA F.reps.length F.qc, .slice A5 (playN F.cl F.code F.rep).asks.length c5, .slice none 0 0] 55)], hg, [(b1, Cel (plays F) 37)]]) rfl
      exact then_n (hK6' _ _ ⟨b26, A5, c5, hF.sub ⟨rfl, rfl, rfl, trivial⟩, hS.sel [0, 2] rfl rfl⟩)
  refine wp_drawN hS (hS.sel [0] rfl rfl) [(1, 0), (2, 1), (4, 0), (5, 1), (0, 2), (3, 2), (6, 2), (7, 0), (8, 0), (9, 0), (10, 2), (11, 2), (12, 0)] (.node [(1, 0), (2, 1), (4, 0), (5, 1)] (.node [(0, 2)] (.node [(3, 2)] (.leaf [(6, 2), (7, 0), (8, 0), (9, 0), (10, 2), (11, 2), (12, 0)]) (.leaf [(10, 2), (6, 2), (7, 0), (8, 0), (9, 0), (11, 2), (12, 0)])) (.leaf [(10, 2), (3, 2), (6, 2), (7, 0), (8, 0), (9, 0), (11, 2), (12, 0)])) (.leaf [(10, 2), (0, 2), (3, 2), (6, 2), (7, 0), (8, 0), (9, 0), (11, 2), (12, 0)])) mix (by kernel_rfl) (hP.then) fun w hS hD => ?_
  refine dq hF rfl (wn rfl) rfl rfl (fun w => R.fieldAddr (k := 0) Try.underlying37 rfl nz23 (hF.ev rfl) rfl) fun a hF => ?_
  refine dr hF rfl (wn rfl) rfl rfl hD (fun w hD => R.load one23 (hF.ev rfl) hD .h (rfl)) fun a hF => ?_
  refine dq hF rfl (wn rfl) rfl rfl (fun w => R.fieldAddr (k := 1) Try.underlying37 rfl nz34 (hF.ev rfl) rfl) fun a hF => ?_
  refine dr hF rfl (wn rfl) rfl rfl hD (fun w hD => R.loadA (cs := [_, _, _, _, _, _, _, _, _, _, _, _, _, _, _, _, _, _, _, _, _, _, _, _, _, _, _, _, _, _, _, _, _, _, _, _, _, _, _, _, _, _, _, _, _, _, _, _]) agg34 (hF.ev rfl) hD .h sz34 rfl (getAt rfl)) fun a hF => ?_
  refine d0 ?_
  refine ⟨?_, ?_⟩
  ·
    refine dl rfl (wn rfl) (O.buildSlice (l := []) rfl rfl hF Try.underlying23 inf5 rfl rfl (hF.evp rfl) (by decide) rfl hS fun b12 a w hF hS => ⟨fun hD => hS.sel [1] rfl rfl, ?_⟩)
    have hD := hS.sel [1] rfl rfl
    refine d0 ?_
    refine ⟨?_, ?_⟩
    ·
      refine dl rfl (wn rfl) (O.appendO rfl rfl hF Try.underlying23 inf5 rfl rfl (by decide) (hF.ev rfl) (hF.ev rfl) hS (own_nil5 b12) (fun _ => .h) (hp.code.old hS) (by rw [length_byts, Nat.mul_one]) (byts_one _) (by unfold maxLen; have := hp.b1; omega) (by have := hp.b1; omega) fun A15 c15 s15 a w hO15 hF hS => ⟨fun hD => hS.sel [1] rfl rfl, ?_⟩)
      have hD := hS.sel [1] rfl rfl
      rw [Nat.zero_add] at hF hO15; rw [show byts [] = [] from rfl, List.nil_append] at hO15
      refine d0 ?_
      refine ⟨?_, ?_⟩
      ·
        refine dl rfl (wn rfl) (O.call rfl rfl hF ent18 (hF.evs rfl) hS (run_nil F A15 F.code.length c15 w) fun v s18 a w hR hF hS => ⟨fun hD => hS.sel [2] rfl rfl, ?_⟩)
        obtain ⟨rfl, rfl⟩ := hR
        have hD := hS.sel [2] rfl rfl
        refine dq hF rfl (wn rfl) rfl rfl (fun w => R.move (hF.ev rfl)) fun a hF => ?_
        refine dq hF rfl (wn rfl) rfl rfl (fun w => R.extract (hF.ev rfl) rfl) fun a hF => ?_
        refine dq hF rfl (wn rfl) rfl rfl (fun w => R.extract (hF.ev rfl) rfl) fun a hF => ?_
        refine dl rfl (wn rfl) (O.alloc rfl rfl hF ze39 rfl hS fun b3 a w hF hS => ⟨fun hD => hS.sel [3] rfl rfl, ?_⟩)
        have hD := hS.sel [3] rfl rfl
        refine dl rfl (wn rfl) (O.storeW sz39 (hF.ev rfl) (hF.ev rfl) (rfl) rfl (by simp [Value.oneCell']) hS .h (rfl) fun w hS => ⟨fun hD => hS.sel [3] rfl rfl, ?_⟩)
        have hD := hS.sel [3] rfl rfl
        refine dq hF rfl (wn rfl) rfl rfl (fun w => R.assign (hF.ev rfl)) fun a hF => ?_
        refine d0 ?_
        exact then_n (hK2' _ _ ⟨hF.sub ⟨rfl, rfl, trivial⟩, hS.sel [3] rfl rfl⟩)
      ·
        refine dl rfl (wn rfl) (O.alloc rfl rfl hF ze39 rfl hS fun b3 a w hF hS => ⟨fun hD => hS.sel [2] rfl rfl, ?_⟩)
        have hD := hS.sel [2] rfl rfl
        refine dl rfl (wn rfl) (O.call rfl rfl hF ent18 (hF.evs rfl) hS (run_nil F A15 F.code.length c15 w) fun v s18 a w hR hF hS => ⟨fun hD => hS.sel [3] rfl rfl, ?_⟩)
        obtain ⟨rfl, rfl⟩ := hR
        have hD := hS.sel [3] rfl rfl
        refine dq hF rfl (wn rfl) rfl rfl (fun w => R.move (hF.ev rfl)) fun a hF => ?_
        refine dq hF rfl (wn rfl) rfl rfl (fun w => R.extract (hF.ev rfl) rfl) fun a hF => ?_
        refine dq hF rfl (wn rfl) rfl rfl (fun w => R.extract (hF.ev rfl) rfl) fun a hF => ?_
        refine dl rfl (wn rfl) (O.storeW sz39 (hF.ev rfl) (hF.ev rfl) (rfl) rfl (by simp [Value.oneCell']) hS (.t .h) (rfl) fun w hS => ⟨fun hD => hS.sel [3] rfl rfl, ?_⟩)
        have hD := hS.sel [3] rfl rfl
        refine dq hF rfl (wn rfl) rfl rfl (fun w => R.assign (hF.ev rfl)) fun a hF => ?_
        refine d0 ?_
        exact then_n (hK2' _ _ ⟨hF.sub ⟨rfl, rfl, trivial⟩, hS.sel [3] rfl rfl⟩)
    ·
      refine dl rfl (wn rfl) (O.alloc rfl rfl hF ze39 rfl hS fun b3 a w hF hS => ⟨fun hD => hS.sel [2] rfl rfl, ?_⟩)
      have hD := hS.sel [2] rfl rfl
      refine dl rfl (wn rfl) (O.appendO rfl rfl hF Try.underlying23 inf5 rfl rfl (by decide) (hF.ev rfl) (hF.ev rfl) hS (own_nil5 b12) (fun _ => (.t .h)) (hp.code.old hS) (by rw [length_byts, Nat.mul_one]) (byts_one _) (by unfold maxLen; have := hp.b1; omega) (by have := hp.b1; omega) fun A15 c15 s15 a w hO15 hF hS => ⟨fun hD => hS.sel [2] rfl rfl, ?_⟩)
      have hD := hS.sel [2] rfl rfl
      rw [Nat.zero_add] at hF hO15; rw [show byts [] = [] from rfl, List.nil_append] at hO15
      refine dl rfl (wn rfl) (O.call rfl rfl hF ent18 (hF.evs rfl) hS (run_nil F A15 F.code.length c15 w) fun v s18 a w hR hF hS => ⟨fun hD => hS.sel [3] rfl rfl, ?_⟩)
      obtain ⟨rfl, rfl⟩ := hR
      have hD := hS.sel [3] rfl rfl
      refine dq hF rfl (wn rfl) rfl rfl (fun w => R.move (hF.ev rfl)) fun a hF => ?_
      refine dq hF rfl (wn rfl) rfl rfl (fun w => R.extract (hF.ev rfl) rfl) fun a hF => ?_
      refine dq hF rfl (wn rfl) rfl rfl (fun w => R.extract (hF.ev rfl) rfl) fun a hF => ?_
      refine dl rfl (wn rfl) (O.storeW sz39 (hF.ev rfl) (hF.ev rfl) (rfl) rfl (by simp [Value.oneCell']) hS (.t .h) (rfl) fun w hS => ⟨fun hD => hS.sel [3] rfl rfl, ?_⟩)
      have hD := hS.sel [3] rfl rfl
      refine dq hF rfl (wn rfl) rfl rfl (fun w => R.assign (hF.ev rfl)) fun a hF => ?_
      refine d0 ?_
      exact then_n (hK2' _ _ ⟨hF.sub ⟨rfl, rfl, trivial⟩, hS.sel [3] rfl rfl⟩)
  ·
    refine dl rfl (wn rfl) (O.alloc rfl rfl hF ze39 rfl hS fun b3 a w hF hS => ⟨fun hD => hS.sel [1] rfl rfl, ?_⟩)
    have hD := hS.sel [1] rfl rfl
    refine dl rfl (wn rfl) (O.buildSlice (l := []) rfl rfl hF Try.underlying23 inf5 rfl rfl (hF.evp rfl) (by decide) rfl hS fun b12 a w hF hS => ⟨fun hD => hS.sel [2] rfl rfl, ?_⟩)
    have hD := hS.sel [2] rfl rfl
    refine dl rfl (wn rfl) (O.appendO rfl rfl hF Try.underlying23 inf5 rfl rfl (by decide) (hF.ev rfl) (hF.ev rfl) hS (own_nil5 b12) (fun _ => .h) (hp.code.old hS) (by rw [length_byts, Nat.mul_one]) (byts_one _) (by unfold maxLen; have := hp.b1; omega) (by have := hp.b1; omega) fun A15 c15 s15 a w hO15 hF hS => ⟨fun hD => hS.sel [2] rfl rfl, ?_⟩)
    have hD := hS.sel [2] rfl rfl
    rw [Nat.zero_add] at hF hO15; rw [show byts [] = [] from rfl, List.nil_append] at hO15
    refine dl rfl (wn rfl) (O.call rfl rfl hF ent18 (hF.evs rfl) hS (run_nil F A15 F.code.length c15 w) fun v s18 a w hR hF hS => ⟨fun hD => hS.sel [3] rfl rfl, ?_⟩)
    obtain ⟨rfl, rfl⟩ := hR
    have hD := hS.sel [3] rfl rfl
    refine dq hF rfl (wn rfl) rfl rfl (fun w => R.move (hF.ev rfl)) fun a hF => ?_
    refine dq hF rfl (wn rfl) rfl rfl (fun w => R.extract (hF.ev rfl) rfl) fun a hF => ?_
    refine dq hF rfl (wn rfl) rfl rfl (fun w => R.extract (hF.ev rfl) rfl) fun a hF => ?_
    refine dl rfl (wn rfl) (O.storeW sz39 (hF.ev rfl) (hF.ev rfl) (rfl) rfl (by simp [Value.oneCell']) hS (.t (.t .h)) (rfl) fun w hS => ⟨fun hD => hS.sel [3] rfl rfl, ?_⟩)
    have hD := hS.sel [3] rfl rfl
    refine dq hF rfl (wn rfl) rfl rfl (fun w => R.assign (hF.ev rfl)) fun a hF => ?_
    refine d0 ?_
    exact then_n (hK2' _ _ ⟨hF.sub ⟨rfl, rfl, trivial⟩, hS.sel [3] rfl rfl⟩)
end Go.Proofs.Ytlapmbkfmbkdoaa
end
