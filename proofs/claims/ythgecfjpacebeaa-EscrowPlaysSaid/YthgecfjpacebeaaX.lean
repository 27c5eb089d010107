/- The calls of what the statements' scripts do: pick, changing, known. -/
import Derived.Test.YthgecfjpacebeaaW
namespace Go.Proofs.Ythgecfjpacebeaa
open Go Go.Fw Go.RowKit
attribute [local irreducible] Go.Oper.wp Go.Code.wp Go.wpList Go.Fw.WL Go.Calls
theorem pick_calls (c n : Int) (w0 : World) (hc : i64OK c) (hn : 0 < n) (hn2 : n ≤ 9223372036854775807) : Ret Try.prog 21 [.int .i64 c, .int .i64 n] w0 [] (fun v s => v = .int .i64 (pickN c n) ∧ s = []) := by
  refine fn_start Try.func21 rfl Try.ntmps21 rfl [(0, .int .i64 c), (1, .int .i64 n)] ⟨rfl, rfl, trivial⟩ ?_
  intro Q a hP hF hR hN
  have hS := St.start w0
  unfold i64OK at hc
  refine wp_seq_k fun K1 hK1 => ?_
  refine wp_region_lit ?_
  refine sv' hF (wn rfl) rfl rfl (R.assign (hF.ev rfl)) fun a hF => ?_
  refine s0 ?_
  refine then_n (hK1 _ _ ?_)
  refine wp_seq_k fun K2 hK2 => ?_
  refine wp_seq_k fun K3 hK3 => ?_
  refine wp_region_lit ?_
  refine sv' hF (wn rfl) rfl rfl (R.move (hF.ev rfl)) fun a hF => ?_
  refine sv' hF (wn rfl) rfl rfl (R.lss (hF.ev rfl) (hF.ev rfl)) fun a hF => ?_
  refine s0 ?_
  refine then_n (hK3 _ _ ?_)
  refine cD hF rfl (fun c1 => ?_) (fun c1 => ?_)
  ·
    refine wp_region_lit ?_
    refine sv' hF (wn rfl) rfl rfl (R.move (hF.ev rfl)) fun a hF => ?_
    refine sv' hF (wn rfl) rfl rfl (R.addI (hF.ev rfl) (hF.ev rfl) (by omega)) fun a hF => ?_
    refine sv' hF (wn rfl) rfl rfl (R.as (R.neg (hF.ev rfl)) (show Value.int .i64 (IntKind.i64.wrap (0 - (c + 1))) = .int .i64 (-(c + 1)) by rw [IntWalk.i64_in _ (by omega), Int.zero_sub])) fun a hF => ?_
    refine sv' hF (wn rfl) rfl rfl (R.assign (hF.ev rfl)) fun a hF => ?_
    refine s0 ?_
    refine then_n (hK2 _ _ ?_)
    refine wp_seq_k fun K4 hK4 => ?_
    refine wp_region_lit ?_
    refine sv' hF (wn rfl) rfl rfl (R.move (hF.ev rfl)) fun a hF => ?_
    refine sv' hF (wn rfl) rfl rfl (R.move (hF.ev rfl)) fun a hF => ?_
    refine sv' hF (wn rfl) rfl rfl (R.remI (hF.ev rfl) (hF.ev rfl) (by omega)) fun a hF => ?_
    refine sv' hF (wn rfl) rfl rfl (R.assign (hF.ev rfl)) fun a hF => ?_
    refine s0 ?_
    refine then_n (hK4 _ _ ?_)
    refine wp_ret (hR _ _ _ _ _ hF (run_results Try.results21 (.t hF rfl (.nil))) ?_)
    exact ⟨_, [], rfl, ⟨by simp only [pickN, if_pos c1]; rfl, rfl⟩, hS.none⟩
  ·
    refine wp_skip ?_
    refine then_n (hK2 _ _ ?_)
    refine wp_seq_k fun K5 hK5 => ?_
    refine wp_region_lit ?_
    refine sv' hF (wn rfl) rfl rfl (R.move (hF.ev rfl)) fun a hF => ?_
    refine sv' hF (wn rfl) rfl rfl (R.move (hF.ev rfl)) fun a hF => ?_
    refine sv' hF (wn rfl) rfl rfl (R.remI (hF.ev rfl) (hF.ev rfl) (by omega)) fun a hF => ?_
    refine sv' hF (wn rfl) rfl rfl (R.assign (hF.ev rfl)) fun a hF => ?_
    refine s0 ?_
    refine then_n (hK5 _ _ ?_)
    refine wp_ret (hR _ _ _ _ _ hF (run_results Try.results21 (.t hF rfl (.nil))) ?_)
    exact ⟨_, [], rfl, ⟨by simp only [pickN, if_neg c1]; rfl, rfl⟩, hS.none⟩

theorem changing_calls (bv : Nat) (V : Vau) (p : Stp) (s : Seg) (w0 : World) (hV : VaultS bv V s) (ho : Own w0 s) (hp : p.ok) : Ret Try.prog 20 [.pointer (some ⟨bv, 0, none⟩), .agg (stpL p).toArray] w0 (s.map (·.1)) (fun v s' => ∃ b, v = .tuple [.bool b, .int .i64 (V.chg p).2].toArray ∧ VaultS bv (V.chg p).1 s') := by
  refine fn_start Try.func20 rfl Try.ntmps20 rfl [(0, .pointer (some ⟨bv, 0, none⟩)), (1, .agg (stpL p).toArray)] ⟨rfl, rfl, trivial⟩ ?_
  intro Q a hP hF hR hN
  have hS := St.enter ho
  refine wp_seq_k fun K1 hK1 => ?_
  refine wp_region_lit ?_
  refine so (wn rfl) (O.box rfl rfl hF (hF.ev rfl) rfl hS fun b3 a w hF hS => ?_)
  refine sv' hF (wn rfl) rfl rfl (R.assign (hF.ev rfl)) fun a hF => ?_
  refine sv' hF (wn rfl) rfl rfl (R.assign (hF.ev rfl)) fun a hF => ?_
  refine s0 ?_
  refine then_n (hK1 _ _ ?_)
  refine wp_seq_k fun K2 hK2 => ?_
  refine wp_seq_k fun K3 hK3 => ?_
  refine wp_region_lit ?_
  refine sv' hF (wn rfl) rfl rfl (R.fieldAddr (k := 1) Try.underlying34 rfl nz3 (hF.ev rfl) rfl) fun a hF => ?_
  refine sv' hF (wn rfl) rfl rfl (R.load one3 (hF.ev rfl) hS .h (rfl)) fun a hF => ?_
  refine so (wn rfl) (O.call rfl rfl hF ent21 (hF.evs rfl) hS (pick_calls p.what 11 _ hp.what (by decide) (by decide)) fun v s8 a w hR hF hS => ?_)
  obtain ⟨rfl, rfl⟩ := hR
  refine s0 ?_
  refine then_n (hK3 _ _ ?_)
  refine wp_block ?_
  refine wp_seq_k fun K4 hK4 => ?_
  refine wp_region_lit ?_
  refine sv' hF (wn rfl) rfl rfl (R.eql (hF.ev rfl) (hF.ev rfl)) fun a hF => ?_
  refine sv' hF (wn rfl) rfl rfl (R.assign (hF.ev rfl)) fun a hF => ?_
  refine s0 ?_
  refine then_n (hK4 _ _ ?_)
  refine cD hF rfl (fun c1 => ?_) (fun c1 => ?_)
  ·
    refine wp_seq_k fun K5 hK5 => ?_
    refine wp_region_lit ?_
    refine sv' hF (wn rfl) rfl rfl (R.move (hF.ev rfl)) fun a hF => ?_
    refine sv' hF (wn rfl) rfl rfl (R.fieldAddr (k := 2) Try.underlying34 rfl nz3 (hF.ev rfl) rfl) fun a hF => ?_
    refine sv' hF (wn rfl) rfl rfl (R.load one3 (hF.ev rfl) hS (.t .h) (rfl)) fun a hF => ?_
    refine so (wn rfl) (O.callK rfl rfl hF ent28 (hF.evs rfl) hS (list_calls bv V p.token s _ hV (hS.own1 (.t (.t .h)))) (fun _ => (.t (.t .h))) fun v s14 a w hR hF hS => ?_)
    obtain ⟨rfl, hV2⟩ := hR
    refine sv' hF (wn rfl) rfl rfl (R.assign (hF.ev rfl)) fun a hF => ?_
    refine sv' hF (wn rfl) rfl rfl (R.assign (hF.ev rfl)) fun a hF => ?_
    refine s0 ?_
    refine then_n (hK5 _ _ ?_)
    refine wp_ret (blk_r (then_r (hR _ _ _ _ _ hF (run_results Try.results20 (.t hF rfl (.t hF rfl (.nil)))) ?_)))
    have e : V.chg p = V.list p.token := by simp only [Vau.chg, if_pos c1]
    rw [e]
    exact ⟨_, _, rfl, ⟨_, rfl, hV2⟩, hS.one (.t (.t .h))⟩
  ·
    refine wp_seq_k fun K6 hK6 => ?_
    refine wp_region_lit ?_
    refine sv' hF (wn rfl) rfl rfl (R.eql (hF.ev rfl) (hF.ev rfl)) fun a hF => ?_
    refine sv' hF (wn rfl) rfl rfl (R.assign (hF.ev rfl)) fun a hF => ?_
    refine s0 ?_
    refine then_n (hK6 _ _ ?_)
    refine cD hF rfl (fun c2 => ?_) (fun c2 => ?_)
    ·
      refine wp_seq_k fun K7 hK7 => ?_
      refine wp_region_lit ?_
      refine sv' hF (wn rfl) rfl rfl (R.move (hF.ev rfl)) fun a hF => ?_
      refine sv' hF (wn rfl) rfl rfl (R.fieldAddr (k := 2) Try.underlying34 rfl nz3 (hF.ev rfl) rfl) fun a hF => ?_
      refine sv' hF (wn rfl) rfl rfl (R.load one3 (hF.ev rfl) hS (.t .h) (rfl)) fun a hF => ?_
      refine so (wn rfl) (O.callK rfl rfl hF ent32 (hF.evs rfl) hS (stop_calls bv V p.token true s _ hV (hS.own1 (.t (.t .h)))) (fun _ => (.t (.t .h))) fun v s20 a w hR hF hS => ?_)
      obtain ⟨rfl, hV2⟩ := hR
      refine sv' hF (wn rfl) rfl rfl (R.assign (hF.ev rfl)) fun a hF => ?_
      refine sv' hF (wn rfl) rfl rfl (R.assign (hF.ev rfl)) fun a hF => ?_
      refine s0 ?_
      refine then_n (hK7 _ _ ?_)
      refine wp_ret (blk_r (then_r (hR _ _ _ _ _ hF (run_results Try.results20 (.t hF rfl (.t hF rfl (.nil)))) ?_)))
      have e : V.chg p = V.stop p.token true := by simp only [Vau.chg, if_neg c1, if_pos c2]
      rw [e]
      exact ⟨_, _, rfl, ⟨_, rfl, hV2⟩, hS.one (.t (.t .h))⟩
    ·
      refine wp_seq_k fun K8 hK8 => ?_
      refine wp_region_lit ?_
      refine sv' hF (wn rfl) rfl rfl (R.eql (hF.ev rfl) (hF.ev rfl)) fun a hF => ?_
      refine sv' hF (wn rfl) rfl rfl (R.assign (hF.ev rfl)) fun a hF => ?_
      refine s0 ?_
      refine then_n (hK8 _ _ ?_)
      refine cD hF rfl (fun c3 => ?_) (fun c3 => ?_)
      ·
        refine wp_seq_k fun K9 hK9 => ?_
        refine wp_region_lit ?_
        refine sv' hF (wn rfl) rfl rfl (R.move (hF.ev rfl)) fun a hF => ?_
        refine sv' hF (wn rfl) rfl rfl (R.fieldAddr (k := 2) Try.underlying34 rfl nz3 (hF.ev rfl) rfl) fun a hF => ?_
        refine sv' hF (wn rfl) rfl rfl (R.load one3 (hF.ev rfl) hS (.t .h) (rfl)) fun a hF => ?_
        refine so (wn rfl) (O.callK rfl rfl hF ent32 (hF.evs rfl) hS (stop_calls bv V p.token false s _ hV (hS.own1 (.t (.t .h)))) (fun _ => (.t (.t .h))) fun v s26 a w hR hF hS => ?_)
        obtain ⟨rfl, hV2⟩ := hR
        refine sv' hF (wn rfl) rfl rfl (R.assign (hF.ev rfl)) fun a hF => ?_
        refine sv' hF (wn rfl) rfl rfl (R.assign (hF.ev rfl)) fun a hF => ?_
        refine s0 ?_
        refine then_n (hK9 _ _ ?_)
        refine wp_ret (blk_r (then_r (hR _ _ _ _ _ hF (run_results Try.results20 (.t hF rfl (.t hF rfl (.nil)))) ?_)))
        have e : V.chg p = V.stop p.token false := by simp only [Vau.chg, if_neg c1, if_neg c2, if_pos c3]
        rw [e]
        exact ⟨_, _, rfl, ⟨_, rfl, hV2⟩, hS.one (.t (.t .h))⟩
      ·
        refine wp_seq_k fun K10 hK10 => ?_
        refine wp_region_lit ?_
        refine sv' hF (wn rfl) rfl rfl (R.eql (hF.ev rfl) (hF.ev rfl)) fun a hF => ?_
        refine sv' hF (wn rfl) rfl rfl (R.assign (hF.ev rfl)) fun a hF => ?_
        refine s0 ?_
        refine then_n (hK10 _ _ ?_)
        refine cD hF rfl (fun c4 => ?_) (fun c4 => ?_)
        ·
          refine wp_seq_k fun K11 hK11 => ?_
          refine wp_region_lit ?_
          refine sv' hF (wn rfl) rfl rfl (R.move (hF.ev rfl)) fun a hF => ?_
          refine sv' hF (wn rfl) rfl rfl (R.fieldAddr (k := 2) Try.underlying34 rfl nz3 (hF.ev rfl) rfl) fun a hF => ?_
          refine sv' hF (wn rfl) rfl rfl (R.load one3 (hF.ev rfl) hS (.t .h) (rfl)) fun a hF => ?_
          refine sv' hF (wn rfl) rfl rfl (R.fieldAddr (k := 4) Try.underlying34 rfl nz29 (hF.ev rfl) rfl) fun a hF => ?_
          refine sv' hF (wn rfl) rfl rfl (R.loadA (cs := wc p.amt) agg29 (hF.ev rfl) hS (.t .h) sz29 rfl (getAt rfl)) fun a hF => ?_
          refine so (wn rfl) (O.callK rfl rfl hF ent29 (hF.evs rfl) hS (deposit_calls bv V p.token p.amt s _ hV (hS.own1 (.t (.t .h))) hp.amt) (fun _ => (.t (.t .h))) fun v s34 a w hR hF hS => ?_)
          obtain ⟨rfl, hV2⟩ := hR
          refine sv' hF (wn rfl) rfl rfl (R.assign (hF.ev rfl)) fun a hF => ?_
          refine sv' hF (wn rfl) rfl rfl (R.assign (hF.ev rfl)) fun a hF => ?_
          refine s0 ?_
          refine then_n (hK11 _ _ ?_)
          refine wp_ret (blk_r (then_r (hR _ _ _ _ _ hF (run_results Try.results20 (.t hF rfl (.t hF rfl (.nil)))) ?_)))
          have e : V.chg p = V.deposit p.token p.amt := by simp only [Vau.chg, if_neg c1, if_neg c2, if_neg c3, if_pos c4]
          rw [e]
          exact ⟨_, _, rfl, ⟨_, rfl, hV2⟩, hS.one (.t (.t .h))⟩
        ·
          refine wp_seq_k fun K12 hK12 => ?_
          refine wp_region_lit ?_
          refine sv' hF (wn rfl) rfl rfl (R.eql (hF.ev rfl) (hF.ev rfl)) fun a hF => ?_
          refine sv' hF (wn rfl) rfl rfl (R.assign (hF.ev rfl)) fun a hF => ?_
          refine s0 ?_
          refine then_n (hK12 _ _ ?_)
          refine cD hF rfl (fun c5 => ?_) (fun c5 => ?_)
          ·
            refine wp_seq_k fun K13 hK13 => ?_
            refine wp_region_lit ?_
            refine sv' hF (wn rfl) rfl rfl (R.move (hF.ev rfl)) fun a hF => ?_
            refine sv' hF (wn rfl) rfl rfl (R.fieldAddr (k := 3) Try.underlying34 rfl nz3 (hF.ev rfl) rfl) fun a hF => ?_
            refine sv' hF (wn rfl) rfl rfl (R.load one3 (hF.ev rfl) hS (.t .h) (rfl)) fun a hF => ?_
            refine sv' hF (wn rfl) rfl rfl (R.fieldAddr (k := 2) Try.underlying34 rfl nz3 (hF.ev rfl) rfl) fun a hF => ?_
            refine sv' hF (wn rfl) rfl rfl (R.load one3 (hF.ev rfl) hS (.t .h) (rfl)) fun a hF => ?_
            refine sv' hF (wn rfl) rfl rfl (R.fieldAddr (k := 4) Try.underlying34 rfl nz29 (hF.ev rfl) rfl) fun a hF => ?_
            refine sv' hF (wn rfl) rfl rfl (R.loadA (cs := wc p.amt) agg29 (hF.ev rfl) hS (.t .h) sz29 rfl (getAt rfl)) fun a hF => ?_
            refine so (wn rfl) (O.callK rfl rfl hF ent30 (hF.evs rfl) hS (pay_calls bv V p.index p.token p.amt s _ hV (hS.own1 (.t (.t .h))) hp.amt) (fun _ => (.t (.t .h))) fun v s44 a w hR hF hS => ?_)
            obtain ⟨rfl, hV2⟩ := hR
            refine sv' hF (wn rfl) rfl rfl (R.assign (hF.ev rfl)) fun a hF => ?_
            refine sv' hF (wn rfl) rfl rfl (R.assign (hF.ev rfl)) fun a hF => ?_
            refine s0 ?_
            refine then_n (hK13 _ _ ?_)
            refine wp_ret (blk_r (then_r (hR _ _ _ _ _ hF (run_results Try.results20 (.t hF rfl (.t hF rfl (.nil)))) ?_)))
            have e : V.chg p = V.pay p.index p.token p.amt := by simp only [Vau.chg, if_neg c1, if_neg c2, if_neg c3, if_neg c4, if_pos c5]
            rw [e]
            exact ⟨_, _, rfl, ⟨_, rfl, hV2⟩, hS.one (.t (.t .h))⟩
          ·
            refine wp_seq_k fun K14 hK14 => ?_
            refine wp_region_lit ?_
            refine sv' hF (wn rfl) rfl rfl (R.eql (hF.ev rfl) (hF.ev rfl)) fun a hF => ?_
            refine sv' hF (wn rfl) rfl rfl (R.assign (hF.ev rfl)) fun a hF => ?_
            refine s0 ?_
            refine then_n (hK14 _ _ ?_)
            refine cD hF rfl (fun c6 => ?_) (fun c6 => ?_)
            ·
              refine wp_seq_k fun K15 hK15 => ?_
              refine wp_region_lit ?_
              refine sv' hF (wn rfl) rfl rfl (R.move (hF.ev rfl)) fun a hF => ?_
              refine sv' hF (wn rfl) rfl rfl (R.fieldAddr (k := 4) Try.underlying34 rfl nz29 (hF.ev rfl) rfl) fun a hF => ?_
              refine sv' hF (wn rfl) rfl rfl (R.loadA (cs := wc p.amt) agg29 (hF.ev rfl) hS (.t .h) sz29 rfl (getAt rfl)) fun a hF => ?_
              refine so (wn rfl) (O.callK rfl rfl hF ent33 (hF.evs rfl) hS (lock_calls bv V p.amt s _ hV (hS.own1 (.t (.t .h))) hp.amt) (fun _ => (.t (.t .h))) fun v s50 a w hR hF hS => ?_)
              obtain ⟨rfl, hV2⟩ := hR
              refine sv' hF (wn rfl) rfl rfl (R.assign (hF.ev rfl)) fun a hF => ?_
              refine sv' hF (wn rfl) rfl rfl (R.assign (hF.ev rfl)) fun a hF => ?_
              refine s0 ?_
              refine then_n (hK15 _ _ ?_)
              refine wp_ret (blk_r (then_r (hR _ _ _ _ _ hF (run_results Try.results20 (.t hF rfl (.t hF rfl (.nil)))) ?_)))
              have e : V.chg p = V.lockIt p.amt := by simp only [Vau.chg, if_neg c1, if_neg c2, if_neg c3, if_neg c4, if_neg c5, if_pos c6]
              rw [e]
              exact ⟨_, _, rfl, ⟨_, rfl, hV2⟩, hS.one (.t (.t .h))⟩
            ·
              refine wp_seq_k fun K16 hK16 => ?_
              refine wp_region_lit ?_
              refine sv' hF (wn rfl) rfl rfl (R.eql (hF.ev rfl) (hF.ev rfl)) fun a hF => ?_
              refine sv' hF (wn rfl) rfl rfl (R.assign (hF.ev rfl)) fun a hF => ?_
              refine s0 ?_
              refine then_n (hK16 _ _ ?_)
              refine cD hF rfl (fun c7 => ?_) (fun c7 => ?_)
              ·
                refine wp_seq_k fun K17 hK17 => ?_
                refine wp_region_lit ?_
                refine sv' hF (wn rfl) rfl rfl (R.move (hF.ev rfl)) fun a hF => ?_
                refine sv' hF (wn rfl) rfl rfl (R.fieldAddr (k := 4) Try.underlying34 rfl nz29 (hF.ev rfl) rfl) fun a hF => ?_
                refine sv' hF (wn rfl) rfl rfl (R.loadA (cs := wc p.amt) agg29 (hF.ev rfl) hS (.t .h) sz29 rfl (getAt rfl)) fun a hF => ?_
                refine so (wn rfl) (O.callK rfl rfl hF ent34 (hF.evs rfl) hS (free_calls bv V p.amt s _ hV (hS.own1 (.t (.t .h))) hp.amt) (fun _ => (.t (.t .h))) fun v s56 a w hR hF hS => ?_)
                obtain ⟨rfl, hV2⟩ := hR
                refine sv' hF (wn rfl) rfl rfl (R.assign (hF.ev rfl)) fun a hF => ?_
                refine sv' hF (wn rfl) rfl rfl (R.assign (hF.ev rfl)) fun a hF => ?_
                refine s0 ?_
                refine then_n (hK17 _ _ ?_)
                refine wp_ret (blk_r (then_r (hR _ _ _ _ _ hF (run_results Try.results20 (.t hF rfl (.t hF rfl (.nil)))) ?_)))
                have e : V.chg p = V.free p.amt := by simp only [Vau.chg, if_neg c1, if_neg c2, if_neg c3, if_neg c4, if_neg c5, if_neg c6, if_pos c7]
                rw [e]
                exact ⟨_, _, rfl, ⟨_, rfl, hV2⟩, hS.one (.t (.t .h))⟩
              ·
                refine wp_skip ?_
                refine blk_n ?_
                refine then_n (hK2 _ _ ?_)
                refine wp_seq_k fun K18 hK18 => ?_
                refine wp_region_lit ?_
                refine sv' hF (wn rfl) rfl rfl (R.assign (hF.ev rfl)) fun a hF => ?_
                refine sv' hF (wn rfl) rfl rfl (R.assign (hF.ev rfl)) fun a hF => ?_
                refine s0 ?_
                refine then_n (hK18 _ _ ?_)
                refine wp_ret (hR _ _ _ _ _ hF (run_results Try.results20 (.t hF rfl (.t hF rfl (.nil)))) ?_)
                have e : V.chg p = (V, 0) := by simp only [Vau.chg, if_neg c1, if_neg c2, if_neg c3, if_neg c4, if_neg c5, if_neg c6, if_neg c7]
                rw [e]
                exact ⟨_, _, rfl, ⟨_, rfl, hV⟩, hS.one (.t (.t .h))⟩

theorem known_calls  (w0 : World) : Ret Try.prog 18 [] w0 [] (fun v s => v = .bool true ∧ s = []) := by
  refine fn_start Try.func18 rfl Try.ntmps18 rfl [] trivial ?_
  intro Q a hP hF hR hN
  have hS := St.start w0
  refine wp_seq_k fun K1 hK1 => ?_
  refine wp_region_lit ?_
  refine sv' hF (wn rfl) rfl rfl (R.assign (hF.ev rfl)) fun a hF => ?_
  refine s0 ?_
  refine then_n (hK1 _ _ ?_)
  refine wp_seq_k fun K2 hK2 => ?_
  refine wp_region_lit ?_
  refine so (wn rfl) (O.call rfl rfl hF ent19 (hF.evs rfl) hS (new_calls _) fun v s10 a w hR hF hS => ?_)
  obtain ⟨bv, rfl, hV⟩ := hR
  refine sv' hF (wn rfl) rfl rfl (R.assign (hF.ev rfl)) fun a hF => ?_
  refine s0 ?_
  refine then_n (hK2 _ _ ?_)
  refine wp_seq_k fun K3 hK3 => ?_
  refine wp_seq_k fun K4 hK4 => ?_
  refine wp_region_lit ?_
  refine sv' hF (wn rfl) rfl rfl (R.move (hF.ev rfl)) fun a hF => ?_
  refine sv' hF (wn rfl) rfl rfl (R.nilP (hF.ev rfl) (hF.ev rfl) Try.underlying24) fun a hF => ?_
  refine s0 ?_
  refine then_n (hK4 _ _ ?_)
  refine cS hF rfl (fun c1 => ?_) (fun c1 => ?_)
  ·
    exact absurd c1 (by decide)
  ·
    refine wp_skip ?_
    refine then_n (hK3 _ _ ?_)
    refine wp_seq_k fun K5 hK5 => ?_
    refine wp_region_lit ?_
    refine sv' hF (wn rfl) rfl rfl (R.move (hF.ev rfl)) fun a hF => ?_
    refine so (wn rfl) (O.callK rfl rfl hF ent28 (hF.evs rfl) hS (list_calls bv _ 3 _ _ hV (hS.own1 .h)) (fun _ => .h) fun v s14 a w hR hF hS => ?_)
    obtain ⟨rfl, hV⟩ := hR
    refine sv' hF (wn rfl) rfl rfl (R.assign (hF.ev rfl)) fun a hF => ?_
    refine s0 ?_
    refine then_n (hK5 _ _ ?_)
    refine wp_seq_k fun K6 hK6 => ?_
    refine wp_region_lit ?_
    refine sv' hF (wn rfl) rfl rfl (R.move (hF.ev rfl)) fun a hF => ?_
    refine sv' hF (wn rfl) rfl rfl (R.buildArr (l := wc 9) Try.underlying29 ze29 sz27 (hF.evp rfl) rfl) fun a hF => ?_
    refine so (wn rfl) (O.callK rfl rfl hF ent29 (hF.evs rfl) hS (deposit_calls bv _ 3 9 _ _ hV (hS.own1 .h) (by decide)) (fun _ => .h) fun v s17 a w hR hF hS => ?_)
    obtain ⟨rfl, hV⟩ := hR
    refine sv' hF (wn rfl) rfl rfl (R.assign (hF.ev rfl)) fun a hF => ?_
    refine s0 ?_
    refine then_n (hK6 _ _ ?_)
    refine wp_seq_k fun K7 hK7 => ?_
    refine wp_region_lit ?_
    refine sv' hF (wn rfl) rfl rfl (R.move (hF.ev rfl)) fun a hF => ?_
    refine sv' hF (wn rfl) rfl rfl (R.buildArr (l := wc 4) Try.underlying29 ze29 sz27 (hF.evp rfl) rfl) fun a hF => ?_
    refine so (wn rfl) (O.callK rfl rfl hF ent30 (hF.evs rfl) hS (pay_calls bv _ 7 3 4 _ _ hV (hS.own1 .h) (by decide)) (fun _ => .h) fun v s20 a w hR hF hS => ?_)
    obtain ⟨rfl, hV⟩ := hR
    refine sv' hF (wn rfl) rfl rfl (R.assign (hF.ev rfl)) fun a hF => ?_
    refine s0 ?_
    refine then_n (hK7 _ _ ?_)
    refine wp_seq_k fun K8 hK8 => ?_
    refine wp_region_lit ?_
    refine sv' hF (wn rfl) rfl rfl (R.move (hF.ev rfl)) fun a hF => ?_
    refine sv' hF (wn rfl) rfl rfl (R.buildArr (l := wc 1) Try.underlying29 ze29 sz27 (hF.evp rfl) rfl) fun a hF => ?_
    refine so (wn rfl) (O.callK rfl rfl hF ent30 (hF.evs rfl) hS (pay_calls bv _ 7 3 1 _ _ hV (hS.own1 .h) (by decide)) (fun _ => .h) fun v s23 a w hR hF hS => ?_)
    obtain ⟨rfl, hV⟩ := hR
    refine sv' hF (wn rfl) rfl rfl (R.assign (hF.ev rfl)) fun a hF => ?_
    refine s0 ?_
    refine then_n (hK8 _ _ ?_)
    refine wp_seq_k fun K9 hK9 => ?_
    refine wp_region_lit ?_
    refine sv' hF (wn rfl) rfl rfl (R.move (hF.ev rfl)) fun a hF => ?_
    refine sv' hF (wn rfl) rfl rfl (R.buildArr (l := wc 2) Try.underlying29 ze29 sz27 (hF.evp rfl) rfl) fun a hF => ?_
    refine so (wn rfl) (O.callK rfl rfl hF ent33 (hF.evs rfl) hS (lock_calls bv _ 2 _ _ hV (hS.own1 .h) (by decide)) (fun _ => .h) fun v s26 a w hR hF hS => ?_)
    obtain ⟨rfl, hV⟩ := hR
    refine sv' hF (wn rfl) rfl rfl (R.assign (hF.ev rfl)) fun a hF => ?_
    refine s0 ?_
    refine then_n (hK9 _ _ ?_)
    refine wp_seq_k fun K10 hK10 => ?_
    refine wp_region_lit ?_
    refine sv' hF (wn rfl) rfl rfl (R.move (hF.ev rfl)) fun a hF => ?_
    refine so (wn rfl) (O.callK rfl rfl hF ent72 (hF.evs rfl) hS (isListed_calls bv _ 3 _ _ hV (hS.own1 .h)) (fun _ => .h) fun v s29 a w hR hF hS => ?_)
    obtain ⟨rfl, he⟩ := hR
    rw [he] at hS
    refine sv' hF (wn rfl) rfl rfl (R.move (hF.ev rfl)) fun a hF => ?_
    refine sv' hF (wn rfl) rfl rfl (R.extract (hF.ev rfl) rfl) fun a hF => ?_
    refine sv' hF (wn rfl) rfl rfl (R.extract (hF.ev rfl) rfl) fun a hF => ?_
    refine sv' hF (wn rfl) rfl rfl (R.assign (hF.ev rfl)) fun a hF => ?_
    refine sv' hF (wn rfl) rfl rfl (R.assign (hF.ev rfl)) fun a hF => ?_
    refine s0 ?_
    refine then_n (hK10 _ _ ?_)
    refine wp_seq_k fun K11 hK11 => ?_
    refine wp_region_lit ?_
    refine sv' hF (wn rfl) rfl rfl (R.move (hF.ev rfl)) fun a hF => ?_
    refine sv' hF (wn rfl) rfl rfl (R.move (hF.ev rfl)) fun a hF => ?_
    refine hF.splitB (t := 33) rfl (fun h33 hF => ?_) (fun h33 hF => ?_)
    ·
      refine sv' hF (wy hF rfl rfl rfl) rfl rfl (R.move (hF.ev rfl)) fun a hF => ?_
      refine sv' hF (wy hF rfl rfl rfl) rfl rfl ((by first | exact R.notD (hF.ev rfl) | exact R.not (hF.ev rfl))) fun a hF => ?_
      refine sv' hF (wn rfl) rfl rfl (R.pickT (hF.ev rfl) (hF.ev rfl)) fun a hF => ?_
      refine sv' hF (wn rfl) rfl rfl (R.move (hF.ev rfl)) fun a hF => ?_
      refine hF.splitB (t := 37) rfl (fun h37 hF => ?_) (fun h37 hF => ?_)
      ·
        refine sv' hF (wy hF rfl rfl rfl) rfl rfl (R.move (hF.ev rfl)) fun a hF => ?_
        refine so (wy hF rfl rfl rfl) (O.callK rfl rfl hF ent25 (hF.evs rfl) hS (held_calls bv _ 3 _ _ hV (hS.own1 .h)) (fun _ => .h) fun v s39 a w hR hF hS => ?_)
        obtain ⟨rfl, he⟩ := hR
        rw [he] at hS
        refine sv' hF (wy hF rfl rfl rfl) rfl rfl (R.buildArr (l := wc 5) Try.underlying29 ze29 sz27 (hF.evp rfl) rfl) fun a hF => ?_
        refine sv' hF (wy hF rfl rfl rfl) rfl rfl (R.eqlW (x := tH ((((((Vau.new.list 3).1.deposit 3 9).1.pay 7 3 4).1.pay 7 3 1).1.lockIt 2).1.tok 3)) (y := 5) (hF.ev rfl) (hF.ev rfl) (by decide) (by decide)) fun a hF => ?_
        refine sv' hF (wn rfl) rfl rfl (R.pickT (hF.ev rfl) (hF.ev rfl)) fun a hF => ?_
        refine sv' hF (wn rfl) rfl rfl (R.move (hF.ev rfl)) fun a hF => ?_
        refine hF.splitD (t := 43) rfl (fun h43 hF => ?_) (fun h43 hF => ?_)
        ·
          refine sv' hF (wy hF rfl rfl rfl) rfl rfl (R.move (hF.ev rfl)) fun a hF => ?_
          refine so (wy hF rfl rfl rfl) (O.callK rfl rfl hF ent27 (hF.evs rfl) hS (paid_calls bv _ 7 _ _ hV (hS.own1 .h)) (fun _ => .h) fun v s45 a w hR hF hS => ?_)
          obtain ⟨rfl, he⟩ := hR
          rw [he] at hS
          refine sv' hF (wn rfl) rfl rfl (R.pickT (hF.ev rfl) (hF.ev rfl)) fun a hF => ?_
          refine sv' hF (wn rfl) rfl rfl (R.move (hF.ev rfl)) fun a hF => ?_
          refine hF.splitB (t := 47) rfl (fun h47 hF => ?_) (fun h47 hF => ?_)
          ·
            refine sv' hF (wy hF rfl rfl rfl) rfl rfl (R.move (hF.ev rfl)) fun a hF => ?_
            refine so (wy hF rfl rfl rfl) (O.callK rfl rfl hF ent24 (hF.evs rfl) hS (locked_calls bv _ _ _ hV (hS.own1 .h)) (fun _ => .h) fun v s49 a w hR hF hS => ?_)
            obtain ⟨rfl, he⟩ := hR
            rw [he] at hS
            refine sv' hF (wy hF rfl rfl rfl) rfl rfl (R.buildArr (l := wc 2) Try.underlying29 ze29 sz27 (hF.evp rfl) rfl) fun a hF => ?_
            refine sv' hF (wy hF rfl rfl rfl) rfl rfl (R.eqlW (x := (((((Vau.new.list 3).1.deposit 3 9).1.pay 7 3 4).1.pay 7 3 1).1.lockIt 2).1.lock) (y := 2) (hF.ev rfl) (hF.ev rfl) (by decide) (by decide)) fun a hF => ?_
            refine sv' hF (wn rfl) rfl rfl (R.pickT (hF.ev rfl) (hF.ev rfl)) fun a hF => ?_
            refine sv' hF (wn rfl) rfl rfl (R.assign (hF.ev rfl)) fun a hF => ?_
            refine s0 ?_
            refine then_n (hK11 _ _ ?_)
            refine wp_seq_k fun K12 hK12 => ?_
            refine wp_region_lit ?_
            refine sv' hF (wn rfl) rfl rfl (R.move (hF.ev rfl)) fun a hF => ?_
            refine sv' hF (wn rfl) rfl rfl (R.move (hF.ev rfl)) fun a hF => ?_
            refine hF.splitD (t := 54) rfl (fun h54 hF => ?_) (fun h54 hF => ?_)
            ·
              refine sv' hF (wy hF rfl rfl rfl) rfl rfl (R.move (hF.ev rfl)) fun a hF => ?_
              refine sv' hF (wy hF rfl rfl rfl) rfl rfl (R.eql (hF.ev rfl) (hF.ev rfl)) fun a hF => ?_
              refine sv' hF (wn rfl) rfl rfl (R.pickT (hF.ev rfl) (hF.ev rfl)) fun a hF => ?_
              refine sv' hF (wn rfl) rfl rfl (R.move (hF.ev rfl)) fun a hF => ?_
              refine hF.splitD (t := 58) rfl (fun h58 hF => ?_) (fun h58 hF => ?_)
              ·
                refine sv' hF (wy hF rfl rfl rfl) rfl rfl (R.move (hF.ev rfl)) fun a hF => ?_
                refine sv' hF (wy hF rfl rfl rfl) rfl rfl (R.eql (hF.ev rfl) (hF.ev rfl)) fun a hF => ?_
                refine sv' hF (wn rfl) rfl rfl (R.pickT (hF.ev rfl) (hF.ev rfl)) fun a hF => ?_
                refine sv' hF (wn rfl) rfl rfl (R.move (hF.ev rfl)) fun a hF => ?_
                refine hF.splitD (t := 62) rfl (fun h62 hF => ?_) (fun h62 hF => ?_)
                ·
                  refine sv' hF (wy hF rfl rfl rfl) rfl rfl (R.move (hF.ev rfl)) fun a hF => ?_
                  refine sv' hF (wy hF rfl rfl rfl) rfl rfl (R.eql (hF.ev rfl) (hF.ev rfl)) fun a hF => ?_
                  refine sv' hF (wn rfl) rfl rfl (R.pickT (hF.ev rfl) (hF.ev rfl)) fun a hF => ?_
                  refine sv' hF (wn rfl) rfl rfl (R.move (hF.ev rfl)) fun a hF => ?_
                  refine hF.splitD (t := 66) rfl (fun h66 hF => ?_) (fun h66 hF => ?_)
                  ·
                    refine sv' hF (wy hF rfl rfl rfl) rfl rfl (R.move (hF.ev rfl)) fun a hF => ?_
                    refine sv' hF (wy hF rfl rfl rfl) rfl rfl (R.eql (hF.ev rfl) (hF.ev rfl)) fun a hF => ?_
                    refine sv' hF (wn rfl) rfl rfl (R.pickT (hF.ev rfl) (hF.ev rfl)) fun a hF => ?_
                    refine sv' hF (wn rfl) rfl rfl (R.move (hF.ev rfl)) fun a hF => ?_
                    refine hF.splitD (t := 70) rfl (fun h70 hF => ?_) (fun h70 hF => ?_)
                    ·
                      refine sv' hF (wy hF rfl rfl rfl) rfl rfl (R.move (hF.ev rfl)) fun a hF => ?_
                      refine sv' hF (wy hF rfl rfl rfl) rfl rfl (R.eql (hF.ev rfl) (hF.ev rfl)) fun a hF => ?_
                      refine sv' hF (wn rfl) rfl rfl (R.pickT (hF.ev rfl) (hF.ev rfl)) fun a hF => ?_
                      refine sv' hF (wn rfl) rfl rfl (R.assign (hF.ev rfl)) fun a hF => ?_
                      refine s0 ?_
                      refine then_n (hK12 _ _ ?_)
                      refine wp_ret (hR _ _ _ _ _ hF (run_results Try.results18 (.t hF rfl (.nil))) ?_)
                      refine ⟨_, [], rfl, ⟨congrArg Value.bool (by decide), rfl⟩, hS.none⟩
                    ·
                      exact absurd (by decide) h70
                  ·
                    exact absurd (by decide) h66
                ·
                  exact absurd (by decide) h62
              ·
                exact absurd (by decide) h58
            ·
              exact absurd (by decide) h54
          ·
            exact absurd h47 (by decide)
        ·
          exact absurd (by decide) h43
      ·
        exact absurd h37 (by decide)
    ·
      exact absurd h33 (by decide)

end Go.Proofs.Ythgecfjpacebeaa
