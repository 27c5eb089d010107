/- The reference's vault: its methods; change, alike. -/
import Derived.Test.YthgecfjpacebeaaAk
import Derived.Test.YthgecfjpacebeaaBo
namespace Go.Proofs.Ythgecfjpacebeaa
open Go Go.Fw Go.RowKit
attribute [local irreducible] Go.Oper.wp Go.Code.wp Go.wpList Go.Fw.WL Go.Calls
theorem cmpN_neg (x y : Nat) : cmpN x y < 0 ↔ x < y := by unfold cmpN; by_cases h1 : x < y <;> by_cases h2 : y < x <;> simp [h1, h2]
theorem ac0 (k t : Int) : [Value.int .i64 k, .int .i64 0, .int .i64 t, .int .u64 0, .int .u64 0, .int .u64 0, .int .u64 0] = acL ⟨k, 0, t, 0⟩ := by simp [acL, wc, dg]
theorem do_cells (rb : Nat) (l : List Ac) (s : Seg) (p : Ac) (cs : List Value) (w0 : World) (hV : RefS rb l s) (ho : Own w0 s) (hc : l.length * 64 ≤ 140737488351232) (hcs : cs = acL p) :
    Ret Try.prog 107 [.pointer (some ⟨rb, 0, none⟩), .agg cs.toArray] w0 (s.map (·.1)) (fun v s' => v = .int .i64 0 ∧ RefS rb (l ++ [p]) s') := hcs ▸ do_calls rb l s p w0 hV ho hc
theorem Own.old {w0 w : World} {bs : List Seg} {s : Seg} (h : Own w0 s) (hS : St w0 [] bs w) : Own w s := ⟨fun p hp => by rw [hS.keep p.1 (Array.getElem?_eq_some_iff.1 (h.1 p hp)).1 (by simp)]; exact h.1 p hp, h.2⟩
theorem code_ok {p : Prop} [Decidable p] {e : Int} (he : e ≠ 0) : ((if p then (0 : Int) else e) = 0) ↔ p := by by_cases h : p <;> simp [h, he]

theorem rList_calls (rb : Nat) (l : List Ac) (s : Seg) (t : Int) (w0 : World) (hV : RefS rb l s) (ho : Own w0 s) (hok : AcsOk l) (hc : l.length * 64 ≤ 140737488351232) : Ret Try.prog 82 [.pointer (some ⟨rb, 0, none⟩), .int .i64 t] w0 (s.map (·.1)) (fun v s' => v = .int .i64 (listR l t).2 ∧ RefS rb (listR l t).1 s') := by
  refine fn_start Try.func82 rfl Try.ntmps82 rfl [(0, .pointer (some ⟨rb, 0, none⟩)), (1, .int .i64 t)] ⟨rfl, rfl, trivial⟩ ?_
  intro Q a hP hF hR hN
  have hS := St.enter ho
  refine wp_seq_k fun K1 hK1 => ?_
  refine wp_region_lit ?_
  refine sv' hF (wn rfl) rfl rfl (R.assign (hF.ev rfl)) fun a hF => ?_
  refine s0 ?_
  refine then_n (hK1 _ _ ?_)
  refine wp_seq_k fun K2 hK2 => ?_
  refine wp_region_lit ?_
  refine sv' hF (wn rfl) rfl rfl (R.move (hF.ev rfl)) fun a hF => ?_
  refine sv' hF (wn rfl) rfl rfl (R.move (hF.ev rfl)) fun a hF => ?_
  refine so (wn rfl) (O.call rfl rfl hF ent106 (hF.evs rfl) hS (Ret.quiet (there_calls rb l s t _ hV (hS.own1 .h) hok hc) (hS.own1 .h)) fun v s8 a w hR hF hS => ?_)
  obtain ⟨rfl, rfl⟩ := hR
  refine sv' hF (wn rfl) rfl rfl (R.assign (hF.ev rfl)) fun a hF => ?_
  refine s0 ?_
  refine then_n (hK2 _ _ ?_)
  refine wp_seq_k fun K3 hK3 => ?_
  refine wp_seq_k fun K4 hK4 => ?_
  refine wp_region_lit ?_
  refine sv' hF (wn rfl) rfl rfl (R.move (hF.ev rfl)) fun a hF => ?_
  refine sv' hF (wn rfl) rfl rfl (R.eql (hF.ev rfl) (hF.ev rfl)) fun a hF => ?_
  refine s0 ?_
  refine then_n (hK4 _ _ ?_)
  refine cD hF rfl (fun c1 => ?_) (fun c1 => ?_)
  ·
    refine wp_seq_k fun K5 hK5 => ?_
    refine wp_region_lit ?_
    refine sv' hF (wn rfl) rfl rfl (R.move (hF.ev rfl)) fun a hF => ?_
    refine sv' hF (wn rfl) rfl rfl (R.assign (hF.ev rfl)) fun a hF => ?_
    refine s0 ?_
    refine then_n (hK5 _ _ ?_)
    refine wp_ret (then_r (hR _ _ _ _ _ hF (run_results Try.results82 (.t hF rfl (.nil))) ?_))
    have e := show listR l t = (l, 140) from by rw [listR, if_pos c1]
    exact ⟨_, _, rfl, ⟨by rw [e]; rw [c1]; rfl, by rw [e]; exact hV⟩, hS.one (.t .h)⟩
  ·
    refine wp_skip ?_
    refine then_n (hK3 _ _ ?_)
    refine wp_seq_k fun K6 hK6 => ?_
    refine wp_seq_k fun K7 hK7 => ?_
    refine wp_region_lit ?_
    refine sv' hF (wn rfl) rfl rfl (R.move (hF.ev rfl)) fun a hF => ?_
    refine sv' hF (wn rfl) rfl rfl (R.eql (hF.ev rfl) (hF.ev rfl)) fun a hF => ?_
    refine s0 ?_
    refine then_n (hK7 _ _ ?_)
    refine cD hF rfl (fun c2 => ?_) (fun c2 => ?_)
    ·
      refine wp_seq_k fun K8 hK8 => ?_
      refine wp_region_lit ?_
      refine sv' hF (wn rfl) rfl rfl (R.assign (hF.ev rfl)) fun a hF => ?_
      refine s0 ?_
      refine then_n (hK8 _ _ ?_)
      refine wp_ret (then_r (hR _ _ _ _ _ hF (run_results Try.results82 (.t hF rfl (.nil))) ?_))
      have e := show listR l t = (l, 142) from by rw [listR, if_neg c1, if_pos c2]
      exact ⟨_, _, rfl, ⟨by rw [e]; rfl, by rw [e]; exact hV⟩, hS.one (.t .h)⟩
    ·
      refine wp_skip ?_
      refine then_n (hK6 _ _ ?_)
      refine wp_seq_k fun K9 hK9 => ?_
      refine wp_region_lit ?_
      refine sv' hF (wn rfl) rfl rfl (R.move (hF.ev rfl)) fun a hF => ?_
      refine sv' hF (wn rfl) rfl rfl (R.move (hF.ev rfl)) fun a hF => ?_
      refine sv' hF (wn rfl) rfl rfl (R.buildStr (l := [.int .i64 0, .int .i64 0, .int .i64 t, .int .u64 0, .int .u64 0, .int .u64 0, .int .u64 0]) Try.underlying139 ze139 pl139 (hF.evp rfl) rfl) fun a hF => ?_
      refine so (wn rfl) (O.callK rfl rfl hF ent107 (hF.evs rfl) hS (do_cells rb l s ⟨0, 0, t, 0⟩ [.int .i64 0, .int .i64 0, .int .i64 t, .int .u64 0, .int .u64 0, .int .u64 0, .int .u64 0] _ hV (hS.own1 (.t .h)) hc (ac0 _ _)) (fun _ => (.t .h)) fun v s17 a w hR hF hS => ?_)
      obtain ⟨rfl, hV2⟩ := hR
      refine sv' hF (wn rfl) rfl rfl (R.assign (hF.ev rfl)) fun a hF => ?_
      refine s0 ?_
      refine then_n (hK9 _ _ ?_)
      refine wp_ret (hR _ _ _ _ _ hF (run_results Try.results82 (.t hF rfl (.nil))) ?_)
      have e := show listR l t = (l ++ [⟨0, 0, t, 0⟩], 0) from by rw [listR, if_neg c1, if_neg c2]
      exact ⟨_, _, rfl, ⟨by rw [e]; rfl, by rw [e]; exact hV2⟩, hS.one (.t .h)⟩

theorem rStop_calls (rb : Nat) (l : List Ac) (s : Seg) (t : Int) (b : Bool) (w0 : World) (hV : RefS rb l s) (ho : Own w0 s) (hok : AcsOk l) (hc : l.length * 64 ≤ 140737488351232) : Ret Try.prog 83 [.pointer (some ⟨rb, 0, none⟩), .int .i64 t, .bool b] w0 (s.map (·.1)) (fun v s' => v = .int .i64 (stopR l t b).2 ∧ RefS rb (stopR l t b).1 s') := by
  refine fn_start Try.func83 rfl Try.ntmps83 rfl [(0, .pointer (some ⟨rb, 0, none⟩)), (1, .int .i64 t), (2, .bool b)] ⟨rfl, rfl, rfl, trivial⟩ ?_
  intro Q a hP hF hR hN
  have hS := St.enter ho
  refine wp_seq_k fun K1 hK1 => ?_
  refine wp_region_lit ?_
  refine sv' hF (wn rfl) rfl rfl (R.assign (hF.ev rfl)) fun a hF => ?_
  refine s0 ?_
  refine then_n (hK1 _ _ ?_)
  refine wp_seq_k fun K2 hK2 => ?_
  refine wp_region_lit ?_
  refine sv' hF (wn rfl) rfl rfl (R.move (hF.ev rfl)) fun a hF => ?_
  refine sv' hF (wn rfl) rfl rfl (R.move (hF.ev rfl)) fun a hF => ?_
  refine so (wn rfl) (O.call rfl rfl hF ent106 (hF.evs rfl) hS (Ret.quiet (there_calls rb l s t _ hV (hS.own1 .h) hok hc) (hS.own1 .h)) fun v s12 a w hR hF hS => ?_)
  obtain ⟨rfl, rfl⟩ := hR
  refine sv' hF (wn rfl) rfl rfl (R.assign (hF.ev rfl)) fun a hF => ?_
  refine s0 ?_
  refine then_n (hK2 _ _ ?_)
  refine wp_seq_k fun K3 hK3 => ?_
  refine wp_seq_k fun K4 hK4 => ?_
  refine wp_region_lit ?_
  refine sv' hF (wn rfl) rfl rfl (R.move (hF.ev rfl)) fun a hF => ?_
  refine sv' hF (wn rfl) rfl rfl (R.neq (hF.ev rfl) (hF.ev rfl)) fun a hF => ?_
  refine s0 ?_
  refine then_n (hK4 _ _ ?_)
  refine cD hF rfl (fun c1 => ?_) (fun c1 => ?_)
  ·
    refine wp_seq_k fun K5 hK5 => ?_
    refine wp_region_lit ?_
    refine sv' hF (wn rfl) rfl rfl (R.move (hF.ev rfl)) fun a hF => ?_
    refine sv' hF (wn rfl) rfl rfl (R.assign (hF.ev rfl)) fun a hF => ?_
    refine s0 ?_
    refine then_n (hK5 _ _ ?_)
    refine wp_ret (then_r (hR _ _ _ _ _ hF (run_results Try.results83 (.t hF rfl (.nil))) ?_))
    have e := show stopR l t b = (l, thereR l t) from by rw [stopR, if_pos c1]
    exact ⟨_, _, rfl, ⟨by rw [e]; rfl, by rw [e]; exact hV⟩, hS.one (.t .h)⟩
  ·
    refine wp_skip ?_
    refine then_n (hK3 _ _ ?_)
    refine wp_seq_k fun K6 hK6 => ?_
    refine wp_region_lit ?_
    refine sv' hF (wn rfl) rfl rfl (R.move (hF.ev rfl)) fun a hF => ?_
    refine sv' hF (wn rfl) rfl rfl (R.move (hF.ev rfl)) fun a hF => ?_
    refine so (wn rfl) (O.call rfl rfl hF ent90 (hF.evs rfl) hS (Ret.quiet (rListed_calls rb l s t _ hV (hS.own1 (.t .h)) hok (by omega)) (hS.own1 (.t .h))) fun v s19 a w hR hF hS => ?_)
    obtain ⟨rfl, rfl⟩ := hR
    refine sv' hF (wn rfl) rfl rfl (R.move (hF.ev rfl)) fun a hF => ?_
    refine sv' hF (wn rfl) rfl rfl (R.extract (hF.ev rfl) rfl) fun a hF => ?_
    refine sv' hF (wn rfl) rfl rfl (R.extract (hF.ev rfl) rfl) fun a hF => ?_
    refine sv' hF (wn rfl) rfl rfl (R.assign (hF.ev rfl)) fun a hF => ?_
    refine sv' hF (wn rfl) rfl rfl (R.assign (hF.ev rfl)) fun a hF => ?_
    refine s0 ?_
    refine then_n (hK6 _ _ ?_)
    refine wp_seq_k fun K7 hK7 => ?_
    refine wp_seq_k fun K8 hK8 => ?_
    refine wp_region_lit ?_
    refine sv' hF (wn rfl) rfl rfl (R.move (hF.ev rfl)) fun a hF => ?_
    refine sv' hF (wn rfl) rfl rfl (R.move (hF.ev rfl)) fun a hF => ?_
    refine sv' hF (wn rfl) rfl rfl (R.eqlB (b := (lisR l t).2) (c := b) (hF.ev rfl) (hF.ev rfl) Try.underlying4) fun a hF => ?_
    refine s0 ?_
    refine then_n (hK8 _ _ ?_)
    refine cD hF rfl (fun c2 => ?_) (fun c2 => ?_)
    ·
      refine wp_seq_k fun K9 hK9 => ?_
      refine wp_region_lit ?_
      refine sv' hF (wn rfl) rfl rfl (R.assign (hF.ev rfl)) fun a hF => ?_
      refine s0 ?_
      refine then_n (hK9 _ _ ?_)
      refine wp_ret (then_r (hR _ _ _ _ _ hF (run_results Try.results83 (.t hF rfl (.nil))) ?_))
      have e := show stopR l t b = (l, 143) from by rw [stopR, if_neg c1, if_pos c2]
      exact ⟨_, _, rfl, ⟨by rw [e]; rfl, by rw [e]; exact hV⟩, hS.one (.t (.t .h))⟩
    ·
      refine wp_skip ?_
      refine then_n (hK7 _ _ ?_)
      refine wp_seq_k fun K10 hK10 => ?_
      refine wp_seq_k fun K11 hK11 => ?_
      refine wp_region_lit ?_
      refine sv' hF (wn rfl) rfl rfl (R.move (hF.ev rfl)) fun a hF => ?_
      refine s0 ?_
      refine then_n (hK11 _ _ ?_)
      refine cS hF rfl (fun c3 => ?_) (fun c3 => ?_)
      ·
        refine wp_seq_k fun K12 hK12 => ?_
        refine wp_region_lit ?_
        refine sv' hF (wn rfl) rfl rfl (R.move (hF.ev rfl)) fun a hF => ?_
        refine sv' hF (wn rfl) rfl rfl (R.move (hF.ev rfl)) fun a hF => ?_
        refine sv' hF (wn rfl) rfl rfl (R.buildStr (l := [.int .i64 1, .int .i64 0, .int .i64 t, .int .u64 0, .int .u64 0, .int .u64 0, .int .u64 0]) Try.underlying139 ze139 pl139 (hF.evp rfl) rfl) fun a hF => ?_
        refine so (wn rfl) (O.callK rfl rfl hF ent107 (hF.evs rfl) hS (do_cells rb l s ⟨1, 0, t, 0⟩ [.int .i64 1, .int .i64 0, .int .i64 t, .int .u64 0, .int .u64 0, .int .u64 0, .int .u64 0] _ hV (hS.own1 (.t (.t .h))) hc (ac0 _ _)) (fun _ => (.t (.t .h))) fun v s29 a w hR hF hS => ?_)
        obtain ⟨rfl, hV2⟩ := hR
        refine sv' hF (wn rfl) rfl rfl (R.assign (hF.ev rfl)) fun a hF => ?_
        refine s0 ?_
        refine then_n (hK12 _ _ ?_)
        refine wp_ret (then_r (hR _ _ _ _ _ hF (run_results Try.results83 (.t hF rfl (.nil))) ?_))
        have e := show stopR l t b = (l ++ [⟨1, 0, t, 0⟩], 0) from by rw [stopR, if_neg c1, if_neg c2, c3]; rfl
        exact ⟨_, _, rfl, ⟨by rw [e]; rfl, by rw [e]; exact hV2⟩, hS.one (.t (.t .h))⟩
      ·
        refine wp_skip ?_
        refine then_n (hK10 _ _ ?_)
        refine wp_seq_k fun K13 hK13 => ?_
        refine wp_region_lit ?_
        refine sv' hF (wn rfl) rfl rfl (R.move (hF.ev rfl)) fun a hF => ?_
        refine sv' hF (wn rfl) rfl rfl (R.move (hF.ev rfl)) fun a hF => ?_
        refine sv' hF (wn rfl) rfl rfl (R.buildStr (l := [.int .i64 2, .int .i64 0, .int .i64 t, .int .u64 0, .int .u64 0, .int .u64 0, .int .u64 0]) Try.underlying139 ze139 pl139 (hF.evp rfl) rfl) fun a hF => ?_
        refine so (wn rfl) (O.callK rfl rfl hF ent107 (hF.evs rfl) hS (do_cells rb l s ⟨2, 0, t, 0⟩ [.int .i64 2, .int .i64 0, .int .i64 t, .int .u64 0, .int .u64 0, .int .u64 0, .int .u64 0] _ hV (hS.own1 (.t (.t .h))) hc (ac0 _ _)) (fun _ => (.t (.t .h))) fun v s33 a w hR hF hS => ?_)
        obtain ⟨rfl, hV2⟩ := hR
        refine sv' hF (wn rfl) rfl rfl (R.assign (hF.ev rfl)) fun a hF => ?_
        refine s0 ?_
        refine then_n (hK13 _ _ ?_)
        refine wp_ret (hR _ _ _ _ _ hF (run_results Try.results83 (.t hF rfl (.nil))) ?_)
        have e := show stopR l t b = (l ++ [⟨2, 0, t, 0⟩], 0) from by rw [stopR, if_neg c1, if_neg c2, c3]; rfl
        exact ⟨_, _, rfl, ⟨by rw [e]; rfl, by rw [e]; exact hV2⟩, hS.one (.t (.t .h))⟩

theorem risZ (x : Nat) (w0 : World) (hx : x < 115792089237316195423570985008687907853269984665640564039457584007913129639936) : Ret Try.prog 55 [wv x] w0 [] (fun v s => v = .bool (decide (x = 0)) ∧ s = []) := by
  refine fn_start Try.func55 rfl Try.ntmps55 rfl [(0, wv x)] ⟨rfl, trivial⟩ ?_
  intro Q a hP hF hR hN
  have hS := St.start w0
  refine wp_seq_k fun K1 hK1 => ?_
  refine wp_region_lit ?_
  refine so (wn rfl) (O.box rfl rfl hF (hF.ev rfl) rfl hS fun b1 a w hF hS => ?_)
  refine sv' hF (wn rfl) rfl rfl (R.assign (hF.ev rfl)) fun a hF => ?_
  refine s0 ?_
  refine then_n (hK1 _ _ ?_)
  refine wp_seq_k fun K2 hK2 => ?_
  refine wp_region_lit ?_
  refine sv' hF (wn rfl) rfl rfl (R.loadW agg29 (hF.ev rfl) hS .h sz29 (rfl)) fun a hF => ?_
  refine sv' hF (wn rfl) rfl rfl (R.buildArr (l := [_, _, _, _]) Try.underlying29 ze29 sz27 (hF.evp rfl) rfl) fun a hF => ?_
  refine sv' hF (wn rfl) rfl rfl (R.eqlW (x := x) (y := 0) (hF.ev rfl) (hF.ev rfl) hx (by decide)) fun a hF => ?_
  refine sv' hF (wn rfl) rfl rfl (R.assign (hF.ev rfl)) fun a hF => ?_
  refine s0 ?_
  refine then_n (hK2 _ _ ?_)
  refine wp_ret (hR _ _ _ _ _ hF (run_results Try.results55 (.t hF rfl (.nil))) ?_)
  exact ⟨_, [], rfl, ⟨rfl, rfl⟩, hS.none⟩

theorem rDeposit_calls (rb : Nat) (l : List Ac) (s : Seg) (t : Int) (x : Nat) (w0 : World) (hV : RefS rb l s) (ho : Own w0 s) (hok : AcsOk l) (hc : l.length * 64 ≤ 140737488351232) (hx : x < 115792089237316195423570985008687907853269984665640564039457584007913129639936) : Ret Try.prog 84 [.pointer (some ⟨rb, 0, none⟩), .int .i64 t, wv x] w0 (s.map (·.1)) (fun v s' => v = .int .i64 (depR l t x).2 ∧ RefS rb (depR l t x).1 s') := by
  refine fn_start Try.func84 rfl Try.ntmps84 rfl [(0, .pointer (some ⟨rb, 0, none⟩)), (1, .int .i64 t), (2, wv x)] ⟨rfl, rfl, rfl, trivial⟩ ?_
  intro Q a hP hF hR hN
  have hS := St.enter ho
  refine wp_seq_k fun K1 hK1 => ?_
  refine wp_region_lit ?_
  refine so (wn rfl) (O.box rfl rfl hF (hF.ev rfl) rfl hS fun b5 a w hF hS => ?_)
  refine sv' hF (wn rfl) rfl rfl (R.assign (hF.ev rfl)) fun a hF => ?_
  refine s0 ?_
  refine then_n (hK1 _ _ ?_)
  refine wp_seq_k fun K2 hK2 => ?_
  refine wp_region_lit ?_
  refine sv' hF (wn rfl) rfl rfl (R.move (hF.ev rfl)) fun a hF => ?_
  refine sv' hF (wn rfl) rfl rfl (R.move (hF.ev rfl)) fun a hF => ?_
  refine so (wn rfl) (O.call rfl rfl hF ent106 (hF.evs rfl) hS (Ret.quiet (there_calls rb l s t _ hV (hS.own1 (.t .h)) hok hc) (hS.own1 (.t .h))) fun v s14 a w hR hF hS => ?_)
  obtain ⟨rfl, rfl⟩ := hR
  refine sv' hF (wn rfl) rfl rfl (R.assign (hF.ev rfl)) fun a hF => ?_
  refine s0 ?_
  refine then_n (hK2 _ _ ?_)
  refine wp_seq_k fun K3 hK3 => ?_
  refine wp_seq_k fun K4 hK4 => ?_
  refine wp_region_lit ?_
  refine sv' hF (wn rfl) rfl rfl (R.move (hF.ev rfl)) fun a hF => ?_
  refine sv' hF (wn rfl) rfl rfl (R.neq (hF.ev rfl) (hF.ev rfl)) fun a hF => ?_
  refine s0 ?_
  refine then_n (hK4 _ _ ?_)
  refine cD hF rfl (fun c1 => ?_) (fun c1 => ?_)
  ·
    refine wp_seq_k fun K5 hK5 => ?_
    refine wp_region_lit ?_
    refine sv' hF (wn rfl) rfl rfl (R.move (hF.ev rfl)) fun a hF => ?_
    refine sv' hF (wn rfl) rfl rfl (R.assign (hF.ev rfl)) fun a hF => ?_
    refine s0 ?_
    refine then_n (hK5 _ _ ?_)
    refine wp_ret (then_r (hR _ _ _ _ _ hF (run_results Try.results84 (.t hF rfl (.nil))) ?_))
    have e := show depR l t x = (l, thereR l t) from by rw [depR, if_pos c1]
    exact ⟨_, _, rfl, ⟨by rw [e]; rfl, by rw [e]; exact hV⟩, hS.one (.t (.t .h))⟩
  ·
    refine wp_skip ?_
    refine then_n (hK3 _ _ ?_)
    refine wp_seq_k fun K6 hK6 => ?_
    refine wp_region_lit ?_
    refine sv' hF (wn rfl) rfl rfl (R.move (hF.ev rfl)) fun a hF => ?_
    refine sv' hF (wn rfl) rfl rfl (R.move (hF.ev rfl)) fun a hF => ?_
    refine so (wn rfl) (O.call rfl rfl hF ent90 (hF.evs rfl) hS (Ret.quiet (rListed_calls rb l s t _ hV (hS.own1 (.t (.t .h))) hok (by omega)) (hS.own1 (.t (.t .h)))) fun v s21 a w hR hF hS => ?_)
    obtain ⟨rfl, rfl⟩ := hR
    refine sv' hF (wn rfl) rfl rfl (R.move (hF.ev rfl)) fun a hF => ?_
    refine sv' hF (wn rfl) rfl rfl (R.extract (hF.ev rfl) rfl) fun a hF => ?_
    refine sv' hF (wn rfl) rfl rfl (R.extract (hF.ev rfl) rfl) fun a hF => ?_
    refine sv' hF (wn rfl) rfl rfl (R.assign (hF.ev rfl)) fun a hF => ?_
    refine sv' hF (wn rfl) rfl rfl (R.assign (hF.ev rfl)) fun a hF => ?_
    refine s0 ?_
    refine then_n (hK6 _ _ ?_)
    refine wp_seq_k fun K7 hK7 => ?_
    refine wp_seq_k fun K8 hK8 => ?_
    refine wp_region_lit ?_
    refine sv' hF (wn rfl) rfl rfl (R.move (hF.ev rfl)) fun a hF => ?_
    refine s0 ?_
    refine then_n (hK8 _ _ ?_)
    refine cS hF rfl (fun c2 => ?_) (fun c2 => ?_)
    ·
      refine wp_seq_k fun K9 hK9 => ?_
      refine wp_region_lit ?_
      refine sv' hF (wn rfl) rfl rfl (R.assign (hF.ev rfl)) fun a hF => ?_
      refine s0 ?_
      refine then_n (hK9 _ _ ?_)
      refine wp_ret (then_r (hR _ _ _ _ _ hF (run_results Try.results84 (.t hF rfl (.nil))) ?_))
      have e := show depR l t x = (l, 143) from by rw [depR, if_neg c1, if_pos c2]
      exact ⟨_, _, rfl, ⟨by rw [e]; rfl, by rw [e]; exact hV⟩, hS.one (.t (.t (.t .h)))⟩
    ·
      refine wp_skip ?_
      refine then_n (hK7 _ _ ?_)
      refine wp_seq_k fun K10 hK10 => ?_
      refine wp_seq_k fun K11 hK11 => ?_
      refine wp_region_lit ?_
      refine sv' hF (wn rfl) rfl rfl (R.loadW agg29 (hF.ev rfl) hS (.t (.t .h)) sz29 (rfl)) fun a hF => ?_
      refine so (wn rfl) (O.call rfl rfl hF ent55 (hF.evs rfl) hS (risZ x _ hx) fun v s26 a w hR hF hS => ?_)
      obtain ⟨rfl, rfl⟩ := hR
      refine s0 ?_
      refine then_n (hK11 _ _ ?_)
      refine cD hF rfl (fun c3 => ?_) (fun c3 => ?_)
      ·
        refine wp_seq_k fun K12 hK12 => ?_
        refine wp_region_lit ?_
        refine sv' hF (wn rfl) rfl rfl (R.assign (hF.ev rfl)) fun a hF => ?_
        refine s0 ?_
        refine then_n (hK12 _ _ ?_)
        refine wp_ret (then_r (hR _ _ _ _ _ hF (run_results Try.results84 (.t hF rfl (.nil))) ?_))
        have e := show depR l t x = (l, 144) from by rw [depR, if_neg c1, if_neg (by rw [c2]; decide), if_pos c3]
        exact ⟨_, _, rfl, ⟨by rw [e]; rfl, by rw [e]; exact hV⟩, hS.one (.t (.t (.t (.t .h))))⟩
      ·
        refine wp_skip ?_
        refine then_n (hK10 _ _ ?_)
        refine wp_seq_k fun K13 hK13 => ?_
        have hK13' : ∀ a w, (Fr 42 [(0, .pointer (some ⟨rb, 0, none⟩)), (1, .int .i64 t), (5, .pointer (some ⟨b5, 0, none⟩)), (11, .int .i64 (if heldR l t + x < 115792089237316195423570985008687907853269984665640564039457584007913129639936 then 0 else 22))] a ∧ St w0 (s.map (·.1)) [s, [(b5, Cel (wc x) 29)]] w) → K13 a w := by
          rintro a w ⟨hF, hS⟩
          refine hK13 _ _ ?_
          refine wp_seq_k fun K14 hK14 => ?_
          refine wp_seq_k fun K15 hK15 => ?_
          refine wp_region_lit ?_
          refine sv' hF (wn rfl) rfl rfl (R.move (hF.ev rfl)) fun a hF => ?_
          refine sv' hF (wn rfl) rfl rfl (R.as (u := .bool (decide (¬ heldR l t + x < 115792089237316195423570985008687907853269984665640564039457584007913129639936))) (R.neq (p := if heldR l t + x < 115792089237316195423570985008687907853269984665640564039457584007913129639936 then 0 else 22) (q := 0) (hF.ev rfl) (hF.ev rfl)) (congrArg Value.bool (decide_eq_decide.2 (not_congr (code_ok (by decide)))))) fun a hF => ?_
          refine s0 ?_
          refine then_n (hK15 _ _ ?_)
          refine cD hF rfl (fun c4 => ?_) (fun c4 => ?_)
          ·
            refine wp_seq_k fun K16 hK16 => ?_
            refine wp_region_lit ?_
            refine sv' hF (wn rfl) rfl rfl (R.assign (hF.ev rfl)) fun a hF => ?_
            refine s0 ?_
            refine then_n (hK16 _ _ ?_)
            refine wp_ret (then_r (hR _ _ _ _ _ hF (run_results Try.results84 (.t hF rfl (.nil))) ?_))
            have e := show depR l t x = (l, 145) from by rw [depR, if_neg c1, if_neg (by rw [c2]; decide), if_neg c3, if_neg c4]
            exact ⟨_, _, rfl, ⟨by rw [e]; rfl, by rw [e]; exact hV⟩, hS.one .h⟩
          ·
            refine wp_skip ?_
            refine then_n (hK14 _ _ ?_)
            refine wp_seq_k fun K17 hK17 => ?_
            refine wp_region_lit ?_
            refine sv' hF (wn rfl) rfl rfl (R.move (hF.ev rfl)) fun a hF => ?_
            refine sv' hF (wn rfl) rfl rfl (R.move (hF.ev rfl)) fun a hF => ?_
            refine sv' hF (wn rfl) rfl rfl (R.loadW agg29 (hF.ev rfl) hS (.t .h) sz29 (rfl)) fun a hF => ?_
            refine sv' hF (wn rfl) rfl rfl (R.buildStr (l := acL ⟨3, 0, t, x⟩) Try.underlying139 ze139 pl139 (hF.evp rfl) rfl) fun a hF => ?_
            refine so (wn rfl) (O.callK rfl rfl hF ent107 (hF.evs rfl) hS (do_calls rb l s ⟨3, 0, t, x⟩ _ hV (hS.own1 .h) hc) (fun _ => .h) fun v s41 a w hR hF hS => ?_)
            obtain ⟨rfl, hV2⟩ := hR
            refine sv' hF (wn rfl) rfl rfl (R.assign (hF.ev rfl)) fun a hF => ?_
            refine s0 ?_
            refine then_n (hK17 _ _ ?_)
            refine wp_ret (hR _ _ _ _ _ hF (run_results Try.results84 (.t hF rfl (.nil))) ?_)
            have e := show depR l t x = (l ++ [⟨3, 0, t, x⟩], 0) from by rw [depR, if_neg c1, if_neg (by rw [c2]; decide), if_neg c3, if_pos (Decidable.of_not_not c4)]
            exact ⟨_, _, rfl, ⟨by rw [e]; rfl, by rw [e]; exact hV2⟩, hS.one .h⟩
        refine wp_drawN hS (hS.sel [0, 1, 2, 3, 4] rfl rfl) [(0, 0), (1, 0), (3, 1), (2, 2), (4, 2), (5, 0), (6, 0), (7, 0), (8, 2), (9, 3), (10, 0)] (.node [(0, 0), (1, 0), (3, 1)] (.node [(2, 2)] (.leaf [(4, 2), (5, 0), (6, 0), (7, 0), (8, 2), (9, 3), (10, 0)]) (.leaf [(8, 2), (4, 2), (5, 0), (6, 0), (7, 0), (9, 3), (10, 0)])) (.leaf [(8, 2), (2, 2), (4, 2), (5, 0), (6, 0), (7, 0), (9, 3), (10, 0)])) mix (by kernel_rfl) (hP.then) fun w hS hD => ?_
        refine dq hF rfl (wn rfl) rfl rfl (fun w => R.move (hF.ev rfl)) fun a hF => ?_
        refine dq hF rfl (wn rfl) rfl rfl (fun w => R.move (hF.ev rfl)) fun a hF => ?_
        refine dr hF rfl (wn rfl) rfl rfl hD (fun w hD => R.loadW agg29 (hF.ev rfl) hD (.t (.t (.t .h))) sz29 (rfl)) fun a hF => ?_
        refine d0 ?_
        refine ⟨?_, ?_⟩
        ·
          refine dl rfl (wn rfl) (O.call rfl rfl hF ent91 (hF.evs rfl) hS (Ret.quiet (rHeld_calls rb l s t _ hV (hS.own1 (.t (.t (.t (.t .h))))) hok (by omega)) (hS.own1 (.t (.t (.t (.t .h)))))) fun v s30 a w hR hF hS => ⟨fun hD => hS.sel [1, 2, 3, 4, 5] rfl rfl, ?_⟩)
          obtain ⟨rfl, rfl⟩ := hR
          have hD := hS.sel [1, 2, 3, 4, 5] rfl rfl
          refine d0 ?_
          refine ⟨?_, ?_⟩
          ·
            refine dl rfl (wn rfl) (O.call rfl rfl hF ent22 (hF.evs rfl) hS (radd_calls (heldR l t) x _ (heldR_lt _ _) hx) fun v s32 a w hR hF hS => ⟨fun hD => hS.sel [2, 3, 4, 5, 6] rfl rfl, ?_⟩)
            obtain ⟨rfl, rfl⟩ := hR
            have hD := hS.sel [2, 3, 4, 5, 6] rfl rfl
            refine dq hF rfl (wn rfl) rfl rfl (fun w => R.move (hF.ev rfl)) fun a hF => ?_
            refine dq hF rfl (wn rfl) rfl rfl (fun w => R.extract (hF.ev rfl) rfl) fun a hF => ?_
            refine dq hF rfl (wn rfl) rfl rfl (fun w => R.extract (hF.ev rfl) rfl) fun a hF => ?_
            refine dl rfl (wn rfl) (O.alloc rfl rfl hF ze29 rfl hS fun b10 a w hF hS => ⟨fun hD => hS.sel [3, 4, 5, 6, 7] rfl rfl, ?_⟩)
            have hD := hS.sel [3, 4, 5, 6, 7] rfl rfl
            refine dw rfl (wn rfl) (O.storeW sz29 (hF.ev rfl) (hF.ev rfl) (rfl) rfl (by simp [Value.oneCell']) hS .h (rfl) fun w hS => ?_)
            refine dq hF rfl (wn rfl) rfl rfl (fun w => R.assign (hF.ev rfl)) fun a hF => ?_
            refine d0 ?_
            exact then_n (hK13' _ _ ⟨hF.sub ⟨rfl, rfl, rfl, rfl, trivial⟩, hS.sel [7, 6] rfl rfl⟩)
          ·
            refine dl rfl (wn rfl) (O.alloc rfl rfl hF ze29 rfl hS fun b10 a w hF hS => ⟨fun hD => hS.sel [2, 3, 4, 5, 6] rfl rfl, ?_⟩)
            have hD := hS.sel [2, 3, 4, 5, 6] rfl rfl
            refine dl rfl (wn rfl) (O.call rfl rfl hF ent22 (hF.evs rfl) hS (radd_calls (heldR l t) x _ (heldR_lt _ _) hx) fun v s32 a w hR hF hS => ⟨fun hD => hS.sel [3, 4, 5, 6, 7] rfl rfl, ?_⟩)
            obtain ⟨rfl, rfl⟩ := hR
            have hD := hS.sel [3, 4, 5, 6, 7] rfl rfl
            refine dq hF rfl (wn rfl) rfl rfl (fun w => R.move (hF.ev rfl)) fun a hF => ?_
            refine dq hF rfl (wn rfl) rfl rfl (fun w => R.extract (hF.ev rfl) rfl) fun a hF => ?_
            refine dq hF rfl (wn rfl) rfl rfl (fun w => R.extract (hF.ev rfl) rfl) fun a hF => ?_
            refine dw rfl (wn rfl) (O.storeW sz29 (hF.ev rfl) (hF.ev rfl) (rfl) rfl (by simp [Value.oneCell']) hS (.t .h) (rfl) fun w hS => ?_)
            refine dq hF rfl (wn rfl) rfl rfl (fun w => R.assign (hF.ev rfl)) fun a hF => ?_
            refine d0 ?_
            exact then_n (hK13' _ _ ⟨hF.sub ⟨rfl, rfl, rfl, rfl, trivial⟩, hS.sel [7, 6] rfl rfl⟩)
        ·
          refine dl rfl (wn rfl) (O.alloc rfl rfl hF ze29 rfl hS fun b10 a w hF hS => ⟨fun hD => hS.sel [1, 2, 3, 4, 5] rfl rfl, ?_⟩)
          have hD := hS.sel [1, 2, 3, 4, 5] rfl rfl
          refine dl rfl (wn rfl) (O.call rfl rfl hF ent91 (hF.evs rfl) hS (Ret.quiet (rHeld_calls rb l s t _ hV (hS.own1 (.t (.t (.t (.t (.t .h)))))) hok (by omega)) (hS.own1 (.t (.t (.t (.t (.t .h))))))) fun v s30 a w hR hF hS => ⟨fun hD => hS.sel [2, 3, 4, 5, 6] rfl rfl, ?_⟩)
          obtain ⟨rfl, rfl⟩ := hR
          have hD := hS.sel [2, 3, 4, 5, 6] rfl rfl
          refine dl rfl (wn rfl) (O.call rfl rfl hF ent22 (hF.evs rfl) hS (radd_calls (heldR l t) x _ (heldR_lt _ _) hx) fun v s32 a w hR hF hS => ⟨fun hD => hS.sel [3, 4, 5, 6, 7] rfl rfl, ?_⟩)
          obtain ⟨rfl, rfl⟩ := hR
          have hD := hS.sel [3, 4, 5, 6, 7] rfl rfl
          refine dq hF rfl (wn rfl) rfl rfl (fun w => R.move (hF.ev rfl)) fun a hF => ?_
          refine dq hF rfl (wn rfl) rfl rfl (fun w => R.extract (hF.ev rfl) rfl) fun a hF => ?_
          refine dq hF rfl (wn rfl) rfl rfl (fun w => R.extract (hF.ev rfl) rfl) fun a hF => ?_
          refine dw rfl (wn rfl) (O.storeW sz29 (hF.ev rfl) (hF.ev rfl) (rfl) rfl (by simp [Value.oneCell']) hS (.t (.t .h)) (rfl) fun w hS => ?_)
          refine dq hF rfl (wn rfl) rfl rfl (fun w => R.assign (hF.ev rfl)) fun a hF => ?_
          refine d0 ?_
          exact then_n (hK13' _ _ ⟨hF.sub ⟨rfl, rfl, rfl, rfl, trivial⟩, hS.sel [7, 6] rfl rfl⟩)

theorem rPay_calls (rb : Nat) (l : List Ac) (s : Seg) (i t : Int) (x : Nat) (w0 : World) (hV : RefS rb l s) (ho : Own w0 s) (hok : AcsOk l) (hc : l.length * 64 ≤ 140737488351232) (hx : x < 115792089237316195423570985008687907853269984665640564039457584007913129639936) : Ret Try.prog 85 [.pointer (some ⟨rb, 0, none⟩), .int .i64 i, .int .i64 t, wv x] w0 (s.map (·.1)) (fun v s' => v = .int .i64 (payR l i t x).2 ∧ RefS rb (payR l i t x).1 s') := by
  refine fn_start Try.func85 rfl Try.ntmps85 rfl [(0, .pointer (some ⟨rb, 0, none⟩)), (1, .int .i64 i), (2, .int .i64 t), (3, wv x)] ⟨rfl, rfl, rfl, rfl, trivial⟩ ?_
  intro Q a hP hF hR hN
  have hS := St.enter ho
  refine wp_seq_k fun K1 hK1 => ?_
  refine wp_region_lit ?_
  refine so (wn rfl) (O.box rfl rfl hF (hF.ev rfl) rfl hS fun b7 a w hF hS => ?_)
  refine sv' hF (wn rfl) rfl rfl (R.assign (hF.ev rfl)) fun a hF => ?_
  refine s0 ?_
  refine then_n (hK1 _ _ ?_)
  refine wp_seq_k fun K2 hK2 => ?_
  refine wp_seq_k fun K3 hK3 => ?_
  have hK3' : ∀ a w, (Fr 37 [(0, .pointer (some ⟨rb, 0, none⟩)), (1, .int .i64 i), (2, .int .i64 t), (7, .pointer (some ⟨b7, 0, none⟩)), (15, .bool (decide (i < 0 ∨ 1099511627776 ≤ i)))] a ∧ St w0 (s.map (·.1)) [s, [(b7, Cel (wc x) 29)]] w) → K3 a w := by
    rintro a w ⟨hF, hS⟩
    refine hK3 _ _ ?_
    refine cD hF rfl (fun c0 => ?_) (fun c0 => ?_)
    ·
      refine wp_seq_k fun K4 hK4 => ?_
      refine wp_region_lit ?_
      refine sv' hF (wn rfl) rfl rfl (R.assign (hF.ev rfl)) fun a hF => ?_
      refine s0 ?_
      refine then_n (hK4 _ _ ?_)
      refine wp_ret (then_r (hR _ _ _ _ _ hF (run_results Try.results85 (.t hF rfl (.nil))) ?_))
      have e := show payR l i t x = (l, 148) from by rw [payR, if_pos c0]
      exact ⟨_, _, rfl, ⟨by rw [e]; rfl, by rw [e]; exact hV⟩, hS.one .h⟩
    ·
      refine wp_skip ?_
      refine then_n (hK2 _ _ ?_)
      refine wp_seq_k fun K5 hK5 => ?_
      refine wp_region_lit ?_
      refine sv' hF (wn rfl) rfl rfl (R.move (hF.ev rfl)) fun a hF => ?_
      refine sv' hF (wn rfl) rfl rfl (R.move (hF.ev rfl)) fun a hF => ?_
      refine so (wn rfl) (O.call rfl rfl hF ent106 (hF.evs rfl) hS (Ret.quiet (there_calls rb l s t _ hV (hS.own1 .h) hok hc) (hS.own1 .h)) fun v s18 a w hR hF hS => ?_)
      obtain ⟨rfl, rfl⟩ := hR
      refine sv' hF (wn rfl) rfl rfl (R.assign (hF.ev rfl)) fun a hF => ?_
      refine s0 ?_
      refine then_n (hK5 _ _ ?_)
      refine wp_seq_k fun K6 hK6 => ?_
      refine wp_seq_k fun K7 hK7 => ?_
      refine wp_region_lit ?_
      refine sv' hF (wn rfl) rfl rfl (R.move (hF.ev rfl)) fun a hF => ?_
      refine sv' hF (wn rfl) rfl rfl (R.neq (hF.ev rfl) (hF.ev rfl)) fun a hF => ?_
      refine s0 ?_
      refine then_n (hK7 _ _ ?_)
      refine cD hF rfl (fun c1 => ?_) (fun c1 => ?_)
      ·
        refine wp_seq_k fun K8 hK8 => ?_
        refine wp_region_lit ?_
        refine sv' hF (wn rfl) rfl rfl (R.move (hF.ev rfl)) fun a hF => ?_
        refine sv' hF (wn rfl) rfl rfl (R.assign (hF.ev rfl)) fun a hF => ?_
        refine s0 ?_
        refine then_n (hK8 _ _ ?_)
        refine wp_ret (then_r (hR _ _ _ _ _ hF (run_results Try.results85 (.t hF rfl (.nil))) ?_))
        have e := show payR l i t x = (l, thereR l t) from by rw [payR, if_neg c0, if_pos c1]
        exact ⟨_, _, rfl, ⟨by rw [e]; rfl, by rw [e]; exact hV⟩, hS.one (.t .h)⟩
      ·
        refine wp_skip ?_
        refine then_n (hK6 _ _ ?_)
        refine wp_seq_k fun K9 hK9 => ?_
        refine wp_seq_k fun K10 hK10 => ?_
        refine wp_region_lit ?_
        refine sv' hF (wn rfl) rfl rfl (R.move (hF.ev rfl)) fun a hF => ?_
        refine sv' hF (wn rfl) rfl rfl (R.move (hF.ev rfl)) fun a hF => ?_
        refine so (wn rfl) (O.call rfl rfl hF ent92 (hF.evs rfl) hS (Ret.quiet (rPaid_calls rb l s i _ hV (hS.own1 (.t .h)) hok (by omega)) (hS.own1 (.t .h))) fun v s24 a w hR hF hS => ?_)
        obtain ⟨rfl, rfl⟩ := hR
        refine s0 ?_
        refine then_n (hK10 _ _ ?_)
        refine cS hF rfl (fun c2 => ?_) (fun c2 => ?_)
        ·
          refine wp_seq_k fun K11 hK11 => ?_
          refine wp_region_lit ?_
          refine sv' hF (wn rfl) rfl rfl (R.assign (hF.ev rfl)) fun a hF => ?_
          refine s0 ?_
          refine then_n (hK11 _ _ ?_)
          refine wp_ret (then_r (hR _ _ _ _ _ hF (run_results Try.results85 (.t hF rfl (.nil))) ?_))
          have e := show payR l i t x = (l, 147) from by rw [payR, if_neg c0, if_neg c1, if_pos c2]
          exact ⟨_, _, rfl, ⟨by rw [e]; rfl, by rw [e]; exact hV⟩, hS.one (.t (.t .h))⟩
        ·
          refine wp_skip ?_
          refine then_n (hK9 _ _ ?_)
          refine wp_seq_k fun K12 hK12 => ?_
          refine wp_seq_k fun K13 hK13 => ?_
          refine wp_drawS hS [(0, 0), (1, 0), (3, 1), (2, 2), (4, 2), (5, 0)] mix (by kernel_rfl) (hP.then.then) fun w hS => ?_
          have hD := hS
          refine dq hF rfl (wn rfl) rfl rfl (fun w => R.move (hF.ev rfl)) fun a hF => ?_
          refine dq hF rfl (wn rfl) rfl rfl (fun w => R.move (hF.ev rfl)) fun a hF => ?_
          refine dr hF rfl (wn rfl) rfl rfl hD (fun w hD => R.loadW agg29 (hF.ev rfl) hD (.t (.t (.t .h))) sz29 (rfl)) fun a hF => ?_
          refine dl rfl (wn rfl) (O.call rfl rfl hF ent91 (hF.evs rfl) hS (Ret.quiet (rHeld_calls rb l s t _ hV (hS.own1 (.t (.t .h))) hok (by omega)) (hS.own1 (.t (.t .h)))) fun v s27 a w hR hF hS => ⟨fun hD => hS.tail, ?_⟩)
          obtain ⟨rfl, rfl⟩ := hR
          have hD := hS.tail
          refine dl rfl (wn rfl) (O.call rfl rfl hF ent31 (hF.evs rfl) hS (rcmp_calls (heldR l t) x _ (heldR_lt _ _) hx) fun v s29 a w hR hF hS => ⟨fun hD => hS.tail.tail, ?_⟩)
          obtain ⟨rfl, rfl⟩ := hR
          have hD := hS.tail.tail
          refine dq hF rfl (wn rfl) rfl rfl (fun w => R.as (u := .bool (decide (heldR l t < x))) (R.lss (p := cmpN (heldR l t) x) (q := 0) (hF.ev rfl) (hF.ev rfl)) (congrArg Value.bool (decide_eq_decide.2 (cmpN_neg _ _)))) fun a hF => ?_
          refine d0 ?_
          refine then_n (hK13 _ _ ?_)
          refine cD hF rfl (fun c4 => ?_) (fun c4 => ?_)
          ·
            refine wp_seq_k fun K14 hK14 => ?_
            refine wp_region_lit ?_
            refine sv' hF (wn rfl) rfl rfl (R.assign (hF.ev rfl)) fun a hF => ?_
            refine s0 ?_
            refine then_n (hK14 _ _ ?_)
            refine wp_ret (then_r (hR _ _ _ _ _ hF (run_results Try.results85 (.t hF rfl (.nil))) ?_))
            have e := show payR l i t x = (l, 146) from by rw [payR, if_neg c0, if_neg c1, if_neg (by rw [c2]; decide), if_pos c4]
            exact ⟨_, _, rfl, ⟨by rw [e]; rfl, by rw [e]; exact hV⟩, hS.one (.t (.t (.t (.t .h))))⟩
          ·
            refine wp_skip ?_
            refine then_n (hK12 _ _ ?_)
            refine wp_seq_k fun K15 hK15 => ?_
            refine wp_region_lit ?_
            refine sv' hF (wn rfl) rfl rfl (R.move (hF.ev rfl)) fun a hF => ?_
            refine sv' hF (wn rfl) rfl rfl (R.move (hF.ev rfl)) fun a hF => ?_
            refine sv' hF (wn rfl) rfl rfl (R.move (hF.ev rfl)) fun a hF => ?_
            refine sv' hF (wn rfl) rfl rfl (R.loadW agg29 (hF.ev rfl) hS (.t (.t (.t (.t (.t .h))))) sz29 (rfl)) fun a hF => ?_
            refine sv' hF (wn rfl) rfl rfl (R.buildStr (l := acL ⟨4, i, t, x⟩) Try.underlying139 ze139 pl139 (hF.evp rfl) rfl) fun a hF => ?_
            refine so (wn rfl) (O.callK rfl rfl hF ent107 (hF.evs rfl) hS (do_calls rb l s ⟨4, i, t, x⟩ _ hV (hS.own1 (.t (.t (.t (.t .h))))) hc) (fun _ => (.t (.t (.t (.t .h))))) fun v s36 a w hR hF hS => ?_)
            obtain ⟨rfl, hV2⟩ := hR
            refine sv' hF (wn rfl) rfl rfl (R.assign (hF.ev rfl)) fun a hF => ?_
            refine s0 ?_
            refine then_n (hK15 _ _ ?_)
            refine wp_ret (hR _ _ _ _ _ hF (run_results Try.results85 (.t hF rfl (.nil))) ?_)
            have e := show payR l i t x = (l ++ [⟨4, i, t, x⟩], 0) from by rw [payR, if_neg c0, if_neg c1, if_neg (by rw [c2]; decide), if_neg c4]
            exact ⟨_, _, rfl, ⟨by rw [e]; rfl, by rw [e]; exact hV2⟩, hS.one (.t (.t (.t (.t .h))))⟩
  refine wp_region_lit ?_
  refine sv' hF (wn rfl) rfl rfl (R.move (hF.ev rfl)) fun a hF => ?_
  refine sv' hF (wn rfl) rfl rfl (R.lss (hF.ev rfl) (hF.ev rfl)) fun a hF => ?_
  refine sv' hF (wn rfl) rfl rfl (R.move (hF.ev rfl)) fun a hF => ?_
  refine hF.splitD (t := 12) rfl (fun h12 hF => ?_) (fun h12 hF => ?_)
  ·
    refine sk hF (ws hF rfl rfl rfl rfl) rfl rfl fun a hF => ?_
    refine sk hF (ws hF rfl rfl rfl rfl) rfl rfl fun a hF => ?_
    refine sv' hF (wn rfl) rfl rfl (R.pickT (hF.ev rfl) (hF.ev rfl)) fun a hF => ?_
    refine s0 ?_
    exact then_n (hK3' _ _ ⟨hF.sub ⟨rfl, rfl, rfl, rfl, (congrArg (fun z => some (Value.bool z)) (by first | exact (decide_eq_true (by omega)).symm | exact (decide_eq_false (by omega)).symm | exact decide_eq_decide.2 (by omega))), trivial⟩, hS.sel [1, 0] rfl rfl⟩)
  ·
    refine sv' hF (wy hF rfl rfl rfl) rfl rfl (R.move (hF.ev rfl)) fun a hF => ?_
    refine sv' hF (wy hF rfl rfl rfl) rfl rfl (R.geq (hF.ev rfl) (hF.ev rfl)) fun a hF => ?_
    refine sv' hF (wn rfl) rfl rfl (R.pickF (hF.ev rfl) (hF.ev rfl)) fun a hF => ?_
    refine s0 ?_
    exact then_n (hK3' _ _ ⟨hF.sub ⟨rfl, rfl, rfl, rfl, (congrArg (fun z => some (Value.bool z)) (by first | exact (decide_eq_true (by omega)).symm | exact (decide_eq_false (by omega)).symm | exact decide_eq_decide.2 (by omega))), trivial⟩, hS.sel [1, 0] rfl rfl⟩)

theorem rLock_calls (rb : Nat) (l : List Ac) (s : Seg) (x : Nat) (w0 : World) (hV : RefS rb l s) (ho : Own w0 s) (hok : AcsOk l) (hc : l.length * 64 ≤ 140737488351232) (hx : x < 115792089237316195423570985008687907853269984665640564039457584007913129639936) : Ret Try.prog 86 [.pointer (some ⟨rb, 0, none⟩), wv x] w0 (s.map (·.1)) (fun v s' => v = .int .i64 (lokR l x).2 ∧ RefS rb (lokR l x).1 s') := by
  refine fn_start Try.func86 rfl Try.ntmps86 rfl [(0, .pointer (some ⟨rb, 0, none⟩)), (1, wv x)] ⟨rfl, rfl, trivial⟩ ?_
  intro Q a hP hF hR hN
  have hS := St.enter ho
  refine wp_seq_k fun K1 hK1 => ?_
  refine wp_region_lit ?_
  refine so (wn rfl) (O.box rfl rfl hF (hF.ev rfl) rfl hS fun b3 a w hF hS => ?_)
  refine sv' hF (wn rfl) rfl rfl (R.assign (hF.ev rfl)) fun a hF => ?_
  refine s0 ?_
  refine then_n (hK1 _ _ ?_)
  refine wp_seq_k fun K2 hK2 => ?_
  have hK2' : ∀ a w, (Fr 20 [(0, .pointer (some ⟨rb, 0, none⟩)), (3, .pointer (some ⟨b3, 0, none⟩)), (6, .int .i64 (if lockR l + x < 115792089237316195423570985008687907853269984665640564039457584007913129639936 then 0 else 22))] a ∧ St w0 (s.map (·.1)) [s, [(b3, Cel (wc x) 29)]] w) → K2 a w := by
    rintro a w ⟨hF, hS⟩
    refine hK2 _ _ ?_
    refine wp_seq_k fun K3 hK3 => ?_
    refine wp_seq_k fun K4 hK4 => ?_
    refine wp_region_lit ?_
    refine sv' hF (wn rfl) rfl rfl (R.move (hF.ev rfl)) fun a hF => ?_
    refine sv' hF (wn rfl) rfl rfl (R.as (u := .bool (decide (¬ lockR l + x < 115792089237316195423570985008687907853269984665640564039457584007913129639936))) (R.neq (p := if lockR l + x < 115792089237316195423570985008687907853269984665640564039457584007913129639936 then 0 else 22) (q := 0) (hF.ev rfl) (hF.ev rfl)) (congrArg Value.bool (decide_eq_decide.2 (not_congr (code_ok (by decide)))))) fun a hF => ?_
    refine s0 ?_
    refine then_n (hK4 _ _ ?_)
    refine cD hF rfl (fun c4 => ?_) (fun c4 => ?_)
    ·
      refine wp_seq_k fun K5 hK5 => ?_
      refine wp_region_lit ?_
      refine sv' hF (wn rfl) rfl rfl (R.assign (hF.ev rfl)) fun a hF => ?_
      refine s0 ?_
      refine then_n (hK5 _ _ ?_)
      refine wp_ret (then_r (hR _ _ _ _ _ hF (run_results Try.results86 (.t hF rfl (.nil))) ?_))
      have e := show lokR l x = (l, 145) from by rw [lokR, if_neg c4]
      exact ⟨_, _, rfl, ⟨by rw [e]; rfl, by rw [e]; exact hV⟩, hS.one .h⟩
    ·
      refine wp_skip ?_
      refine then_n (hK3 _ _ ?_)
      refine wp_seq_k fun K6 hK6 => ?_
      refine wp_region_lit ?_
      refine sv' hF (wn rfl) rfl rfl (R.move (hF.ev rfl)) fun a hF => ?_
      refine sv' hF (wn rfl) rfl rfl (R.loadW agg29 (hF.ev rfl) hS (.t .h) sz29 (rfl)) fun a hF => ?_
      refine sv' hF (wn rfl) rfl rfl (R.buildStr (l := acL ⟨5, 0, -1, x⟩) Try.underlying139 ze139 pl139 (hF.evp rfl) rfl) fun a hF => ?_
      refine so (wn rfl) (O.callK rfl rfl hF ent107 (hF.evs rfl) hS (do_calls rb l s ⟨5, 0, -1, x⟩ _ hV (hS.own1 .h) hc) (fun _ => .h) fun v s19 a w hR hF hS => ?_)
      obtain ⟨rfl, hV2⟩ := hR
      refine sv' hF (wn rfl) rfl rfl (R.assign (hF.ev rfl)) fun a hF => ?_
      refine s0 ?_
      refine then_n (hK6 _ _ ?_)
      refine wp_ret (hR _ _ _ _ _ hF (run_results Try.results86 (.t hF rfl (.nil))) ?_)
      have e := show lokR l x = (l ++ [⟨5, 0, -1, x⟩], 0) from by rw [lokR, if_pos (Decidable.of_not_not c4)]
      exact ⟨_, _, rfl, ⟨by rw [e]; rfl, by rw [e]; exact hV2⟩, hS.one .h⟩
  refine wp_drawN hS (hS.sel [0, 1] rfl rfl) [(0, 0), (2, 1), (1, 2), (3, 2), (4, 0), (5, 0), (6, 0), (7, 2), (8, 3), (9, 0)] (.node [(0, 0), (2, 1)] (.node [(1, 2)] (.leaf [(3, 2), (4, 0), (5, 0), (6, 0), (7, 2), (8, 3), (9, 0)]) (.leaf [(7, 2), (3, 2), (4, 0), (5, 0), (6, 0), (8, 3), (9, 0)])) (.leaf [(7, 2), (1, 2), (3, 2), (4, 0), (5, 0), (6, 0), (8, 3), (9, 0)])) mix (by kernel_rfl) (hP.then) fun w hS hD => ?_
  refine dq hF rfl (wn rfl) rfl rfl (fun w => R.move (hF.ev rfl)) fun a hF => ?_
  refine dr hF rfl (wn rfl) rfl rfl hD (fun w hD => R.loadW agg29 (hF.ev rfl) hD .h sz29 (rfl)) fun a hF => ?_
  refine d0 ?_
  refine ⟨?_, ?_⟩
  ·
    refine dl rfl (wn rfl) (O.call rfl rfl hF ent93 (hF.evs rfl) hS (Ret.quiet (rLocked_calls rb l s  _ hV (hS.own1 (.t .h)) hok (by omega)) (hS.own1 (.t .h))) fun v s9 a w hR hF hS => ⟨fun hD => hS.sel [1, 2] rfl rfl, ?_⟩)
    obtain ⟨rfl, rfl⟩ := hR
    have hD := hS.sel [1, 2] rfl rfl
    refine d0 ?_
    refine ⟨?_, ?_⟩
    ·
      refine dl rfl (wn rfl) (O.call rfl rfl hF ent22 (hF.evs rfl) hS (radd_calls (lockR l) x _ (lockR_lt _) hx) fun v s11 a w hR hF hS => ⟨fun hD => hS.sel [2, 3] rfl rfl, ?_⟩)
      obtain ⟨rfl, rfl⟩ := hR
      have hD := hS.sel [2, 3] rfl rfl
      refine dq hF rfl (wn rfl) rfl rfl (fun w => R.move (hF.ev rfl)) fun a hF => ?_
      refine dq hF rfl (wn rfl) rfl rfl (fun w => R.extract (hF.ev rfl) rfl) fun a hF => ?_
      refine dq hF rfl (wn rfl) rfl rfl (fun w => R.extract (hF.ev rfl) rfl) fun a hF => ?_
      refine dl rfl (wn rfl) (O.alloc rfl rfl hF ze29 rfl hS fun b5 a w hF hS => ⟨fun hD => hS.sel [3, 4] rfl rfl, ?_⟩)
      have hD := hS.sel [3, 4] rfl rfl
      refine dw rfl (wn rfl) (O.storeW sz29 (hF.ev rfl) (hF.ev rfl) (rfl) rfl (by simp [Value.oneCell']) hS .h (rfl) fun w hS => ?_)
      refine dq hF rfl (wn rfl) rfl rfl (fun w => R.assign (hF.ev rfl)) fun a hF => ?_
      refine d0 ?_
      exact then_n (hK2' _ _ ⟨hF.sub ⟨rfl, rfl, rfl, trivial⟩, hS.sel [4, 3] rfl rfl⟩)
    ·
      refine dl rfl (wn rfl) (O.alloc rfl rfl hF ze29 rfl hS fun b5 a w hF hS => ⟨fun hD => hS.sel [2, 3] rfl rfl, ?_⟩)
      have hD := hS.sel [2, 3] rfl rfl
      refine dl rfl (wn rfl) (O.call rfl rfl hF ent22 (hF.evs rfl) hS (radd_calls (lockR l) x _ (lockR_lt _) hx) fun v s11 a w hR hF hS => ⟨fun hD => hS.sel [3, 4] rfl rfl, ?_⟩)
      obtain ⟨rfl, rfl⟩ := hR
      have hD := hS.sel [3, 4] rfl rfl
      refine dq hF rfl (wn rfl) rfl rfl (fun w => R.move (hF.ev rfl)) fun a hF => ?_
      refine dq hF rfl (wn rfl) rfl rfl (fun w => R.extract (hF.ev rfl) rfl) fun a hF => ?_
      refine dq hF rfl (wn rfl) rfl rfl (fun w => R.extract (hF.ev rfl) rfl) fun a hF => ?_
      refine dw rfl (wn rfl) (O.storeW sz29 (hF.ev rfl) (hF.ev rfl) (rfl) rfl (by simp [Value.oneCell']) hS (.t .h) (rfl) fun w hS => ?_)
      refine dq hF rfl (wn rfl) rfl rfl (fun w => R.assign (hF.ev rfl)) fun a hF => ?_
      refine d0 ?_
      exact then_n (hK2' _ _ ⟨hF.sub ⟨rfl, rfl, rfl, trivial⟩, hS.sel [4, 3] rfl rfl⟩)
  ·
    refine dl rfl (wn rfl) (O.alloc rfl rfl hF ze29 rfl hS fun b5 a w hF hS => ⟨fun hD => hS.sel [1, 2] rfl rfl, ?_⟩)
    have hD := hS.sel [1, 2] rfl rfl
    refine dl rfl (wn rfl) (O.call rfl rfl hF ent93 (hF.evs rfl) hS (Ret.quiet (rLocked_calls rb l s  _ hV (hS.own1 (.t (.t .h))) hok (by omega)) (hS.own1 (.t (.t .h)))) fun v s9 a w hR hF hS => ⟨fun hD => hS.sel [2, 3] rfl rfl, ?_⟩)
    obtain ⟨rfl, rfl⟩ := hR
    have hD := hS.sel [2, 3] rfl rfl
    refine dl rfl (wn rfl) (O.call rfl rfl hF ent22 (hF.evs rfl) hS (radd_calls (lockR l) x _ (lockR_lt _) hx) fun v s11 a w hR hF hS => ⟨fun hD => hS.sel [3, 4] rfl rfl, ?_⟩)
    obtain ⟨rfl, rfl⟩ := hR
    have hD := hS.sel [3, 4] rfl rfl
    refine dq hF rfl (wn rfl) rfl rfl (fun w => R.move (hF.ev rfl)) fun a hF => ?_
    refine dq hF rfl (wn rfl) rfl rfl (fun w => R.extract (hF.ev rfl) rfl) fun a hF => ?_
    refine dq hF rfl (wn rfl) rfl rfl (fun w => R.extract (hF.ev rfl) rfl) fun a hF => ?_
    refine dw rfl (wn rfl) (O.storeW sz29 (hF.ev rfl) (hF.ev rfl) (rfl) rfl (by simp [Value.oneCell']) hS (.t (.t .h)) (rfl) fun w hS => ?_)
    refine dq hF rfl (wn rfl) rfl rfl (fun w => R.assign (hF.ev rfl)) fun a hF => ?_
    refine d0 ?_
    exact then_n (hK2' _ _ ⟨hF.sub ⟨rfl, rfl, rfl, trivial⟩, hS.sel [4, 3] rfl rfl⟩)

theorem rFree_calls (rb : Nat) (l : List Ac) (s : Seg) (x : Nat) (w0 : World) (hV : RefS rb l s) (ho : Own w0 s) (hok : AcsOk l) (hc : l.length * 64 ≤ 140737488351232) (hx : x < 115792089237316195423570985008687907853269984665640564039457584007913129639936) : Ret Try.prog 87 [.pointer (some ⟨rb, 0, none⟩), wv x] w0 (s.map (·.1)) (fun v s' => v = .int .i64 (freR l x).2 ∧ RefS rb (freR l x).1 s') := by
  refine fn_start Try.func87 rfl Try.ntmps87 rfl [(0, .pointer (some ⟨rb, 0, none⟩)), (1, wv x)] ⟨rfl, rfl, trivial⟩ ?_
  intro Q a hP hF hR hN
  have hS := St.enter ho
  refine wp_seq_k fun K1 hK1 => ?_
  refine wp_region_lit ?_
  refine so (wn rfl) (O.box rfl rfl hF (hF.ev rfl) rfl hS fun b3 a w hF hS => ?_)
  refine sv' hF (wn rfl) rfl rfl (R.assign (hF.ev rfl)) fun a hF => ?_
  refine s0 ?_
  refine then_n (hK1 _ _ ?_)
  refine wp_seq_k fun K2 hK2 => ?_
  refine wp_seq_k fun K3 hK3 => ?_
  refine wp_drawS hS [(0, 0), (2, 1), (1, 2), (3, 2), (4, 0)] mix (by kernel_rfl) (hP.then.then) fun w hS => ?_
  have hD := hS
  refine dq hF rfl (wn rfl) rfl rfl (fun w => R.move (hF.ev rfl)) fun a hF => ?_
  refine dr hF rfl (wn rfl) rfl rfl hD (fun w hD => R.loadW agg29 (hF.ev rfl) hD .h sz29 (rfl)) fun a hF => ?_
  refine dl rfl (wn rfl) (O.call rfl rfl hF ent93 (hF.evs rfl) hS (Ret.quiet (rLocked_calls rb l s  _ hV (hS.own1 (.t .h)) hok (by omega)) (hS.own1 (.t .h))) fun v s6 a w hR hF hS => ⟨fun hD => hS.tail, ?_⟩)
  obtain ⟨rfl, rfl⟩ := hR
  have hD := hS.tail
  refine dl rfl (wn rfl) (O.call rfl rfl hF ent31 (hF.evs rfl) hS (rcmp_calls (lockR l) x _ (lockR_lt _) hx) fun v s8 a w hR hF hS => ⟨fun hD => hS.tail.tail, ?_⟩)
  obtain ⟨rfl, rfl⟩ := hR
  have hD := hS.tail.tail
  refine dq hF rfl (wn rfl) rfl rfl (fun w => R.as (u := .bool (decide (lockR l < x))) (R.lss (p := cmpN (lockR l) x) (q := 0) (hF.ev rfl) (hF.ev rfl)) (congrArg Value.bool (decide_eq_decide.2 (cmpN_neg _ _)))) fun a hF => ?_
  refine d0 ?_
  refine then_n (hK3 _ _ ?_)
  refine cD hF rfl (fun c4 => ?_) (fun c4 => ?_)
  ·
    refine wp_seq_k fun K4 hK4 => ?_
    refine wp_region_lit ?_
    refine sv' hF (wn rfl) rfl rfl (R.assign (hF.ev rfl)) fun a hF => ?_
    refine s0 ?_
    refine then_n (hK4 _ _ ?_)
    refine wp_ret (then_r (hR _ _ _ _ _ hF (run_results Try.results87 (.t hF rfl (.nil))) ?_))
    have e := show freR l x = (l, 149) from by rw [freR, if_pos c4]
    exact ⟨_, _, rfl, ⟨by rw [e]; rfl, by rw [e]; exact hV⟩, hS.one (.t (.t (.t .h)))⟩
  ·
    refine wp_skip ?_
    refine then_n (hK2 _ _ ?_)
    refine wp_seq_k fun K5 hK5 => ?_
    refine wp_region_lit ?_
    refine sv' hF (wn rfl) rfl rfl (R.move (hF.ev rfl)) fun a hF => ?_
    refine sv' hF (wn rfl) rfl rfl (R.loadW agg29 (hF.ev rfl) hS (.t (.t .h)) sz29 (rfl)) fun a hF => ?_
    refine sv' hF (wn rfl) rfl rfl (R.buildStr (l := acL ⟨6, 0, -1, x⟩) Try.underlying139 ze139 pl139 (hF.evp rfl) rfl) fun a hF => ?_
    refine so (wn rfl) (O.callK rfl rfl hF ent107 (hF.evs rfl) hS (do_calls rb l s ⟨6, 0, -1, x⟩ _ hV (hS.own1 (.t (.t (.t .h)))) hc) (fun _ => (.t (.t (.t .h)))) fun v s13 a w hR hF hS => ?_)
    obtain ⟨rfl, hV2⟩ := hR
    refine sv' hF (wn rfl) rfl rfl (R.assign (hF.ev rfl)) fun a hF => ?_
    refine s0 ?_
    refine then_n (hK5 _ _ ?_)
    refine wp_ret (hR _ _ _ _ _ hF (run_results Try.results87 (.t hF rfl (.nil))) ?_)
    have e := show freR l x = (l ++ [⟨6, 0, -1, x⟩], 0) from by rw [freR, if_neg c4]
    exact ⟨_, _, rfl, ⟨by rw [e]; rfl, by rw [e]; exact hV2⟩, hS.one (.t (.t (.t .h)))⟩

theorem rchange_calls (rb : Nat) (l : List Ac) (s : Seg) (p : Stp) (w0 : World) (hV : RefS rb l s) (ho : Own w0 s) (hok : AcsOk l) (hc : l.length * 64 ≤ 140737488351232) (hp : p.ok) : Ret Try.prog 36 [.pointer (some ⟨rb, 0, none⟩), .agg (stpL p).toArray] w0 (s.map (·.1)) (fun v s' => v = .int .i64 (chgR l p).2 ∧ RefS rb (chgR l p).1 s') := by
  refine fn_start Try.func36 rfl Try.ntmps36 rfl [(0, .pointer (some ⟨rb, 0, none⟩)), (1, .agg (stpL p).toArray)] ⟨rfl, rfl, trivial⟩ ?_
  intro Q a hP hF hR hN
  have hS := St.enter ho
  refine wp_seq_k fun K1 hK1 => ?_
  refine wp_region_lit ?_
  refine so (wn rfl) (O.box rfl rfl hF (hF.ev rfl) rfl hS fun b3 a w hF hS => ?_)
  refine sv' hF (wn rfl) rfl rfl (R.assign (hF.ev rfl)) fun a hF => ?_
  refine s0 ?_
  refine then_n (hK1 _ _ ?_)
  refine wp_seq_k fun K2 hK2 => ?_
  refine wp_seq_k fun K3 hK3 => ?_
  refine wp_region_lit ?_
  refine sv' hF (wn rfl) rfl rfl (R.fieldAddr (k := 1) Try.underlying34 rfl nz3 (hF.ev rfl) rfl) fun a hF => ?_
  refine sv' hF (wn rfl) rfl rfl (R.load one3 (hF.ev rfl) hS .h (rfl)) fun a hF => ?_
  refine so (wn rfl) (O.call rfl rfl hF ent21 (hF.evs rfl) hS (pick_calls p.what 11 _ hp.what (by decide) (by decide)) fun v s7 a w hR hF hS => ?_)
  obtain ⟨rfl, rfl⟩ := hR
  refine s0 ?_
  refine then_n (hK3 _ _ ?_)
  refine wp_block ?_
  refine wp_seq_k fun K4 hK4 => ?_
  refine wp_region_lit ?_
  refine sv' hF (wn rfl) rfl rfl (R.eql (hF.ev rfl) (hF.ev rfl)) fun a hF => ?_
  refine sv' hF (wn rfl) rfl rfl (R.assign (hF.ev rfl)) fun a hF => ?_
  refine s0 ?_
  refine then_n (hK4 _ _ ?_)
  refine cD hF rfl (fun c0 => ?_) (fun c0 => ?_)
  ·
    refine wp_seq_k fun K5 hK5 => ?_
    refine wp_region_lit ?_
    refine sv' hF (wn rfl) rfl rfl (R.move (hF.ev rfl)) fun a hF => ?_
    refine sv' hF (wn rfl) rfl rfl (R.fieldAddr (k := 2) Try.underlying34 rfl nz3 (hF.ev rfl) rfl) fun a hF => ?_
    refine sv' hF (wn rfl) rfl rfl (R.load one3 (hF.ev rfl) hS (.t .h) (rfl)) fun a hF => ?_
    refine so (wn rfl) (O.callK rfl rfl hF ent82 (hF.evs rfl) hS (rList_calls rb l s p.token _ hV (hS.own1 (.t (.t .h))) hok hc) (fun _ => (.t (.t .h))) fun v s13 a w hR hF hS => ?_)
    obtain ⟨rfl, hV2⟩ := hR
    refine sv' hF (wn rfl) rfl rfl (R.assign (hF.ev rfl)) fun a hF => ?_
    refine s0 ?_
    refine then_n (hK5 _ _ ?_)
    refine wp_ret (blk_r (then_r (hR _ _ _ _ _ hF (run_results Try.results36 (.t hF rfl (.nil))) ?_)))
    have e := show chgR l p = listR l p.token from by simp only [chgR, if_pos c0]
    exact ⟨_, _, rfl, ⟨by rw [e]; rfl, by rw [e]; exact hV2⟩, hS.one (.t (.t .h))⟩
  ·
    refine wp_seq_k fun K6 hK6 => ?_
    refine wp_region_lit ?_
    refine sv' hF (wn rfl) rfl rfl (R.eql (hF.ev rfl) (hF.ev rfl)) fun a hF => ?_
    refine sv' hF (wn rfl) rfl rfl (R.assign (hF.ev rfl)) fun a hF => ?_
    refine s0 ?_
    refine then_n (hK6 _ _ ?_)
    refine cD hF rfl (fun c1 => ?_) (fun c1 => ?_)
    ·
      refine wp_seq_k fun K7 hK7 => ?_
      refine wp_region_lit ?_
      refine sv' hF (wn rfl) rfl rfl (R.move (hF.ev rfl)) fun a hF => ?_
      refine sv' hF (wn rfl) rfl rfl (R.fieldAddr (k := 2) Try.underlying34 rfl nz3 (hF.ev rfl) rfl) fun a hF => ?_
      refine sv' hF (wn rfl) rfl rfl (R.load one3 (hF.ev rfl) hS (.t .h) (rfl)) fun a hF => ?_
      refine so (wn rfl) (O.callK rfl rfl hF ent83 (hF.evs rfl) hS (rStop_calls rb l s p.token true _ hV (hS.own1 (.t (.t .h))) hok hc) (fun _ => (.t (.t .h))) fun v s19 a w hR hF hS => ?_)
      obtain ⟨rfl, hV2⟩ := hR
      refine sv' hF (wn rfl) rfl rfl (R.assign (hF.ev rfl)) fun a hF => ?_
      refine s0 ?_
      refine then_n (hK7 _ _ ?_)
      refine wp_ret (blk_r (then_r (hR _ _ _ _ _ hF (run_results Try.results36 (.t hF rfl (.nil))) ?_)))
      have e := show chgR l p = stopR l p.token true from by simp only [chgR, if_neg c0, if_pos c1]
      exact ⟨_, _, rfl, ⟨by rw [e]; rfl, by rw [e]; exact hV2⟩, hS.one (.t (.t .h))⟩
    ·
      refine wp_seq_k fun K8 hK8 => ?_
      refine wp_region_lit ?_
      refine sv' hF (wn rfl) rfl rfl (R.eql (hF.ev rfl) (hF.ev rfl)) fun a hF => ?_
      refine sv' hF (wn rfl) rfl rfl (R.assign (hF.ev rfl)) fun a hF => ?_
      refine s0 ?_
      refine then_n (hK8 _ _ ?_)
      refine cD hF rfl (fun c2 => ?_) (fun c2 => ?_)
      ·
        refine wp_seq_k fun K9 hK9 => ?_
        refine wp_region_lit ?_
        refine sv' hF (wn rfl) rfl rfl (R.move (hF.ev rfl)) fun a hF => ?_
        refine sv' hF (wn rfl) rfl rfl (R.fieldAddr (k := 2) Try.underlying34 rfl nz3 (hF.ev rfl) rfl) fun a hF => ?_
        refine sv' hF (wn rfl) rfl rfl (R.load one3 (hF.ev rfl) hS (.t .h) (rfl)) fun a hF => ?_
        refine so (wn rfl) (O.callK rfl rfl hF ent83 (hF.evs rfl) hS (rStop_calls rb l s p.token false _ hV (hS.own1 (.t (.t .h))) hok hc) (fun _ => (.t (.t .h))) fun v s25 a w hR hF hS => ?_)
        obtain ⟨rfl, hV2⟩ := hR
        refine sv' hF (wn rfl) rfl rfl (R.assign (hF.ev rfl)) fun a hF => ?_
        refine s0 ?_
        refine then_n (hK9 _ _ ?_)
        refine wp_ret (blk_r (then_r (hR _ _ _ _ _ hF (run_results Try.results36 (.t hF rfl (.nil))) ?_)))
        have e := show chgR l p = stopR l p.token false from by simp only [chgR, if_neg c0, if_neg c1, if_pos c2]
        exact ⟨_, _, rfl, ⟨by rw [e]; rfl, by rw [e]; exact hV2⟩, hS.one (.t (.t .h))⟩
      ·
        refine wp_seq_k fun K10 hK10 => ?_
        refine wp_region_lit ?_
        refine sv' hF (wn rfl) rfl rfl (R.eql (hF.ev rfl) (hF.ev rfl)) fun a hF => ?_
        refine sv' hF (wn rfl) rfl rfl (R.assign (hF.ev rfl)) fun a hF => ?_
        refine s0 ?_
        refine then_n (hK10 _ _ ?_)
        refine cD hF rfl (fun c3 => ?_) (fun c3 => ?_)
        ·
          refine wp_seq_k fun K11 hK11 => ?_
          refine wp_region_lit ?_
          refine sv' hF (wn rfl) rfl rfl (R.move (hF.ev rfl)) fun a hF => ?_
          refine sv' hF (wn rfl) rfl rfl (R.fieldAddr (k := 2) Try.underlying34 rfl nz3 (hF.ev rfl) rfl) fun a hF => ?_
          refine sv' hF (wn rfl) rfl rfl (R.load one3 (hF.ev rfl) hS (.t .h) (rfl)) fun a hF => ?_
          refine sv' hF (wn rfl) rfl rfl (R.fieldAddr (k := 4) Try.underlying34 rfl nz29 (hF.ev rfl) rfl) fun a hF => ?_
          refine sv' hF (wn rfl) rfl rfl (R.loadA (cs := wc p.amt) agg29 (hF.ev rfl) hS (.t .h) sz29 rfl (getAt rfl)) fun a hF => ?_
          refine so (wn rfl) (O.callK rfl rfl hF ent84 (hF.evs rfl) hS (rDeposit_calls rb l s p.token p.amt _ hV (hS.own1 (.t (.t .h))) hok hc hp.amt) (fun _ => (.t (.t .h))) fun v s33 a w hR hF hS => ?_)
          obtain ⟨rfl, hV2⟩ := hR
          refine sv' hF (wn rfl) rfl rfl (R.assign (hF.ev rfl)) fun a hF => ?_
          refine s0 ?_
          refine then_n (hK11 _ _ ?_)
          refine wp_ret (blk_r (then_r (hR _ _ _ _ _ hF (run_results Try.results36 (.t hF rfl (.nil))) ?_)))
          have e := show chgR l p = depR l p.token p.amt from by simp only [chgR, if_neg c0, if_neg c1, if_neg c2, if_pos c3]
          exact ⟨_, _, rfl, ⟨by rw [e]; rfl, by rw [e]; exact hV2⟩, hS.one (.t (.t .h))⟩
        ·
          refine wp_seq_k fun K12 hK12 => ?_
          refine wp_region_lit ?_
          refine sv' hF (wn rfl) rfl rfl (R.eql (hF.ev rfl) (hF.ev rfl)) fun a hF => ?_
          refine sv' hF (wn rfl) rfl rfl (R.assign (hF.ev rfl)) fun a hF => ?_
          refine s0 ?_
          refine then_n (hK12 _ _ ?_)
          refine cD hF rfl (fun c4 => ?_) (fun c4 => ?_)
          ·
            refine wp_seq_k fun K13 hK13 => ?_
            refine wp_region_lit ?_
            refine sv' hF (wn rfl) rfl rfl (R.move (hF.ev rfl)) fun a hF => ?_
            refine sv' hF (wn rfl) rfl rfl (R.fieldAddr (k := 3) Try.underlying34 rfl nz3 (hF.ev rfl) rfl) fun a hF => ?_
            refine sv' hF (wn rfl) rfl rfl (R.load one3 (hF.ev rfl) hS (.t .h) (rfl)) fun a hF => ?_
            refine sv' hF (wn rfl) rfl rfl (R.fieldAddr (k := 2) Try.underlying34 rfl nz3 (hF.ev rfl) rfl) fun a hF => ?_
            refine sv' hF (wn rfl) rfl rfl (R.load one3 (hF.ev rfl) hS (.t .h) (rfl)) fun a hF => ?_
            refine sv' hF (wn rfl) rfl rfl (R.fieldAddr (k := 4) Try.underlying34 rfl nz29 (hF.ev rfl) rfl) fun a hF => ?_
            refine sv' hF (wn rfl) rfl rfl (R.loadA (cs := wc p.amt) agg29 (hF.ev rfl) hS (.t .h) sz29 rfl (getAt rfl)) fun a hF => ?_
            refine so (wn rfl) (O.callK rfl rfl hF ent85 (hF.evs rfl) hS (rPay_calls rb l s p.index p.token p.amt _ hV (hS.own1 (.t (.t .h))) hok hc hp.amt) (fun _ => (.t (.t .h))) fun v s43 a w hR hF hS => ?_)
            obtain ⟨rfl, hV2⟩ := hR
            refine sv' hF (wn rfl) rfl rfl (R.assign (hF.ev rfl)) fun a hF => ?_
            refine s0 ?_
            refine then_n (hK13 _ _ ?_)
            refine wp_ret (blk_r (then_r (hR _ _ _ _ _ hF (run_results Try.results36 (.t hF rfl (.nil))) ?_)))
            have e := show chgR l p = payR l p.index p.token p.amt from by simp only [chgR, if_neg c0, if_neg c1, if_neg c2, if_neg c3, if_pos c4]
            exact ⟨_, _, rfl, ⟨by rw [e]; rfl, by rw [e]; exact hV2⟩, hS.one (.t (.t .h))⟩
          ·
            refine wp_seq_k fun K14 hK14 => ?_
            refine wp_region_lit ?_
            refine sv' hF (wn rfl) rfl rfl (R.eql (hF.ev rfl) (hF.ev rfl)) fun a hF => ?_
            refine sv' hF (wn rfl) rfl rfl (R.assign (hF.ev rfl)) fun a hF => ?_
            refine s0 ?_
            refine then_n (hK14 _ _ ?_)
            refine cD hF rfl (fun c5 => ?_) (fun c5 => ?_)
            ·
              refine wp_seq_k fun K15 hK15 => ?_
              refine wp_region_lit ?_
              refine sv' hF (wn rfl) rfl rfl (R.move (hF.ev rfl)) fun a hF => ?_
              refine sv' hF (wn rfl) rfl rfl (R.fieldAddr (k := 4) Try.underlying34 rfl nz29 (hF.ev rfl) rfl) fun a hF => ?_
              refine sv' hF (wn rfl) rfl rfl (R.loadA (cs := wc p.amt) agg29 (hF.ev rfl) hS (.t .h) sz29 rfl (getAt rfl)) fun a hF => ?_
              refine so (wn rfl) (O.callK rfl rfl hF ent86 (hF.evs rfl) hS (rLock_calls rb l s p.amt _ hV (hS.own1 (.t (.t .h))) hok hc hp.amt) (fun _ => (.t (.t .h))) fun v s49 a w hR hF hS => ?_)
              obtain ⟨rfl, hV2⟩ := hR
              refine sv' hF (wn rfl) rfl rfl (R.assign (hF.ev rfl)) fun a hF => ?_
              refine s0 ?_
              refine then_n (hK15 _ _ ?_)
              refine wp_ret (blk_r (then_r (hR _ _ _ _ _ hF (run_results Try.results36 (.t hF rfl (.nil))) ?_)))
              have e := show chgR l p = lokR l p.amt from by simp only [chgR, if_neg c0, if_neg c1, if_neg c2, if_neg c3, if_neg c4, if_pos c5]
              exact ⟨_, _, rfl, ⟨by rw [e]; rfl, by rw [e]; exact hV2⟩, hS.one (.t (.t .h))⟩
            ·
              refine wp_seq_k fun K16 hK16 => ?_
              refine wp_region_lit ?_
              refine sv' hF (wn rfl) rfl rfl (R.eql (hF.ev rfl) (hF.ev rfl)) fun a hF => ?_
              refine sv' hF (wn rfl) rfl rfl (R.assign (hF.ev rfl)) fun a hF => ?_
              refine s0 ?_
              refine then_n (hK16 _ _ ?_)
              refine cD hF rfl (fun c6 => ?_) (fun c6 => ?_)
              ·
                refine wp_seq_k fun K17 hK17 => ?_
                refine wp_region_lit ?_
                refine sv' hF (wn rfl) rfl rfl (R.move (hF.ev rfl)) fun a hF => ?_
                refine sv' hF (wn rfl) rfl rfl (R.fieldAddr (k := 4) Try.underlying34 rfl nz29 (hF.ev rfl) rfl) fun a hF => ?_
                refine sv' hF (wn rfl) rfl rfl (R.loadA (cs := wc p.amt) agg29 (hF.ev rfl) hS (.t .h) sz29 rfl (getAt rfl)) fun a hF => ?_
                refine so (wn rfl) (O.callK rfl rfl hF ent87 (hF.evs rfl) hS (rFree_calls rb l s p.amt _ hV (hS.own1 (.t (.t .h))) hok hc hp.amt) (fun _ => (.t (.t .h))) fun v s55 a w hR hF hS => ?_)
                obtain ⟨rfl, hV2⟩ := hR
                refine sv' hF (wn rfl) rfl rfl (R.assign (hF.ev rfl)) fun a hF => ?_
                refine s0 ?_
                refine then_n (hK17 _ _ ?_)
                refine wp_ret (blk_r (then_r (hR _ _ _ _ _ hF (run_results Try.results36 (.t hF rfl (.nil))) ?_)))
                have e := show chgR l p = freR l p.amt from by simp only [chgR, if_neg c0, if_neg c1, if_neg c2, if_neg c3, if_neg c4, if_neg c5, if_pos c6]
                exact ⟨_, _, rfl, ⟨by rw [e]; rfl, by rw [e]; exact hV2⟩, hS.one (.t (.t .h))⟩
              ·
                refine wp_skip ?_
                refine blk_n ?_
                refine then_n (hK2 _ _ ?_)
                refine wp_seq_k fun K18 hK18 => ?_
                refine wp_region_lit ?_
                refine sv' hF (wn rfl) rfl rfl (R.assign (hF.ev rfl)) fun a hF => ?_
                refine s0 ?_
                refine then_n (hK18 _ _ ?_)
                refine wp_ret (hR _ _ _ _ _ hF (run_results Try.results36 (.t hF rfl (.nil))) ?_)
                have e := show chgR l p = (l, 0) from by simp only [chgR, if_neg c0, if_neg c1, if_neg c2, if_neg c3, if_neg c4, if_neg c5, if_neg c6]
                exact ⟨_, _, rfl, ⟨by rw [e]; rfl, by rw [e]; exact hV⟩, hS.one (.t (.t .h))⟩

theorem rNew_calls  (w0 : World) : Ret Try.prog 35 [] w0 [] (fun v s => ∃ rb, v = .pointer (some ⟨rb, 0, none⟩) ∧ RefS rb [] s) := by
  refine fn_start Try.func35 rfl Try.ntmps35 rfl [] trivial ?_
  intro Q a hP hF hR hN
  have hS := St.start w0
  refine wp_seq_k fun K1 hK1 => ?_
  refine wp_region_lit ?_
  refine sv' hF (wn rfl) rfl rfl (R.assign (hF.ev rfl)) fun a hF => ?_
  refine s0 ?_
  refine then_n (hK1 _ _ ?_)
  refine wp_seq_k fun K2 hK2 => ?_
  refine wp_region_lit ?_
  refine sv' hF (wn rfl) rfl rfl (R.buildStr (l := [.slice none 0 0]) Try.underlying115 ze115 pl115 (hF.evp rfl) rfl) fun a hF => ?_
  refine so (wn rfl) (O.box rfl rfl hF (hF.ev rfl) rfl hS fun b2 a w hF hS => ?_)
  refine sv' hF (wn rfl) rfl rfl (R.assign (hF.ev rfl)) fun a hF => ?_
  refine s0 ?_
  refine then_n (hK2 _ _ ?_)
  refine wp_ret (hR _ _ _ _ _ hF (run_results Try.results35 (.t hF rfl (.nil))) ?_)
  exact ⟨_, _, rfl, ⟨b2, rfl, none, 0, [], rfl, OwnS.nil 139 7⟩, hS.one .h⟩

theorem own_nilA (b : Nat) : OwnS [(b, Cel [] 139)] (some ⟨b, 0, none⟩) 0 0 (List.flatMap acL []) 139 7 := OwnS.mk (cells := []) (rest := []) rfl (by decide) rfl (by decide)

theorem rCopy_calls (rb : Nat) (l : List Ac) (s : Seg) (w0 : World) (hV : RefS rb l s) (ho : Own w0 s) (hc : l.length * 64 ≤ 140737488351232) : Ret Try.prog 38 [.pointer (some ⟨rb, 0, none⟩)] w0 [] (fun v s' => ∃ rn, v = .pointer (some ⟨rn, 0, none⟩) ∧ RefS rn l s') := by
  refine fn_start Try.func38 rfl Try.ntmps38 rfl [(0, .pointer (some ⟨rb, 0, none⟩))] ⟨rfl, trivial⟩ ?_
  intro Q a hP hF hR hN
  have hS := St.enter ho
  refine wp_seq_k fun K1 hK1 => ?_
  refine wp_region_lit ?_
  refine sv' hF (wn rfl) rfl rfl (R.assign (hF.ev rfl)) fun a hF => ?_
  refine s0 ?_
  refine then_n (hK1 _ _ ?_)
  refine wp_seq_k fun K2 hK2 => ?_
  obtain ⟨A, c, sg, rfl, hO⟩ := hV; have hS := hS.flat (bs' := [[(rb, Cel [.slice A l.length c] 115)], sg]) (by simp)
  refine wp_region_lit ?_
  refine so (wn rfl) (O.buildSlice (l := []) rfl rfl hF Try.underlying113 inf139 rfl rfl (hF.evp rfl) (by decide) rfl hS fun b3 a w hF hS => ?_)
  refine sv' hF (wn rfl) rfl rfl (R.move (hF.ev rfl)) fun a hF => ?_
  refine sv' hF (wn rfl) rfl rfl (R.nilCheck (hF.ev rfl)) fun a hF => ?_
  refine sv' hF (wn rfl) rfl rfl (R.fieldAddr (k := 0) Try.underlying115 rfl nz113 (hF.ev rfl) rfl) fun a hF => ?_
  refine sv' hF (wn rfl) rfl rfl (R.load one113 (hF.ev rfl) hS (.t .h) (rfl)) fun a hF => ?_
  refine so (wn rfl) (O.appendO rfl rfl hF Try.underlying113 inf139 rfl rfl (by decide) (hF.ev rfl) (hF.ev rfl) hS (own_nilA b3) (fun _ => .h) (hO.rd hS (.t (.t .h))) (acs_length l) (acs_one l) (by unfold maxLen; omega) (by omega) fun A8 c8 s8 a w hO8 hF hS => ?_)
  rw [Nat.zero_add] at hF hO8
  refine sv' hF (wn rfl) rfl rfl (R.buildStr (l := [.slice A8 l.length c8]) Try.underlying115 ze115 pl115 (hF.evp rfl) rfl) fun a hF => ?_
  refine so (wn rfl) (O.box rfl rfl hF (hF.ev rfl) rfl hS fun b10 a w hF hS => ?_)
  refine sv' hF (wn rfl) rfl rfl (R.assign (hF.ev rfl)) fun a hF => ?_
  refine s0 ?_
  refine then_n (hK2 _ _ ?_)
  refine wp_ret (hR _ _ _ _ _ hF (run_results Try.results38 (.t hF rfl (.nil))) ?_)
  have hS := (hS.sel [2, 3, 0, 1] rfl rfl).flat (bs' := [(rb, Cel [.slice A l.length c] 115) :: sg, (b10, Cel [.slice A8 l.length c8] 115) :: s8]) (by simp [selS])
  exact ⟨_, _, rfl, ⟨b10, rfl, A8, c8, s8, rfl, hO8⟩, St.same hS ho⟩

theorem alike14_calls (bv rb : Nat) (V : Vau) (l : List Ac) (sv sr : Seg) (t i : Int) (w0 : World) (hV : VaultS bv V sv) (hOv : Own w0 sv) (hR2 : RefS rb l sr) (hOr : Own w0 sr) (hok : AcsOk l) (hc : l.length ≤ 9223372036854775806) (hM : Sim V l) : Ret Try.prog 39 [.pointer (some ⟨bv, 0, none⟩), .pointer (some ⟨rb, 0, none⟩), .int .i64 t, .int .i64 i] w0 [] (fun v s => v = .bool true ∧ s = []) := by
  refine fn_start Try.func39 rfl Try.ntmps39 rfl [(0, .pointer (some ⟨bv, 0, none⟩)), (1, .pointer (some ⟨rb, 0, none⟩)), (2, .int .i64 t), (3, .int .i64 i)] ⟨rfl, rfl, rfl, rfl, trivial⟩ ?_
  intro Q a hP hF hR hN
  have hS := St.start w0
  refine wp_seq_k fun K1 hK1 => ?_
  refine wp_region_lit ?_
  refine sv' hF (wn rfl) rfl rfl (R.assign (hF.ev rfl)) fun a hF => ?_
  refine s0 ?_
  refine then_n (hK1 _ _ ?_)
  refine wp_seq_k fun K2 hK2 => ?_
  refine wp_region_lit ?_
  refine sv' hF (wn rfl) rfl rfl (R.move (hF.ev rfl)) fun a hF => ?_
  refine sv' hF (wn rfl) rfl rfl (R.move (hF.ev rfl)) fun a hF => ?_
  refine so (wn rfl) (O.call rfl rfl hF ent72 (hF.evs rfl) hS (Ret.quiet (isListed_calls bv V t sv _ hV (Own.old hOv hS)) (Own.old hOv hS)) fun v s16 a w hR hF hS => ?_)
  obtain ⟨rfl, rfl⟩ := hR
  refine sv' hF (wn rfl) rfl rfl (R.move (hF.ev rfl)) fun a hF => ?_
  refine sv' hF (wn rfl) rfl rfl (R.extract (hF.ev rfl) rfl) fun a hF => ?_
  refine sv' hF (wn rfl) rfl rfl (R.extract (hF.ev rfl) rfl) fun a hF => ?_
  refine sv' hF (wn rfl) rfl rfl (R.assign (hF.ev rfl)) fun a hF => ?_
  refine sv' hF (wn rfl) rfl rfl (R.assign (hF.ev rfl)) fun a hF => ?_
  refine s0 ?_
  refine then_n (hK2 _ _ ?_)
  refine wp_seq_k fun K3 hK3 => ?_
  refine wp_region_lit ?_
  refine sv' hF (wn rfl) rfl rfl (R.move (hF.ev rfl)) fun a hF => ?_
  refine sv' hF (wn rfl) rfl rfl (R.move (hF.ev rfl)) fun a hF => ?_
  refine so (wn rfl) (O.call rfl rfl hF ent90 (hF.evs rfl) hS (Ret.quiet (rListed_calls rb l sr t _ hR2 (Own.old hOr hS) hok hc) (Own.old hOr hS)) fun v s22 a w hR hF hS => ?_)
  obtain ⟨rfl, rfl⟩ := hR
  refine sv' hF (wn rfl) rfl rfl (R.move (hF.ev rfl)) fun a hF => ?_
  refine sv' hF (wn rfl) rfl rfl (R.extract (hF.ev rfl) rfl) fun a hF => ?_
  refine sv' hF (wn rfl) rfl rfl (R.extract (hF.ev rfl) rfl) fun a hF => ?_
  refine sv' hF (wn rfl) rfl rfl (R.assign (hF.ev rfl)) fun a hF => ?_
  refine sv' hF (wn rfl) rfl rfl (R.assign (hF.ev rfl)) fun a hF => ?_
  refine s0 ?_
  refine then_n (hK3 _ _ ?_)
  refine wp_seq_k fun K4 hK4 => ?_
  refine wp_region_lit ?_
  refine sv' hF (wn rfl) rfl rfl (R.move (hF.ev rfl)) fun a hF => ?_
  refine sv' hF (wn rfl) rfl rfl (R.move (hF.ev rfl)) fun a hF => ?_
  refine sv' hF (wn rfl) rfl rfl (R.as (u := .bool true) (R.eqlB (b := (V.tok t).isSome) (c := (lisR l t).1) (hF.ev rfl) (hF.ev rfl) Try.underlying4) (congrArg Value.bool (decide_eq_true (by rw [hM.lis t])))) fun a hF => ?_
  refine sv' hF (wn rfl) rfl rfl (R.move (hF.ev rfl)) fun a hF => ?_
  refine sv' hF (wy hF rfl rfl rfl) rfl rfl (R.move (hF.ev rfl)) fun a hF => ?_
  refine sv' hF (wy hF rfl rfl rfl) rfl rfl (R.move (hF.ev rfl)) fun a hF => ?_
  refine sv' hF (wy hF rfl rfl rfl) rfl rfl (R.as (u := .bool true) (R.eqlB (b := tS (V.tok t)) (c := (lisR l t).2) (hF.ev rfl) (hF.ev rfl) Try.underlying4) (congrArg Value.bool (decide_eq_true (by rw [hM.lis t])))) fun a hF => ?_
  refine sv' hF (wn rfl) rfl rfl (R.pickT (hF.ev rfl) (hF.ev rfl)) fun a hF => ?_
  refine sv' hF (wn rfl) rfl rfl (R.move (hF.ev rfl)) fun a hF => ?_
  refine sv' hF (wy hF rfl rfl rfl) rfl rfl (R.move (hF.ev rfl)) fun a hF => ?_
  refine sv' hF (wy hF rfl rfl rfl) rfl rfl (R.move (hF.ev rfl)) fun a hF => ?_
  refine so (wy hF rfl rfl rfl) (O.call rfl rfl hF ent25 (hF.evs rfl) hS (Ret.quiet (held_calls bv V t sv _ hV (Own.old hOv hS)) (Own.old hOv hS)) fun v s36 a w hR hF hS => ?_)
  obtain ⟨rfl, rfl⟩ := hR
  refine sv' hF (wy hF rfl rfl rfl) rfl rfl (R.move (hF.ev rfl)) fun a hF => ?_
  refine sv' hF (wy hF rfl rfl rfl) rfl rfl (R.move (hF.ev rfl)) fun a hF => ?_
  refine so (wy hF rfl rfl rfl) (O.call rfl rfl hF ent91 (hF.evs rfl) hS (Ret.quiet (rHeld_calls rb l sr t _ hR2 (Own.old hOr hS) hok hc) (Own.old hOr hS)) fun v s39 a w hR hF hS => ?_)
  obtain ⟨rfl, rfl⟩ := hR
  refine sv' hF (wy hF rfl rfl rfl) rfl rfl (R.as (u := .bool true) (R.eqlW (x := tH (V.tok t)) (y := heldR l t) (hF.ev rfl) (hF.ev rfl) (hV.tH_lt _) (heldR_lt _ _)) (congrArg Value.bool (decide_eq_true ((hM.held t).symm)))) fun a hF => ?_
  refine sv' hF (wn rfl) rfl rfl (R.pickT (hF.ev rfl) (hF.ev rfl)) fun a hF => ?_
  refine sv' hF (wn rfl) rfl rfl (R.move (hF.ev rfl)) fun a hF => ?_
  refine sv' hF (wy hF rfl rfl rfl) rfl rfl (R.move (hF.ev rfl)) fun a hF => ?_
  refine sv' hF (wy hF rfl rfl rfl) rfl rfl (R.move (hF.ev rfl)) fun a hF => ?_
  refine so (wy hF rfl rfl rfl) (O.call rfl rfl hF ent27 (hF.evs rfl) hS (Ret.quiet (paid_calls bv V i sv _ hV (Own.old hOv hS)) (Own.old hOv hS)) fun v s45 a w hR hF hS => ?_)
  obtain ⟨rfl, rfl⟩ := hR
  refine sv' hF (wy hF rfl rfl rfl) rfl rfl (R.move (hF.ev rfl)) fun a hF => ?_
  refine sv' hF (wy hF rfl rfl rfl) rfl rfl (R.move (hF.ev rfl)) fun a hF => ?_
  refine so (wy hF rfl rfl rfl) (O.call rfl rfl hF ent92 (hF.evs rfl) hS (Ret.quiet (rPaid_calls rb l sr i _ hR2 (Own.old hOr hS) hok hc) (Own.old hOr hS)) fun v s48 a w hR hF hS => ?_)
  obtain ⟨rfl, rfl⟩ := hR
  refine sv' hF (wy hF rfl rfl rfl) rfl rfl (R.as (u := .bool true) (R.eqlB (b := V.paid i) (c := paidR l i) (hF.ev rfl) (hF.ev rfl) Try.underlying4) (congrArg Value.bool (decide_eq_true (hM.paid i).symm))) fun a hF => ?_
  refine sv' hF (wn rfl) rfl rfl (R.pickT (hF.ev rfl) (hF.ev rfl)) fun a hF => ?_
  refine sv' hF (wn rfl) rfl rfl (R.move (hF.ev rfl)) fun a hF => ?_
  refine sv' hF (wy hF rfl rfl rfl) rfl rfl (R.move (hF.ev rfl)) fun a hF => ?_
  refine so (wy hF rfl rfl rfl) (O.call rfl rfl hF ent24 (hF.evs rfl) hS (Ret.quiet (locked_calls bv V  sv _ hV (Own.old hOv hS)) (Own.old hOv hS)) fun v s53 a w hR hF hS => ?_)
  obtain ⟨rfl, rfl⟩ := hR
  refine sv' hF (wy hF rfl rfl rfl) rfl rfl (R.move (hF.ev rfl)) fun a hF => ?_
  refine so (wy hF rfl rfl rfl) (O.call rfl rfl hF ent93 (hF.evs rfl) hS (Ret.quiet (rLocked_calls rb l sr  _ hR2 (Own.old hOr hS) hok hc) (Own.old hOr hS)) fun v s55 a w hR hF hS => ?_)
  obtain ⟨rfl, rfl⟩ := hR
  refine sv' hF (wy hF rfl rfl rfl) rfl rfl (R.as (u := .bool true) (R.eqlW (x := V.lock) (y := lockR l) (hF.ev rfl) (hF.ev rfl) (hV.lock_lt) (lockR_lt _)) (congrArg Value.bool (decide_eq_true (hM.lock.symm)))) fun a hF => ?_
  refine sv' hF (wn rfl) rfl rfl (R.pickT (hF.ev rfl) (hF.ev rfl)) fun a hF => ?_
  refine sv' hF (wn rfl) rfl rfl (R.assign (hF.ev rfl)) fun a hF => ?_
  refine s0 ?_
  refine then_n (hK4 _ _ ?_)
  refine wp_ret (hR _ _ _ _ _ hF (run_results Try.results39 (.t hF rfl (.nil))) ?_)
  exact ⟨_, [], rfl, ⟨rfl, rfl⟩, hS.none⟩

end Go.Proofs.Ythgecfjpacebeaa
