/- The calls of wide.Add, wide.Sub, wide.IsZero, for every number below 2^256. -/
import Derived.Test.YthgecfjpacebeaaO
namespace Go.Proofs.Ythgecfjpacebeaa
open Go Go.Fw Go.RowKit
attribute [local irreducible] Go.Oper.wp Go.Code.wp Go.wpList Go.Fw.WL Go.Calls
theorem add_calls (x y : Nat) (w0 : World) (hx : x < 115792089237316195423570985008687907853269984665640564039457584007913129639936) (hy : y < 115792089237316195423570985008687907853269984665640564039457584007913129639936) : Ret Try.prog 41 [wv x, wv y] w0 [] (fun v s => v = addW x y ∧ s = []) := by
  refine fn_start Try.func41 rfl Try.ntmps41 rfl [(0, wv x), (1, wv y)] ⟨rfl, rfl, trivial⟩ ?_
  intro Q a hP hF hR hN
  have hS := St.start w0
  refine wp_seq_k fun K1 hK1 => ?_
  refine wp_region_lit ?_
  refine so (wn rfl) (O.box rfl rfl hF (hF.ev rfl) rfl hS fun b2 a w hF hS => ?_)
  refine so (wn rfl) (O.box rfl rfl hF (hF.ev rfl) rfl hS fun b3 a w hF hS => ?_)
  refine so (wn rfl) (O.alloc rfl rfl hF ze29 rfl hS fun b4 a w hF hS => ?_)
  refine sv' hF (wn rfl) rfl rfl (R.assign (hF.ev rfl)) fun a hF => ?_
  refine s0 ?_
  refine then_n (hK1 _ _ ?_)
  refine wp_seq_k fun K2 hK2 => ?_
  refine wp_region_lit ?_
  refine so (wn rfl) (O.alloc rfl rfl hF ze29 rfl hS fun b6 a w hF hS => ?_)
  refine s0 ?_
  refine then_n (hK2 _ _ ?_)
  refine wp_seq_k fun K3 hK3 => ?_
  refine wp_region_lit ?_
  refine sv' hF (wn rfl) rfl rfl (R.assign (hF.ev rfl)) fun a hF => ?_
  refine s0 ?_
  refine then_n (hK3 _ _ ?_)
  refine wp_seq_k fun K4 hK4 => ?_
  refine wp_seq_k fun K5 hK5 => ?_
  refine wp_region_lit ?_
  refine sv' hF (wn rfl) rfl rfl (R.move (hF.ev rfl)) fun a hF => ?_
  refine s0 ?_
  refine then_n (hK5 _ _ ?_)
  refine wp_block ?_
  refine wp_loop_N (fun g a w => ∃ (k : Nat), 4 - k = g ∧ Fr 30 [(2, .pointer (some ⟨b2, 0, none⟩)), (3, .pointer (some ⟨b3, 0, none⟩)), (4, .pointer (some ⟨b4, 0, none⟩)), (6, .pointer (some ⟨b6, 0, none⟩)), (7, .int .u64 (cy x y k : Nat)), (9, .int .i64 (k : Nat))] a ∧ St w0 [] [[(b6, Cel (mkc 4 (dg (x + y)) k) 29)], [(b4, Cel ([.int .u64 0, .int .u64 0, .int .u64 0, .int .u64 0]) 29)], [(b3, Cel (wc y) 29)], [(b2, Cel (wc x) 29)]] w ∧ (k ≤ 4)) (4 - 0) ?_ ?_
  · exact ⟨0, rfl, hF.sub ⟨rfl, rfl, rfl, rfl, (by rw [cy_0]; rfl), rfl, trivial⟩, hS.sel [0, 1, 2, 3] rfl rfl, by omega⟩
  · rintro KL1 g a w ⟨k, hg1, hF, hS, hk⟩ hKL1
    refine wp_seq_k fun K6 hK6 => ?_
    refine wp_region_lit ?_
    refine sv' hF (wn rfl) rfl rfl (R.lss (hF.ev rfl) (hF.ev rfl)) fun a hF => ?_
    refine s0 ?_
    refine then_n (hK6 _ _ ?_)
    refine wp_seq_k fun K7 hK7 => ?_
    refine cD hF rfl (fun c1 => ?_) (fun c1 => ?_)
    ·
      refine wp_skip ?_
      refine then_n (hK7 _ _ ?_)
      refine wp_seq_k fun K8 hK8 => ?_
      refine wp_block ?_
      refine wp_seq_k fun K9 hK9 => ?_
      refine wp_region_lit ?_
      refine sv' hF (wn rfl) rfl rfl (R.move (hF.ev rfl)) fun a hF => ?_
      refine sv' hF (wn rfl) rfl rfl (R.assign (hF.ev rfl)) fun a hF => ?_
      refine s0 ?_
      refine then_n (hK9 _ _ ?_)
      refine wp_drawS hS [(0, 0), (1, 0), (2, 0), (3, 1), (4, 0), (5, 0), (6, 1), (7, 0), (8, 0), (9, 0), (10, 0), (11, 0), (12, 0), (13, 3), (14, 0)] mix (by kernel_rfl) (hP.then.block.then.then.block) fun w hS => ?_
      have hD := hS
      refine dq hF rfl (wn rfl) rfl rfl (fun w => R.move (hF.ev rfl)) fun a hF => ?_
      refine dq hF rfl (wn rfl) rfl rfl (fun w => R.move (hF.ev rfl)) fun a hF => ?_
      refine dq hF rfl (wn rfl) rfl rfl (fun w => R.indexA Try.underlying29 sz27 (hF.ev rfl) (hF.ev rfl) (by omega) (by omega)) fun a hF => ?_
      refine dr hF rfl (wn rfl) rfl rfl hD (fun w hD => R.load one27 (hF.ev rfl) hD (.t (.t (.t .h))) (wc_at x k (by omega))) fun a hF => ?_
      refine dq hF rfl (wn rfl) rfl rfl (fun w => R.move (hF.ev rfl)) fun a hF => ?_
      refine dq hF rfl (wn rfl) rfl rfl (fun w => R.indexA Try.underlying29 sz27 (hF.ev rfl) (hF.ev rfl) (by omega) (by omega)) fun a hF => ?_
      refine dr hF rfl (wn rfl) rfl rfl hD (fun w hD => R.load one27 (hF.ev rfl) hD (.t (.t .h)) (wc_at y k (by omega))) fun a hF => ?_
      refine dq hF rfl (wn rfl) rfl rfl (fun w => R.move (hF.ev rfl)) fun a hF => ?_
      refine dq hF rfl (wn rfl) rfl rfl (fun w => R.extern (hF.evs rfl) (x95 (dg x k) (dg y k) (cy x y k) (cy_le x y k) w)) fun a hF => ?_
      refine dq hF rfl (wn rfl) rfl rfl (fun w => R.move (hF.ev rfl)) fun a hF => ?_
      refine dq hF rfl (wn rfl) rfl rfl (fun w => R.extract (hF.ev rfl) rfl) fun a hF => ?_
      refine dq hF rfl (wn rfl) rfl rfl (fun w => R.extract (hF.ev rfl) rfl) fun a hF => ?_
      refine dq hF rfl (wn rfl) rfl rfl (fun w => R.indexA Try.underlying29 sz27 (hF.ev rfl) (hF.ev rfl) (by omega) (by omega)) fun a hF => ?_
      refine dw rfl (wn rfl) (O.store sz27 (hF.ev rfl) (hF.ev rfl) rfl rfl hS .h (mkc_at 4 (dg (x + y)) k _ (by rw [dg_add])) (by simp only [length_mkc]; omega) fun w hS => ?_)
      refine dq hF rfl (wn rfl) rfl rfl (fun w => R.assign (hF.ev rfl)) fun a hF => ?_
      refine d0 ?_
      refine blk_n ?_
      refine then_n (hK8 _ _ ?_)
      refine wp_region_lit ?_
      refine sv' hF (wn rfl) rfl rfl (R.addI (hF.ev rfl) (hF.ev rfl) (by omega)) fun a hF => ?_
      refine sv' hF (wn rfl) rfl rfl (R.move (hF.ev rfl)) fun a hF => ?_
      refine s0 ?_
      refine then_n (hKL1 (4 - (k + 1)) _ _ ?_ ?_)
      · omega
      · exact ⟨k + 1, rfl, hF.sub ⟨rfl, rfl, rfl, rfl, (by rw [cy_succ]; rfl), rfl, trivial⟩, hS.sel [0, 1, 2, 3] rfl rfl, by omega⟩
    ·
      obtain rfl : k = 4 := by omega
      rw [show mkc 4 (dg (x + y)) 4 = wc (x + y) from rfl] at hS
      refine wp_exit (then_x (then_x (blk_hit ?_)))
      refine then_n (hK4 _ _ ?_)
      refine wp_seq_k fun K10 hK10 => ?_
      refine wp_seq_k fun K11 hK11 => ?_
      refine wp_region_lit ?_
      refine sv' hF (wn rfl) rfl rfl (R.move (hF.ev rfl)) fun a hF => ?_
      refine sv' hF (wn rfl) rfl rfl (R.gtr (hF.ev rfl) (hF.ev rfl)) fun a hF => ?_
      refine s0 ?_
      refine then_n (hK11 _ _ ?_)
      refine cD hF rfl (fun c2 => ?_) (fun c2 => ?_)
      ·
        have e : ¬ (x + y < 115792089237316195423570985008687907853269984665640564039457584007913129639936) := by have := cy_4 x y hx hy; omega
        refine wp_seq_k fun K12 hK12 => ?_
        refine wp_region_lit ?_
        refine sv' hF (wn rfl) rfl rfl (R.buildArr (l := [_, _, _, _]) Try.underlying29 ze29 sz27 (hF.evp rfl) rfl) fun a hF => ?_
        refine so (wn rfl) (O.storeW sz29 (hF.ev rfl) (hF.ev rfl) rfl rfl (by simp [Value.oneCell']) hS (.t .h) rfl fun w hS => ?_)
        refine sv' hF (wn rfl) rfl rfl (R.assign (hF.ev rfl)) fun a hF => ?_
        refine s0 ?_
        refine then_n (hK12 _ _ ?_)
        refine wp_ret (then_r (hR _ _ _ _ _ hF (run_results Try.results41 (.cw hF rfl agg29 hS (.t .h) sz29 rfl (.t hF rfl (.nil)))) ?_))
        exact ⟨_, [], rfl, ⟨by simp only [addW, if_neg e]; rfl, rfl⟩, hS.none⟩
      ·
        have e : x + y < 115792089237316195423570985008687907853269984665640564039457584007913129639936 := by have := cy_4 x y hx hy; omega
        refine wp_skip ?_
        refine then_n (hK10 _ _ ?_)
        refine wp_seq_k fun K13 hK13 => ?_
        refine wp_region_lit ?_
        refine sv' hF (wn rfl) rfl rfl (R.loadW agg29 (hF.ev rfl) hS .h sz29 rfl) fun a hF => ?_
        refine so (wn rfl) (O.storeW sz29 (hF.ev rfl) (hF.ev rfl) rfl rfl (by simp [Value.oneCell']) hS (.t .h) rfl fun w hS => ?_)
        refine sv' hF (wn rfl) rfl rfl (R.assign (hF.ev rfl)) fun a hF => ?_
        refine s0 ?_
        refine then_n (hK13 _ _ ?_)
        refine wp_ret (hR _ _ _ _ _ hF (run_results Try.results41 (.cw hF rfl agg29 hS (.t .h) sz29 rfl (.t hF rfl (.nil)))) ?_)
        exact ⟨_, [], rfl, ⟨by simp only [addW, if_pos e]; rfl, rfl⟩, hS.none⟩

theorem sub_calls (x y : Nat) (w0 : World) (hx : x < 115792089237316195423570985008687907853269984665640564039457584007913129639936) (hy : y < 115792089237316195423570985008687907853269984665640564039457584007913129639936) : Ret Try.prog 42 [wv x, wv y] w0 [] (fun v s => v = subW x y ∧ s = []) := by
  refine fn_start Try.func42 rfl Try.ntmps42 rfl [(0, wv x), (1, wv y)] ⟨rfl, rfl, trivial⟩ ?_
  intro Q a hP hF hR hN
  have hS := St.start w0
  refine wp_seq_k fun K1 hK1 => ?_
  refine wp_region_lit ?_
  refine so (wn rfl) (O.box rfl rfl hF (hF.ev rfl) rfl hS fun b2 a w hF hS => ?_)
  refine so (wn rfl) (O.box rfl rfl hF (hF.ev rfl) rfl hS fun b3 a w hF hS => ?_)
  refine so (wn rfl) (O.alloc rfl rfl hF ze29 rfl hS fun b4 a w hF hS => ?_)
  refine sv' hF (wn rfl) rfl rfl (R.assign (hF.ev rfl)) fun a hF => ?_
  refine s0 ?_
  refine then_n (hK1 _ _ ?_)
  refine wp_seq_k fun K2 hK2 => ?_
  refine wp_region_lit ?_
  refine so (wn rfl) (O.alloc rfl rfl hF ze29 rfl hS fun b6 a w hF hS => ?_)
  refine s0 ?_
  refine then_n (hK2 _ _ ?_)
  refine wp_seq_k fun K3 hK3 => ?_
  refine wp_region_lit ?_
  refine sv' hF (wn rfl) rfl rfl (R.assign (hF.ev rfl)) fun a hF => ?_
  refine s0 ?_
  refine then_n (hK3 _ _ ?_)
  refine wp_seq_k fun K4 hK4 => ?_
  refine wp_seq_k fun K5 hK5 => ?_
  refine wp_region_lit ?_
  refine sv' hF (wn rfl) rfl rfl (R.move (hF.ev rfl)) fun a hF => ?_
  refine s0 ?_
  refine then_n (hK5 _ _ ?_)
  refine wp_block ?_
  refine wp_loop_N (fun g a w => ∃ (k : Nat), 4 - k = g ∧ Fr 30 [(2, .pointer (some ⟨b2, 0, none⟩)), (3, .pointer (some ⟨b3, 0, none⟩)), (4, .pointer (some ⟨b4, 0, none⟩)), (6, .pointer (some ⟨b6, 0, none⟩)), (7, .int .u64 (bw x y k : Nat)), (9, .int .i64 (k : Nat))] a ∧ St w0 [] [[(b6, Cel (mkc 4 (dg (x + 115792089237316195423570985008687907853269984665640564039457584007913129639936 - y)) k) 29)], [(b4, Cel ([.int .u64 0, .int .u64 0, .int .u64 0, .int .u64 0]) 29)], [(b3, Cel (wc y) 29)], [(b2, Cel (wc x) 29)]] w ∧ (k ≤ 4)) (4 - 0) ?_ ?_
  · exact ⟨0, rfl, hF.sub ⟨rfl, rfl, rfl, rfl, (by rw [bw_0]; rfl), rfl, trivial⟩, hS.sel [0, 1, 2, 3] rfl rfl, by omega⟩
  · rintro KL1 g a w ⟨k, hg1, hF, hS, hk⟩ hKL1
    refine wp_seq_k fun K6 hK6 => ?_
    refine wp_region_lit ?_
    refine sv' hF (wn rfl) rfl rfl (R.lss (hF.ev rfl) (hF.ev rfl)) fun a hF => ?_
    refine s0 ?_
    refine then_n (hK6 _ _ ?_)
    refine wp_seq_k fun K7 hK7 => ?_
    refine cD hF rfl (fun c1 => ?_) (fun c1 => ?_)
    ·
      refine wp_skip ?_
      refine then_n (hK7 _ _ ?_)
      refine wp_seq_k fun K8 hK8 => ?_
      refine wp_block ?_
      refine wp_seq_k fun K9 hK9 => ?_
      refine wp_region_lit ?_
      refine sv' hF (wn rfl) rfl rfl (R.move (hF.ev rfl)) fun a hF => ?_
      refine sv' hF (wn rfl) rfl rfl (R.assign (hF.ev rfl)) fun a hF => ?_
      refine s0 ?_
      refine then_n (hK9 _ _ ?_)
      refine wp_drawS hS [(0, 0), (1, 0), (2, 0), (3, 1), (4, 0), (5, 0), (6, 1), (7, 0), (8, 0), (9, 0), (10, 0), (11, 0), (12, 0), (13, 3), (14, 0)] mix (by kernel_rfl) (hP.then.block.then.then.block) fun w hS => ?_
      have hD := hS
      refine dq hF rfl (wn rfl) rfl rfl (fun w => R.move (hF.ev rfl)) fun a hF => ?_
      refine dq hF rfl (wn rfl) rfl rfl (fun w => R.move (hF.ev rfl)) fun a hF => ?_
      refine dq hF rfl (wn rfl) rfl rfl (fun w => R.indexA Try.underlying29 sz27 (hF.ev rfl) (hF.ev rfl) (by omega) (by omega)) fun a hF => ?_
      refine dr hF rfl (wn rfl) rfl rfl hD (fun w hD => R.load one27 (hF.ev rfl) hD (.t (.t (.t .h))) (wc_at x k (by omega))) fun a hF => ?_
      refine dq hF rfl (wn rfl) rfl rfl (fun w => R.move (hF.ev rfl)) fun a hF => ?_
      refine dq hF rfl (wn rfl) rfl rfl (fun w => R.indexA Try.underlying29 sz27 (hF.ev rfl) (hF.ev rfl) (by omega) (by omega)) fun a hF => ?_
      refine dr hF rfl (wn rfl) rfl rfl hD (fun w hD => R.load one27 (hF.ev rfl) hD (.t (.t .h)) (wc_at y k (by omega))) fun a hF => ?_
      refine dq hF rfl (wn rfl) rfl rfl (fun w => R.move (hF.ev rfl)) fun a hF => ?_
      refine dq hF rfl (wn rfl) rfl rfl (fun w => R.extern (hF.evs rfl) (x96 (dg x k) (dg y k) (bw x y k) (bw_le x y k) w)) fun a hF => ?_
      refine dq hF rfl (wn rfl) rfl rfl (fun w => R.move (hF.ev rfl)) fun a hF => ?_
      refine dq hF rfl (wn rfl) rfl rfl (fun w => R.extract (hF.ev rfl) rfl) fun a hF => ?_
      refine dq hF rfl (wn rfl) rfl rfl (fun w => R.extract (hF.ev rfl) rfl) fun a hF => ?_
      refine dq hF rfl (wn rfl) rfl rfl (fun w => R.indexA Try.underlying29 sz27 (hF.ev rfl) (hF.ev rfl) (by omega) (by omega)) fun a hF => ?_
      refine dw rfl (wn rfl) (O.store sz27 (hF.ev rfl) (hF.ev rfl) rfl rfl hS .h (mkc_at 4 (dg (x + 115792089237316195423570985008687907853269984665640564039457584007913129639936 - y)) k _ (by rw [dg_sub x y k (by omega) hy])) (by simp only [length_mkc]; omega) fun w hS => ?_)
      refine dq hF rfl (wn rfl) rfl rfl (fun w => R.assign (hF.ev rfl)) fun a hF => ?_
      refine d0 ?_
      refine blk_n ?_
      refine then_n (hK8 _ _ ?_)
      refine wp_region_lit ?_
      refine sv' hF (wn rfl) rfl rfl (R.addI (hF.ev rfl) (hF.ev rfl) (by omega)) fun a hF => ?_
      refine sv' hF (wn rfl) rfl rfl (R.move (hF.ev rfl)) fun a hF => ?_
      refine s0 ?_
      refine then_n (hKL1 (4 - (k + 1)) _ _ ?_ ?_)
      · omega
      · exact ⟨k + 1, rfl, hF.sub ⟨rfl, rfl, rfl, rfl, (by rw [bw_succ]; rfl), rfl, trivial⟩, hS.sel [0, 1, 2, 3] rfl rfl, by omega⟩
    ·
      obtain rfl : k = 4 := by omega
      rw [show mkc 4 (dg (x + 115792089237316195423570985008687907853269984665640564039457584007913129639936 - y)) 4 = wc (x + 115792089237316195423570985008687907853269984665640564039457584007913129639936 - y) from rfl] at hS
      refine wp_exit (then_x (then_x (blk_hit ?_)))
      refine then_n (hK4 _ _ ?_)
      refine wp_seq_k fun K10 hK10 => ?_
      refine wp_seq_k fun K11 hK11 => ?_
      refine wp_region_lit ?_
      refine sv' hF (wn rfl) rfl rfl (R.move (hF.ev rfl)) fun a hF => ?_
      refine sv' hF (wn rfl) rfl rfl (R.gtr (hF.ev rfl) (hF.ev rfl)) fun a hF => ?_
      refine s0 ?_
      refine then_n (hK11 _ _ ?_)
      refine cD hF rfl (fun c2 => ?_) (fun c2 => ?_)
      ·
        have e : ¬ (y ≤ x) := by have := bw_4 x y hx hy; split at this <;> omega
        refine wp_seq_k fun K12 hK12 => ?_
        refine wp_region_lit ?_
        refine sv' hF (wn rfl) rfl rfl (R.buildArr (l := [_, _, _, _]) Try.underlying29 ze29 sz27 (hF.evp rfl) rfl) fun a hF => ?_
        refine so (wn rfl) (O.storeW sz29 (hF.ev rfl) (hF.ev rfl) rfl rfl (by simp [Value.oneCell']) hS (.t .h) rfl fun w hS => ?_)
        refine sv' hF (wn rfl) rfl rfl (R.assign (hF.ev rfl)) fun a hF => ?_
        refine s0 ?_
        refine then_n (hK12 _ _ ?_)
        refine wp_ret (then_r (hR _ _ _ _ _ hF (run_results Try.results42 (.cw hF rfl agg29 hS (.t .h) sz29 rfl (.t hF rfl (.nil)))) ?_))
        exact ⟨_, [], rfl, ⟨by simp only [subW, if_neg e]; rfl, rfl⟩, hS.none⟩
      ·
        have e : y ≤ x := by have := bw_4 x y hx hy; split at this <;> omega
        have e2 : x + 115792089237316195423570985008687907853269984665640564039457584007913129639936 - y = (x - y) + 115792089237316195423570985008687907853269984665640564039457584007913129639936 := by omega
        rw [e2, wc_addM] at hS
        refine wp_skip ?_
        refine then_n (hK10 _ _ ?_)
        refine wp_seq_k fun K13 hK13 => ?_
        refine wp_region_lit ?_
        refine sv' hF (wn rfl) rfl rfl (R.loadW agg29 (hF.ev rfl) hS .h sz29 rfl) fun a hF => ?_
        refine so (wn rfl) (O.storeW sz29 (hF.ev rfl) (hF.ev rfl) rfl rfl (by simp [Value.oneCell']) hS (.t .h) rfl fun w hS => ?_)
        refine sv' hF (wn rfl) rfl rfl (R.assign (hF.ev rfl)) fun a hF => ?_
        refine s0 ?_
        refine then_n (hK13 _ _ ?_)
        refine wp_ret (hR _ _ _ _ _ hF (run_results Try.results42 (.cw hF rfl agg29 hS (.t .h) sz29 rfl (.t hF rfl (.nil)))) ?_)
        exact ⟨_, [], rfl, ⟨by simp only [subW, if_pos e]; rfl, rfl⟩, hS.none⟩

theorem isZero_calls (x : Nat) (w0 : World) (hx : x < 115792089237316195423570985008687907853269984665640564039457584007913129639936) : Ret Try.prog 54 [wv x] w0 [] (fun v s => v = .bool (decide (x = 0)) ∧ s = []) := by
  refine fn_start Try.func54 rfl Try.ntmps54 rfl [(0, wv x)] ⟨rfl, trivial⟩ ?_
  intro Q a hP hF hR hN
  have hS := St.start w0
  refine wp_seq_k fun K1 hK1 => ?_
  refine wp_region_lit ?_
  refine so (wn rfl) (O.box rfl rfl hF (hF.ev rfl) rfl hS fun b1 a w hF hS => ?_)
  refine sv' hF (wn rfl) rfl rfl (R.assign (hF.ev rfl)) fun a hF => ?_
  refine s0 ?_
  refine then_n (hK1 _ _ ?_)
  refine wp_seq_k fun K2 hK2 => ?_
  refine wp_region_lit ?_
  refine sv' hF (wn rfl) rfl rfl (R.loadW agg29 (hF.ev rfl) hS .h sz29 rfl) fun a hF => ?_
  refine sv' hF (wn rfl) rfl rfl (R.buildArr (l := [_, _, _, _]) Try.underlying29 ze29 sz27 (hF.evp rfl) rfl) fun a hF => ?_
  refine sv' hF (wn rfl) rfl rfl (R.eqlW (x := x) (y := 0) (hF.ev rfl) (hF.ev rfl) hx (by decide)) fun a hF => ?_
  refine sv' hF (wn rfl) rfl rfl (R.assign (hF.ev rfl)) fun a hF => ?_
  refine s0 ?_
  refine then_n (hK2 _ _ ?_)
  refine wp_ret (hR _ _ _ _ _ hF (run_results Try.results54 (.t hF rfl (.nil))) ?_)
  exact ⟨_, [], rfl, ⟨rfl, rfl⟩, hS.none⟩

end Go.Proofs.Ythgecfjpacebeaa
