/- The calls of wide.Cmp, divided, Div. -/
import Derived.Test.YthgecfjpacebeaaBe
namespace Go.Proofs.Ythgecfjpacebeaa
open Go Go.Fw Go.RowKit
attribute [local irreducible] Go.Oper.wp Go.Code.wp Go.wpList Go.Fw.WL Go.Calls
theorem cmp_calls (x y : Nat) (w0 : World) (hx : x < 115792089237316195423570985008687907853269984665640564039457584007913129639936) (hy : y < 115792089237316195423570985008687907853269984665640564039457584007913129639936) : Ret Try.prog 49 [wv x, wv y] w0 [] (fun v s => v = .int .i64 (cmpN x y) ∧ s = []) := by
  refine fn_start Try.func49 rfl Try.ntmps49 rfl [(0, wv x), (1, wv y)] ⟨rfl, rfl, trivial⟩ ?_
  intro Q a hP hF hR hN
  have hS := St.start w0
  refine wp_seq_k fun K1 hK1 => ?_
  refine wp_region_lit ?_
  refine so (wn rfl) (O.box rfl rfl hF (hF.ev rfl) rfl hS fun b2 a w hF hS => ?_)
  refine so (wn rfl) (O.box rfl rfl hF (hF.ev rfl) rfl hS fun b3 a w hF hS => ?_)
  refine sv' hF (wn rfl) rfl rfl (R.assign (hF.ev rfl)) fun a hF => ?_
  refine s0 ?_
  refine then_n (hK1 _ _ ?_)
  refine wp_seq_k fun K2 hK2 => ?_
  refine wp_seq_k fun K3 hK3 => ?_
  refine wp_region_lit ?_
  refine sv' hF (wn rfl) rfl rfl (R.assign (hF.ev rfl)) fun a hF => ?_
  refine s0 ?_
  refine then_n (hK3 _ _ ?_)
  refine wp_block ?_
  refine wp_loop_N (fun g a w => ∃ (k : Nat), k = g ∧ Fr 26 [(2, .pointer (some ⟨b2, 0, none⟩)), (3, .pointer (some ⟨b3, 0, none⟩)), (5, .int .i64 ((k : Nat) - 1 : Int))] a ∧ St w0 [] [[(b3, Cel (wc y) 29)], [(b2, Cel (wc x) 29)]] w ∧ (k ≤ 4) ∧ (x / 18446744073709551616 ^ k = y / 18446744073709551616 ^ k)) (4) ?_ ?_
  · exact ⟨4, rfl, hF.sub ⟨rfl, rfl, rfl, trivial⟩, hS.sel [0, 1] rfl rfl, by omega, by rw [Nat.div_eq_of_lt (by simpa using hx), Nat.div_eq_of_lt (by simpa using hy)]⟩
  · rintro KL1 g a w ⟨k, hg1, hF, hS, hk, he⟩ hKL1
    refine wp_seq_k fun K4 hK4 => ?_
    refine wp_seq_k fun K5 hK5 => ?_
    refine wp_region_lit ?_
    refine sv' hF (wn rfl) rfl rfl (R.move (hF.ev rfl)) fun a hF => ?_
    refine sv' hF (wn rfl) rfl rfl (R.geq (hF.ev rfl) (hF.ev rfl)) fun a hF => ?_
    refine s0 ?_
    refine then_n (hK5 _ _ ?_)
    refine cD hF rfl (fun c1 => ?_) (fun c1 => ?_)
    ·
      refine wp_skip ?_
      refine then_n (hK4 _ _ ?_)
      refine wp_seq_k fun K6 hK6 => ?_
      refine wp_block ?_
      refine wp_block ?_
      refine wp_seq_k fun K7 hK7 => ?_
      refine wp_drawS hS [(0, 0), (1, 0), (2, 1), (3, 0), (4, 0), (5, 1), (6, 0), (7, 0)] mix (by kernel_rfl) (hP.then.block.then.then.block.block.then) fun w hS => ?_
      have hD := hS
      refine dq hF rfl (wn rfl) rfl rfl (fun w => R.move (hF.ev rfl)) fun a hF => ?_
      refine dq hF rfl (wn rfl) rfl rfl (fun w => R.indexA Try.underlying29 sz27 (hF.ev rfl) (hF.ev rfl) (by omega) (by omega)) fun a hF => ?_
      refine dr hF rfl (wn rfl) rfl rfl hD (fun w hD => R.load one27 (hF.ev rfl) hD (.t .h) (wc_dn x k (by omega) hk)) fun a hF => ?_
      refine dq hF rfl (wn rfl) rfl rfl (fun w => R.move (hF.ev rfl)) fun a hF => ?_
      refine dq hF rfl (wn rfl) rfl rfl (fun w => R.indexA Try.underlying29 sz27 (hF.ev rfl) (hF.ev rfl) (by omega) (by omega)) fun a hF => ?_
      refine dr hF rfl (wn rfl) rfl rfl hD (fun w hD => R.load one27 (hF.ev rfl) hD .h (wc_dn y k (by omega) hk)) fun a hF => ?_
      refine dq hF rfl (wn rfl) rfl rfl (fun w => R.lss (hF.ev rfl) (hF.ev rfl)) fun a hF => ?_
      refine dq hF rfl (wn rfl) rfl rfl (fun w => R.assign (hF.ev rfl)) fun a hF => ?_
      refine d0 ?_
      refine then_n (hK7 _ _ ?_)
      refine cD hF rfl (fun c2 => ?_) (fun c2 => ?_)
      ·
        have e : x < y := lt_of_dg (by omega) he (by omega)
        refine wp_seq_k fun K8 hK8 => ?_
        refine wp_region_lit ?_
        refine sv' hF (wn rfl) rfl rfl (R.assign (hF.ev rfl)) fun a hF => ?_
        refine s0 ?_
        refine then_n (hK8 _ _ ?_)
        refine wp_ret (blk_r (blk_r (then_r (then_r (blk_r (then_r (hR _ _ _ _ _ hF (run_results Try.results49 (.t hF rfl (.nil))) ?_)))))))
        exact ⟨_, [], rfl, ⟨by simp only [cmpN, if_pos e]; rfl, rfl⟩, hS.none⟩
      ·
        refine wp_seq_k fun K9 hK9 => ?_
        refine wp_drawS hS [(0, 0), (1, 0), (2, 1), (3, 0), (4, 0), (5, 1), (6, 0), (7, 0)] mix (by kernel_rfl) (hP.then.block.then.then.block.block.then) fun w hS => ?_
        have hD := hS
        refine dq hF rfl (wn rfl) rfl rfl (fun w => R.move (hF.ev rfl)) fun a hF => ?_
        refine dq hF rfl (wn rfl) rfl rfl (fun w => R.indexA Try.underlying29 sz27 (hF.ev rfl) (hF.ev rfl) (by omega) (by omega)) fun a hF => ?_
        refine dr hF rfl (wn rfl) rfl rfl hD (fun w hD => R.load one27 (hF.ev rfl) hD (.t .h) (wc_dn x k (by omega) hk)) fun a hF => ?_
        refine dq hF rfl (wn rfl) rfl rfl (fun w => R.move (hF.ev rfl)) fun a hF => ?_
        refine dq hF rfl (wn rfl) rfl rfl (fun w => R.indexA Try.underlying29 sz27 (hF.ev rfl) (hF.ev rfl) (by omega) (by omega)) fun a hF => ?_
        refine dr hF rfl (wn rfl) rfl rfl hD (fun w hD => R.load one27 (hF.ev rfl) hD .h (wc_dn y k (by omega) hk)) fun a hF => ?_
        refine dq hF rfl (wn rfl) rfl rfl (fun w => R.gtr (hF.ev rfl) (hF.ev rfl)) fun a hF => ?_
        refine dq hF rfl (wn rfl) rfl rfl (fun w => R.assign (hF.ev rfl)) fun a hF => ?_
        refine d0 ?_
        refine then_n (hK9 _ _ ?_)
        refine cD hF rfl (fun c3 => ?_) (fun c3 => ?_)
        ·
          have e : y < x := lt_of_dg (by omega) he.symm (by omega)
          refine wp_seq_k fun K10 hK10 => ?_
          refine wp_region_lit ?_
          refine sv' hF (wn rfl) rfl rfl (R.assign (hF.ev rfl)) fun a hF => ?_
          refine s0 ?_
          refine then_n (hK10 _ _ ?_)
          refine wp_ret (blk_r (blk_r (then_r (then_r (blk_r (then_r (hR _ _ _ _ _ hF (run_results Try.results49 (.t hF rfl (.nil))) ?_)))))))
          exact ⟨_, [], rfl, ⟨by simp only [cmpN, if_pos e, if_neg (show ¬ x < y by omega)]; rfl, rfl⟩, hS.none⟩
        ·
          refine wp_skip ?_
          refine blk_n ?_
          refine blk_n ?_
          refine then_n (hK6 _ _ ?_)
          refine wp_region_lit ?_
          refine sv' hF (wn rfl) rfl rfl (R.move (hF.ev rfl)) fun a hF => ?_
          refine sv' hF (wn rfl) rfl rfl (R.subI (hF.ev rfl) (hF.ev rfl) (by omega)) fun a hF => ?_
          refine sv' hF (wn rfl) rfl rfl (R.assign (hF.ev rfl)) fun a hF => ?_
          refine s0 ?_
          refine then_n (hKL1 (k - 1) _ _ ?_ ?_)
          · omega
          · exact ⟨k - 1, rfl, hF.sub ⟨rfl, rfl, (congrArg (fun z => some (Value.int .i64 z)) (by omega)), trivial⟩, hS.sel [0, 1] rfl rfl, by omega, same_dg (by omega) he (by omega)⟩
    ·
      obtain rfl : k = 0 := by omega
      have e : x = y := by simpa using he
      refine wp_exit (then_x (then_x (blk_hit ?_)))
      refine then_n (hK2 _ _ ?_)
      refine wp_seq_k fun K11 hK11 => ?_
      refine wp_region_lit ?_
      refine sv' hF (wn rfl) rfl rfl (R.assign (hF.ev rfl)) fun a hF => ?_
      refine s0 ?_
      refine then_n (hK11 _ _ ?_)
      refine wp_ret (hR _ _ _ _ _ hF (run_results Try.results49 (.t hF rfl (.nil))) ?_)
      exact ⟨_, [], rfl, ⟨by subst e; simp only [cmpN, Nat.lt_irrefl, if_false]; rfl, rfl⟩, hS.none⟩

end Go.Proofs.Ythgecfjpacebeaa
