/- The calls of law 2's known. -/
import Derived.Test.YthgecfjpacebeaaBv
namespace Go.Proofs.Ythgecfjpacebeaa
open Go Go.Fw Go.RowKit
attribute [local irreducible] Go.Oper.wp Go.Code.wp Go.wpList Go.Fw.WL Go.Calls
def topS : ByteArray := ⟨#[49, 49, 53, 55, 57, 50, 48, 56, 57, 50, 51, 55, 51, 49, 54, 49, 57, 53, 52, 50, 51, 53, 55, 48, 57, 56, 53, 48, 48, 56, 54, 56, 55, 57, 48, 55, 56, 53, 51, 50, 54, 57, 57, 56, 52, 54, 54, 53, 54, 52, 48, 53, 54, 52, 48, 51, 57, 52, 53, 55, 53, 56, 52, 48, 48, 55, 57, 49, 51, 49, 50, 57, 54, 51, 57, 57, 51, 53]⟩
theorem dec_top : dec 115792089237316195423570985008687907853269984665640564039457584007913129639935 = [5, 3, 9, 9, 3, 6, 9, 2, 1, 3, 1, 9, 7, 0, 0, 4, 8, 5, 7, 5, 4, 9, 3, 0, 4, 6, 5, 0, 4, 6, 5, 6, 6, 4, 8, 9, 9, 6, 2, 3, 5, 8, 7, 0, 9, 7, 8, 6, 8, 0, 0, 5, 8, 9, 0, 7, 5, 3, 2, 4, 5, 9, 1, 6, 1, 3, 7, 3, 2, 9, 8, 0, 2, 9, 7, 5, 1, 1] := by
  have h := dec_val (xs := [5, 3, 9, 9, 3, 6, 9, 2, 1, 3, 1, 9, 7, 0, 0, 4, 8, 5, 7, 5, 4, 9, 3, 0, 4, 6, 5, 0, 4, 6, 5, 6, 6, 4, 8, 9, 9, 6, 2, 3, 5, 8, 7, 0, 9, 7, 8, 6, 8, 0, 0, 5, 8, 9, 0, 7, 5, 3, 2, 4, 5, 9, 1, 6, 1, 3, 7, 3, 2, 9, 8, 0, 2, 9, 7, 5, 1, 1]) (by unfold Dig; decide) (by decide) (.inr (by decide))
  rwa [show val10 [5, 3, 9, 9, 3, 6, 9, 2, 1, 3, 1, 9, 7, 0, 0, 4, 8, 5, 7, 5, 4, 9, 3, 0, 4, 6, 5, 0, 4, 6, 5, 6, 6, 4, 8, 9, 9, 6, 2, 3, 5, 8, 7, 0, 9, 7, 8, 6, 8, 0, 0, 5, 8, 9, 0, 7, 5, 3, 2, 4, 5, 9, 1, 6, 1, 3, 7, 3, 2, 9, 8, 0, 2, 9, 7, 5, 1, 1] = 115792089237316195423570985008687907853269984665640564039457584007913129639935 from by decide +kernel] at h
theorem txt_top : bstr (txt 115792089237316195423570985008687907853269984665640564039457584007913129639935) = topS := by
  unfold txt
  rw [dec_top]
  rfl
theorem prs_top : prs (bys topS) = some 115792089237316195423570985008687907853269984665640564039457584007913129639935 := by decide +kernel
theorem parse_top (w : World) : Ret Try.prog 47 [.string topS] w [] (fun v q => v = .tuple #[wv 115792089237316195423570985008687907853269984665640564039457584007913129639935, .int .i64 0] ∧ q = []) := by
  have h := parse_calls topS w
  rw [prsW, prs_top] at h
  exact h
theorem k_add (w : World) : Ret Try.prog 41 [wv 18446744073709551615, wv 1] w [] (fun v s => v = .tuple #[wv 18446744073709551616, .int .i64 0] ∧ s = []) := add_calls _ _ w (by decide) (by decide)
theorem k_sub (w : World) : Ret Try.prog 42 [wv 340282366920938463463374607431768211456, wv 1] w [] (fun v s => v = .tuple #[wv 340282366920938463463374607431768211455, .int .i64 0] ∧ s = []) := sub_calls _ _ w (by decide) (by decide)
theorem k_div (w : World) : Ret Try.prog 50 [wv 17, wv 5] w [] (fun v s => v = .tuple #[wv 3, wv 2, .int .i64 0] ∧ s = []) := div_calls _ _ w (by decide) (by decide)

theorem known_calls  (w0 : World) : Ret Try.prog 40 [] w0 [] (fun v s => v = .bool true ∧ s = []) := by
  refine fn_start Try.func40 rfl Try.ntmps40 rfl [] trivial ?_
  intro Q a hP hF hR hN
  have hS := St.start w0
  refine wp_seq_k fun K1 hK1 => ?_
  refine wp_region_lit ?_
  refine sv' hF (wn rfl) rfl rfl (R.assign (hF.ev rfl)) fun a hF => ?_
  refine s0 ?_
  refine then_n (hK1 _ _ ?_)
  refine wp_seq_k fun K2 hK2 => ?_
  refine wp_region_lit ?_
  refine sv' hF (wn rfl) rfl rfl (R.buildArr (l := wc 18446744073709551615) Try.underlying29 ze29 sz27 (hF.evp rfl) rfl) fun a hF => ?_
  refine sv' hF (wn rfl) rfl rfl (R.buildArr (l := wc 1) Try.underlying29 ze29 sz27 (hF.evp rfl) rfl) fun a hF => ?_
  refine so (wn rfl) (O.call rfl rfl hF ent41 (hF.evs rfl) hS (k_add _) fun v s15 a w hR hF hS => ?_)
  obtain ⟨rfl, rfl⟩ := hR
  refine sv' hF (wn rfl) rfl rfl (R.move (hF.ev rfl)) fun a hF => ?_
  refine sv' hF (wn rfl) rfl rfl (R.extract (hF.ev rfl) rfl) fun a hF => ?_
  refine sv' hF (wn rfl) rfl rfl (R.extract (hF.ev rfl) rfl) fun a hF => ?_
  refine so (wn rfl) (O.alloc rfl rfl hF ze29 rfl hS fun b1 a w hF hS => ?_)
  refine so (wn rfl) (O.storeW sz29 (hF.ev rfl) (hF.ev rfl) (rfl) rfl (by simp [Value.oneCell']) hS .h (rfl) fun w hS => ?_)
  refine sv' hF (wn rfl) rfl rfl (R.assign (hF.ev rfl)) fun a hF => ?_
  refine s0 ?_
  refine then_n (hK2 _ _ ?_)
  refine wp_seq_k fun K3 hK3 => ?_
  refine wp_region_lit ?_
  refine sv' hF (wn rfl) rfl rfl (R.buildArr (l := wc 340282366920938463463374607431768211456) Try.underlying29 ze29 sz27 (hF.evp rfl) rfl) fun a hF => ?_
  refine sv' hF (wn rfl) rfl rfl (R.buildArr (l := wc 1) Try.underlying29 ze29 sz27 (hF.evp rfl) rfl) fun a hF => ?_
  refine so (wn rfl) (O.call rfl rfl hF ent42 (hF.evs rfl) hS (k_sub _) fun v s21 a w hR hF hS => ?_)
  obtain ⟨rfl, rfl⟩ := hR
  refine sv' hF (wn rfl) rfl rfl (R.move (hF.ev rfl)) fun a hF => ?_
  refine sv' hF (wn rfl) rfl rfl (R.extract (hF.ev rfl) rfl) fun a hF => ?_
  refine sv' hF (wn rfl) rfl rfl (R.extract (hF.ev rfl) rfl) fun a hF => ?_
  refine so (wn rfl) (O.alloc rfl rfl hF ze29 rfl hS fun b3 a w hF hS => ?_)
  refine so (wn rfl) (O.storeW sz29 (hF.ev rfl) (hF.ev rfl) (rfl) rfl (by simp [Value.oneCell']) hS .h (rfl) fun w hS => ?_)
  refine sv' hF (wn rfl) rfl rfl (R.assign (hF.ev rfl)) fun a hF => ?_
  refine s0 ?_
  refine then_n (hK3 _ _ ?_)
  refine wp_seq_k fun K4 hK4 => ?_
  refine wp_region_lit ?_
  refine sv' hF (wn rfl) rfl rfl (R.buildArr (l := wc 17) Try.underlying29 ze29 sz27 (hF.evp rfl) rfl) fun a hF => ?_
  refine sv' hF (wn rfl) rfl rfl (R.buildArr (l := wc 5) Try.underlying29 ze29 sz27 (hF.evp rfl) rfl) fun a hF => ?_
  refine so (wn rfl) (O.call rfl rfl hF ent50 (hF.evs rfl) hS (k_div _) fun v s27 a w hR hF hS => ?_)
  obtain ⟨rfl, rfl⟩ := hR
  refine sv' hF (wn rfl) rfl rfl (R.move (hF.ev rfl)) fun a hF => ?_
  refine sv' hF (wn rfl) rfl rfl (R.extract (hF.ev rfl) rfl) fun a hF => ?_
  refine sv' hF (wn rfl) rfl rfl (R.extract (hF.ev rfl) rfl) fun a hF => ?_
  refine sv' hF (wn rfl) rfl rfl (R.extract (hF.ev rfl) rfl) fun a hF => ?_
  refine so (wn rfl) (O.alloc rfl rfl hF ze29 rfl hS fun b5 a w hF hS => ?_)
  refine so (wn rfl) (O.alloc rfl rfl hF ze29 rfl hS fun b6 a w hF hS => ?_)
  refine so (wn rfl) (O.storeW sz29 (hF.ev rfl) (hF.ev rfl) (rfl) rfl (by simp [Value.oneCell']) hS (.t .h) (rfl) fun w hS => ?_)
  refine so (wn rfl) (O.storeW sz29 (hF.ev rfl) (hF.ev rfl) (rfl) rfl (by simp [Value.oneCell']) hS .h (rfl) fun w hS => ?_)
  refine sv' hF (wn rfl) rfl rfl (R.assign (hF.ev rfl)) fun a hF => ?_
  refine s0 ?_
  refine then_n (hK4 _ _ ?_)
  refine wp_seq_k fun K5 hK5 => ?_
  refine wp_region_lit ?_
  refine so (wn rfl) (O.call rfl rfl hF ent94 (hF.evs rfl) hS (top_calls _) fun v s31 a w hR hF hS => ?_)
  obtain ⟨rfl, rfl⟩ := hR
  refine so (wn rfl) (O.call rfl rfl hF ent45 (hF.evs rfl) hS (text_calls 115792089237316195423570985008687907853269984665640564039457584007913129639935 _ (by decide)) fun v s32 a w hR hF hS => ?_)
  obtain ⟨rfl, rfl⟩ := hR
  refine sv' hF (wn rfl) rfl rfl (R.assign (hF.ev rfl)) fun a hF => ?_
  refine s0 ?_
  refine then_n (hK5 _ _ ?_)
  refine wp_seq_k fun K6 hK6 => ?_
  refine wp_region_lit ?_
  refine so (wn rfl) (O.call rfl rfl hF ent47 (hF.evs rfl) hS (parse_top _) fun v s34 a w hR hF hS => ?_)
  obtain ⟨rfl, rfl⟩ := hR
  refine sv' hF (wn rfl) rfl rfl (R.move (hF.ev rfl)) fun a hF => ?_
  refine sv' hF (wn rfl) rfl rfl (R.extract (hF.ev rfl) rfl) fun a hF => ?_
  refine sv' hF (wn rfl) rfl rfl (R.extract (hF.ev rfl) rfl) fun a hF => ?_
  refine so (wn rfl) (O.alloc rfl rfl hF ze29 rfl hS fun b9 a w hF hS => ?_)
  refine so (wn rfl) (O.storeW sz29 (hF.ev rfl) (hF.ev rfl) (rfl) rfl (by simp [Value.oneCell']) hS .h (rfl) fun w hS => ?_)
  refine sv' hF (wn rfl) rfl rfl (R.assign (hF.ev rfl)) fun a hF => ?_
  refine s0 ?_
  refine then_n (hK6 _ _ ?_)
  refine wp_seq_k fun K7 hK7 => ?_
  refine wp_region_lit ?_
  refine sv' hF (wn rfl) rfl rfl (R.loadW agg29 (hF.ev rfl) hS (.t (.t (.t (.t (.t (.t (.t (.t (.t .h))))))))) sz29 (rfl)) fun a hF => ?_
  refine sv' hF (wn rfl) rfl rfl (R.buildArr (l := wc 18446744073709551616) Try.underlying29 ze29 sz27 (hF.evp rfl) rfl) fun a hF => ?_
  refine sv' hF (wn rfl) rfl rfl (R.as (u := .bool true) (R.eqlW (x := 18446744073709551616) (y := 18446744073709551616) (hF.ev rfl) (hF.ev rfl) (by decide) (by decide)) (congrArg Value.bool (decide_eq_true rfl))) fun a hF => ?_
  refine sv' hF (wn rfl) rfl rfl (R.move (hF.ev rfl)) fun a hF => ?_
  refine sv' hF (wy hF rfl rfl rfl) rfl rfl (R.loadW agg29 (hF.ev rfl) hS (.t (.t (.t (.t (.t (.t (.t .h))))))) sz29 (rfl)) fun a hF => ?_
  refine sv' hF (wy hF rfl rfl rfl) rfl rfl (R.buildArr (l := wc 340282366920938463463374607431768211455) Try.underlying29 ze29 sz27 (hF.evp rfl) rfl) fun a hF => ?_
  refine sv' hF (wy hF rfl rfl rfl) rfl rfl (R.as (u := .bool true) (R.eqlW (x := 340282366920938463463374607431768211455) (y := 340282366920938463463374607431768211455) (hF.ev rfl) (hF.ev rfl) (by decide) (by decide)) (congrArg Value.bool (decide_eq_true rfl))) fun a hF => ?_
  refine sv' hF (wn rfl) rfl rfl (R.pickT (hF.ev rfl) (hF.ev rfl)) fun a hF => ?_
  refine sv' hF (wn rfl) rfl rfl (R.move (hF.ev rfl)) fun a hF => ?_
  refine sv' hF (wy hF rfl rfl rfl) rfl rfl (R.loadW agg29 (hF.ev rfl) hS (.t (.t (.t (.t (.t .h))))) sz29 (rfl)) fun a hF => ?_
  refine sv' hF (wy hF rfl rfl rfl) rfl rfl (R.buildArr (l := wc 3) Try.underlying29 ze29 sz27 (hF.evp rfl) rfl) fun a hF => ?_
  refine sv' hF (wy hF rfl rfl rfl) rfl rfl (R.as (u := .bool true) (R.eqlW (x := 3) (y := 3) (hF.ev rfl) (hF.ev rfl) (by decide) (by decide)) (congrArg Value.bool (decide_eq_true rfl))) fun a hF => ?_
  refine sv' hF (wn rfl) rfl rfl (R.pickT (hF.ev rfl) (hF.ev rfl)) fun a hF => ?_
  refine sv' hF (wn rfl) rfl rfl (R.move (hF.ev rfl)) fun a hF => ?_
  refine sv' hF (wy hF rfl rfl rfl) rfl rfl (R.loadW agg29 (hF.ev rfl) hS (.t (.t (.t (.t .h)))) sz29 (rfl)) fun a hF => ?_
  refine sv' hF (wy hF rfl rfl rfl) rfl rfl (R.buildArr (l := wc 2) Try.underlying29 ze29 sz27 (hF.evp rfl) rfl) fun a hF => ?_
  refine sv' hF (wy hF rfl rfl rfl) rfl rfl (R.as (u := .bool true) (R.eqlW (x := 2) (y := 2) (hF.ev rfl) (hF.ev rfl) (by decide) (by decide)) (congrArg Value.bool (decide_eq_true rfl))) fun a hF => ?_
  refine sv' hF (wn rfl) rfl rfl (R.pickT (hF.ev rfl) (hF.ev rfl)) fun a hF => ?_
  refine sv' hF (wn rfl) rfl rfl (R.assign (hF.ev rfl)) fun a hF => ?_
  refine s0 ?_
  refine then_n (hK7 _ _ ?_)
  refine wp_seq_k fun K8 hK8 => ?_
  refine wp_drawS hS [(0, 0), (1, 0), (2, 0), (3, 0), (4, 0), (5, 0), (6, 0), (7, 0), (8, 0), (9, 0), (10, 0), (11, 0), (12, 0), (13, 0), (14, 0), (15, 0), (16, 0), (17, 0), (18, 1), (19, 2), (20, 0), (21, 0), (22, 0), (23, 0), (24, 0), (25, 0), (26, 0)] mix (by kernel_rfl) (hP.then) fun w hS => ?_
  have hD := hS
  refine dq hF rfl (wn rfl) rfl rfl (fun w => R.move (hF.ev rfl)) fun a hF => ?_
  refine dq hF rfl (wn rfl) rfl rfl (fun w => R.move (hF.ev rfl)) fun a hF => ?_
  refine dq hF rfl (wy hF rfl rfl rfl) rfl rfl (fun w => R.move (hF.ev rfl)) fun a hF => ?_
  refine dq hF rfl (wy hF rfl rfl rfl) rfl rfl (fun w => R.as (u := .bool true) (R.eql (p := 0) (q := 0) (hF.ev rfl) (hF.ev rfl)) (rfl)) fun a hF => ?_
  refine dq hF rfl (wn rfl) rfl rfl (fun w => R.pickT (hF.ev rfl) (hF.ev rfl)) fun a hF => ?_
  refine dq hF rfl (wn rfl) rfl rfl (fun w => R.move (hF.ev rfl)) fun a hF => ?_
  refine dq hF rfl (wy hF rfl rfl rfl) rfl rfl (fun w => R.move (hF.ev rfl)) fun a hF => ?_
  refine dq hF rfl (wy hF rfl rfl rfl) rfl rfl (fun w => R.as (u := .bool true) (R.eql (p := 0) (q := 0) (hF.ev rfl) (hF.ev rfl)) (rfl)) fun a hF => ?_
  refine dq hF rfl (wn rfl) rfl rfl (fun w => R.pickT (hF.ev rfl) (hF.ev rfl)) fun a hF => ?_
  refine dq hF rfl (wn rfl) rfl rfl (fun w => R.move (hF.ev rfl)) fun a hF => ?_
  refine dq hF rfl (wy hF rfl rfl rfl) rfl rfl (fun w => R.move (hF.ev rfl)) fun a hF => ?_
  refine dq hF rfl (wy hF rfl rfl rfl) rfl rfl (fun w => R.as (u := .bool true) (R.eql (p := 0) (q := 0) (hF.ev rfl) (hF.ev rfl)) (rfl)) fun a hF => ?_
  refine dq hF rfl (wn rfl) rfl rfl (fun w => R.pickT (hF.ev rfl) (hF.ev rfl)) fun a hF => ?_
  refine dq hF rfl (wn rfl) rfl rfl (fun w => R.move (hF.ev rfl)) fun a hF => ?_
  refine dq hF rfl (wy hF rfl rfl rfl) rfl rfl (fun w => R.move (hF.ev rfl)) fun a hF => ?_
  refine dq hF rfl (wy hF rfl rfl rfl) rfl rfl (fun w => R.as (u := .bool true) (R.eql (p := 0) (q := 0) (hF.ev rfl) (hF.ev rfl)) (rfl)) fun a hF => ?_
  refine dq hF rfl (wn rfl) rfl rfl (fun w => R.pickT (hF.ev rfl) (hF.ev rfl)) fun a hF => ?_
  refine dq hF rfl (wn rfl) rfl rfl (fun w => R.move (hF.ev rfl)) fun a hF => ?_
  refine dr hF rfl (wy hF rfl rfl rfl) rfl rfl hD (fun w hD => R.loadW agg29 (hF.ev rfl) hD .h sz29 (rfl)) fun a hF => ?_
  refine dl rfl (wy hF rfl rfl rfl) (O.call rfl rfl hF ent94 (hF.evs rfl) hS (top_calls _) fun v s74 a w hR hF hS => ⟨fun hD => hS.tail, ?_⟩)
  obtain ⟨rfl, rfl⟩ := hR
  have hD := hS.tail
  refine dq hF rfl (wy hF rfl rfl rfl) rfl rfl (fun w => R.as (u := .bool true) (R.eqlW (x := 115792089237316195423570985008687907853269984665640564039457584007913129639935) (y := 115792089237316195423570985008687907853269984665640564039457584007913129639935) (hF.ev rfl) (hF.ev rfl) (by decide) (by decide)) (congrArg Value.bool (decide_eq_true rfl))) fun a hF => ?_
  refine dq hF rfl (wn rfl) rfl rfl (fun w => R.pickT (hF.ev rfl) (hF.ev rfl)) fun a hF => ?_
  refine dq hF rfl (wn rfl) rfl rfl (fun w => R.move (hF.ev rfl)) fun a hF => ?_
  refine dq hF rfl (wy hF rfl rfl rfl) rfl rfl (fun w => R.move (hF.ev rfl)) fun a hF => ?_
  refine dq hF rfl (wy hF rfl rfl rfl) rfl rfl (fun w => R.as (u := .bool true) (R.eqlStr (t := topS) (hF.ev rfl) (hF.ev rfl)) (congrArg Value.bool (decide_eq_true txt_top))) fun a hF => ?_
  refine dq hF rfl (wn rfl) rfl rfl (fun w => R.pickT (hF.ev rfl) (hF.ev rfl)) fun a hF => ?_
  refine dq hF rfl (wn rfl) rfl rfl (fun w => R.assign (hF.ev rfl)) fun a hF => ?_
  refine d0 ?_
  refine then_n (hK8 _ _ ?_)
  refine wp_ret (hR _ _ _ _ _ hF (run_results Try.results40 (.t hF rfl (.nil))) ?_)
  exact ⟨_, [], rfl, ⟨rfl, rfl⟩, hS.none⟩

end Go.Proofs.Ythgecfjpacebeaa
