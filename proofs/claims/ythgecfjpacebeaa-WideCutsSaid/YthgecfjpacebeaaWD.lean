/- The calls of WideCuts. -/
import Derived.Test.YthgecfjpacebeaaCg
import Derived.Test.YthgecfjpacebeaaWB
namespace Go.Proofs.Ythgecfjpacebeaa
open Go Go.Fw Go.RowKit
attribute [local irreducible] Go.Oper.wp Go.Code.wp Go.wpList Go.Fw.WL Go.Calls
theorem pickW_calls (p q : Int) (w0 : World) (hp : -9223372036854775808 ≤ p ∧ p ≤ 9223372036854775807) (hq : 0 < q ∧ q ≤ 9223372036854775807) : Ret Try.prog 64 [.int .i64 p, .int .i64 q] w0 [] (fun v s => v = .int .i64 (pickW p q) ∧ s = []) := by
  refine fn_start Try.func64 rfl Try.ntmps64 rfl [(0, .int .i64 p), (1, .int .i64 q)] ⟨rfl, rfl, trivial⟩ ?_
  intro Q a hP hF hR hN
  have hS := St.start w0
  refine wp_seq_k fun K1 hK1 => ?_
  refine wp_region_lit ?_
  refine sv' hF (wn rfl) rfl rfl (R.assign (hF.ev rfl)) fun a hF => ?_
  refine s0 ?_
  refine then_n (hK1 _ _ ?_)
  refine wp_seq_k fun K2 hK2 => ?_
  refine wp_seq_k fun K3 hK3 => ?_
  refine wp_region_lit ?_
  refine sv' hF (wn rfl) rfl rfl (R.move (hF.ev rfl)) fun a hF => ?_
  refine sv' hF (wn rfl) rfl rfl (R.lss (hF.ev rfl) (hF.ev rfl)) fun a hF => ?_
  refine s0 ?_
  refine then_n (hK3 _ _ ?_)
  refine cD hF rfl (fun c1 => ?_) (fun c1 => ?_)
  ·
    refine wp_region_lit ?_
    refine sv' hF (wn rfl) rfl rfl (R.move (hF.ev rfl)) fun a hF => ?_
    refine sv' hF (wn rfl) rfl rfl (R.addI (hF.ev rfl) (hF.ev rfl) (by omega)) fun a hF => ?_
    refine sv' hF (wn rfl) rfl rfl (R.as (u := .int .i64 (-(p + 1))) (R.neg (hF.ev rfl)) (show Value.int .i64 (IntKind.i64.wrap (0 - (p + 1))) = .int .i64 (-(p + 1)) by rw [IntWalk.i64_in _ (by omega), Int.zero_sub])) fun a hF => ?_
    refine sv' hF (wn rfl) rfl rfl (R.assign (hF.ev rfl)) fun a hF => ?_
    refine s0 ?_
    refine then_n (hK2 _ _ ?_)
    refine wp_seq_k fun K4 hK4 => ?_
    refine wp_region_lit ?_
    refine sv' hF (wn rfl) rfl rfl (R.move (hF.ev rfl)) fun a hF => ?_
    refine sv' hF (wn rfl) rfl rfl (R.move (hF.ev rfl)) fun a hF => ?_
    refine sv' hF (wn rfl) rfl rfl (R.remI (hF.ev rfl) (hF.ev rfl) (by omega)) fun a hF => ?_
    refine sv' hF (wn rfl) rfl rfl (R.assign (hF.ev rfl)) fun a hF => ?_
    refine s0 ?_
    refine then_n (hK4 _ _ ?_)
    refine wp_ret (hR _ _ _ _ _ hF (run_results Try.results64 (.t hF rfl (.nil))) ?_)
    exact ⟨_, [], rfl, ⟨by simp only [pickW, if_pos c1]; rfl, rfl⟩, hS.none⟩
  ·
    refine wp_skip ?_
    refine then_n (hK2 _ _ ?_)
    refine wp_seq_k fun K5 hK5 => ?_
    refine wp_region_lit ?_
    refine sv' hF (wn rfl) rfl rfl (R.move (hF.ev rfl)) fun a hF => ?_
    refine sv' hF (wn rfl) rfl rfl (R.move (hF.ev rfl)) fun a hF => ?_
    refine sv' hF (wn rfl) rfl rfl (R.remI (hF.ev rfl) (hF.ev rfl) (by omega)) fun a hF => ?_
    refine sv' hF (wn rfl) rfl rfl (R.assign (hF.ev rfl)) fun a hF => ?_
    refine s0 ?_
    refine then_n (hK5 _ _ ?_)
    refine wp_ret (hR _ _ _ _ _ hF (run_results Try.results64 (.t hF rfl (.nil))) ?_)
    exact ⟨_, [], rfl, ⟨by simp only [pickW, if_neg c1]; rfl, rfl⟩, hS.none⟩

theorem wideCuts_calls (A : Option Addr) (n c : Nat) (l : List Nat) (p : Int) (w0 : World) (hA : Rd w0 A (l.flatMap wc)) (hn : l.length = n) (hnc : n ≤ c) (hW : AllW l) (hc : c * 32 ≤ 140737488351232) (hp : -9223372036854775808 ≤ p ∧ p ≤ 9223372036854775807) : Ret Try.prog 15 [.slice A n c, .int .i64 p] w0 [] (fun v s => v = .bool true ∧ s = []) := by
  refine fn_start Try.func15 rfl Try.ntmps15 rfl [(0, .slice A n c), (1, .int .i64 p)] ⟨rfl, rfl, trivial⟩ ?_
  intro Q a hP hF hR hN
  have hS := St.start w0
  refine wp_seq_k fun K1 hK1 => ?_
  refine wp_region_lit ?_
  refine sv' hF (wn rfl) rfl rfl (R.assign (hF.ev rfl)) fun a hF => ?_
  refine s0 ?_
  refine then_n (hK1 _ _ ?_)
  refine wp_seq_k fun K2 hK2 => ?_
  refine wp_region_lit ?_
  refine so (wn rfl) (O.call rfl rfl hF ent40 (hF.evs rfl) hS (known_calls _) fun v s22 a w hR hF hS => ?_)
  obtain ⟨rfl, rfl⟩ := hR
  refine sv' hF (wn rfl) rfl rfl (R.assign (hF.ev rfl)) fun a hF => ?_
  refine s0 ?_
  refine then_n (hK2 _ _ ?_)
  refine wp_seq_k fun K3 hK3 => ?_
  refine wp_region_lit ?_
  refine sv' hF (wn rfl) rfl rfl (R.move (hF.ev rfl)) fun a hF => ?_
  refine sv' hF (wn rfl) rfl rfl (R.move (hF.ev rfl)) fun a hF => ?_
  refine sv' hF (wn rfl) rfl rfl (R.len Try.underlying26 (hF.ev rfl)) fun a hF => ?_
  refine sv' hF (wn rfl) rfl rfl (R.addI (hF.ev rfl) (hF.ev rfl) (by omega)) fun a hF => ?_
  refine so (wn rfl) (O.call rfl rfl hF ent64 (hF.evs rfl) hS (pickW_calls p ((n : Nat) + 1 : Int) _ hp (by omega)) fun v s27 a w hR hF hS => ?_)
  obtain ⟨rfl, rfl⟩ := hR
  have hpb := pickW_b p (q := ((n : Nat) + 1 : Int)) (by omega); obtain ⟨kk, hkk⟩ : ∃ k : Nat, pickW p ((n : Nat) + 1 : Int) = (k : Int) := ⟨(pickW p ((n : Nat) + 1 : Int)).toNat, by omega⟩; rw [hkk] at hF hpb; clear hkk
  refine sv' hF (wn rfl) rfl rfl (R.assign (hF.ev rfl)) fun a hF => ?_
  refine s0 ?_
  refine then_n (hK3 _ _ ?_)
  refine wp_seq_k fun K4 hK4 => ?_
  have hS := hS.cons0
  refine wp_region_lit ?_
  refine sv' hF (wn rfl) rfl rfl (R.assign (hF.ev rfl)) fun a hF => ?_
  refine s0 ?_
  refine then_n (hK4 _ _ ?_)
  refine wp_seq_k fun K5 hK5 => ?_
  refine wp_seq_k fun K6 hK6 => ?_
  refine wp_region_lit ?_
  refine sv' hF (wn rfl) rfl rfl (R.move (hF.ev rfl)) fun a hF => ?_
  refine sv' hF (wn rfl) rfl rfl (R.len Try.underlying26 (hF.ev rfl)) fun a hF => ?_
  refine sv' hF (wn rfl) rfl rfl (R.subI (hF.ev rfl) (hF.ev rfl) (by omega)) fun a hF => ?_
  refine sv' hF (wn rfl) rfl rfl (R.assign (hF.ev rfl)) fun a hF => ?_
  refine s0 ?_
  refine then_n (hK6 _ _ ?_)
  refine wp_block ?_
  refine wp_loop_N (fun g a w => ∃ (k : Nat) (A2 : Option Addr) (e : Nat) (s : Seg) (b : List Nat), k = g ∧ Fr 145 [(0, .slice A n c), (5, .bool true), (6, .int .i64 (kk : Nat)), (7, .slice A2 b.length e), (8, .int .i64 ((k : Nat) - 1 : Int))] a ∧ St w0 [] [s] w ∧ (k ≤ n) ∧ (OwnS s A2 b.length e (b.flatMap wc) 29 4) ∧ (b = (l.drop k).reverse) ∧ (b.length + k = n)) (n) ?_ ?_
  · exact ⟨n, none, 0, [], [], rfl, hF.sub ⟨rfl, rfl, rfl, rfl, rfl, trivial⟩, hS.sel [0] rfl rfl, Nat.le_refl _, OwnS.nil 29 4, by rw [← hn, List.drop_length]; rfl, by simp⟩
  · rintro KL1 g a w ⟨k, A2, e, s, b, hg1, hF, hS, hk, hO, hb, hbl⟩ hKL1
    refine wp_seq_k fun K7 hK7 => ?_
    refine wp_seq_k fun K8 hK8 => ?_
    refine wp_region_lit ?_
    refine sv' hF (wn rfl) rfl rfl (R.move (hF.ev rfl)) fun a hF => ?_
    refine sv' hF (wn rfl) rfl rfl (R.geq (hF.ev rfl) (hF.ev rfl)) fun a hF => ?_
    refine s0 ?_
    refine then_n (hK8 _ _ ?_)
    refine cD hF rfl (fun c1 => ?_) (fun c1 => ?_)
    ·
      refine wp_skip ?_
      refine then_n (hK7 _ _ ?_)
      refine wp_seq_k fun K9 hK9 => ?_
      refine wp_block ?_
      refine wp_region_lit ?_
      refine sv' hF (wn rfl) rfl rfl (R.move (hF.ev rfl)) fun a hF => ?_
      refine sv' hF (wn rfl) rfl rfl (R.move (hF.ev rfl)) fun a hF => ?_
      refine sv' hF (wn rfl) rfl rfl (R.move (hF.ev rfl)) fun a hF => ?_
      refine sv' hF (wn rfl) rfl rfl (R.indexO Try.underlying26 sz29 (hF.ev rfl) (Rd.ne hA (by rw [wcs_length]; omega)) (hF.ev rfl) (by omega) (by omega)) fun a hF => ?_
      refine sv' hF (wn rfl) rfl rfl (R.loadAO (cs := wc (l.getD (k - 1) 0)) agg29 (hF.ev rfl) (hA.old hS) sz29 rfl (Nat.succ_pos _) (wcs_at (by omega) (by omega))) fun a hF => ?_
      refine so (wn rfl) (O.buildSlice (l := wc (l.getD (k - 1) 0)) rfl rfl hF Try.underlying26 inf29 rfl rfl (hF.evp rfl) (by decide) rfl hS fun b40 a w hF hS => ?_)
      refine so (wn rfl) (O.append rfl rfl hF Try.underlying26 inf29 rfl rfl (by decide) (hF.ev rfl) (hF.ev rfl) hS hO (fun _ => (.t .h)) (Rd.own0 hS .h) (rfl) (by simp [Value.oneCell']) (by unfold maxLen; omega) (by omega) fun A41 c41 s41 a w hO41 hF hS => ?_)
      refine sv' hF (wn rfl) rfl rfl (R.assign (hF.ev rfl)) fun a hF => ?_
      refine s0 ?_
      refine blk_n ?_
      refine then_n (hK9 _ _ ?_)
      refine wp_region_lit ?_
      refine sv' hF (wn rfl) rfl rfl (R.move (hF.ev rfl)) fun a hF => ?_
      refine sv' hF (wn rfl) rfl rfl (R.subI (hF.ev rfl) (hF.ev rfl) (by omega)) fun a hF => ?_
      refine sv' hF (wn rfl) rfl rfl (R.assign (hF.ev rfl)) fun a hF => ?_
      refine s0 ?_
      refine then_n (hKL1 (k - 1) _ _ ?_ ?_)
      · omega
      · exact ⟨k - 1, A41, c41, s41, b ++ [l.getD (k - 1) 0], rfl, hF.sub ⟨rfl, rfl, rfl, (by rw [List.length_append, List.length_singleton]; rfl), (congrArg (fun z => some (Value.int .i64 z)) (by omega)), trivial⟩, hS.sel [1] rfl rfl, by omega, own_wsnoc hO41, by rw [hb]; exact back_step (by omega) (by omega), by rw [List.length_append, List.length_singleton]; omega⟩
    ·
      obtain rfl : k = 0 := by omega
      have hbW : AllW b := allW_sub hW fun x hx => by rw [hb] at hx; exact List.drop_subset _ _ (List.mem_reverse.1 hx)
      have hbs : b.sum = l.sum := by rw [hb, sum_rev, List.drop_zero]
      have hcut := sum_cut l kk
      refine wp_exit (then_x (then_x (blk_hit ?_)))
      refine then_n (hK5 _ _ ?_)
      refine wp_seq_k fun K10 hK10 => ?_
      refine wp_region_lit ?_
      refine sv' hF (wn rfl) rfl rfl (R.move (hF.ev rfl)) fun a hF => ?_
      refine so (wn rfl) (O.call rfl rfl hF ent62 (hF.evs rfl) hS (sum_calls A n c l w (hA.old hS) hn hW (by omega)) fun v s44 a w hR hF hS => ?_)
      obtain ⟨rfl, rfl⟩ := hR
      refine sv' hF (wn rfl) rfl rfl (R.move (hF.ev rfl)) fun a hF => ?_
      refine sv' hF (wn rfl) rfl rfl (R.extract (hF.ev rfl) rfl) fun a hF => ?_
      refine sv' hF (wn rfl) rfl rfl (R.extract (hF.ev rfl) rfl) fun a hF => ?_
      refine so (wn rfl) (O.alloc rfl rfl hF ze29 rfl hS fun b9 a w hF hS => ?_)
      refine so (wn rfl) (O.storeW sz29 (hF.ev rfl) (hF.ev rfl) (rfl) rfl (by simp [Value.oneCell']) hS .h (rfl) fun w hS => ?_)
      refine sv' hF (wn rfl) rfl rfl (R.assign (hF.ev rfl)) fun a hF => ?_
      refine s0 ?_
      refine then_n (hK10 _ _ ?_)
      refine wp_seq_k fun K11 hK11 => ?_
      refine wp_region_lit ?_
      refine sv' hF (wn rfl) rfl rfl (R.move (hF.ev rfl)) fun a hF => ?_
      refine so (wn rfl) (O.call rfl rfl hF ent62 (hF.evs rfl) hS (sum_as A2 b.length e w (hO.rd hS (.t (.t .h))) rfl hbW (by omega) hbs) fun v s49 a w hR hF hS => ?_)
      obtain ⟨rfl, rfl⟩ := hR
      refine sv' hF (wn rfl) rfl rfl (R.move (hF.ev rfl)) fun a hF => ?_
      refine sv' hF (wn rfl) rfl rfl (R.extract (hF.ev rfl) rfl) fun a hF => ?_
      refine sv' hF (wn rfl) rfl rfl (R.extract (hF.ev rfl) rfl) fun a hF => ?_
      refine so (wn rfl) (O.alloc rfl rfl hF ze29 rfl hS fun b11 a w hF hS => ?_)
      refine so (wn rfl) (O.storeW sz29 (hF.ev rfl) (hF.ev rfl) (rfl) rfl (by simp [Value.oneCell']) hS .h (rfl) fun w hS => ?_)
      refine sv' hF (wn rfl) rfl rfl (R.assign (hF.ev rfl)) fun a hF => ?_
      refine s0 ?_
      refine then_n (hK11 _ _ ?_)
      refine wp_seq_k fun K12 hK12 => ?_
      refine wp_region_lit ?_
      refine sv' hF (wn rfl) rfl rfl (R.move (hF.ev rfl)) fun a hF => ?_
      refine sv' hF (wn rfl) rfl rfl (R.move (hF.ev rfl)) fun a hF => ?_
      refine sv' hF (wn rfl) rfl rfl (R.sliceHi (p := ((kk : Nat) : Int)) Try.underlying26 (hF.ev rfl) (hF.ev rfl) (by omega) (by omega) _ sz29) fun a hF => ?_
      refine so (wn rfl) (O.call rfl rfl hF ent62 (hF.evs rfl) hS (sum_calls A kk c (l.take kk) w (rd_take (hA.old hS) kk) (by rw [List.length_take]; omega) (allW_sub hW fun x hx => List.take_subset _ _ hx) (by omega)) fun v s56 a w hR hF hS => ?_)
      obtain ⟨rfl, rfl⟩ := hR
      refine sv' hF (wn rfl) rfl rfl (R.move (hF.ev rfl)) fun a hF => ?_
      refine sv' hF (wn rfl) rfl rfl (R.extract (hF.ev rfl) rfl) fun a hF => ?_
      refine sv' hF (wn rfl) rfl rfl (R.extract (hF.ev rfl) rfl) fun a hF => ?_
      refine so (wn rfl) (O.alloc rfl rfl hF ze29 rfl hS fun b13 a w hF hS => ?_)
      refine so (wn rfl) (O.storeW sz29 (hF.ev rfl) (hF.ev rfl) (rfl) rfl (by simp [Value.oneCell']) hS .h (rfl) fun w hS => ?_)
      refine sv' hF (wn rfl) rfl rfl (R.assign (hF.ev rfl)) fun a hF => ?_
      refine s0 ?_
      refine then_n (hK12 _ _ ?_)
      refine wp_seq_k fun K13 hK13 => ?_
      refine wp_region_lit ?_
      refine sv' hF (wn rfl) rfl rfl (R.move (hF.ev rfl)) fun a hF => ?_
      refine sv' hF (wn rfl) rfl rfl (R.move (hF.ev rfl)) fun a hF => ?_
      refine sv' hF (wn rfl) rfl rfl (R.sliceLo (p := kk) Try.underlying26 (hF.ev rfl) (hF.ev rfl) (by omega) sz29) fun a hF => ?_
      refine so (wn rfl) (O.call rfl rfl hF ent62 (hF.evs rfl) hS (sum_calls _ (n - kk) (c - kk) (l.drop kk) w (rd_drop (hA.old hS) (by omega) kk) (by rw [List.length_drop]; omega) (allW_sub hW fun x hx => List.drop_subset _ _ hx) (by omega)) fun v s63 a w hR hF hS => ?_)
      obtain ⟨rfl, rfl⟩ := hR
      refine sv' hF (wn rfl) rfl rfl (R.move (hF.ev rfl)) fun a hF => ?_
      refine sv' hF (wn rfl) rfl rfl (R.extract (hF.ev rfl) rfl) fun a hF => ?_
      refine sv' hF (wn rfl) rfl rfl (R.extract (hF.ev rfl) rfl) fun a hF => ?_
      refine so (wn rfl) (O.alloc rfl rfl hF ze29 rfl hS fun b15 a w hF hS => ?_)
      refine so (wn rfl) (O.storeW sz29 (hF.ev rfl) (hF.ev rfl) (rfl) rfl (by simp [Value.oneCell']) hS .h (rfl) fun w hS => ?_)
      refine sv' hF (wn rfl) rfl rfl (R.assign (hF.ev rfl)) fun a hF => ?_
      refine s0 ?_
      refine then_n (hK13 _ _ ?_)
      refine wp_seq_k fun K14 hK14 => ?_
      refine wp_region_lit ?_
      refine sv' hF (wn rfl) rfl rfl (R.loadW agg29 (hF.ev rfl) hS (.t (.t .h)) sz29 (rfl)) fun a hF => ?_
      refine sv' hF (wn rfl) rfl rfl (R.loadW agg29 (hF.ev rfl) hS .h sz29 (rfl)) fun a hF => ?_
      refine so (wn rfl) (O.call rfl rfl hF ent41 (hF.evs rfl) hS (add_calls (if (l.take kk).sum < 115792089237316195423570985008687907853269984665640564039457584007913129639936 then (l.take kk).sum else 0) (if (l.drop kk).sum < 115792089237316195423570985008687907853269984665640564039457584007913129639936 then (l.drop kk).sum else 0) _ (fit_lt fun h => h) (fit_lt fun h => h)) fun v s69 a w hR hF hS => ?_)
      obtain ⟨rfl, rfl⟩ := hR
      refine sv' hF (wn rfl) rfl rfl (R.move (hF.ev rfl)) fun a hF => ?_
      refine sv' hF (wn rfl) rfl rfl (R.extract (hF.ev rfl) rfl) fun a hF => ?_
      refine sv' hF (wn rfl) rfl rfl (R.extract (hF.ev rfl) rfl) fun a hF => ?_
      refine so (wn rfl) (O.alloc rfl rfl hF ze29 rfl hS fun b17 a w hF hS => ?_)
      refine so (wn rfl) (O.storeW sz29 (hF.ev rfl) (hF.ev rfl) (rfl) rfl (by simp [Value.oneCell']) hS .h (rfl) fun w hS => ?_)
      refine sv' hF (wn rfl) rfl rfl (R.assign (hF.ev rfl)) fun a hF => ?_
      refine s0 ?_
      refine then_n (hK14 _ _ ?_)
      refine wp_seq_k fun K15 hK15 => ?_
      have hK15' : ∀ a w, (Fr 145 [(0, .slice A n c), (5, .bool true), (9, .pointer (some ⟨b9, 0, none⟩)), (10, .int .i64 (if l.sum < 115792089237316195423570985008687907853269984665640564039457584007913129639936 then 0 else 22)), (11, .pointer (some ⟨b11, 0, none⟩)), (12, .int .i64 (if l.sum < 115792089237316195423570985008687907853269984665640564039457584007913129639936 then 0 else 22)), (14, .int .i64 (if (l.take kk).sum < 115792089237316195423570985008687907853269984665640564039457584007913129639936 then 0 else 22)), (16, .int .i64 (if (l.drop kk).sum < 115792089237316195423570985008687907853269984665640564039457584007913129639936 then 0 else 22)), (18, .int .i64 (if (if (l.take kk).sum < 115792089237316195423570985008687907853269984665640564039457584007913129639936 then (l.take kk).sum else 0) + (if (l.drop kk).sum < 115792089237316195423570985008687907853269984665640564039457584007913129639936 then (l.drop kk).sum else 0) < 115792089237316195423570985008687907853269984665640564039457584007913129639936 then 0 else 22))] a ∧ St w0 [] [[(b9, Cel (wc (if l.sum < 115792089237316195423570985008687907853269984665640564039457584007913129639936 then l.sum else 0)) 29)], [(b11, Cel (wc (if l.sum < 115792089237316195423570985008687907853269984665640564039457584007913129639936 then l.sum else 0)) 29)]] w) → K15 a w := by
        rintro a w ⟨hF, hS⟩
        refine hK15 _ _ ?_
        refine wp_seq_k fun K16 hK16 => ?_
        have hK16' : ∀ a w, (Fr 145 [(0, .slice A n c), (5, .bool true), (9, .pointer (some ⟨b9, 0, none⟩)), (10, .int .i64 (if l.sum < 115792089237316195423570985008687907853269984665640564039457584007913129639936 then 0 else 22)), (11, .pointer (some ⟨b11, 0, none⟩)), (12, .int .i64 (if l.sum < 115792089237316195423570985008687907853269984665640564039457584007913129639936 then 0 else 22))] a ∧ St w0 [] [[(b9, Cel (wc (if l.sum < 115792089237316195423570985008687907853269984665640564039457584007913129639936 then l.sum else 0)) 29)], [(b11, Cel (wc (if l.sum < 115792089237316195423570985008687907853269984665640564039457584007913129639936 then l.sum else 0)) 29)]] w) → K16 a w := by
          rintro a w ⟨hF, hS⟩
          refine hK16 _ _ ?_
          refine wp_seq_k fun K17 hK17 => ?_
          refine wp_seq_k fun K18 hK18 => ?_
          refine wp_region_lit ?_
          refine sv' hF (wn rfl) rfl rfl (R.assign (hF.ev rfl)) fun a hF => ?_
          refine s0 ?_
          refine then_n (hK18 _ _ ?_)
          refine wp_block ?_
          refine wp_loop_N (fun g a w => ∃ (j : Nat), n - j = g ∧ Fr 145 [(0, .slice A n c), (5, .bool true), (9, .pointer (some ⟨b9, 0, none⟩)), (10, .int .i64 (if l.sum < 115792089237316195423570985008687907853269984665640564039457584007913129639936 then 0 else 22)), (11, .pointer (some ⟨b11, 0, none⟩)), (12, .int .i64 (if l.sum < 115792089237316195423570985008687907853269984665640564039457584007913129639936 then 0 else 22)), (19, .int .i64 ((j : Nat) : Int))] a ∧ St w0 [] [[(b9, Cel (wc (if l.sum < 115792089237316195423570985008687907853269984665640564039457584007913129639936 then l.sum else 0)) 29)], [(b11, Cel (wc (if l.sum < 115792089237316195423570985008687907853269984665640564039457584007913129639936 then l.sum else 0)) 29)]] w ∧ (j ≤ n)) (n - 0) ?_ ?_
          · exact ⟨0, rfl, hF.sub ⟨rfl, rfl, rfl, rfl, rfl, rfl, rfl, trivial⟩, hS.sel [0, 1] rfl rfl, by omega⟩
          · rintro KL2 g a w ⟨j, hg2, hF, hS, hj⟩ hKL2
            refine wp_seq_k fun K19 hK19 => ?_
            refine wp_seq_k fun K20 hK20 => ?_
            have hK20' : ∀ a w, (Fr 145 [(0, .slice A n c), (5, .bool true), (9, .pointer (some ⟨b9, 0, none⟩)), (10, .int .i64 (if l.sum < 115792089237316195423570985008687907853269984665640564039457584007913129639936 then 0 else 22)), (11, .pointer (some ⟨b11, 0, none⟩)), (12, .int .i64 (if l.sum < 115792089237316195423570985008687907853269984665640564039457584007913129639936 then 0 else 22)), (19, .int .i64 ((j : Nat) : Int)), (112, .bool (decide (j < n ∧ j < 4)))] a ∧ St w0 [] [[(b9, Cel (wc (if l.sum < 115792089237316195423570985008687907853269984665640564039457584007913129639936 then l.sum else 0)) 29)], [(b11, Cel (wc (if l.sum < 115792089237316195423570985008687907853269984665640564039457584007913129639936 then l.sum else 0)) 29)]] w) → K20 a w := by
              rintro a w ⟨hF, hS⟩
              refine hK20 _ _ ?_
              refine cD hF rfl (fun c4 => ?_) (fun c4 => ?_)
              ·
                refine wp_skip ?_
                refine then_n (hK19 _ _ ?_)
                refine wp_seq_k fun K21 hK21 => ?_
                refine wp_block ?_
                refine wp_seq_k fun K22 hK22 => ?_
                refine wp_region_lit ?_
                refine sv' hF (wn rfl) rfl rfl (R.move (hF.ev rfl)) fun a hF => ?_
                refine sv' hF (wn rfl) rfl rfl (R.move (hF.ev rfl)) fun a hF => ?_
                refine sv' hF (wn rfl) rfl rfl (R.indexO Try.underlying26 sz29 (hF.ev rfl) (Rd.ne hA (by rw [wcs_length]; omega)) (hF.ev rfl) (by omega) (by omega)) fun a hF => ?_
                refine sv' hF (wn rfl) rfl rfl (R.loadAO (cs := wc (l.getD j 0)) agg29 (hF.ev rfl) (hA.old hS) sz29 rfl (Nat.succ_pos _) (wcs_at (by omega) (by omega))) fun a hF => ?_
                refine so (wn rfl) (O.buildSlice (l := wc (l.getD j 0)) rfl rfl hF Try.underlying26 inf29 rfl rfl (hF.evp rfl) (by decide) rfl hS fun b120 a w hF hS => ?_)
                refine so (wn rfl) (O.call rfl rfl hF ent62 (hF.evs rfl) hS (sum_one b120 (l.getD j 0) w (Rd.own0 hS .h) (allW_getD hW j)) fun v s121 a w hR hF hS => ?_)
                obtain ⟨rfl, rfl⟩ := hR
                refine sv' hF (wn rfl) rfl rfl (R.move (hF.ev rfl)) fun a hF => ?_
                refine sv' hF (wn rfl) rfl rfl (R.extract (hF.ev rfl) rfl) fun a hF => ?_
                refine sv' hF (wn rfl) rfl rfl (R.extract (hF.ev rfl) rfl) fun a hF => ?_
                refine so (wn rfl) (O.alloc rfl rfl hF ze29 rfl hS fun b20 a w hF hS => ?_)
                refine so (wn rfl) (O.storeW sz29 (hF.ev rfl) (hF.ev rfl) (rfl) rfl (by simp [Value.oneCell']) hS .h (rfl) fun w hS => ?_)
                refine sv' hF (wn rfl) rfl rfl (R.assign (hF.ev rfl)) fun a hF => ?_
                refine s0 ?_
                refine then_n (hK22 _ _ ?_)
                refine wp_seq_k fun K23 hK23 => ?_
                refine wp_drawS hS [(0, 1), (1, 0), (2, 0), (3, 0), (4, 1), (5, 0), (6, 0), (7, 0), (8, 0), (9, 0)] mix (by kernel_rfl) (hP.then.block.then.then.block.then) fun w hS => ?_
                have hD := hS
                refine dr hF rfl (wn rfl) rfl rfl hD (fun w hD => R.loadW agg29 (hF.ev rfl) hD .h sz29 (rfl)) fun a hF => ?_
                refine dq hF rfl (wn rfl) rfl rfl (fun w => R.move (hF.ev rfl)) fun a hF => ?_
                refine dq hF rfl (wn rfl) rfl rfl (fun w => R.move (hF.ev rfl)) fun a hF => ?_
                refine dq hF rfl (wn rfl) rfl rfl (fun w => R.indexO Try.underlying26 sz29 (hF.ev rfl) (Rd.ne hA (by rw [wcs_length]; omega)) (hF.ev rfl) (by omega) (by omega)) fun a hF => ?_
                refine dr hF rfl (wn rfl) rfl rfl hD (fun w hD => R.loadAO (cs := wc (l.getD j 0)) agg29 (hF.ev rfl) (hA.old hD) sz29 rfl (Nat.succ_pos _) (wcs_at (by omega) (by omega))) fun a hF => ?_
                refine dq hF rfl (wn rfl) rfl rfl (fun w => R.as (u := .bool false) (R.neqW (x := l.getD j 0) (y := l.getD j 0) (hF.ev rfl) (hF.ev rfl) (allW_getD hW j) (allW_getD hW j)) (congrArg Value.bool (decide_eq_false (fun h => h (rfl))))) fun a hF => ?_
                refine dq hF rfl (wn rfl) rfl rfl (fun w => R.move (hF.ev rfl)) fun a hF => ?_
                refine dq hF rfl (wy hF rfl rfl rfl) rfl rfl (fun w => R.move (hF.ev rfl)) fun a hF => ?_
                refine dq hF rfl (wy hF rfl rfl rfl) rfl rfl (fun w => R.as (u := .bool false) (R.neq (p := 0) (q := 0) (hF.ev rfl) (hF.ev rfl)) (congrArg Value.bool (decide_eq_false (fun h => h (rfl))))) fun a hF => ?_
                refine dq hF rfl (wn rfl) rfl rfl (fun w => R.pickF (hF.ev rfl) (hF.ev rfl)) fun a hF => ?_
                refine d0 ?_
                refine then_n (hK23 _ _ ?_)
                refine cF hF rfl ?_
                refine wp_skip ?_
                refine blk_n ?_
                refine then_n (hK21 _ _ ?_)
                refine wp_region_lit ?_
                refine sv' hF (wn rfl) rfl rfl (R.move (hF.ev rfl)) fun a hF => ?_
                refine sv' hF (wn rfl) rfl rfl (R.addI (hF.ev rfl) (hF.ev rfl) (by omega)) fun a hF => ?_
                refine sv' hF (wn rfl) rfl rfl (R.assign (hF.ev rfl)) fun a hF => ?_
                refine s0 ?_
                refine then_n (hKL2 (n - (j + 1)) _ _ ?_ ?_)
                · omega
                · exact ⟨j + 1, rfl, hF.sub ⟨rfl, rfl, rfl, rfl, rfl, rfl, rfl, trivial⟩, hS.sel [3, 4] rfl rfl, by omega⟩
              ·
                refine wp_exit (then_x (then_x (blk_hit ?_)))
                refine then_n (hK17 _ _ ?_)
                refine wp_seq_k fun K24 hK24 => ?_
                refine wp_region_lit ?_
                refine sv' hF (wn rfl) rfl rfl (R.move (hF.ev rfl)) fun a hF => ?_
                refine sv' hF (wn rfl) rfl rfl (R.move (hF.ev rfl)) fun a hF => ?_
                refine sv' hF (wy hF rfl rfl rfl) rfl rfl (R.loadW agg29 (hF.ev rfl) hS .h sz29 (rfl)) fun a hF => ?_
                refine sv' hF (wy hF rfl rfl rfl) rfl rfl (R.loadW agg29 (hF.ev rfl) hS (.t .h) sz29 (rfl)) fun a hF => ?_
                refine sv' hF (wy hF rfl rfl rfl) rfl rfl (R.as (u := .bool true) (R.eqlW (x := (if l.sum < 115792089237316195423570985008687907853269984665640564039457584007913129639936 then l.sum else 0)) (y := (if l.sum < 115792089237316195423570985008687907853269984665640564039457584007913129639936 then l.sum else 0)) (hF.ev rfl) (hF.ev rfl) (fit_lt fun h => h) (fit_lt fun h => h)) (congrArg Value.bool (decide_eq_true (rfl)))) fun a hF => ?_
                refine sv' hF (wn rfl) rfl rfl (R.pickT (hF.ev rfl) (hF.ev rfl)) fun a hF => ?_
                refine sv' hF (wn rfl) rfl rfl (R.move (hF.ev rfl)) fun a hF => ?_
                refine sv' hF (wy hF rfl rfl rfl) rfl rfl (R.move (hF.ev rfl)) fun a hF => ?_
                refine sv' hF (wy hF rfl rfl rfl) rfl rfl (R.move (hF.ev rfl)) fun a hF => ?_
                refine sv' hF (wy hF rfl rfl rfl) rfl rfl (R.as (u := .bool true) (R.eql (p := if l.sum < 115792089237316195423570985008687907853269984665640564039457584007913129639936 then 0 else 22) (q := if l.sum < 115792089237316195423570985008687907853269984665640564039457584007913129639936 then 0 else 22) (hF.ev rfl) (hF.ev rfl)) (congrArg Value.bool (decide_eq_true (rfl)))) fun a hF => ?_
                refine sv' hF (wn rfl) rfl rfl (R.pickT (hF.ev rfl) (hF.ev rfl)) fun a hF => ?_
                refine sv' hF (wn rfl) rfl rfl (R.assign (hF.ev rfl)) fun a hF => ?_
                refine s0 ?_
                refine then_n (hK24 _ _ ?_)
                refine wp_ret (hR _ _ _ _ _ hF (run_results Try.results15 (.t hF rfl (.nil))) ?_)
                exact ⟨_, [], rfl, ⟨rfl, rfl⟩, hS.none⟩
            refine wp_region_lit ?_
            refine sv' hF (wn rfl) rfl rfl (R.move (hF.ev rfl)) fun a hF => ?_
            refine sv' hF (wn rfl) rfl rfl (R.move (hF.ev rfl)) fun a hF => ?_
            refine sv' hF (wn rfl) rfl rfl (R.len Try.underlying26 (hF.ev rfl)) fun a hF => ?_
            refine sv' hF (wn rfl) rfl rfl (R.lss (hF.ev rfl) (hF.ev rfl)) fun a hF => ?_
            refine sv' hF (wn rfl) rfl rfl (R.move (hF.ev rfl)) fun a hF => ?_
            refine hF.splitD (t := 109) rfl (fun h109 hF => ?_) (fun h109 hF => ?_)
            ·
              refine sv' hF (wy hF rfl rfl rfl) rfl rfl (R.move (hF.ev rfl)) fun a hF => ?_
              refine sv' hF (wy hF rfl rfl rfl) rfl rfl (R.lss (hF.ev rfl) (hF.ev rfl)) fun a hF => ?_
              refine sv' hF (wn rfl) rfl rfl (R.pickT (hF.ev rfl) (hF.ev rfl)) fun a hF => ?_
              refine s0 ?_
              exact then_n (hK20' _ _ ⟨hF.sub ⟨rfl, rfl, rfl, rfl, rfl, rfl, rfl, (congrArg (fun z => some (Value.bool z)) (by first | exact (decide_eq_true (by omega)).symm | exact (decide_eq_false (by omega)).symm | exact decide_eq_decide.2 (by omega))), trivial⟩, hS.sel [0, 1] rfl rfl⟩)
            ·
              refine sk hF (ws hF rfl rfl rfl rfl) rfl rfl fun a hF => ?_
              refine sk hF (ws hF rfl rfl rfl rfl) rfl rfl fun a hF => ?_
              refine sv' hF (wn rfl) rfl rfl (R.pickF (hF.ev rfl) (hF.ev rfl)) fun a hF => ?_
              refine s0 ?_
              exact then_n (hK20' _ _ ⟨hF.sub ⟨rfl, rfl, rfl, rfl, rfl, rfl, rfl, (congrArg (fun z => some (Value.bool z)) (by first | exact (decide_eq_true (by omega)).symm | exact (decide_eq_false (by omega)).symm | exact decide_eq_decide.2 (by omega))), trivial⟩, hS.sel [0, 1] rfl rfl⟩)
        refine wp_seq_k fun K25 hK25 => ?_
        refine wp_region_lit ?_
        refine sv' hF (wn rfl) rfl rfl (R.move (hF.ev rfl)) fun a hF => ?_
        refine sv' hF (wn rfl) rfl rfl (R.as (u := .bool (decide (¬ l.sum < 115792089237316195423570985008687907853269984665640564039457584007913129639936))) (R.neq (p := if l.sum < 115792089237316195423570985008687907853269984665640564039457584007913129639936 then 0 else 22) (q := 0) (hF.ev rfl) (hF.ev rfl)) (congrArg Value.bool (decide_eq_decide.2 (not_congr (code_pos (by decide)))))) fun a hF => ?_
        refine sv' hF (wn rfl) rfl rfl (R.move (hF.ev rfl)) fun a hF => ?_
        refine hF.splitD (t := 93) rfl (fun h93 hF => ?_) (fun h93 hF => ?_)
        ·
          refine sv' hF (wy hF rfl rfl rfl) rfl rfl (R.move (hF.ev rfl)) fun a hF => ?_
          refine sv' hF (wy hF rfl rfl rfl) rfl rfl (R.as (u := .bool (decide ((l.take kk).sum < 115792089237316195423570985008687907853269984665640564039457584007913129639936))) (R.eql (p := if (l.take kk).sum < 115792089237316195423570985008687907853269984665640564039457584007913129639936 then 0 else 22) (q := 0) (hF.ev rfl) (hF.ev rfl)) (congrArg Value.bool (decide_eq_decide.2 (code_pos (by decide))))) fun a hF => ?_
          refine sv' hF (wn rfl) rfl rfl (R.pickT (hF.ev rfl) (hF.ev rfl)) fun a hF => ?_
          refine sv' hF (wn rfl) rfl rfl (R.move (hF.ev rfl)) fun a hF => ?_
          refine hF.splitD (t := 97) rfl (fun h97 hF => ?_) (fun h97 hF => ?_)
          ·
            refine sv' hF (wy hF rfl rfl rfl) rfl rfl (R.move (hF.ev rfl)) fun a hF => ?_
            refine sv' hF (wy hF rfl rfl rfl) rfl rfl (R.as (u := .bool (decide ((l.drop kk).sum < 115792089237316195423570985008687907853269984665640564039457584007913129639936))) (R.eql (p := if (l.drop kk).sum < 115792089237316195423570985008687907853269984665640564039457584007913129639936 then 0 else 22) (q := 0) (hF.ev rfl) (hF.ev rfl)) (congrArg Value.bool (decide_eq_decide.2 (code_pos (by decide))))) fun a hF => ?_
            refine sv' hF (wn rfl) rfl rfl (R.pickT (hF.ev rfl) (hF.ev rfl)) fun a hF => ?_
            refine sv' hF (wn rfl) rfl rfl (R.move (hF.ev rfl)) fun a hF => ?_
            refine hF.splitD (t := 101) rfl (fun h101 hF => ?_) (fun h101 hF => ?_)
            ·
              have e1 : (if (l.take kk).sum < 115792089237316195423570985008687907853269984665640564039457584007913129639936 then (l.take kk).sum else 0) = (l.take kk).sum := if_pos h97; have e2 : (if (l.drop kk).sum < 115792089237316195423570985008687907853269984665640564039457584007913129639936 then (l.drop kk).sum else 0) = (l.drop kk).sum := if_pos h101; have hbig : ¬ (if (l.take kk).sum < 115792089237316195423570985008687907853269984665640564039457584007913129639936 then (l.take kk).sum else 0) + (if (l.drop kk).sum < 115792089237316195423570985008687907853269984665640564039457584007913129639936 then (l.drop kk).sum else 0) < 115792089237316195423570985008687907853269984665640564039457584007913129639936 := (by rw [e1, e2]; omega)
              refine sv' hF (wy hF rfl rfl rfl) rfl rfl (R.move (hF.ev rfl)) fun a hF => ?_
              refine sv' hF (wy hF rfl rfl rfl) rfl rfl (R.as (u := .bool false) (R.eql (p := if (if (l.take kk).sum < 115792089237316195423570985008687907853269984665640564039457584007913129639936 then (l.take kk).sum else 0) + (if (l.drop kk).sum < 115792089237316195423570985008687907853269984665640564039457584007913129639936 then (l.drop kk).sum else 0) < 115792089237316195423570985008687907853269984665640564039457584007913129639936 then 0 else 22) (q := 0) (hF.ev rfl) (hF.ev rfl)) (congrArg Value.bool (decide_eq_false (fun h => hbig ((code_pos (by decide)).1 h))))) fun a hF => ?_
              refine sv' hF (wn rfl) rfl rfl (R.pickT (hF.ev rfl) (hF.ev rfl)) fun a hF => ?_
              refine s0 ?_
              refine then_n (hK25 _ _ ?_)
              refine cF hF rfl ?_
              refine wp_skip ?_
              exact then_n (hK16' _ _ ⟨hF.sub ⟨rfl, rfl, rfl, rfl, rfl, rfl, trivial⟩, hS.sel [0, 1] rfl rfl⟩)
            ·
              refine sk hF (ws hF rfl rfl rfl rfl) rfl rfl fun a hF => ?_
              refine sk hF (ws hF rfl rfl rfl rfl) rfl rfl fun a hF => ?_
              refine sv' hF (wn rfl) rfl rfl (R.pickF (hF.ev rfl) (hF.ev rfl)) fun a hF => ?_
              refine s0 ?_
              refine then_n (hK25 _ _ ?_)
              refine cF hF rfl ?_
              refine wp_skip ?_
              exact then_n (hK16' _ _ ⟨hF.sub ⟨rfl, rfl, rfl, rfl, rfl, rfl, trivial⟩, hS.sel [0, 1] rfl rfl⟩)
          ·
            refine sk hF (ws hF rfl rfl rfl rfl) rfl rfl fun a hF => ?_
            refine sk hF (ws hF rfl rfl rfl rfl) rfl rfl fun a hF => ?_
            refine sv' hF (wn rfl) rfl rfl (R.pickF (hF.ev rfl) (hF.ev rfl)) fun a hF => ?_
            refine sv' hF (wn rfl) rfl rfl (R.move (hF.ev rfl)) fun a hF => ?_
            refine sk hF (ws hF rfl rfl rfl rfl) rfl rfl fun a hF => ?_
            refine sk hF (ws hF rfl rfl rfl rfl) rfl rfl fun a hF => ?_
            refine sv' hF (wn rfl) rfl rfl (R.pickF (hF.ev rfl) (hF.ev rfl)) fun a hF => ?_
            refine s0 ?_
            refine then_n (hK25 _ _ ?_)
            refine cF hF rfl ?_
            refine wp_skip ?_
            exact then_n (hK16' _ _ ⟨hF.sub ⟨rfl, rfl, rfl, rfl, rfl, rfl, trivial⟩, hS.sel [0, 1] rfl rfl⟩)
        ·
          refine sk hF (ws hF rfl rfl rfl rfl) rfl rfl fun a hF => ?_
          refine sk hF (ws hF rfl rfl rfl rfl) rfl rfl fun a hF => ?_
          refine sv' hF (wn rfl) rfl rfl (R.pickF (hF.ev rfl) (hF.ev rfl)) fun a hF => ?_
          refine sv' hF (wn rfl) rfl rfl (R.move (hF.ev rfl)) fun a hF => ?_
          refine sk hF (ws hF rfl rfl rfl rfl) rfl rfl fun a hF => ?_
          refine sk hF (ws hF rfl rfl rfl rfl) rfl rfl fun a hF => ?_
          refine sv' hF (wn rfl) rfl rfl (R.pickF (hF.ev rfl) (hF.ev rfl)) fun a hF => ?_
          refine sv' hF (wn rfl) rfl rfl (R.move (hF.ev rfl)) fun a hF => ?_
          refine sk hF (ws hF rfl rfl rfl rfl) rfl rfl fun a hF => ?_
          refine sk hF (ws hF rfl rfl rfl rfl) rfl rfl fun a hF => ?_
          refine sv' hF (wn rfl) rfl rfl (R.pickF (hF.ev rfl) (hF.ev rfl)) fun a hF => ?_
          refine s0 ?_
          refine then_n (hK25 _ _ ?_)
          refine cF hF rfl ?_
          refine wp_skip ?_
          exact then_n (hK16' _ _ ⟨hF.sub ⟨rfl, rfl, rfl, rfl, rfl, rfl, trivial⟩, hS.sel [0, 1] rfl rfl⟩)
      refine wp_seq_k fun K26 hK26 => ?_
      refine wp_region_lit ?_
      refine sv' hF (wn rfl) rfl rfl (R.move (hF.ev rfl)) fun a hF => ?_
      refine sv' hF (wn rfl) rfl rfl (R.as (u := .bool (decide (l.sum < 115792089237316195423570985008687907853269984665640564039457584007913129639936))) (R.eql (p := if l.sum < 115792089237316195423570985008687907853269984665640564039457584007913129639936 then 0 else 22) (q := 0) (hF.ev rfl) (hF.ev rfl)) (congrArg Value.bool (decide_eq_decide.2 (code_pos (by decide))))) fun a hF => ?_
      refine sv' hF (wn rfl) rfl rfl (R.move (hF.ev rfl)) fun a hF => ?_
      refine hF.splitD (t := 74) rfl (fun h74 hF => ?_) (fun h74 hF => ?_)
      ·
        have q1 : (l.take kk).sum < 115792089237316195423570985008687907853269984665640564039457584007913129639936 := (by omega); have q2 : (l.drop kk).sum < 115792089237316195423570985008687907853269984665640564039457584007913129639936 := (by omega); have e1 : (if (l.take kk).sum < 115792089237316195423570985008687907853269984665640564039457584007913129639936 then (l.take kk).sum else 0) = (l.take kk).sum := if_pos q1; have e2 : (if (l.drop kk).sum < 115792089237316195423570985008687907853269984665640564039457584007913129639936 then (l.drop kk).sum else 0) = (l.drop kk).sum := if_pos q2; have hfit : (if (l.take kk).sum < 115792089237316195423570985008687907853269984665640564039457584007913129639936 then (l.take kk).sum else 0) + (if (l.drop kk).sum < 115792089237316195423570985008687907853269984665640564039457584007913129639936 then (l.drop kk).sum else 0) < 115792089237316195423570985008687907853269984665640564039457584007913129639936 := (by rw [e1, e2]; omega)
        refine sv' hF (wy hF rfl rfl rfl) rfl rfl (R.move (hF.ev rfl)) fun a hF => ?_
        refine sv' hF (wy hF rfl rfl rfl) rfl rfl (R.as (u := .bool false) (R.neq (p := if (l.take kk).sum < 115792089237316195423570985008687907853269984665640564039457584007913129639936 then 0 else 22) (q := 0) (hF.ev rfl) (hF.ev rfl)) (congrArg Value.bool (decide_eq_false (fun h => h (if_pos q1))))) fun a hF => ?_
        refine sv' hF (wy hF rfl rfl rfl) rfl rfl (R.move (hF.ev rfl)) fun a hF => ?_
        refine sv' hF (wy hF rfl rfl rfl) rfl rfl (R.move (hF.ev rfl)) fun a hF => ?_
        refine sv' hF (wy hF rfl rfl rfl) rfl rfl (R.as (u := .bool false) (R.neq (p := if (l.drop kk).sum < 115792089237316195423570985008687907853269984665640564039457584007913129639936 then 0 else 22) (q := 0) (hF.ev rfl) (hF.ev rfl)) (congrArg Value.bool (decide_eq_false (fun h => h (if_pos q2))))) fun a hF => ?_
        refine sv' hF (wy hF rfl rfl rfl) rfl rfl (R.pickF (hF.ev rfl) (hF.ev rfl)) fun a hF => ?_
        refine sv' hF (wy hF rfl rfl rfl) rfl rfl (R.move (hF.ev rfl)) fun a hF => ?_
        refine sv' hF (wy hF rfl rfl rfl) rfl rfl (R.move (hF.ev rfl)) fun a hF => ?_
        refine sv' hF (wy hF rfl rfl rfl) rfl rfl (R.as (u := .bool false) (R.neq (p := if (if (l.take kk).sum < 115792089237316195423570985008687907853269984665640564039457584007913129639936 then (l.take kk).sum else 0) + (if (l.drop kk).sum < 115792089237316195423570985008687907853269984665640564039457584007913129639936 then (l.drop kk).sum else 0) < 115792089237316195423570985008687907853269984665640564039457584007913129639936 then 0 else 22) (q := 0) (hF.ev rfl) (hF.ev rfl)) (congrArg Value.bool (decide_eq_false (fun h => h (if_pos hfit))))) fun a hF => ?_
        refine sv' hF (wy hF rfl rfl rfl) rfl rfl (R.pickF (hF.ev rfl) (hF.ev rfl)) fun a hF => ?_
        refine sv' hF (wy hF rfl rfl rfl) rfl rfl (R.move (hF.ev rfl)) fun a hF => ?_
        refine sv' hF (wy hF rfl rfl rfl) rfl rfl (R.loadW agg29 (hF.ev rfl) hS .h sz29 (rfl)) fun a hF => ?_
        refine sv' hF (wy hF rfl rfl rfl) rfl rfl (R.loadW agg29 (hF.ev rfl) hS (.t (.t (.t (.t (.t (.t (.t (.t .h)))))))) sz29 (rfl)) fun a hF => ?_
        refine sv' hF (wy hF rfl rfl rfl) rfl rfl (R.as (u := .bool false) (R.neqW (x := (if (if (l.take kk).sum < 115792089237316195423570985008687907853269984665640564039457584007913129639936 then (l.take kk).sum else 0) + (if (l.drop kk).sum < 115792089237316195423570985008687907853269984665640564039457584007913129639936 then (l.drop kk).sum else 0) < 115792089237316195423570985008687907853269984665640564039457584007913129639936 then (if (l.take kk).sum < 115792089237316195423570985008687907853269984665640564039457584007913129639936 then (l.take kk).sum else 0) + (if (l.drop kk).sum < 115792089237316195423570985008687907853269984665640564039457584007913129639936 then (l.drop kk).sum else 0) else 0)) (y := (if l.sum < 115792089237316195423570985008687907853269984665640564039457584007913129639936 then l.sum else 0)) (hF.ev rfl) (hF.ev rfl) (fit_lt fun h => h) (fit_lt fun h => h)) (congrArg Value.bool (decide_eq_false (fun h => h (by rw [if_pos hfit, if_pos h74, e1, e2]; exact hcut))))) fun a hF => ?_
        refine sv' hF (wy hF rfl rfl rfl) rfl rfl (R.pickF (hF.ev rfl) (hF.ev rfl)) fun a hF => ?_
        refine sv' hF (wn rfl) rfl rfl (R.pickT (hF.ev rfl) (hF.ev rfl)) fun a hF => ?_
        refine s0 ?_
        refine then_n (hK26 _ _ ?_)
        refine cF hF rfl ?_
        refine wp_skip ?_
        exact then_n (hK15' _ _ ⟨hF.sub ⟨rfl, rfl, rfl, rfl, rfl, rfl, rfl, rfl, rfl, trivial⟩, hS.sel [8, 6] rfl rfl⟩)
      ·
        refine sk hF (ws hF rfl rfl rfl rfl) rfl rfl fun a hF => ?_
        refine sk hF (ws hF rfl rfl rfl rfl) rfl rfl fun a hF => ?_
        refine sk hF (ws hF rfl rfl rfl rfl) rfl rfl fun a hF => ?_
        refine sk hF (wu hF rfl rfl rfl) rfl rfl fun a hF => ?_
        refine sk hF (wu hF rfl rfl rfl) rfl rfl fun a hF => ?_
        refine sk hF (ws hF rfl rfl rfl rfl) rfl rfl fun a hF => ?_
        refine sk hF (ws hF rfl rfl rfl rfl) rfl rfl fun a hF => ?_
        refine sk hF (wu hF rfl rfl rfl) rfl rfl fun a hF => ?_
        refine sk hF (wu hF rfl rfl rfl) rfl rfl fun a hF => ?_
        refine sk hF (ws hF rfl rfl rfl rfl) rfl rfl fun a hF => ?_
        refine sk hF (ws hF rfl rfl rfl rfl) rfl rfl fun a hF => ?_
        refine sk hF (wu hF rfl rfl rfl) rfl rfl fun a hF => ?_
        refine sk hF (wu hF rfl rfl rfl) rfl rfl fun a hF => ?_
        refine sk hF (wu hF rfl rfl rfl) rfl rfl fun a hF => ?_
        refine sk hF (ws hF rfl rfl rfl rfl) rfl rfl fun a hF => ?_
        refine sv' hF (wn rfl) rfl rfl (R.pickF (hF.ev rfl) (hF.ev rfl)) fun a hF => ?_
        refine s0 ?_
        refine then_n (hK26 _ _ ?_)
        refine cF hF rfl ?_
        refine wp_skip ?_
        exact then_n (hK15' _ _ ⟨hF.sub ⟨rfl, rfl, rfl, rfl, rfl, rfl, rfl, rfl, rfl, trivial⟩, hS.sel [8, 6] rfl rfl⟩)

end Go.Proofs.Ythgecfjpacebeaa
