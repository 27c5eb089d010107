/- test -/
import Derived.Test.YthgecfjpacebeaaK
namespace Go.Proofs.Ythgecfjpacebeaa
open Go Go.Fw Go.RowKit
attribute [local irreducible] Go.Oper.wp Go.Code.wp Go.wpList Go.Fw.WL Go.Calls
theorem number_calls (A : Option Addr) (n c : Nat) (xs : List Nat) (w0 : World) (hA : Rd w0 A (ints xs)) (hn : xs.length = n) (hnc : n ≤ c) (hc : c ≤ 9223372036854775807) (hb : Bits xs) : Ret Try.prog 101 [.slice A n c] w0 [] (fun v s => v = .tuple #[wv (if val xs < 115792089237316195423570985008687907853269984665640564039457584007913129639936 then val xs else 0), .bool (decide (val xs < 115792089237316195423570985008687907853269984665640564039457584007913129639936))] ∧ s = []) := by
  refine fn_start Try.func101 rfl Try.ntmps101 rfl [(0, .slice A n c)] ⟨rfl, trivial⟩ ?_
  intro Q a hP hF hR hN
  have hS := St.start w0
  refine wp_seq_k fun K1 hK1 => ?_
  refine wp_region_lit ?_
  refine so (wn rfl) (O.alloc rfl rfl hF ze29 rfl hS fun b2 a w hF hS => ?_)
  refine sv' hF (wn rfl) rfl rfl (R.assign (hF.ev rfl)) fun a hF => ?_
  refine s0 ?_
  refine then_n (hK1 _ _ ?_)
  refine wp_seq_k fun K2 hK2 => ?_
  refine wp_region_lit ?_
  refine sv' hF (wn rfl) rfl rfl (R.move (hF.ev rfl)) fun a hF => ?_
  refine so (wn rfl) (O.call rfl rfl hF ent105 (hF.evs rfl) hS (cut_calls A n c xs w (hA.old hS) hn hnc hc hb) fun v s7 a w hR hF hS => ?_)
  obtain ⟨rfl, rfl⟩ := hR
  refine sv' hF (wn rfl) rfl rfl (R.assign (hF.ev rfl)) fun a hF => ?_
  refine s0 ?_
  refine then_n (hK2 _ _ ?_)
  refine wp_seq_k fun K3 hK3 => ?_
  have hB := rd_cut hA hb
  refine wp_region_lit ?_
  refine so (wn rfl) (O.alloc rfl rfl hF ze29 rfl hS fun b4 a w hF hS => ?_)
  refine s0 ?_
  refine then_n (hK3 _ _ ?_)
  refine wp_seq_k fun K4 hK4 => ?_
  refine wp_seq_k fun K5 hK5 => ?_
  refine wp_region_lit ?_
  refine sv' hF (wn rfl) rfl rfl (R.move (hF.ev rfl)) fun a hF => ?_
  refine sv' hF (wn rfl) rfl rfl (R.len Try.underlying64 (hF.ev rfl)) fun a hF => ?_
  refine sv' hF (wn rfl) rfl rfl (R.gtr (hF.ev rfl) (hF.ev rfl)) fun a hF => ?_
  refine s0 ?_
  refine then_n (hK5 _ _ ?_)
  refine cD hF rfl (fun c1 => ?_) (fun c1 => ?_)
  ·
    have e : ¬ val xs < 115792089237316195423570985008687907853269984665640564039457584007913129639936 := fun h => by have := (length_bl_lt (val xs) 256).2 h; omega
    refine wp_seq_k fun K6 hK6 => ?_
    refine wp_region_lit ?_
    refine sv' hF (wn rfl) rfl rfl (R.loadW agg29 (hF.ev rfl) hS .h sz29 rfl) fun a hF => ?_
    refine so (wn rfl) (O.storeW sz29 (hF.ev rfl) (hF.ev rfl) rfl rfl (by simp [Value.oneCell']) hS (.t (.t .h)) rfl fun w hS => ?_)
    refine sv' hF (wn rfl) rfl rfl (R.assign (hF.ev rfl)) fun a hF => ?_
    refine s0 ?_
    refine then_n (hK6 _ _ ?_)
    refine wp_ret (then_r (hR _ _ _ _ _ hF (run_results Try.results101 (.cw hF rfl agg29 hS (.t (.t .h)) sz29 rfl (.t hF rfl (.nil)))) ?_))
    exact ⟨_, [], rfl, ⟨by rw [if_neg e, decide_eq_false e]; rfl, rfl⟩, hS.none⟩
  ·
    have e : val xs < 115792089237316195423570985008687907853269984665640564039457584007913129639936 := (length_bl_lt (val xs) 256).1 (by omega)
    refine wp_skip ?_
    refine then_n (hK4 _ _ ?_)
    refine wp_seq_k fun K7 hK7 => ?_
    refine wp_seq_k fun K8 hK8 => ?_
    refine wp_region_lit ?_
    refine sv' hF (wn rfl) rfl rfl (R.assign (hF.ev rfl)) fun a hF => ?_
    refine s0 ?_
    refine then_n (hK8 _ _ ?_)
    refine wp_block ?_
    refine wp_loop_N (fun g a w => ∃ (i : Nat), 256 - i = g ∧ Fr 35 [(0, .slice A (bl (val xs)).length c), (2, .pointer (some ⟨b2, 0, none⟩)), (4, .pointer (some ⟨b4, 0, none⟩)), (5, .int .i64 (i : Nat))] a ∧ St w0 [] [[(b4, Cel (wc (val xs % 2 ^ i)) 29)], [(b2, Cel ([.int .u64 0, .int .u64 0, .int .u64 0, .int .u64 0]) 29)]] w ∧ (i ≤ (bl (val xs)).length)) (256 - 0) ?_ ?_
    · exact ⟨0, rfl, hF.sub ⟨rfl, rfl, rfl, rfl, trivial⟩, hS.sel [0, 2] rfl (by rw [Nat.pow_zero, Nat.mod_one]; rfl), by omega⟩
    · rintro KL1 g a w ⟨i, hg1, hF, hS, hi⟩ hKL1
      refine wp_seq_k fun K9 hK9 => ?_
      refine wp_seq_k fun K10 hK10 => ?_
      refine wp_region_lit ?_
      refine sv' hF (wn rfl) rfl rfl (R.move (hF.ev rfl)) fun a hF => ?_
      refine sv' hF (wn rfl) rfl rfl (R.move (hF.ev rfl)) fun a hF => ?_
      refine sv' hF (wn rfl) rfl rfl (R.len Try.underlying64 (hF.ev rfl)) fun a hF => ?_
      refine sv' hF (wn rfl) rfl rfl (R.lss (hF.ev rfl) (hF.ev rfl)) fun a hF => ?_
      refine s0 ?_
      refine then_n (hK10 _ _ ?_)
      refine cD hF rfl (fun c2 => ?_) (fun c2 => ?_)
      ·
        refine wp_skip ?_
        refine then_n (hK9 _ _ ?_)
        refine wp_seq_k fun K11 hK11 => ?_
        refine wp_block ?_
        refine wp_drawS hS [(0, 0), (1, 0), (2, 0), (3, 0), (4, 0), (5, 1), (6, 0), (7, 0), (8, 0), (9, 1), (10, 0), (11, 0), (12, 0), (13, 0), (14, 0), (15, 0), (16, 3)] mix (by kernel_rfl) (hP.then.block.then.then.block) fun w hS => ?_
        have hD := hS
        refine dq hF rfl (wn rfl) rfl rfl (fun w => R.move (hF.ev rfl)) fun a hF => ?_
        refine dq hF rfl (wn rfl) rfl rfl (fun w => R.quoI (hF.ev rfl) (hF.ev rfl) (by omega)) fun a hF => ?_
        refine dq hF rfl (wn rfl) rfl rfl (fun w => R.move (hF.ev rfl)) fun a hF => ?_
        refine dq hF rfl (wn rfl) rfl rfl (fun w => R.quoI (hF.ev rfl) (hF.ev rfl) (by omega)) fun a hF => ?_
        refine dq hF rfl (wn rfl) rfl rfl (fun w => R.indexA Try.underlying29 sz27 (hF.ev rfl) (hF.ev rfl) (by omega) (by omega)) fun a hF => ?_
        refine dr hF rfl (wn rfl) rfl rfl hD (fun w hD => R.load one27 (hF.ev rfl) hD .h (wc_div _ i (by omega))) fun a hF => ?_
        refine dq hF rfl (wn rfl) rfl rfl (fun w => R.move (hF.ev rfl)) fun a hF => ?_
        refine dq hF rfl (wn rfl) rfl rfl (fun w => R.move (hF.ev rfl)) fun a hF => ?_
        refine dq hF rfl (wn rfl) rfl rfl (fun w => R.indexO Try.underlying64 sz3 (hF.ev rfl) (Rd.ne hB (by rw [length_ints]; omega)) (hF.ev rfl) (by omega) (by omega)) fun a hF => ?_
        refine dr hF rfl (wn rfl) rfl rfl hD (fun w hD => R.loadO one3 (hF.ev rfl) (hB.old hD) (bl_at _ i (by omega))) fun a hF => ?_
        refine dq hF rfl (wn rfl) rfl rfl (fun w => R.as (R.convU Try.underlying3 Try.underlying27 (hF.ev rfl)) (by rw [Nat.mod_eq_of_lt (Nat.lt_of_le_of_lt (bit_le _ _) (by decide))])) fun a hF => ?_
        refine dq hF rfl (wn rfl) rfl rfl (fun w => R.move (hF.ev rfl)) fun a hF => ?_
        refine dq hF rfl (wn rfl) rfl rfl (fun w => R.remI (hF.ev rfl) (hF.ev rfl) (by omega)) fun a hF => ?_
        refine dq hF rfl (wn rfl) rfl rfl (fun w => R.shlU (m := i % 64) (hF.ev rfl) (hF.ev rfl) (by omega)) fun a hF => ?_
        refine dq hF rfl (wn rfl) rfl rfl (fun w => R.orU (hF.ev rfl) (hF.ev rfl) (dg_lt _ _) (Nat.mod_lt _ (by decide))) fun a hF => ?_
        refine dq hF rfl (wn rfl) rfl rfl (fun w => R.indexA Try.underlying29 sz27 (hF.ev rfl) (hF.ev rfl) (by omega) (by omega)) fun a hF => ?_
        refine dw rfl (wn rfl) (O.store sz27 (hF.ev rfl) (hF.ev rfl) rfl rfl hS .h (wc_or _ i (by omega) _ rfl) (by simp; omega) fun w hS => ?_)
        refine d0 ?_
        refine blk_n ?_
        refine then_n (hK11 _ _ ?_)
        refine wp_region_lit ?_
        refine sv' hF (wn rfl) rfl rfl (R.move (hF.ev rfl)) fun a hF => ?_
        refine sv' hF (wn rfl) rfl rfl (R.addI (hF.ev rfl) (hF.ev rfl) (by omega)) fun a hF => ?_
        refine sv' hF (wn rfl) rfl rfl (R.assign (hF.ev rfl)) fun a hF => ?_
        refine s0 ?_
        refine then_n (hKL1 (256 - (i + 1)) _ _ ?_ ?_)
        · omega
        · exact ⟨i + 1, rfl, hF.sub ⟨rfl, rfl, rfl, rfl, trivial⟩, hS.sel [0, 1] rfl rfl, by omega⟩
      ·
        obtain rfl : i = (bl (val xs)).length := by omega
        rw [mod_all] at hS
        refine wp_exit (then_x (then_x (blk_hit ?_)))
        refine then_n (hK7 _ _ ?_)
        refine wp_seq_k fun K12 hK12 => ?_
        refine wp_region_lit ?_
        refine sv' hF (wn rfl) rfl rfl (R.loadW agg29 (hF.ev rfl) hS .h sz29 rfl) fun a hF => ?_
        refine so (wn rfl) (O.storeW sz29 (hF.ev rfl) (hF.ev rfl) rfl rfl (by simp [Value.oneCell']) hS (.t .h) rfl fun w hS => ?_)
        refine sv' hF (wn rfl) rfl rfl (R.assign (hF.ev rfl)) fun a hF => ?_
        refine s0 ?_
        refine then_n (hK12 _ _ ?_)
        refine wp_ret (hR _ _ _ _ _ hF (run_results Try.results101 (.cw hF rfl agg29 hS (.t .h) sz29 rfl (.t hF rfl (.nil)))) ?_)
        exact ⟨_, [], rfl, ⟨by rw [if_pos e, decide_eq_true e]; rfl, rfl⟩, hS.none⟩

theorem answered_calls (A : Option Addr) (n c : Nat) (xs : List Nat) (w0 : World) (hA : Rd w0 A (ints xs)) (hn : xs.length = n) (hnc : n ≤ c) (hc : c ≤ 9223372036854775807) (hb : Bits xs) : Ret Try.prog 73 [.slice A n c] w0 [] (fun v s => v = .tuple #[wv (if val xs < 115792089237316195423570985008687907853269984665640564039457584007913129639936 then val xs else 0), .int .i64 (if val xs < 115792089237316195423570985008687907853269984665640564039457584007913129639936 then 0 else 22)] ∧ s = []) := by
  refine fn_start Try.func73 rfl Try.ntmps73 rfl [(0, .slice A n c)] ⟨rfl, trivial⟩ ?_
  intro Q a hP hF hR hN
  have hS := St.start w0
  refine wp_seq_k fun K1 hK1 => ?_
  refine wp_region_lit ?_
  refine so (wn rfl) (O.alloc rfl rfl hF ze29 rfl hS fun b2 a w hF hS => ?_)
  refine sv' hF (wn rfl) rfl rfl (R.assign (hF.ev rfl)) fun a hF => ?_
  refine s0 ?_
  refine then_n (hK1 _ _ ?_)
  refine wp_seq_k fun K2 hK2 => ?_
  refine wp_region_lit ?_
  refine sv' hF (wn rfl) rfl rfl (R.move (hF.ev rfl)) fun a hF => ?_
  refine so (wn rfl) (O.call rfl rfl hF ent101 (hF.evs rfl) hS (number_calls A n c xs w (hA.old hS) hn hnc hc hb) fun v s8 a w hR hF hS => ?_)
  obtain ⟨rfl, rfl⟩ := hR
  refine sv' hF (wn rfl) rfl rfl (R.move (hF.ev rfl)) fun a hF => ?_
  refine sv' hF (wn rfl) rfl rfl (R.extract (hF.ev rfl) rfl) fun a hF => ?_
  refine sv' hF (wn rfl) rfl rfl (R.extract (hF.ev rfl) rfl) fun a hF => ?_
  refine so (wn rfl) (O.alloc rfl rfl hF ze29 rfl hS fun b4 a w hF hS => ?_)
  refine so (wn rfl) (O.storeW sz29 (hF.ev rfl) (hF.ev rfl) rfl rfl (by simp [Value.oneCell']) hS .h rfl fun w hS => ?_)
  refine sv' hF (wn rfl) rfl rfl (R.assign (hF.ev rfl)) fun a hF => ?_
  refine s0 ?_
  refine then_n (hK2 _ _ ?_)
  refine wp_seq_k fun K3 hK3 => ?_
  refine wp_seq_k fun K4 hK4 => ?_
  refine wp_region_lit ?_
  refine sv' hF (wn rfl) rfl rfl (R.move (hF.ev rfl)) fun a hF => ?_
  refine sv' hF (wn rfl) rfl rfl ((by first | exact R.notD (hF.ev rfl) | exact R.not (hF.ev rfl))) fun a hF => ?_
  refine s0 ?_
  refine then_n (hK4 _ _ ?_)
  refine cD hF rfl (fun c1 => ?_) (fun c1 => ?_)
  ·
    have e : ¬ val xs < 115792089237316195423570985008687907853269984665640564039457584007913129639936 := by simpa using c1
    refine wp_seq_k fun K5 hK5 => ?_
    refine wp_region_lit ?_
    refine sv' hF (wn rfl) rfl rfl (R.buildArr (l := [_, _, _, _]) Try.underlying29 ze29 sz27 (hF.evp rfl) rfl) fun a hF => ?_
    refine so (wn rfl) (O.storeW sz29 (hF.ev rfl) (hF.ev rfl) rfl rfl (by simp [Value.oneCell']) hS (.t (.t .h)) rfl fun w hS => ?_)
    refine sv' hF (wn rfl) rfl rfl (R.assign (hF.ev rfl)) fun a hF => ?_
    refine s0 ?_
    refine then_n (hK5 _ _ ?_)
    refine wp_ret (then_r (hR _ _ _ _ _ hF (run_results Try.results73 (.cw hF rfl agg29 hS (.t (.t .h)) sz29 rfl (.t hF rfl (.nil)))) ?_))
    exact ⟨_, [], rfl, ⟨by rw [if_neg e, if_neg e]; rfl, rfl⟩, hS.none⟩
  ·
    have e : val xs < 115792089237316195423570985008687907853269984665640564039457584007913129639936 := by simpa using c1
    refine wp_skip ?_
    refine then_n (hK3 _ _ ?_)
    refine wp_seq_k fun K6 hK6 => ?_
    refine wp_region_lit ?_
    refine sv' hF (wn rfl) rfl rfl (R.loadW agg29 (hF.ev rfl) hS .h sz29 rfl) fun a hF => ?_
    refine so (wn rfl) (O.storeW sz29 (hF.ev rfl) (hF.ev rfl) rfl rfl (by simp [Value.oneCell']) hS (.t (.t .h)) rfl fun w hS => ?_)
    refine sv' hF (wn rfl) rfl rfl (R.assign (hF.ev rfl)) fun a hF => ?_
    refine s0 ?_
    refine then_n (hK6 _ _ ?_)
    refine wp_ret (hR _ _ _ _ _ hF (run_results Try.results73 (.cw hF rfl agg29 hS (.t (.t .h)) sz29 rfl (.t hF rfl (.nil)))) ?_)
    exact ⟨_, [], rfl, ⟨by rw [if_pos e, if_pos e]; rfl, rfl⟩, hS.none⟩

theorem compare_calls (A B : Option Addr) (c d x y : Nat) (w0 : World) (hA : Rd w0 A (ints (bl x))) (hB : Rd w0 B (ints (bl y))) (hx : (bl x).length ≤ 9223372036854775807) (hy : (bl y).length ≤ 9223372036854775807) : Ret Try.prog 81 [.slice A (bl x).length c, .slice B (bl y).length d] w0 [] (fun v s => v = .int .i64 (cmpN x y) ∧ s = []) := by
  refine fn_start Try.func81 rfl Try.ntmps81 rfl [(0, .slice A (bl x).length c), (1, .slice B (bl y).length d)] ⟨rfl, rfl, trivial⟩ ?_
  intro Q a hP hF hR hN
  have hS := St.start w0
  refine wp_seq_k fun K1 hK1 => ?_
  refine wp_region_lit ?_
  refine sv' hF (wn rfl) rfl rfl (R.assign (hF.ev rfl)) fun a hF => ?_
  refine s0 ?_
  refine then_n (hK1 _ _ ?_)
  refine wp_seq_k fun K2 hK2 => ?_
  refine wp_seq_k fun K3 hK3 => ?_
  refine wp_region_lit ?_
  refine sv' hF (wn rfl) rfl rfl (R.move (hF.ev rfl)) fun a hF => ?_
  refine sv' hF (wn rfl) rfl rfl (R.len Try.underlying64 (hF.ev rfl)) fun a hF => ?_
  refine sv' hF (wn rfl) rfl rfl (R.move (hF.ev rfl)) fun a hF => ?_
  refine sv' hF (wn rfl) rfl rfl (R.len Try.underlying64 (hF.ev rfl)) fun a hF => ?_
  refine sv' hF (wn rfl) rfl rfl (R.neq (hF.ev rfl) (hF.ev rfl)) fun a hF => ?_
  refine s0 ?_
  refine then_n (hK3 _ _ ?_)
  refine cD hF rfl (fun c1 => ?_) (fun c1 => ?_)
  ·
    refine wp_seq_k fun K4 hK4 => ?_
    refine wp_seq_k fun K5 hK5 => ?_
    refine wp_region_lit ?_
    refine sv' hF (wn rfl) rfl rfl (R.move (hF.ev rfl)) fun a hF => ?_
    refine sv' hF (wn rfl) rfl rfl (R.len Try.underlying64 (hF.ev rfl)) fun a hF => ?_
    refine sv' hF (wn rfl) rfl rfl (R.move (hF.ev rfl)) fun a hF => ?_
    refine sv' hF (wn rfl) rfl rfl (R.len Try.underlying64 (hF.ev rfl)) fun a hF => ?_
    refine sv' hF (wn rfl) rfl rfl (R.lss (hF.ev rfl) (hF.ev rfl)) fun a hF => ?_
    refine s0 ?_
    refine then_n (hK5 _ _ ?_)
    refine cD hF rfl (fun c2 => ?_) (fun c2 => ?_)
    ·
      have e := lt_of_length (x := x) (y := y) (by omega)
      refine wp_seq_k fun K6 hK6 => ?_
      refine wp_region_lit ?_
      refine sv' hF (wn rfl) rfl rfl (R.assign (hF.ev rfl)) fun a hF => ?_
      refine s0 ?_
      refine then_n (hK6 _ _ ?_)
      refine wp_ret (then_r (then_r (hR _ _ _ _ _ hF (run_results Try.results81 (.t hF rfl (.nil))) ?_)))
      exact ⟨_, [], rfl, ⟨by simp only [cmpN, if_pos e]; rfl, rfl⟩, hS.none⟩
    ·
      have e := lt_of_length (x := y) (y := x) (by omega)
      refine wp_skip ?_
      refine then_n (hK4 _ _ ?_)
      refine wp_seq_k fun K7 hK7 => ?_
      refine wp_region_lit ?_
      refine sv' hF (wn rfl) rfl rfl (R.assign (hF.ev rfl)) fun a hF => ?_
      refine s0 ?_
      refine then_n (hK7 _ _ ?_)
      refine wp_ret (then_r (hR _ _ _ _ _ hF (run_results Try.results81 (.t hF rfl (.nil))) ?_))
      exact ⟨_, [], rfl, ⟨by simp only [cmpN, if_neg (Nat.lt_asymm e), if_pos e]; rfl, rfl⟩, hS.none⟩
  ·
    have hl : (bl x).length = (bl y).length := by omega
    refine wp_skip ?_
    refine then_n (hK2 _ _ ?_)
    refine wp_seq_k fun K8 hK8 => ?_
    refine wp_seq_k fun K9 hK9 => ?_
    refine wp_region_lit ?_
    refine sv' hF (wn rfl) rfl rfl (R.move (hF.ev rfl)) fun a hF => ?_
    refine sv' hF (wn rfl) rfl rfl (R.len Try.underlying64 (hF.ev rfl)) fun a hF => ?_
    refine sv' hF (wn rfl) rfl rfl (R.subI (hF.ev rfl) (hF.ev rfl) (by omega)) fun a hF => ?_
    refine sv' hF (wn rfl) rfl rfl (R.assign (hF.ev rfl)) fun a hF => ?_
    refine s0 ?_
    refine then_n (hK9 _ _ ?_)
    refine wp_block ?_
    refine wp_loop_N (fun g a w => ∃ (k : Nat), k = g ∧ Fr 41 [(0, .slice A (bl x).length c), (1, .slice B (bl y).length d), (5, .int .i64 ((k : Int) - 1))] a ∧ St w0 [] [] w ∧ (k ≤ (bl x).length) ∧ (x / 2 ^ k = y / 2 ^ k)) ((bl x).length) ?_ ?_
    · exact ⟨(bl x).length, rfl, hF.sub ⟨rfl, rfl, rfl, trivial⟩, hS.sel [] rfl rfl, by omega, same_top hl⟩
    · rintro KL1 g a w ⟨k, hg1, hF, hS, hk, hd⟩ hKL1
      refine wp_seq_k fun K10 hK10 => ?_
      refine wp_seq_k fun K11 hK11 => ?_
      refine wp_region_lit ?_
      refine sv' hF (wn rfl) rfl rfl (R.move (hF.ev rfl)) fun a hF => ?_
      refine sv' hF (wn rfl) rfl rfl (R.geq (hF.ev rfl) (hF.ev rfl)) fun a hF => ?_
      refine s0 ?_
      refine then_n (hK11 _ _ ?_)
      refine cD hF rfl (fun c3 => ?_) (fun c3 => ?_)
      ·
        refine wp_skip ?_
        refine then_n (hK10 _ _ ?_)
        refine wp_seq_k fun K12 hK12 => ?_
        refine wp_block ?_
        refine wp_seq_k fun K13 hK13 => ?_
        refine wp_seq_k fun K14 hK14 => ?_
        refine wp_drawS hS [(0, 0), (1, 0), (2, 0), (3, 1), (4, 0), (5, 0), (6, 0), (7, 1), (8, 0)] mix (by kernel_rfl) (hP.then.block.then.then.block.then.then) fun w hS => ?_
        have hD := hS
        refine dq hF rfl (wn rfl) rfl rfl (fun w => R.move (hF.ev rfl)) fun a hF => ?_
        refine dq hF rfl (wn rfl) rfl rfl (fun w => R.move (hF.ev rfl)) fun a hF => ?_
        refine dq hF rfl (wn rfl) rfl rfl (fun w => R.indexO Try.underlying64 sz3 (hF.ev rfl) (Rd.ne hA (by rw [length_ints]; omega)) (hF.ev rfl) (by omega) (by omega)) fun a hF => ?_
        refine dr hF rfl (wn rfl) rfl rfl hD (fun w hD => R.loadO one3 (hF.ev rfl) (hA.old hD) (bl_pred x k (by omega) (by omega))) fun a hF => ?_
        refine dq hF rfl (wn rfl) rfl rfl (fun w => R.move (hF.ev rfl)) fun a hF => ?_
        refine dq hF rfl (wn rfl) rfl rfl (fun w => R.move (hF.ev rfl)) fun a hF => ?_
        refine dq hF rfl (wn rfl) rfl rfl (fun w => R.indexO Try.underlying64 sz3 (hF.ev rfl) (Rd.ne hB (by rw [length_ints]; omega)) (hF.ev rfl) (by omega) (by omega)) fun a hF => ?_
        refine dr hF rfl (wn rfl) rfl rfl hD (fun w hD => R.loadO one3 (hF.ev rfl) (hB.old hD) (bl_pred y k (by omega) (by omega))) fun a hF => ?_
        refine dq hF rfl (wn rfl) rfl rfl (fun w => R.lss (hF.ev rfl) (hF.ev rfl)) fun a hF => ?_
        refine d0 ?_
        refine then_n (hK14 _ _ ?_)
        refine cD hF rfl (fun c4 => ?_) (fun c4 => ?_)
        ·
          have e := lt_of_bit (x := x) (y := y) (k := k) (by omega) hd (by omega)
          refine wp_seq_k fun K15 hK15 => ?_
          refine wp_region_lit ?_
          refine sv' hF (wn rfl) rfl rfl (R.assign (hF.ev rfl)) fun a hF => ?_
          refine s0 ?_
          refine then_n (hK15 _ _ ?_)
          refine wp_ret (then_r (blk_r (then_r (then_r (blk_r (then_r (hR _ _ _ _ _ hF (run_results Try.results81 (.t hF rfl (.nil))) ?_)))))))
          exact ⟨_, [], rfl, ⟨by simp only [cmpN, if_pos e]; rfl, rfl⟩, hS.none⟩
        ·
          refine wp_skip ?_
          refine then_n (hK13 _ _ ?_)
          refine wp_seq_k fun K16 hK16 => ?_
          refine wp_drawS hS [(0, 0), (1, 0), (2, 0), (3, 1), (4, 0), (5, 0), (6, 0), (7, 1), (8, 0)] mix (by kernel_rfl) (hP.then.block.then.then.block.then) fun w hS => ?_
          have hD := hS
          refine dq hF rfl (wn rfl) rfl rfl (fun w => R.move (hF.ev rfl)) fun a hF => ?_
          refine dq hF rfl (wn rfl) rfl rfl (fun w => R.move (hF.ev rfl)) fun a hF => ?_
          refine dq hF rfl (wn rfl) rfl rfl (fun w => R.indexO Try.underlying64 sz3 (hF.ev rfl) (Rd.ne hA (by rw [length_ints]; omega)) (hF.ev rfl) (by omega) (by omega)) fun a hF => ?_
          refine dr hF rfl (wn rfl) rfl rfl hD (fun w hD => R.loadO one3 (hF.ev rfl) (hA.old hD) (bl_pred x k (by omega) (by omega))) fun a hF => ?_
          refine dq hF rfl (wn rfl) rfl rfl (fun w => R.move (hF.ev rfl)) fun a hF => ?_
          refine dq hF rfl (wn rfl) rfl rfl (fun w => R.move (hF.ev rfl)) fun a hF => ?_
          refine dq hF rfl (wn rfl) rfl rfl (fun w => R.indexO Try.underlying64 sz3 (hF.ev rfl) (Rd.ne hB (by rw [length_ints]; omega)) (hF.ev rfl) (by omega) (by omega)) fun a hF => ?_
          refine dr hF rfl (wn rfl) rfl rfl hD (fun w hD => R.loadO one3 (hF.ev rfl) (hB.old hD) (bl_pred y k (by omega) (by omega))) fun a hF => ?_
          refine dq hF rfl (wn rfl) rfl rfl (fun w => R.gtr (hF.ev rfl) (hF.ev rfl)) fun a hF => ?_
          refine d0 ?_
          refine then_n (hK16 _ _ ?_)
          refine cD hF rfl (fun c5 => ?_) (fun c5 => ?_)
          ·
            have e := lt_of_bit (x := y) (y := x) (k := k) (by omega) hd.symm (by omega)
            refine wp_seq_k fun K17 hK17 => ?_
            refine wp_region_lit ?_
            refine sv' hF (wn rfl) rfl rfl (R.assign (hF.ev rfl)) fun a hF => ?_
            refine s0 ?_
            refine then_n (hK17 _ _ ?_)
            refine wp_ret (blk_r (then_r (then_r (blk_r (then_r (hR _ _ _ _ _ hF (run_results Try.results81 (.t hF rfl (.nil))) ?_))))))
            exact ⟨_, [], rfl, ⟨by simp only [cmpN, if_neg (Nat.lt_asymm e), if_pos e]; rfl, rfl⟩, hS.none⟩
          ·
            refine wp_skip ?_
            refine blk_n ?_
            refine then_n (hK12 _ _ ?_)
            refine wp_region_lit ?_
            refine sv' hF (wn rfl) rfl rfl (R.move (hF.ev rfl)) fun a hF => ?_
            refine sv' hF (wn rfl) rfl rfl (R.subI (hF.ev rfl) (hF.ev rfl) (by omega)) fun a hF => ?_
            refine sv' hF (wn rfl) rfl rfl (R.assign (hF.ev rfl)) fun a hF => ?_
            refine s0 ?_
            refine then_n (hKL1 (k - 1) _ _ ?_ ?_)
            · omega
            · exact ⟨k - 1, rfl, hF.sub ⟨rfl, rfl, (congrArg (fun z => some (Value.int .i64 z)) (by omega)), trivial⟩, hS.sel [] rfl rfl, by omega, same_div (by omega) hd (by omega)⟩
      ·
        obtain rfl : k = 0 := by omega
        have e : x = y := by simpa using hd
        refine wp_exit (then_x (then_x (blk_hit ?_)))
        refine then_n (hK8 _ _ ?_)
        refine wp_seq_k fun K18 hK18 => ?_
        refine wp_region_lit ?_
        refine sv' hF (wn rfl) rfl rfl (R.assign (hF.ev rfl)) fun a hF => ?_
        refine s0 ?_
        refine then_n (hK18 _ _ ?_)
        refine wp_ret (hR _ _ _ _ _ hF (run_results Try.results81 (.t hF rfl (.nil))) ?_)
        exact ⟨_, [], rfl, ⟨by subst e; simp only [cmpN, Nat.lt_irrefl, if_false]; rfl, rfl⟩, hS.none⟩

theorem plus_calls (A B : Option Addr) (c d x y : Nat) (w0 : World) (hA : Rd w0 A (ints (bl x))) (hB : Rd w0 B (ints (bl y))) (hx : (bl x).length ≤ 1000000) (hy : (bl y).length ≤ 1000000) : Ret Try.prog 74 [.slice A (bl x).length c, .slice B (bl y).length d] w0 [] (RetI (bl (x + y))) := by
  refine fn_start Try.func74 rfl Try.ntmps74 rfl [(0, .slice A (bl x).length c), (1, .slice B (bl y).length d)] ⟨rfl, rfl, trivial⟩ ?_
  intro Q a hP hF hR hN
  have hS := St.start w0
  refine wp_seq_k fun K1 hK1 => ?_
  refine wp_region_lit ?_
  refine sv' hF (wn rfl) rfl rfl (R.assign (hF.ev rfl)) fun a hF => ?_
  refine s0 ?_
  refine then_n (hK1 _ _ ?_)
  refine wp_seq_k fun K2 hK2 => ?_
  refine wp_region_lit ?_
  refine sv' hF (wn rfl) rfl rfl (R.assign (hF.ev rfl)) fun a hF => ?_
  refine s0 ?_
  refine then_n (hK2 _ _ ?_)
  refine wp_seq_k fun K3 hK3 => ?_
  refine wp_region_lit ?_
  refine sv' hF (wn rfl) rfl rfl (R.assign (hF.ev rfl)) fun a hF => ?_
  refine s0 ?_
  refine then_n (hK3 _ _ ?_)
  refine wp_seq_k fun K4 hK4 => ?_
  refine wp_seq_k fun K5 hK5 => ?_
  have hS := hS.cons0
  refine wp_region_lit ?_
  refine sv' hF (wn rfl) rfl rfl (R.assign (hF.ev rfl)) fun a hF => ?_
  refine s0 ?_
  refine then_n (hK5 _ _ ?_)
  refine wp_block ?_
  refine wp_loop_N (fun g a w => ∃ (k : Nat) (q : Nat) (C : Option Addr) (e : Nat) (s : Seg) (out : List Nat), max (bl x).length (bl y).length + 2 - k = g ∧ Fr 55 [(0, .slice A (bl x).length c), (1, .slice B (bl y).length d), (5, .slice C k e), (6, .int .i64 (q : Nat)), (7, .int .i64 (k : Nat))] a ∧ St w0 [] [s] w ∧ (OwnS s C k e (ints out) 3 1) ∧ (out.length = k) ∧ (Bits out) ∧ (q ≤ 1) ∧ (k ≤ max (bl x).length (bl y).length + 1 ∧ (max (bl x).length (bl y).length < k → q = 0)) ∧ (val out + 2 ^ k * (q + val ((bl x).drop k) + val ((bl y).drop k)) = x + y)) (max (bl x).length (bl y).length + 2 - 0) ?_ ?_
  · exact ⟨0, 0, none, 0, [], [], rfl, hF.sub ⟨rfl, rfl, rfl, rfl, rfl, trivial⟩, hS.sel [0] rfl rfl, OwnS.nil 3 1, rfl, by intro b hb; simp at hb, by omega, by omega, by simp [val, val_bl]⟩
  · rintro KL1 g a w ⟨k, q, C, e, s, out, hg1, hF, hS, hO, hol, hob, hq, hk, hv⟩ hKL1
    have bx := bits_getD (bits_bl x) k; have hby := bits_getD (bits_bl y) k; have ex : (bl x).length ≤ k → (bl x).getD k 0 = 0 := getD_past _ k; have ey : (bl y).length ≤ k → (bl y).getD k 0 = 0 := getD_past _ k
    refine wp_seq_k fun K6 hK6 => ?_
    refine wp_seq_k fun K7 hK7 => ?_
    have hK7' : ∀ a w, (Fr 55 [(0, .slice A (bl x).length c), (1, .slice B (bl y).length d), (5, .slice C k e), (6, .int .i64 (q : Nat)), (7, .int .i64 (k : Nat)), (22, .bool (decide (k < (bl x).length ∨ k < (bl y).length ∨ 0 < q)))] a ∧ St w0 [] [s] w) → K7 a w := by
      rintro a w ⟨hF, hS⟩
      refine hK7 _ _ ?_
      refine cD hF rfl (fun c1 => ?_) (fun c1 => ?_)
      ·
        refine wp_skip ?_
        refine then_n (hK6 _ _ ?_)
        refine wp_seq_k fun K8 hK8 => ?_
        refine wp_block ?_
        refine wp_seq_k fun K9 hK9 => ?_
        refine wp_region_lit ?_
        refine sv' hF (wn rfl) rfl rfl (R.move (hF.ev rfl)) fun a hF => ?_
        refine sv' hF (wn rfl) rfl rfl (R.assign (hF.ev rfl)) fun a hF => ?_
        refine s0 ?_
        refine then_n (hK9 _ _ ?_)
        refine wp_seq_k fun K10 hK10 => ?_
        refine wp_seq_k fun K11 hK11 => ?_
        refine wp_region_lit ?_
        refine sv' hF (wn rfl) rfl rfl (R.move (hF.ev rfl)) fun a hF => ?_
        refine sv' hF (wn rfl) rfl rfl (R.move (hF.ev rfl)) fun a hF => ?_
        refine sv' hF (wn rfl) rfl rfl (R.len Try.underlying64 (hF.ev rfl)) fun a hF => ?_
        refine sv' hF (wn rfl) rfl rfl (R.lss (hF.ev rfl) (hF.ev rfl)) fun a hF => ?_
        refine s0 ?_
        refine then_n (hK11 _ _ ?_)
        refine cD hF rfl (fun c2 => ?_) (fun c2 => ?_)
        ·
          refine wp_region_lit ?_
          refine sv' hF (wn rfl) rfl rfl (R.move (hF.ev rfl)) fun a hF => ?_
          refine sv' hF (wn rfl) rfl rfl (R.move (hF.ev rfl)) fun a hF => ?_
          refine sv' hF (wn rfl) rfl rfl (R.move (hF.ev rfl)) fun a hF => ?_
          refine sv' hF (wn rfl) rfl rfl (R.indexO Try.underlying64 sz3 (hF.ev rfl) (Rd.ne hA (by rw [length_ints]; omega)) (hF.ev rfl) (by omega) (by omega)) fun a hF => ?_
          refine sv' hF (wn rfl) rfl rfl (R.loadO one3 (hF.ev rfl) (hA.old hS) (ints_at _ k (by omega))) fun a hF => ?_
          refine sv' hF (wn rfl) rfl rfl (R.addI (hF.ev rfl) (hF.ev rfl) (by omega)) fun a hF => ?_
          refine sv' hF (wn rfl) rfl rfl (R.assign (hF.ev rfl)) fun a hF => ?_
          refine s0 ?_
          refine then_n (hK10 _ _ ?_)
          refine wp_seq_k fun K12 hK12 => ?_
          have hK12' : ∀ a w, (Fr 55 [(0, .slice A (bl x).length c), (1, .slice B (bl y).length d), (5, .slice C k e), (6, .int .i64 (q : Nat)), (7, .int .i64 (k : Nat)), (8, .int .i64 ((q + (bl x).getD k 0 + (bl y).getD k 0 : Nat) : Int))] a ∧ St w0 [] [s] w) → K12 a w := by
            rintro a w ⟨hF, hS⟩
            refine hK12 _ _ ?_
            refine wp_seq_k fun K13 hK13 => ?_
            refine wp_region_lit ?_
            refine sv' hF (wn rfl) rfl rfl (R.move (hF.ev rfl)) fun a hF => ?_
            refine sv' hF (wn rfl) rfl rfl (R.move (hF.ev rfl)) fun a hF => ?_
            refine sv' hF (wn rfl) rfl rfl (R.remI (hF.ev rfl) (hF.ev rfl) (by omega)) fun a hF => ?_
            refine so (wn rfl) (O.buildSlice (l := [_]) rfl rfl hF Try.underlying64 inf3 rfl rfl (hF.evp rfl) (by decide) rfl hS fun b49 a w hF hS => ?_)
            refine so (wn rfl) (O.append rfl rfl hF Try.underlying64 inf3 rfl rfl (by decide) (hF.ev rfl) (hF.ev rfl) hS hO (fun _ => (.t .h)) (Rd.own0 hS .h) (rfl) (by simp [Value.oneCell']) (by unfold maxLen; omega) (by omega) fun A50 c50 s50 a w hO50 hF hS => ?_)
            refine sv' hF (wn rfl) rfl rfl (R.assign (hF.ev rfl)) fun a hF => ?_
            refine s0 ?_
            refine then_n (hK13 _ _ ?_)
            refine wp_region_lit ?_
            refine sv' hF (wn rfl) rfl rfl (R.move (hF.ev rfl)) fun a hF => ?_
            refine sv' hF (wn rfl) rfl rfl (R.quoI (hF.ev rfl) (hF.ev rfl) (by omega)) fun a hF => ?_
            refine sv' hF (wn rfl) rfl rfl (R.assign (hF.ev rfl)) fun a hF => ?_
            refine s0 ?_
            refine blk_n ?_
            refine then_n (hK8 _ _ ?_)
            refine wp_region_lit ?_
            refine sv' hF (wn rfl) rfl rfl (R.move (hF.ev rfl)) fun a hF => ?_
            refine sv' hF (wn rfl) rfl rfl (R.addI (hF.ev rfl) (hF.ev rfl) (by omega)) fun a hF => ?_
            refine sv' hF (wn rfl) rfl rfl (R.assign (hF.ev rfl)) fun a hF => ?_
            refine s0 ?_
            refine then_n (hKL1 (max (bl x).length (bl y).length + 2 - (k + 1)) _ _ ?_ ?_)
            · omega
            · exact ⟨k + 1, (q + (bl x).getD k 0 + (bl y).getD k 0) / 2, A50, c50, s50, out ++ [(q + (bl x).getD k 0 + (bl y).getD k 0) % 2], rfl, hF.sub ⟨rfl, rfl, rfl, rfl, rfl, trivial⟩, hS.sel [1] rfl rfl, ints_snoc out _ ▸ hO50, by simp [hol], bits_snoc hob (by omega), by omega, by omega, plus_step out _ _ k q _ hol hv⟩
          refine wp_seq_k fun K14 hK14 => ?_
          refine wp_region_lit ?_
          refine sv' hF (wn rfl) rfl rfl (R.move (hF.ev rfl)) fun a hF => ?_
          refine sv' hF (wn rfl) rfl rfl (R.move (hF.ev rfl)) fun a hF => ?_
          refine sv' hF (wn rfl) rfl rfl (R.len Try.underlying64 (hF.ev rfl)) fun a hF => ?_
          refine sv' hF (wn rfl) rfl rfl (R.lss (hF.ev rfl) (hF.ev rfl)) fun a hF => ?_
          refine s0 ?_
          refine then_n (hK14 _ _ ?_)
          refine cD hF rfl (fun c3 => ?_) (fun c3 => ?_)
          ·
            refine wp_region_lit ?_
            refine sv' hF (wn rfl) rfl rfl (R.move (hF.ev rfl)) fun a hF => ?_
            refine sv' hF (wn rfl) rfl rfl (R.move (hF.ev rfl)) fun a hF => ?_
            refine sv' hF (wn rfl) rfl rfl (R.move (hF.ev rfl)) fun a hF => ?_
            refine sv' hF (wn rfl) rfl rfl (R.indexO Try.underlying64 sz3 (hF.ev rfl) (Rd.ne hB (by rw [length_ints]; omega)) (hF.ev rfl) (by omega) (by omega)) fun a hF => ?_
            refine sv' hF (wn rfl) rfl rfl (R.loadO one3 (hF.ev rfl) (hB.old hS) (ints_at _ k (by omega))) fun a hF => ?_
            refine sv' hF (wn rfl) rfl rfl (R.addI (hF.ev rfl) (hF.ev rfl) (by omega)) fun a hF => ?_
            refine sv' hF (wn rfl) rfl rfl (R.assign (hF.ev rfl)) fun a hF => ?_
            refine s0 ?_
            exact then_n (hK12' _ _ ⟨hF.sub ⟨rfl, rfl, rfl, rfl, rfl, (congrArg (fun z => some (Value.int .i64 z)) (by first | omega | (rw [getD_past (bl x) k (by omega)]; omega) | (rw [getD_past (bl y) k (by omega)]; omega) | (rw [getD_past (bl x) k (by omega), getD_past (bl y) k (by omega)]; omega))), trivial⟩, hS.sel [0] rfl rfl⟩)
          ·
            refine wp_skip ?_
            exact then_n (hK12' _ _ ⟨hF.sub ⟨rfl, rfl, rfl, rfl, rfl, (congrArg (fun z => some (Value.int .i64 z)) (by first | omega | (rw [getD_past (bl x) k (by omega)]; omega) | (rw [getD_past (bl y) k (by omega)]; omega) | (rw [getD_past (bl x) k (by omega), getD_past (bl y) k (by omega)]; omega))), trivial⟩, hS.sel [0] rfl rfl⟩)
        ·
          refine wp_skip ?_
          refine then_n (hK10 _ _ ?_)
          refine wp_seq_k fun K15 hK15 => ?_
          have hK15' : ∀ a w, (Fr 55 [(0, .slice A (bl x).length c), (1, .slice B (bl y).length d), (5, .slice C k e), (6, .int .i64 (q : Nat)), (7, .int .i64 (k : Nat)), (8, .int .i64 ((q + (bl x).getD k 0 + (bl y).getD k 0 : Nat) : Int))] a ∧ St w0 [] [s] w) → K15 a w := by
            rintro a w ⟨hF, hS⟩
            refine hK15 _ _ ?_
            refine wp_seq_k fun K16 hK16 => ?_
            refine wp_region_lit ?_
            refine sv' hF (wn rfl) rfl rfl (R.move (hF.ev rfl)) fun a hF => ?_
            refine sv' hF (wn rfl) rfl rfl (R.move (hF.ev rfl)) fun a hF => ?_
            refine sv' hF (wn rfl) rfl rfl (R.remI (hF.ev rfl) (hF.ev rfl) (by omega)) fun a hF => ?_
            refine so (wn rfl) (O.buildSlice (l := [_]) rfl rfl hF Try.underlying64 inf3 rfl rfl (hF.evp rfl) (by decide) rfl hS fun b49 a w hF hS => ?_)
            refine so (wn rfl) (O.append rfl rfl hF Try.underlying64 inf3 rfl rfl (by decide) (hF.ev rfl) (hF.ev rfl) hS hO (fun _ => (.t .h)) (Rd.own0 hS .h) (rfl) (by simp [Value.oneCell']) (by unfold maxLen; omega) (by omega) fun A50 c50 s50 a w hO50 hF hS => ?_)
            refine sv' hF (wn rfl) rfl rfl (R.assign (hF.ev rfl)) fun a hF => ?_
            refine s0 ?_
            refine then_n (hK16 _ _ ?_)
            refine wp_region_lit ?_
            refine sv' hF (wn rfl) rfl rfl (R.move (hF.ev rfl)) fun a hF => ?_
            refine sv' hF (wn rfl) rfl rfl (R.quoI (hF.ev rfl) (hF.ev rfl) (by omega)) fun a hF => ?_
            refine sv' hF (wn rfl) rfl rfl (R.assign (hF.ev rfl)) fun a hF => ?_
            refine s0 ?_
            refine blk_n ?_
            refine then_n (hK8 _ _ ?_)
            refine wp_region_lit ?_
            refine sv' hF (wn rfl) rfl rfl (R.move (hF.ev rfl)) fun a hF => ?_
            refine sv' hF (wn rfl) rfl rfl (R.addI (hF.ev rfl) (hF.ev rfl) (by omega)) fun a hF => ?_
            refine sv' hF (wn rfl) rfl rfl (R.assign (hF.ev rfl)) fun a hF => ?_
            refine s0 ?_
            refine then_n (hKL1 (max (bl x).length (bl y).length + 2 - (k + 1)) _ _ ?_ ?_)
            · omega
            · exact ⟨k + 1, (q + (bl x).getD k 0 + (bl y).getD k 0) / 2, A50, c50, s50, out ++ [(q + (bl x).getD k 0 + (bl y).getD k 0) % 2], rfl, hF.sub ⟨rfl, rfl, rfl, rfl, rfl, trivial⟩, hS.sel [1] rfl rfl, ints_snoc out _ ▸ hO50, by simp [hol], bits_snoc hob (by omega), by omega, by omega, plus_step out _ _ k q _ hol hv⟩
          refine wp_seq_k fun K17 hK17 => ?_
          refine wp_region_lit ?_
          refine sv' hF (wn rfl) rfl rfl (R.move (hF.ev rfl)) fun a hF => ?_
          refine sv' hF (wn rfl) rfl rfl (R.move (hF.ev rfl)) fun a hF => ?_
          refine sv' hF (wn rfl) rfl rfl (R.len Try.underlying64 (hF.ev rfl)) fun a hF => ?_
          refine sv' hF (wn rfl) rfl rfl (R.lss (hF.ev rfl) (hF.ev rfl)) fun a hF => ?_
          refine s0 ?_
          refine then_n (hK17 _ _ ?_)
          refine cD hF rfl (fun c4 => ?_) (fun c4 => ?_)
          ·
            refine wp_region_lit ?_
            refine sv' hF (wn rfl) rfl rfl (R.move (hF.ev rfl)) fun a hF => ?_
            refine sv' hF (wn rfl) rfl rfl (R.move (hF.ev rfl)) fun a hF => ?_
            refine sv' hF (wn rfl) rfl rfl (R.move (hF.ev rfl)) fun a hF => ?_
            refine sv' hF (wn rfl) rfl rfl (R.indexO Try.underlying64 sz3 (hF.ev rfl) (Rd.ne hB (by rw [length_ints]; omega)) (hF.ev rfl) (by omega) (by omega)) fun a hF => ?_
            refine sv' hF (wn rfl) rfl rfl (R.loadO one3 (hF.ev rfl) (hB.old hS) (ints_at _ k (by omega))) fun a hF => ?_
            refine sv' hF (wn rfl) rfl rfl (R.addI (hF.ev rfl) (hF.ev rfl) (by omega)) fun a hF => ?_
            refine sv' hF (wn rfl) rfl rfl (R.assign (hF.ev rfl)) fun a hF => ?_
            refine s0 ?_
            exact then_n (hK15' _ _ ⟨hF.sub ⟨rfl, rfl, rfl, rfl, rfl, (congrArg (fun z => some (Value.int .i64 z)) (by first | omega | (rw [getD_past (bl x) k (by omega)]; omega) | (rw [getD_past (bl y) k (by omega)]; omega) | (rw [getD_past (bl x) k (by omega), getD_past (bl y) k (by omega)]; omega))), trivial⟩, hS.sel [0] rfl rfl⟩)
          ·
            refine wp_skip ?_
            exact then_n (hK15' _ _ ⟨hF.sub ⟨rfl, rfl, rfl, rfl, rfl, (congrArg (fun z => some (Value.int .i64 z)) (by first | omega | (rw [getD_past (bl x) k (by omega)]; omega) | (rw [getD_past (bl y) k (by omega)]; omega) | (rw [getD_past (bl x) k (by omega), getD_past (bl y) k (by omega)]; omega))), trivial⟩, hS.sel [0] rfl rfl⟩)
      ·
        have hv2 : val out = x + y := by rw [val_past (bl x) k (by omega), val_past (bl y) k (by omega)] at hv; subst_vars; simpa [show q = 0 by omega] using hv
        refine wp_exit (then_x (then_x (blk_hit ?_)))
        refine then_n (hK4 _ _ ?_)
        refine wp_seq_k fun K18 hK18 => ?_
        refine wp_region_lit ?_
        refine sv' hF (wn rfl) rfl rfl (R.move (hF.ev rfl)) fun a hF => ?_
        refine so (wn rfl) (O.call rfl rfl hF ent105 (hF.evs rfl) hS (cut_calls C k e out w (hO.rd hS .h) hol hO.2.1 hO.cap hob) fun v s54 a w hR hF hS => ?_)
        obtain ⟨rfl, rfl⟩ := hR
        refine sv' hF (wn rfl) rfl rfl (R.assign (hF.ev rfl)) fun a hF => ?_
        refine s0 ?_
        refine then_n (hK18 _ _ ?_)
        refine wp_ret (hR _ _ _ _ _ hF (run_results Try.results74 (.t hF rfl (.nil))) ?_)
        exact ⟨_, _, rfl, ⟨_, _, by rw [hv2]; rfl, hv2 ▸ own_cut hO hol hob⟩, hS.one (.t .h)⟩
    refine wp_region_lit ?_
    refine sv' hF (wn rfl) rfl rfl (R.move (hF.ev rfl)) fun a hF => ?_
    refine sv' hF (wn rfl) rfl rfl (R.move (hF.ev rfl)) fun a hF => ?_
    refine sv' hF (wn rfl) rfl rfl (R.len Try.underlying64 (hF.ev rfl)) fun a hF => ?_
    refine sv' hF (wn rfl) rfl rfl (R.lss (hF.ev rfl) (hF.ev rfl)) fun a hF => ?_
    refine sv' hF (wn rfl) rfl rfl (R.move (hF.ev rfl)) fun a hF => ?_
    refine hF.splitD (t := 13) rfl (fun h13 hF => ?_) (fun h13 hF => ?_)
    ·
      refine sk hF (ws hF rfl rfl rfl rfl) rfl rfl fun a hF => ?_
      refine sk hF (ws hF rfl rfl rfl rfl) rfl rfl fun a hF => ?_
      refine sk hF (ws hF rfl rfl rfl rfl) rfl rfl fun a hF => ?_
      refine sk hF (ws hF rfl rfl rfl rfl) rfl rfl fun a hF => ?_
      refine sv' hF (wn rfl) rfl rfl (R.pickT (hF.ev rfl) (hF.ev rfl)) fun a hF => ?_
      refine sv' hF (wn rfl) rfl rfl (R.move (hF.ev rfl)) fun a hF => ?_
      refine sk hF (ws hF rfl rfl rfl rfl) rfl rfl fun a hF => ?_
      refine sk hF (ws hF rfl rfl rfl rfl) rfl rfl fun a hF => ?_
      refine sv' hF (wn rfl) rfl rfl (R.pickT (hF.ev rfl) (hF.ev rfl)) fun a hF => ?_
      refine s0 ?_
      exact then_n (hK7' _ _ ⟨hF.sub ⟨rfl, rfl, rfl, rfl, rfl, (congrArg (fun z => some (Value.bool z)) (by first | exact (decide_eq_true (by omega)).symm | exact decide_eq_decide.2 (by omega))), trivial⟩, hS.sel [0] rfl rfl⟩)
    ·
      refine sv' hF (wy hF rfl rfl rfl) rfl rfl (R.move (hF.ev rfl)) fun a hF => ?_
      refine sv' hF (wy hF rfl rfl rfl) rfl rfl (R.move (hF.ev rfl)) fun a hF => ?_
      refine sv' hF (wy hF rfl rfl rfl) rfl rfl (R.len Try.underlying64 (hF.ev rfl)) fun a hF => ?_
      refine sv' hF (wy hF rfl rfl rfl) rfl rfl (R.lss (hF.ev rfl) (hF.ev rfl)) fun a hF => ?_
      refine sv' hF (wn rfl) rfl rfl (R.pickF (hF.ev rfl) (hF.ev rfl)) fun a hF => ?_
      refine sv' hF (wn rfl) rfl rfl (R.move (hF.ev rfl)) fun a hF => ?_
      refine hF.splitD (t := 19) rfl (fun h19 hF => ?_) (fun h19 hF => ?_)
      ·
        refine sk hF (ws hF rfl rfl rfl rfl) rfl rfl fun a hF => ?_
        refine sk hF (ws hF rfl rfl rfl rfl) rfl rfl fun a hF => ?_
        refine sv' hF (wn rfl) rfl rfl (R.pickT (hF.ev rfl) (hF.ev rfl)) fun a hF => ?_
        refine s0 ?_
        exact then_n (hK7' _ _ ⟨hF.sub ⟨rfl, rfl, rfl, rfl, rfl, (congrArg (fun z => some (Value.bool z)) (by first | exact (decide_eq_true (by omega)).symm | exact decide_eq_decide.2 (by omega))), trivial⟩, hS.sel [0] rfl rfl⟩)
      ·
        refine sv' hF (wy hF rfl rfl rfl) rfl rfl (R.move (hF.ev rfl)) fun a hF => ?_
        refine sv' hF (wy hF rfl rfl rfl) rfl rfl (R.gtr (hF.ev rfl) (hF.ev rfl)) fun a hF => ?_
        refine sv' hF (wn rfl) rfl rfl (R.pickF (hF.ev rfl) (hF.ev rfl)) fun a hF => ?_
        refine s0 ?_
        exact then_n (hK7' _ _ ⟨hF.sub ⟨rfl, rfl, rfl, rfl, rfl, (congrArg (fun z => some (Value.bool z)) (by first | exact (decide_eq_true (by omega)).symm | exact decide_eq_decide.2 (by omega))), trivial⟩, hS.sel [0] rfl rfl⟩)

end Go.Proofs.Ythgecfjpacebeaa
