/- The calls of cut and digits: binary digits of a number, for every number below 2^256. -/
import Derived.Test.YthgecfjpacebeaaM
namespace Go.Proofs.Ythgecfjpacebeaa
open Go Go.Fw Go.RowKit
attribute [local irreducible] Go.Oper.wp Go.Code.wp Go.wpList Go.Fw.WL Go.Calls
theorem cut_calls (A : Option Addr) (n c : Nat) (xs : List Nat) (w0 : World) (hA : Rd w0 A (ints xs)) (hn : xs.length = n) (hnc : n ≤ c) (hc : c ≤ 9223372036854775807) (hb : Bits xs) : Ret Try.prog 105 [.slice A n c] w0 [] (fun v s => v = .slice A (bl (val xs)).length c ∧ s = []) := by
  refine fn_start Try.func105 rfl Try.ntmps105 rfl [(0, .slice A n c)] ⟨rfl, trivial⟩ ?_
  intro Q a hP hF hR hN
  have hS := St.start w0
  refine wp_seq_k fun K1 hK1 => ?_
  refine wp_region_lit ?_
  refine sv' hF (wn rfl) rfl rfl (R.assign (hF.ev rfl)) fun a hF => ?_
  refine s0 ?_
  refine then_n (hK1 _ _ ?_)
  refine wp_seq_k fun K2 hK2 => ?_
  refine wp_region_lit ?_
  refine sv' hF (wn rfl) rfl rfl (R.move (hF.ev rfl)) fun a hF => ?_
  refine sv' hF (wn rfl) rfl rfl (R.len Try.underlying64 (hF.ev rfl)) fun a hF => ?_
  refine sv' hF (wn rfl) rfl rfl (R.assign (hF.ev rfl)) fun a hF => ?_
  refine s0 ?_
  refine then_n (hK2 _ _ ?_)
  refine wp_seq_k fun K3 hK3 => ?_
  refine wp_block ?_
  refine wp_loop_N (fun g a w => ∃ (k : Nat), k = g ∧ Fr 21 [(0, .slice A n c), (3, .int .i64 (k : Nat))] a ∧ St w0 [] [] w ∧ (k ≤ n) ∧ (val (xs.take k) = val xs)) (n) ?_ ?_
  · exact ⟨n, rfl, hF.sub ⟨rfl, rfl, trivial⟩, hS.sel [] rfl rfl, by omega, by rw [← hn, List.take_length]⟩
  · rintro KL1 g a w ⟨k, hg1, hF, hS, hk, hv⟩ hKL1
    refine wp_seq_k fun K4 hK4 => ?_
    refine wp_seq_k fun K5 hK5 => ?_
    refine wp_region_lit ?_
    refine sv' hF (wn rfl) rfl rfl (R.move (hF.ev rfl)) fun a hF => ?_
    refine sv' hF (wn rfl) rfl rfl (R.gtr (hF.ev rfl) (hF.ev rfl)) fun a hF => ?_
    refine sv' hF (wn rfl) rfl rfl (R.move (hF.ev rfl)) fun a hF => ?_
    refine hF.splitD (t := 8) rfl (fun h8 hF => ?_) (fun h8 hF => ?_)
    ·
      refine sv' hF (wy hF rfl rfl rfl) rfl rfl (R.move (hF.ev rfl)) fun a hF => ?_
      refine sv' hF (wy hF rfl rfl rfl) rfl rfl (R.move (hF.ev rfl)) fun a hF => ?_
      refine sv' hF (wy hF rfl rfl rfl) rfl rfl (R.subI (hF.ev rfl) (hF.ev rfl) (by omega)) fun a hF => ?_
      refine sv' hF (wy hF rfl rfl rfl) rfl rfl (R.indexO Try.underlying64 sz3 (hF.ev rfl) (Rd.ne hA (by rw [length_ints]; omega)) (hF.ev rfl) (by omega) (by omega)) fun a hF => ?_
      refine sv' hF (wy hF rfl rfl rfl) rfl rfl (R.loadO one3 (hF.ev rfl) (hA.old hS) (ints_pred xs k (by omega) (by omega))) fun a hF => ?_
      refine sv' hF (wy hF rfl rfl rfl) rfl rfl (R.eql (hF.ev rfl) (hF.ev rfl)) fun a hF => ?_
      refine sv' hF (wn rfl) rfl rfl (R.pickT (hF.ev rfl) (hF.ev rfl)) fun a hF => ?_
      refine s0 ?_
      refine then_n (hK5 _ _ ?_)
      refine cD hF rfl (fun c1 => ?_) (fun c1 => ?_)
      ·
        refine wp_skip ?_
        refine then_n (hK4 _ _ ?_)
        refine wp_block ?_
        refine wp_region_lit ?_
        refine sv' hF (wn rfl) rfl rfl (R.move (hF.ev rfl)) fun a hF => ?_
        refine sv' hF (wn rfl) rfl rfl (R.subI (hF.ev rfl) (hF.ev rfl) (by omega)) fun a hF => ?_
        refine sv' hF (wn rfl) rfl rfl (R.assign (hF.ev rfl)) fun a hF => ?_
        refine s0 ?_
        refine blk_n ?_
        refine then_n (hKL1 (k - 1) _ _ ?_ ?_)
        · omega
        · exact ⟨k - 1, rfl, hF.sub ⟨rfl, (congrArg (fun z => some (Value.int .i64 z)) (by omega)), trivial⟩, hS.sel [] rfl rfl, by omega, by rw [val_take_pred xs k (by omega) (by omega) (by omega)]; exact hv⟩
      ·
        refine wp_exit (then_x (then_x (blk_hit ?_)))
        refine then_n (hK3 _ _ ?_)
        refine wp_seq_k fun K6 hK6 => ?_
        have hl : (bl (val xs)).length = k := by rw [take_is_bl hb k (by omega) hv (by omega), List.length_take]; omega
        refine wp_region_lit ?_
        refine sv' hF (wn rfl) rfl rfl (R.move (hF.ev rfl)) fun a hF => ?_
        refine sv' hF (wn rfl) rfl rfl (R.move (hF.ev rfl)) fun a hF => ?_
        refine sv' hF (wn rfl) rfl rfl (R.sliceHi Try.underlying64 (hF.ev rfl) (hF.ev rfl) (by omega) (by omega) _ sz3) fun a hF => ?_
        refine sv' hF (wn rfl) rfl rfl (R.assign (hF.ev rfl)) fun a hF => ?_
        refine s0 ?_
        refine then_n (hK6 _ _ ?_)
        refine wp_ret (hR _ _ _ _ _ hF (run_results Try.results105 (.t hF rfl (.nil))) ?_)
        exact ⟨_, [], rfl, ⟨by rw [hl]; rfl, rfl⟩, hS.none⟩
    ·
      refine sk hF (ws hF rfl rfl rfl rfl) rfl rfl fun a hF => ?_
      refine sk hF (ws hF rfl rfl rfl rfl) rfl rfl fun a hF => ?_
      refine sk hF (ws hF rfl rfl rfl rfl) rfl rfl fun a hF => ?_
      refine sk hF (ws hF rfl rfl rfl rfl) rfl rfl fun a hF => ?_
      refine sk hF (ws hF rfl rfl rfl rfl) rfl rfl fun a hF => ?_
      refine sk hF (ws hF rfl rfl rfl rfl) rfl rfl fun a hF => ?_
      refine sv' hF (wn rfl) rfl rfl (R.pickF (hF.ev rfl) (hF.ev rfl)) fun a hF => ?_
      refine s0 ?_
      refine then_n (hK5 _ _ ?_)
      refine cF hF rfl ?_
      refine wp_exit (then_x (then_x (blk_hit ?_)))
      refine then_n (hK3 _ _ ?_)
      refine wp_seq_k fun K7 hK7 => ?_
      have hl : (bl (val xs)).length = k := by rw [take_is_bl hb k (by omega) hv (by omega), List.length_take]; omega
      refine wp_region_lit ?_
      refine sv' hF (wn rfl) rfl rfl (R.move (hF.ev rfl)) fun a hF => ?_
      refine sv' hF (wn rfl) rfl rfl (R.move (hF.ev rfl)) fun a hF => ?_
      refine sv' hF (wn rfl) rfl rfl (R.sliceHi Try.underlying64 (hF.ev rfl) (hF.ev rfl) (by omega) (by omega) _ sz3) fun a hF => ?_
      refine sv' hF (wn rfl) rfl rfl (R.assign (hF.ev rfl)) fun a hF => ?_
      refine s0 ?_
      refine then_n (hK7 _ _ ?_)
      refine wp_ret (hR _ _ _ _ _ hF (run_results Try.results105 (.t hF rfl (.nil))) ?_)
      exact ⟨_, [], rfl, ⟨by rw [hl]; rfl, rfl⟩, hS.none⟩

theorem cut_bits (A : Option Addr) (x : Nat) (w : World) (hx : x < 115792089237316195423570985008687907853269984665640564039457584007913129639936) (hA : Rd w A (ints ((List.range 256).map (bit x)))) : Ret Try.prog 105 [.slice A 256 256] w [] (fun v s => v = .slice A (bl x).length 256 ∧ s = []) := by
  have h := cut_calls A 256 256 ((List.range 256).map (bit x)) w hA (by simp) (by omega) (by omega) (bits_range x 256)
  rw [val_bits, Nat.mod_eq_of_lt hx] at h
  exact h

theorem digits_calls (x : Nat) (w0 : World) (hx : x < 115792089237316195423570985008687907853269984665640564039457584007913129639936) : Ret Try.prog 75 [wv x] w0 [] (RetI (bl x)) := by
  refine fn_start Try.func75 rfl Try.ntmps75 rfl [(0, wv x)] ⟨rfl, trivial⟩ ?_
  intro Q a hP hF hR hN
  have hS := St.start w0
  refine wp_seq_k fun K1 hK1 => ?_
  refine wp_region_lit ?_
  refine so (wn rfl) (O.box rfl rfl hF (hF.ev rfl) rfl hS fun b1 a w hF hS => ?_)
  refine sv' hF (wn rfl) rfl rfl (R.assign (hF.ev rfl)) fun a hF => ?_
  refine s0 ?_
  refine then_n (hK1 _ _ ?_)
  refine wp_seq_k fun K2 hK2 => ?_
  refine wp_region_lit ?_
  refine so (wn rfl) (O.makeSlice rfl rfl hF Try.underlying64 inf3 rfl rfl (hF.ev rfl) (hF.ev rfl) (by omega) (by omega) (by omega) (by omega) hS fun b5 a w hF hS => ?_)
  rw [show zeros [Value.int .i64 0] (Int.toNat 256) = mki 256 (bit x) 0 from mki_0 256 _] at hS
  refine sv' hF (wn rfl) rfl rfl (R.assign (hF.ev rfl)) fun a hF => ?_
  refine s0 ?_
  refine then_n (hK2 _ _ ?_)
  refine wp_seq_k fun K3 hK3 => ?_
  refine wp_seq_k fun K4 hK4 => ?_
  refine wp_region_lit ?_
  refine sv' hF (wn rfl) rfl rfl (R.assign (hF.ev rfl)) fun a hF => ?_
  refine s0 ?_
  refine then_n (hK4 _ _ ?_)
  refine wp_block ?_
  refine wp_loop_N (fun g a w => ∃ (i : Nat), 256 - i = g ∧ Fr 24 [(1, .pointer (some ⟨b1, 0, none⟩)), (3, .slice (some ⟨b5, 0, none⟩) 256 256), (4, .int .i64 (i : Nat))] a ∧ St w0 [] [[(b5, Cel (mki 256 (bit x) i) 3)], [(b1, Cel (wc x) 29)]] w ∧ (i ≤ 256)) (256 - 0) ?_ ?_
  · exact ⟨0, rfl, hF.sub ⟨rfl, rfl, rfl, trivial⟩, hS.sel [0, 1] rfl rfl, by omega⟩
  · rintro KL1 g a w ⟨i, hg1, hF, hS, hi⟩ hKL1
    refine wp_seq_k fun K5 hK5 => ?_
    refine wp_seq_k fun K6 hK6 => ?_
    refine wp_region_lit ?_
    refine sv' hF (wn rfl) rfl rfl (R.move (hF.ev rfl)) fun a hF => ?_
    refine sv' hF (wn rfl) rfl rfl (R.lss (hF.ev rfl) (hF.ev rfl)) fun a hF => ?_
    refine s0 ?_
    refine then_n (hK6 _ _ ?_)
    refine cD hF rfl (fun c1 => ?_) (fun c1 => ?_)
    ·
      refine wp_skip ?_
      refine then_n (hK5 _ _ ?_)
      refine wp_seq_k fun K7 hK7 => ?_
      refine wp_block ?_
      refine wp_region_lit ?_
      refine sv' hF (wn rfl) rfl rfl (R.move (hF.ev rfl)) fun a hF => ?_
      refine sv' hF (wn rfl) rfl rfl (R.move (hF.ev rfl)) fun a hF => ?_
      refine sv' hF (wn rfl) rfl rfl (R.move (hF.ev rfl)) fun a hF => ?_
      refine sv' hF (wn rfl) rfl rfl (R.quoI (hF.ev rfl) (hF.ev rfl) (by omega)) fun a hF => ?_
      refine sv' hF (wn rfl) rfl rfl (R.indexA Try.underlying29 sz27 (hF.ev rfl) (hF.ev rfl) (by omega) (by omega)) fun a hF => ?_
      refine sv' hF (wn rfl) rfl rfl (R.load one27 (hF.ev rfl) hS (.t .h) (wc_div x i (by omega))) fun a hF => ?_
      refine sv' hF (wn rfl) rfl rfl (R.move (hF.ev rfl)) fun a hF => ?_
      refine sv' hF (wn rfl) rfl rfl (R.remI (hF.ev rfl) (hF.ev rfl) (by omega)) fun a hF => ?_
      refine sv' hF (wn rfl) rfl rfl (R.shrU (m := i % 64) (hF.ev rfl) (hF.ev rfl) (by omega)) fun a hF => ?_
      refine sv' hF (wn rfl) rfl rfl (R.convert Try.underlying27 Try.underlying3 (hF.ev rfl)) fun a hF => ?_
      refine sv' hF (wn rfl) rfl rfl (R.as (R.and (hF.ev rfl) (hF.ev rfl)) (by rw [and1_wrap, bit_dg])) fun a hF => ?_
      refine sv' hF (wn rfl) rfl rfl (R.indexS Try.underlying64 sz3 (hF.ev rfl) (hF.ev rfl) (by omega) (by omega)) fun a hF => ?_
      refine so (wn rfl) (O.store sz3 (hF.ev rfl) (hF.ev rfl) rfl rfl hS .h (mki_at 256 (bit x) i _ rfl) (by rw [length_mki]; omega) fun w hS => ?_)
      refine s0 ?_
      refine blk_n ?_
      refine then_n (hK7 _ _ ?_)
      refine wp_region_lit ?_
      refine sv' hF (wn rfl) rfl rfl (R.move (hF.ev rfl)) fun a hF => ?_
      refine sv' hF (wn rfl) rfl rfl (R.addI (hF.ev rfl) (hF.ev rfl) (by omega)) fun a hF => ?_
      refine sv' hF (wn rfl) rfl rfl (R.assign (hF.ev rfl)) fun a hF => ?_
      refine s0 ?_
      refine then_n (hKL1 (256 - (i + 1)) _ _ ?_ ?_)
      · omega
      · exact ⟨i + 1, rfl, hF.sub ⟨rfl, rfl, rfl, trivial⟩, hS.sel [0, 1] rfl rfl, by omega⟩
    ·
      obtain rfl : i = 256 := by omega
      rw [mki_all] at hS
      refine wp_exit (then_x (then_x (blk_hit ?_)))
      refine then_n (hK3 _ _ ?_)
      refine wp_seq_k fun K8 hK8 => ?_
      refine wp_region_lit ?_
      refine sv' hF (wn rfl) rfl rfl (R.move (hF.ev rfl)) fun a hF => ?_
      refine so (wn rfl) (O.call rfl rfl hF ent105 (hF.evs rfl) hS (cut_bits _ x w hx (Rd.own0 hS .h)) fun v s23 a w hR hF hS => ?_)
      obtain ⟨rfl, rfl⟩ := hR
      refine sv' hF (wn rfl) rfl rfl (R.assign (hF.ev rfl)) fun a hF => ?_
      refine s0 ?_
      refine then_n (hK8 _ _ ?_)
      refine wp_ret (hR _ _ _ _ _ hF (run_results Try.results75 (.t hF rfl (.nil))) ?_)
      exact ⟨_, _, rfl, ⟨_, _, rfl, own_bits x _ hx⟩, hS.one (.t .h)⟩

end Go.Proofs.Ythgecfjpacebeaa
