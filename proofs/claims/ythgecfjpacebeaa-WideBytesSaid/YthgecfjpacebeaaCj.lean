/- The calls of wide.Bytes, fill, grow, block by block. -/
import Derived.Test.YthgecfjpacebeaaCi
namespace Go.Proofs.Ythgecfjpacebeaa
open Go Go.Fw Go.RowKit
attribute [local irreducible] Go.Oper.wp Go.Code.wp Go.wpList Go.Fw.WL Go.Calls
theorem bytes32_calls (x : Nat) (w0 : World) : Ret Try.prog 65 [wv x] w0 [] (fun v s => ∃ b, v = .slice (some ⟨b, 0, none⟩) 32 32 ∧ s = [(b, Cel (byts (wb x 32)) 5)]) := by
  refine fn_start Try.func65 rfl Try.ntmps65 rfl [(0, wv x)] ⟨rfl, trivial⟩ ?_
  intro Q a hP hF hR hN
  have hS := St.start w0
  refine wp_seq_k fun K1 hK1 => ?_
  refine wp_region_lit ?_
  refine so (wn rfl) (O.box rfl rfl hF (hF.ev rfl) rfl hS fun b1 a w hF hS => ?_)
  refine sv' hF (wn rfl) rfl rfl (R.assign (hF.ev rfl)) fun a hF => ?_
  refine s0 ?_
  refine then_n (hK1 _ _ ?_)
  refine wp_seq_k fun K2 hK2 => ?_
  refine wp_region_lit ?_
  refine so (wn rfl) (O.makeSlice rfl rfl hF Try.underlying82 inf5 rfl rfl (hF.ev rfl) (hF.ev rfl) (by omega) (by omega) (by omega) (by omega) hS fun b6 a w hF hS => ?_)
  refine sv' hF (wn rfl) rfl rfl (R.assign (hF.ev rfl)) fun a hF => ?_
  refine s0 ?_
  refine then_n (hK2 _ _ ?_)
  refine wp_seq_k fun K3 hK3 => ?_
  refine wp_seq_k fun K4 hK4 => ?_
  refine wp_region_lit ?_
  refine sv' hF (wn rfl) rfl rfl (R.assign (hF.ev rfl)) fun a hF => ?_
  refine s0 ?_
  refine then_n (hK4 _ _ ?_)
  refine wp_block ?_
  refine wp_loop_N (fun g a w => ∃ (k : Nat), k = g ∧ Fr 25 [(1, .pointer (some ⟨b1, 0, none⟩)), (3, .slice (some ⟨b6, 0, none⟩) ((4 - k) * 8) 32), (4, .int .i64 ((k : Nat) - 1 : Int))] a ∧ St w0 [] [[(b1, Cel (wc x) 29)], [(b6, Cel (byts (fb x ((4 - k) * 8))) 5)]] w ∧ (k ≤ 4)) (4) ?_ ?_
  · exact ⟨4, rfl, hF.sub ⟨rfl, rfl, rfl, trivial⟩, hS.sel [1, 0] rfl (by rw [show (4 - 4) * 8 = 0 from rfl, ← fb_0]; rfl), by omega⟩
  · rintro KL1 g a w ⟨k, hg1, hF, hS, hk⟩ hKL1
    refine wp_seq_k fun K5 hK5 => ?_
    refine wp_seq_k fun K6 hK6 => ?_
    refine wp_region_lit ?_
    refine sv' hF (wn rfl) rfl rfl (R.move (hF.ev rfl)) fun a hF => ?_
    refine sv' hF (wn rfl) rfl rfl (R.geq (hF.ev rfl) (hF.ev rfl)) fun a hF => ?_
    refine s0 ?_
    refine then_n (hK6 _ _ ?_)
    refine cD hF rfl (fun c1 => ?_) (fun c1 => ?_)
    ·
      refine wp_skip ?_
      refine then_n (hK5 _ _ ?_)
      refine wp_seq_k fun K7 hK7 => ?_
      refine wp_block ?_
      refine wp_seq_k fun K8 hK8 => ?_
      refine wp_region_lit ?_
      refine sv' hF (wn rfl) rfl rfl (R.assign (hF.ev rfl)) fun a hF => ?_
      refine s0 ?_
      refine then_n (hK8 _ _ ?_)
      refine wp_block ?_
      refine wp_loop_N (fun g a w => ∃ (q : Nat), q = g ∧ Fr 25 [(1, .pointer (some ⟨b1, 0, none⟩)), (3, .slice (some ⟨b6, 0, none⟩) ((4 - k) * 8 + (8 - q)) 32), (4, .int .i64 ((k : Nat) - 1 : Int)), (5, .int .i64 (8 * (q : Nat) - 8 : Int))] a ∧ St w0 [] [[(b1, Cel (wc x) 29)], [(b6, Cel (byts (fb x ((4 - k) * 8 + (8 - q)))) 5)]] w ∧ (q ≤ 8)) (8) ?_ ?_
      · exact ⟨8, rfl, hF.sub ⟨rfl, rfl, rfl, rfl, trivial⟩, hS.sel [0, 1] rfl rfl, by omega⟩
      · rintro KL2 g a w ⟨q, hg2, hF, hS, hq⟩ hKL2
        refine wp_seq_k fun K9 hK9 => ?_
        refine wp_seq_k fun K10 hK10 => ?_
        refine wp_region_lit ?_
        refine sv' hF (wn rfl) rfl rfl (R.move (hF.ev rfl)) fun a hF => ?_
        refine sv' hF (wn rfl) rfl rfl (R.geq (hF.ev rfl) (hF.ev rfl)) fun a hF => ?_
        refine s0 ?_
        refine then_n (hK10 _ _ ?_)
        refine cD hF rfl (fun c2 => ?_) (fun c2 => ?_)
        ·
          refine wp_skip ?_
          refine then_n (hK9 _ _ ?_)
          refine wp_seq_k fun K11 hK11 => ?_
          refine wp_block ?_
          refine wp_region_lit ?_
          refine sv' hF (wn rfl) rfl rfl (R.move (hF.ev rfl)) fun a hF => ?_
          refine sv' hF (wn rfl) rfl rfl (R.move (hF.ev rfl)) fun a hF => ?_
          refine sv' hF (wn rfl) rfl rfl (R.indexA Try.underlying29 sz27 (hF.ev rfl) (hF.ev rfl) (by omega) (by omega)) fun a hF => ?_
          refine sv' hF (wn rfl) rfl rfl (R.load one27 (hF.ev rfl) hS .h (wc_dn x k (by omega) hk)) fun a hF => ?_
          refine sv' hF (wn rfl) rfl rfl (R.move (hF.ev rfl)) fun a hF => ?_
          refine sv' hF (wn rfl) rfl rfl (R.shrU (m := 8 * (q - 1)) (hF.ev rfl) ((hF.ev rfl).trans (congrArg (Value.int .i64) (by omega))) (by omega)) fun a hF => ?_
          refine sv' hF (wn rfl) rfl rfl (R.as (u := .int .u8 ((by8 x (8 * (k - 1) + (q - 1)) : Nat) : Int)) (R.convB Try.underlying27 Try.underlying5 (hF.ev rfl)) (congrArg (fun z : Nat => Value.int .u8 (z : Int)) (dg_by8 x (k - 1) (q - 1) (by omega)))) fun a hF => ?_
          refine so (wn rfl) (O.buildSlice (l := [_]) rfl rfl hF Try.underlying82 inf5 rfl rfl (hF.evp rfl) (by decide) rfl hS fun b22 a w hF hS => ?_)
          refine so (wn rfl) (O.appendR rfl rfl hF Try.underlying82 inf5 rfl (hF.ev rfl) (hF.ev rfl) hS (Rd.own0 hS .h) rfl (by simp [Value.oneCell']) (.t (.t .h)) (fb_spl x ((4 - k) * 8 + (8 - q)) _ (by omega) (by congr 1; omega)) (by omega) (by rw [length_byts, length_fb x _ (by omega)]; simp only [List.length_singleton]; omega) fun a w hF hS => ?_)
          refine sv' hF (wn rfl) rfl rfl (R.assign (hF.ev rfl)) fun a hF => ?_
          refine s0 ?_
          refine blk_n ?_
          refine then_n (hK11 _ _ ?_)
          refine wp_region_lit ?_
          refine sv' hF (wn rfl) rfl rfl (R.move (hF.ev rfl)) fun a hF => ?_
          refine sv' hF (wn rfl) rfl rfl (R.subI (hF.ev rfl) (hF.ev rfl) (by omega)) fun a hF => ?_
          refine sv' hF (wn rfl) rfl rfl (R.assign (hF.ev rfl)) fun a hF => ?_
          refine s0 ?_
          refine then_n (hKL2 (q - 1) _ _ ?_ ?_)
          · omega
          · exact ⟨q - 1, rfl, hF.sub ⟨rfl, (by rw [show (4 - k) * 8 + (8 - (q - 1)) = (4 - k) * 8 + (8 - q) + 1 by omega]; rfl), rfl, (congrArg (fun z => some (Value.int .i64 z)) (by omega)), trivial⟩, hS.sel [1, 2] rfl (by rw [show (4 - k) * 8 + (8 - (q - 1)) = (4 - k) * 8 + (8 - q) + 1 by omega]; rfl), by omega⟩
        ·
          obtain rfl : q = 0 := by omega
          refine wp_exit (then_x (then_x (blk_hit ?_)))
          refine blk_n ?_
          refine then_n (hK7 _ _ ?_)
          refine wp_region_lit ?_
          refine sv' hF (wn rfl) rfl rfl (R.move (hF.ev rfl)) fun a hF => ?_
          refine sv' hF (wn rfl) rfl rfl (R.subI (hF.ev rfl) (hF.ev rfl) (by omega)) fun a hF => ?_
          refine sv' hF (wn rfl) rfl rfl (R.assign (hF.ev rfl)) fun a hF => ?_
          refine s0 ?_
          refine then_n (hKL1 (k - 1) _ _ ?_ ?_)
          · omega
          · exact ⟨k - 1, rfl, hF.sub ⟨rfl, (by rw [show (4 - (k - 1)) * 8 = (4 - k) * 8 + (8 - 0) by omega]; rfl), (congrArg (fun z => some (Value.int .i64 z)) (by omega)), trivial⟩, hS.sel [0, 1] rfl (by rw [show (4 - (k - 1)) * 8 = (4 - k) * 8 + (8 - 0) by omega]; rfl), by omega⟩
    ·
      obtain rfl : k = 0 := by omega
      rw [show (4 - 0) * 8 = 32 from rfl, fb_32] at hS
      refine wp_exit (then_x (then_x (blk_hit ?_)))
      refine then_n (hK3 _ _ ?_)
      refine wp_seq_k fun K12 hK12 => ?_
      refine wp_region_lit ?_
      refine sv' hF (wn rfl) rfl rfl (R.move (hF.ev rfl)) fun a hF => ?_
      refine sv' hF (wn rfl) rfl rfl (R.assign (hF.ev rfl)) fun a hF => ?_
      refine s0 ?_
      refine then_n (hK12 _ _ ?_)
      refine wp_ret (hR _ _ _ _ _ hF (run_results Try.results65 (.t hF rfl (.nil))) ?_)
      exact ⟨_, _, rfl, ⟨b6, rfl, rfl⟩, hS.one (.t .h)⟩

theorem rbytes32_calls (x : Nat) (w : World) : Ret Try.prog 66 [wv x] w [] (fun v s => ∃ A c, v = .slice A 32 c ∧ OwnS s A 32 c (byts (wb x 32)) 5 1) := by
  have h := rbytes_calls x w
  unfold RetB at h
  rw [length_wb] at h
  exact h

theorem fill_calls (b n c : Nat) (xs : List Nat) (rest : List Value) (mark : Nat) (w0 : World) (hO : Own w0 [(b, Cel (byts xs ++ rest) 5)]) (hn : xs.length = n) (hnc : n ≤ 9223372036854775807) : Ret Try.prog 68 [.slice (some ⟨b, 0, none⟩) n c, .int .u8 ((mark : Nat) : Int)] w0 (List.map (·.1) ([(b, Cel (byts xs ++ rest) 5)] : Seg)) (fun _ z => z = [(b, Cel (byts (List.replicate xs.length mark) ++ rest) 5)]) := by
  refine fn_start Try.func68 rfl Try.ntmps68 rfl [(0, .slice (some ⟨b, 0, none⟩) n c), (1, .int .u8 ((mark : Nat) : Int))] ⟨rfl, rfl, trivial⟩ ?_
  intro Q a hP hF hR hN
  have hS := St.enter hO
  refine wp_seq_k fun K1 hK1 => ?_
  refine wp_region_lit ?_
  refine sv' hF (wn rfl) rfl rfl (R.assign (hF.ev rfl)) fun a hF => ?_
  refine s0 ?_
  refine then_n (hK1 _ _ ?_)
  refine wp_block ?_
  refine wp_loop_N (fun g a w => ∃ (j : Nat), n - j = g ∧ Fr 15 [(0, .slice (some ⟨b, 0, none⟩) n c), (1, .int .u8 ((mark : Nat) : Int)), (4, .int .i64 ((j : Nat) : Int))] a ∧ St w0 [b] [[(b, Cel (byts (fm xs mark j) ++ rest) 5)]] w ∧ (j ≤ n)) (n - 0) ?_ ?_
  · exact ⟨0, rfl, hF.sub ⟨rfl, rfl, rfl, trivial⟩, hS.sel [0] rfl rfl, by omega⟩
  · rintro KL1 g a w ⟨j, hg1, hF, hS, hj⟩ hKL1
    refine wp_seq_k fun K2 hK2 => ?_
    refine wp_seq_k fun K3 hK3 => ?_
    refine wp_region_lit ?_
    refine sv' hF (wn rfl) rfl rfl (R.move (hF.ev rfl)) fun a hF => ?_
    refine sv' hF (wn rfl) rfl rfl (R.move (hF.ev rfl)) fun a hF => ?_
    refine sv' hF (wn rfl) rfl rfl (R.len Try.underlying82 (hF.ev rfl)) fun a hF => ?_
    refine sv' hF (wn rfl) rfl rfl (R.lss (hF.ev rfl) (hF.ev rfl)) fun a hF => ?_
    refine s0 ?_
    refine then_n (hK3 _ _ ?_)
    refine cD hF rfl (fun c1 => ?_) (fun c1 => ?_)
    ·
      refine wp_skip ?_
      refine then_n (hK2 _ _ ?_)
      refine wp_seq_k fun K4 hK4 => ?_
      refine wp_block ?_
      refine wp_region_lit ?_
      refine sv' hF (wn rfl) rfl rfl (R.move (hF.ev rfl)) fun a hF => ?_
      refine sv' hF (wn rfl) rfl rfl (R.move (hF.ev rfl)) fun a hF => ?_
      refine sv' hF (wn rfl) rfl rfl (R.move (hF.ev rfl)) fun a hF => ?_
      refine sv' hF (wn rfl) rfl rfl (R.indexS Try.underlying82 sz5 (hF.ev rfl) (hF.ev rfl) (by omega) (by omega)) fun a hF => ?_
      refine so (wn rfl) (O.store sz5 (hF.ev rfl) (hF.ev rfl) rfl rfl hS .h (fm_set xs rest mark j _ (by omega) (by omega)) (by rw [List.length_append, length_byts, length_fm _ _ _ (by omega)]; omega) fun w hS => ?_)
      refine s0 ?_
      refine blk_n ?_
      refine then_n (hK4 _ _ ?_)
      refine wp_region_lit ?_
      refine sv' hF (wn rfl) rfl rfl (R.move (hF.ev rfl)) fun a hF => ?_
      refine sv' hF (wn rfl) rfl rfl (R.addI (hF.ev rfl) (hF.ev rfl) (by omega)) fun a hF => ?_
      refine sv' hF (wn rfl) rfl rfl (R.assign (hF.ev rfl)) fun a hF => ?_
      refine s0 ?_
      refine then_n (hKL1 (n - (j + 1)) _ _ ?_ ?_)
      · omega
      · exact ⟨j + 1, rfl, hF.sub ⟨rfl, rfl, rfl, trivial⟩, hS.sel [0] rfl rfl, by omega⟩
    ·
      obtain rfl : j = n := by omega
      rw [← hn, fm_all] at hS
      refine wp_exit (then_x (then_x (blk_hit ?_)))
      refine (hN _ _ _ _ _ hF (run_results Try.results68 (.nil)) ?_)
      exact ⟨_, _, rfl, rfl, hS.one .h⟩

theorem growE_calls (A : Option Addr) (n cnt mark : Nat) (xs : List Nat) (w0 : World) (hA : Rd w0 A (byts xs)) (h0 : 0 < n) (h1 : 0 < cnt) (hn : xs.length = n) (hb : n + cnt ≤ 140737488355328) : Ret Try.prog 69 [.slice A n n, .int .i64 ((cnt : Nat) : Int), .int .u8 ((mark : Nat) : Int)] w0 [] (fun v s => ∃ A1 c1, v = .slice A1 (n + cnt) c1 ∧ OwnS s A1 (n + cnt) c1 (byts (xs ++ List.replicate cnt mark)) 5 1) := by
  refine fn_start Try.func69 rfl Try.ntmps69 rfl [(0, .slice A n n), (1, .int .i64 ((cnt : Nat) : Int)), (2, .int .u8 ((mark : Nat) : Int))] ⟨rfl, rfl, rfl, trivial⟩ ?_
  intro Q a hP hF hR hN
  have hS := St.start w0
  refine wp_seq_k fun K1 hK1 => ?_
  refine wp_region_lit ?_
  refine sv' hF (wn rfl) rfl rfl (R.assign (hF.ev rfl)) fun a hF => ?_
  refine s0 ?_
  refine then_n (hK1 _ _ ?_)
  refine wp_seq_k fun K2 hK2 => ?_
  refine wp_seq_k fun K3 hK3 => ?_
  have hS := hS.cons0
  refine wp_region_lit ?_
  refine sv' hF (wn rfl) rfl rfl (R.assign (hF.ev rfl)) fun a hF => ?_
  refine s0 ?_
  refine then_n (hK3 _ _ ?_)
  refine wp_block ?_
  refine wp_loop_N (fun g a w => ∃ (j : Nat) (A2 : Option Addr) (c2 : Nat) (s2 : Seg), cnt - j = g ∧ Fr 18 [(0, .slice A2 (n + j) c2), (1, .int .i64 ((cnt : Nat) : Int)), (2, .int .u8 ((mark : Nat) : Int)), (7, .int .i64 ((j : Nat) : Int))] a ∧ St w0 [] [s2] w ∧ (j ≤ cnt) ∧ ((OwnS s2 A2 (n + j) c2 (byts (xs ++ List.replicate j mark)) 5 1) ∨ (j = 0 ∧ A2 = A ∧ c2 = n ∧ s2 = []))) (cnt - 0) ?_ ?_
  · exact ⟨0, A, n, [], rfl, hF.sub ⟨rfl, rfl, rfl, rfl, trivial⟩, hS.sel [0] rfl rfl, by omega, .inr ⟨rfl, rfl, rfl, rfl⟩⟩
  · rintro KL1 g a w ⟨j, A2, c2, s2, hg1, hF, hS, hj, hI⟩ hKL1
    refine wp_seq_k fun K4 hK4 => ?_
    refine wp_seq_k fun K5 hK5 => ?_
    refine wp_region_lit ?_
    refine sv' hF (wn rfl) rfl rfl (R.move (hF.ev rfl)) fun a hF => ?_
    refine sv' hF (wn rfl) rfl rfl (R.move (hF.ev rfl)) fun a hF => ?_
    refine sv' hF (wn rfl) rfl rfl (R.lss (hF.ev rfl) (hF.ev rfl)) fun a hF => ?_
    refine s0 ?_
    refine then_n (hK5 _ _ ?_)
    refine cD hF rfl (fun c1 => ?_) (fun c1 => ?_)
    ·
      have hE : OwnE w0 s2 A2 (n + j) c2 (byts (xs ++ List.replicate j mark)) 5 1 := by (rcases hI with h | ⟨rfl, rfl, rfl, rfl⟩; exact .inl h; rw [List.replicate_zero, List.append_nil]; exact .inr ⟨rfl, rfl, by rw [length_byts, Nat.mul_one]; exact hn, by rw [length_byts]; omega, hA⟩)
      refine wp_skip ?_
      refine then_n (hK4 _ _ ?_)
      refine wp_seq_k fun K6 hK6 => ?_
      refine wp_block ?_
      refine wp_region_lit ?_
      refine sv' hF (wn rfl) rfl rfl (R.move (hF.ev rfl)) fun a hF => ?_
      refine sv' hF (wn rfl) rfl rfl (R.move (hF.ev rfl)) fun a hF => ?_
      refine so (wn rfl) (O.buildSlice (l := [_]) rfl rfl hF Try.underlying82 inf5 rfl rfl (hF.evp rfl) (by decide) rfl hS fun b15 a w hF hS => ?_)
      refine so (wn rfl) (O.appendE rfl rfl hF Try.underlying82 inf5 rfl rfl (by decide) (hF.ev rfl) (hF.ev rfl) hS hE (fun _ => (.t .h)) (Rd.own0 hS .h) rfl (by decide) (by simp [Value.oneCell']) (by unfold maxLen; omega) (by omega) fun A16 c16 s16 a w hO16 hF hS => ?_)
      refine sv' hF (wn rfl) rfl rfl (R.assign (hF.ev rfl)) fun a hF => ?_
      refine s0 ?_
      refine blk_n ?_
      refine then_n (hK6 _ _ ?_)
      refine wp_region_lit ?_
      refine sv' hF (wn rfl) rfl rfl (R.move (hF.ev rfl)) fun a hF => ?_
      refine sv' hF (wn rfl) rfl rfl (R.addI (hF.ev rfl) (hF.ev rfl) (by omega)) fun a hF => ?_
      refine sv' hF (wn rfl) rfl rfl (R.assign (hF.ev rfl)) fun a hF => ?_
      refine s0 ?_
      refine then_n (hKL1 (cnt - (j + 1)) _ _ ?_ ?_)
      · omega
      · exact ⟨j + 1, A16, c16, s16, rfl, hF.sub ⟨rfl, rfl, rfl, rfl, trivial⟩, hS.sel [1] rfl rfl, by omega, .inl (by rw [← rep_snoc, ← byts_snoc]; exact hO16)⟩
    ·
      obtain rfl : j = cnt := by omega
      have hO := hI.resolve_right (fun h => by omega)
      refine wp_exit (then_x (then_x (blk_hit ?_)))
      refine then_n (hK2 _ _ ?_)
      refine wp_seq_k fun K7 hK7 => ?_
      refine wp_region_lit ?_
      refine sv' hF (wn rfl) rfl rfl (R.move (hF.ev rfl)) fun a hF => ?_
      refine sv' hF (wn rfl) rfl rfl (R.assign (hF.ev rfl)) fun a hF => ?_
      refine s0 ?_
      refine then_n (hK7 _ _ ?_)
      refine wp_ret (hR _ _ _ _ _ hF (run_results Try.results69 (.t hF rfl (.nil))) ?_)
      exact ⟨_, _, rfl, ⟨_, _, rfl, hO⟩, hS.one .h⟩

theorem growO_calls (A : Option Addr) (n c cnt mark : Nat) (xs : List Nat) (s : Seg) (w0 : World) (hI : OwnS s A n c (byts xs) 5 1) (hO : Own w0 s) (hb : n + cnt ≤ 140737488355328) : Ret Try.prog 69 [.slice A n c, .int .i64 ((cnt : Nat) : Int), .int .u8 ((mark : Nat) : Int)] w0 (s.map (·.1)) (fun v s => ∃ A1 c1, v = .slice A1 (n + cnt) c1 ∧ OwnS s A1 (n + cnt) c1 (byts (xs ++ List.replicate cnt mark)) 5 1) := by
  refine fn_start Try.func69 rfl Try.ntmps69 rfl [(0, .slice A n c), (1, .int .i64 ((cnt : Nat) : Int)), (2, .int .u8 ((mark : Nat) : Int))] ⟨rfl, rfl, rfl, trivial⟩ ?_
  intro Q a hP hF hR hN
  have hS := St.enter hO
  refine wp_seq_k fun K1 hK1 => ?_
  refine wp_region_lit ?_
  refine sv' hF (wn rfl) rfl rfl (R.assign (hF.ev rfl)) fun a hF => ?_
  refine s0 ?_
  refine then_n (hK1 _ _ ?_)
  refine wp_seq_k fun K2 hK2 => ?_
  refine wp_seq_k fun K3 hK3 => ?_
  refine wp_region_lit ?_
  refine sv' hF (wn rfl) rfl rfl (R.assign (hF.ev rfl)) fun a hF => ?_
  refine s0 ?_
  refine then_n (hK3 _ _ ?_)
  refine wp_block ?_
  refine wp_loop_N (fun g a w => ∃ (j : Nat) (A2 : Option Addr) (c2 : Nat) (s2 : Seg), cnt - j = g ∧ Fr 18 [(0, .slice A2 (n + j) c2), (1, .int .i64 ((cnt : Nat) : Int)), (2, .int .u8 ((mark : Nat) : Int)), (7, .int .i64 ((j : Nat) : Int))] a ∧ St w0 (s.map (·.1)) [s2] w ∧ (j ≤ cnt) ∧ (OwnS s2 A2 (n + j) c2 (byts (xs ++ List.replicate j mark)) 5 1)) (cnt - 0) ?_ ?_
  · exact ⟨0, A, c, s, rfl, hF.sub ⟨rfl, rfl, rfl, rfl, trivial⟩, hS.sel [0] rfl rfl, by omega, by rw [List.replicate_zero, List.append_nil]; exact hI⟩
  · rintro KL1 g a w ⟨j, A2, c2, s2, hg1, hF, hS, hj, hI⟩ hKL1
    refine wp_seq_k fun K4 hK4 => ?_
    refine wp_seq_k fun K5 hK5 => ?_
    refine wp_region_lit ?_
    refine sv' hF (wn rfl) rfl rfl (R.move (hF.ev rfl)) fun a hF => ?_
    refine sv' hF (wn rfl) rfl rfl (R.move (hF.ev rfl)) fun a hF => ?_
    refine sv' hF (wn rfl) rfl rfl (R.lss (hF.ev rfl) (hF.ev rfl)) fun a hF => ?_
    refine s0 ?_
    refine then_n (hK5 _ _ ?_)
    refine cD hF rfl (fun c1 => ?_) (fun c1 => ?_)
    ·
      refine wp_skip ?_
      refine then_n (hK4 _ _ ?_)
      refine wp_seq_k fun K6 hK6 => ?_
      refine wp_block ?_
      refine wp_region_lit ?_
      refine sv' hF (wn rfl) rfl rfl (R.move (hF.ev rfl)) fun a hF => ?_
      refine sv' hF (wn rfl) rfl rfl (R.move (hF.ev rfl)) fun a hF => ?_
      refine so (wn rfl) (O.buildSlice (l := [_]) rfl rfl hF Try.underlying82 inf5 rfl rfl (hF.evp rfl) (by decide) rfl hS fun b15 a w hF hS => ?_)
      refine so (wn rfl) (O.append rfl rfl hF Try.underlying82 inf5 rfl rfl (by decide) (hF.ev rfl) (hF.ev rfl) hS hI (fun _ => (.t .h)) (Rd.own0 hS .h) rfl (by simp [Value.oneCell']) (by unfold maxLen; omega) (by omega) fun A16 c16 s16 a w hO16 hF hS => ?_)
      refine sv' hF (wn rfl) rfl rfl (R.assign (hF.ev rfl)) fun a hF => ?_
      refine s0 ?_
      refine blk_n ?_
      refine then_n (hK6 _ _ ?_)
      refine wp_region_lit ?_
      refine sv' hF (wn rfl) rfl rfl (R.move (hF.ev rfl)) fun a hF => ?_
      refine sv' hF (wn rfl) rfl rfl (R.addI (hF.ev rfl) (hF.ev rfl) (by omega)) fun a hF => ?_
      refine sv' hF (wn rfl) rfl rfl (R.assign (hF.ev rfl)) fun a hF => ?_
      refine s0 ?_
      refine then_n (hKL1 (cnt - (j + 1)) _ _ ?_ ?_)
      · omega
      · exact ⟨j + 1, A16, c16, s16, rfl, hF.sub ⟨rfl, rfl, rfl, rfl, trivial⟩, hS.sel [1] rfl rfl, by omega, by rw [← rep_snoc, ← byts_snoc]; exact hO16⟩
    ·
      obtain rfl : j = cnt := by omega
      refine wp_exit (then_x (then_x (blk_hit ?_)))
      refine then_n (hK2 _ _ ?_)
      refine wp_seq_k fun K7 hK7 => ?_
      refine wp_region_lit ?_
      refine sv' hF (wn rfl) rfl rfl (R.move (hF.ev rfl)) fun a hF => ?_
      refine sv' hF (wn rfl) rfl rfl (R.assign (hF.ev rfl)) fun a hF => ?_
      refine s0 ?_
      refine then_n (hK7 _ _ ?_)
      refine wp_ret (hR _ _ _ _ _ hF (run_results Try.results69 (.t hF rfl (.nil))) ?_)
      exact ⟨_, _, rfl, ⟨_, _, rfl, hI⟩, hS.one .h⟩

end Go.Proofs.Ythgecfjpacebeaa
