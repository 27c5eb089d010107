/- The calls of Read and Sum, of the reference's Read and Sum. -/
import Derived.Test.YthgecfjpacebeaaCe
namespace Go.Proofs.Ythgecfjpacebeaa
open Go Go.Fw Go.RowKit
attribute [local irreducible] Go.Oper.wp Go.Code.wp Go.wpList Go.Fw.WL Go.Calls
theorem byt_getD {xs : List Nat} (h : Byt xs) (i : Nat) : xs.getD i 0 < 256 := by
  by_cases hi : i < xs.length
  · rw [List.getD_eq_getElem?_getD, List.getElem?_eq_getElem hi]; exact h _ (List.getElem_mem hi)
  · rw [List.getD_eq_getElem?_getD, List.getElem?_eq_none (by omega)]; decide
theorem byts_at {xs : List Nat} {i off : Nat} (h : i < xs.length) (ho : off = i) : (byts xs)[off]? = some (.int .u8 ((xs.getD i 0 : Nat) : Int)) := ho ▸ byts_get xs i h
theorem wc_orb {V d i off : Nat} (hV : V < 2 ^ (8 * i)) (hd : d < 256) (ho : off = i / 8) : (wc V).set off (.int .u64 ((dg V (i / 8) ||| (d * 2 ^ (8 * (i % 8)) % 18446744073709551616) : Nat) : Int)) = wc (d * 2 ^ (8 * i) + V) := by
  rw [← cells4_dg, ← cells4_dg, cells4_set (f := dg V) (k := i / 8) (v := dg V (i / 8) ||| (d * 2 ^ (8 * (i % 8)) % 18446744073709551616)) ho]
  exact cells4_congr fun k _ => dg_orb hV hd k

theorem read_calls (A : Option Addr) (n c : Nat) (xs : List Nat) (w0 : World) (hA : Rd w0 A (byts xs)) (hn : xs.length = n) (hB : Byt xs) : Ret Try.prog 70 [.slice A n c] w0 [] (fun v s => v = readW xs ∧ s = []) := by
  refine fn_start Try.func70 rfl Try.ntmps70 rfl [(0, .slice A n c)] ⟨rfl, trivial⟩ ?_
  intro Q a hP hF hR hN
  have hS := St.start w0
  refine wp_seq_k fun K1 hK1 => ?_
  refine wp_region_lit ?_
  refine so (wn rfl) (O.alloc rfl rfl hF ze29 rfl hS fun b2 a w hF hS => ?_)
  refine sv' hF (wn rfl) rfl rfl (R.assign (hF.ev rfl)) fun a hF => ?_
  refine s0 ?_
  refine then_n (hK1 _ _ ?_)
  refine wp_seq_k fun K2 hK2 => ?_
  refine wp_region_lit ?_
  refine so (wn rfl) (O.alloc rfl rfl hF ze29 rfl hS fun b4 a w hF hS => ?_)
  refine s0 ?_
  refine then_n (hK2 _ _ ?_)
  refine wp_seq_k fun K3 hK3 => ?_
  refine wp_seq_k fun K4 hK4 => ?_
  refine wp_region_lit ?_
  refine sv' hF (wn rfl) rfl rfl (R.move (hF.ev rfl)) fun a hF => ?_
  refine sv' hF (wn rfl) rfl rfl (R.len Try.underlying82 (hF.ev rfl)) fun a hF => ?_
  refine sv' hF (wn rfl) rfl rfl (R.neq (hF.ev rfl) (hF.ev rfl)) fun a hF => ?_
  refine s0 ?_
  refine then_n (hK4 _ _ ?_)
  refine cD hF rfl (fun z => ?_) (fun z => ?_)
  ·
    refine wp_seq_k fun K5 hK5 => ?_
    refine wp_region_lit ?_
    refine sv' hF (wn rfl) rfl rfl (R.loadW agg29 (hF.ev rfl) hS .h sz29 (rfl)) fun a hF => ?_
    refine so (wn rfl) (O.storeW sz29 (hF.ev rfl) (hF.ev rfl) (rfl) rfl (by simp [Value.oneCell']) hS (.t .h) (rfl) fun w hS => ?_)
    refine sv' hF (wn rfl) rfl rfl (R.assign (hF.ev rfl)) fun a hF => ?_
    refine s0 ?_
    refine then_n (hK5 _ _ ?_)
    refine wp_ret (then_r (hR _ _ _ _ _ hF (run_results Try.results70 (.cw hF rfl agg29 hS (.t .h) sz29 (rfl) (.t hF rfl (.nil)))) ?_))
    exact ⟨_, [], rfl, ⟨by rw [readW, readN, if_neg (show ¬ xs.length = 32 by omega), if_neg (show ¬ xs.length = 32 by omega)]; rfl, rfl⟩, hS.none⟩
  ·
    have h32 : xs.length = 32 := by omega
    refine wp_skip ?_
    refine then_n (hK3 _ _ ?_)
    refine wp_seq_k fun K6 hK6 => ?_
    refine wp_seq_k fun K7 hK7 => ?_
    refine wp_region_lit ?_
    refine sv' hF (wn rfl) rfl rfl (R.move (hF.ev rfl)) fun a hF => ?_
    refine sv' hF (wn rfl) rfl rfl (R.len Try.underlying82 (hF.ev rfl)) fun a hF => ?_
    refine sv' hF (wn rfl) rfl rfl (R.move (hF.ev rfl)) fun a hF => ?_
    refine s0 ?_
    refine then_n (hK7 _ _ ?_)
    refine wp_block ?_
    refine wp_loop_N (fun g a w => ∃ (i : Nat), 32 - i = g ∧ Fr 33 [(2, .pointer (some ⟨b2, 0, none⟩)), (4, .pointer (some ⟨b4, 0, none⟩)), (11, .slice A n c), (12, .int .i64 (n : Nat)), (13, .int .i64 ((i : Nat) : Int))] a ∧ St w0 [] [[(b4, Cel (cells4 (gp xs i)) 29)], [(b2, Cel (wc 0) 29)]] w ∧ (i ≤ 32)) (32 - 0) ?_ ?_
    · exact ⟨0, rfl, hF.sub ⟨rfl, rfl, rfl, rfl, rfl, trivial⟩, hS.sel [0, 1] rfl (by rw [gp_0]; rfl), by omega⟩
    · rintro KL1 g a w ⟨i, hg1, hF, hS, hi⟩ hKL1
      refine wp_seq_k fun K8 hK8 => ?_
      refine wp_region_lit ?_
      refine sv' hF (wn rfl) rfl rfl (R.lss (hF.ev rfl) (hF.ev rfl)) fun a hF => ?_
      refine s0 ?_
      refine then_n (hK8 _ _ ?_)
      refine wp_seq_k fun K9 hK9 => ?_
      refine cD hF rfl (fun c1 => ?_) (fun c1 => ?_)
      ·
        have hb := byt_getD hB i
        refine wp_skip ?_
        refine then_n (hK9 _ _ ?_)
        refine wp_seq_k fun K10 hK10 => ?_
        refine wp_block ?_
        refine wp_seq_k fun K11 hK11 => ?_
        refine wp_region_lit ?_
        refine sv' hF (wn rfl) rfl rfl (R.move (hF.ev rfl)) fun a hF => ?_
        refine sv' hF (wn rfl) rfl rfl (R.indexO Try.underlying82 sz5 (hF.ev rfl) (Rd.ne hA (by rw [length_byts]; omega)) (hF.ev rfl) (by omega) (by omega)) fun a hF => ?_
        refine sv' hF (wn rfl) rfl rfl (R.loadO one5 (hF.ev rfl) (hA.old hS) (byts_at (i := i) (by omega) (by omega))) fun a hF => ?_
        refine sv' hF (wn rfl) rfl rfl (R.assign (hF.ev rfl)) fun a hF => ?_
        refine sv' hF (wn rfl) rfl rfl (R.assign (hF.ev rfl)) fun a hF => ?_
        refine s0 ?_
        refine then_n (hK11 _ _ ?_)
        refine wp_region_lit ?_
        refine sv' hF (wn rfl) rfl rfl (R.move (hF.ev rfl)) fun a hF => ?_
        refine sv' hF (wn rfl) rfl rfl (R.quoI (hF.ev rfl) (hF.ev rfl) (by omega)) fun a hF => ?_
        refine sv' hF (wn rfl) rfl rfl (R.subI (hF.ev rfl) (hF.ev rfl) (by omega)) fun a hF => ?_
        refine sv' hF (wn rfl) rfl rfl (R.move (hF.ev rfl)) fun a hF => ?_
        refine sv' hF (wn rfl) rfl rfl (R.quoI (hF.ev rfl) (hF.ev rfl) (by omega)) fun a hF => ?_
        refine sv' hF (wn rfl) rfl rfl (R.subI (hF.ev rfl) (hF.ev rfl) (by omega)) fun a hF => ?_
        refine sv' hF (wn rfl) rfl rfl (R.indexA Try.underlying29 sz27 (hF.ev rfl) (hF.ev rfl) (by omega) (by omega)) fun a hF => ?_
        refine sv' hF (wn rfl) rfl rfl (R.load one27 (hF.ev rfl) hS .h (cells4_at (k := 3 - i / 8) (by omega) (by omega))) fun a hF => ?_
        refine sv' hF (wn rfl) rfl rfl (R.shlU (m := 8) (hF.ev rfl) (hF.ev rfl) (by decide)) fun a hF => ?_
        refine sv' hF (wn rfl) rfl rfl (R.move (hF.ev rfl)) fun a hF => ?_
        refine sv' hF (wn rfl) rfl rfl (R.as (u := .int .u64 ((xs.getD i 0 : Nat) : Int)) (R.convU Try.underlying5 Try.underlying27 (hF.ev rfl)) (congrArg (fun z : Nat => Value.int .u64 (z : Int)) (by omega))) fun a hF => ?_
        refine sv' hF (wn rfl) rfl rfl (R.as (u := .int .u64 ((256 * gp xs i (3 - i / 8) + xs.getD i 0 : Nat) : Int)) (R.orU (hF.ev rfl) (hF.ev rfl) (Nat.mod_lt _ (by decide)) (by omega)) (congrArg (fun z : Nat => Value.int .u64 (z : Int)) (or_byte (gp_lt7 hB i (by omega)) hb))) fun a hF => ?_
        refine sv' hF (wn rfl) rfl rfl (R.indexA Try.underlying29 sz27 (hF.ev rfl) (hF.ev rfl) (by omega) (by omega)) fun a hF => ?_
        refine so (wn rfl) (O.store sz27 (hF.ev rfl) (hF.ev rfl) rfl rfl hS .h (cells4_set (k := 3 - i / 8) (by omega)) (by rw [length_cells4]; omega) fun w hS => ?_)
        refine s0 ?_
        refine blk_n ?_
        refine then_n (hK10 _ _ ?_)
        refine wp_region_lit ?_
        refine sv' hF (wn rfl) rfl rfl (R.addI (hF.ev rfl) (hF.ev rfl) (by omega)) fun a hF => ?_
        refine sv' hF (wn rfl) rfl rfl (R.move (hF.ev rfl)) fun a hF => ?_
        refine s0 ?_
        refine then_n (hKL1 (32 - (i + 1)) _ _ ?_ ?_)
        · omega
        · exact ⟨i + 1, rfl, hF.sub ⟨rfl, rfl, rfl, rfl, rfl, trivial⟩, hS.sel [0, 1] rfl (by rw [← cells4_congr (gp_step h32 i (by omega))]; rfl), by omega⟩
      ·
        obtain rfl : i = 32 := by omega
        rw [gp_32 h32 hB] at hS
        refine wp_exit (then_x (then_x (blk_hit ?_)))
        refine then_n (hK6 _ _ ?_)
        refine wp_seq_k fun K12 hK12 => ?_
        refine wp_region_lit ?_
        refine sv' hF (wn rfl) rfl rfl (R.loadW agg29 (hF.ev rfl) hS .h sz29 (rfl)) fun a hF => ?_
        refine so (wn rfl) (O.storeW sz29 (hF.ev rfl) (hF.ev rfl) (rfl) rfl (by simp [Value.oneCell']) hS (.t .h) (rfl) fun w hS => ?_)
        refine sv' hF (wn rfl) rfl rfl (R.assign (hF.ev rfl)) fun a hF => ?_
        refine s0 ?_
        refine then_n (hK12 _ _ ?_)
        refine wp_ret (hR _ _ _ _ _ hF (run_results Try.results70 (.cw hF rfl agg29 hS (.t .h) sz29 (rfl) (.t hF rfl (.nil)))) ?_)
        exact ⟨_, [], rfl, ⟨by rw [readW, readN, if_pos h32, if_pos h32]; rfl, rfl⟩, hS.none⟩

theorem rread_calls (A : Option Addr) (n c : Nat) (xs : List Nat) (w0 : World) (hA : Rd w0 A (byts xs)) (hn : xs.length = n) (hB : Byt xs) : Ret Try.prog 71 [.slice A n c] w0 [] (fun v s => v = readW xs ∧ s = []) := by
  refine fn_start Try.func71 rfl Try.ntmps71 rfl [(0, .slice A n c)] ⟨rfl, trivial⟩ ?_
  intro Q a hP hF hR hN
  have hS := St.start w0
  refine wp_seq_k fun K1 hK1 => ?_
  refine wp_region_lit ?_
  refine so (wn rfl) (O.alloc rfl rfl hF ze29 rfl hS fun b2 a w hF hS => ?_)
  refine sv' hF (wn rfl) rfl rfl (R.assign (hF.ev rfl)) fun a hF => ?_
  refine s0 ?_
  refine then_n (hK1 _ _ ?_)
  refine wp_seq_k fun K2 hK2 => ?_
  refine wp_region_lit ?_
  refine so (wn rfl) (O.alloc rfl rfl hF ze29 rfl hS fun b4 a w hF hS => ?_)
  refine s0 ?_
  refine then_n (hK2 _ _ ?_)
  refine wp_seq_k fun K3 hK3 => ?_
  refine wp_seq_k fun K4 hK4 => ?_
  refine wp_region_lit ?_
  refine sv' hF (wn rfl) rfl rfl (R.move (hF.ev rfl)) fun a hF => ?_
  refine sv' hF (wn rfl) rfl rfl (R.len Try.underlying82 (hF.ev rfl)) fun a hF => ?_
  refine sv' hF (wn rfl) rfl rfl (R.neq (hF.ev rfl) (hF.ev rfl)) fun a hF => ?_
  refine s0 ?_
  refine then_n (hK4 _ _ ?_)
  refine cD hF rfl (fun z => ?_) (fun z => ?_)
  ·
    refine wp_seq_k fun K5 hK5 => ?_
    refine wp_region_lit ?_
    refine sv' hF (wn rfl) rfl rfl (R.loadW agg29 (hF.ev rfl) hS .h sz29 (rfl)) fun a hF => ?_
    refine so (wn rfl) (O.storeW sz29 (hF.ev rfl) (hF.ev rfl) (rfl) rfl (by simp [Value.oneCell']) hS (.t .h) (rfl) fun w hS => ?_)
    refine sv' hF (wn rfl) rfl rfl (R.assign (hF.ev rfl)) fun a hF => ?_
    refine s0 ?_
    refine then_n (hK5 _ _ ?_)
    refine wp_ret (then_r (hR _ _ _ _ _ hF (run_results Try.results71 (.cw hF rfl agg29 hS (.t .h) sz29 (rfl) (.t hF rfl (.nil)))) ?_))
    exact ⟨_, [], rfl, ⟨by rw [readW, readN, if_neg (show ¬ xs.length = 32 by omega), if_neg (show ¬ xs.length = 32 by omega)]; rfl, rfl⟩, hS.none⟩
  ·
    have h32 : xs.length = 32 := by omega
    refine wp_skip ?_
    refine then_n (hK3 _ _ ?_)
    refine wp_seq_k fun K6 hK6 => ?_
    refine wp_seq_k fun K7 hK7 => ?_
    refine wp_region_lit ?_
    refine sv' hF (wn rfl) rfl rfl (R.assign (hF.ev rfl)) fun a hF => ?_
    refine s0 ?_
    refine then_n (hK7 _ _ ?_)
    refine wp_block ?_
    refine wp_loop_N (fun g a w => ∃ (i : Nat), 32 - i = g ∧ Fr 33 [(0, .slice A n c), (2, .pointer (some ⟨b2, 0, none⟩)), (4, .pointer (some ⟨b4, 0, none⟩)), (5, .int .i64 ((i : Nat) : Int))] a ∧ St w0 [] [[(b4, Cel (wc (rq xs i)) 29)], [(b2, Cel (wc 0) 29)]] w ∧ (i ≤ 32)) (32 - 0) ?_ ?_
    · exact ⟨0, rfl, hF.sub ⟨rfl, rfl, rfl, rfl, trivial⟩, hS.sel [0, 1] rfl (by rw [show rq xs 0 = 0 from by unfold rq; rw [List.drop_eq_nil_of_le (by omega)]; rfl]; rfl), by omega⟩
    · rintro KL1 g a w ⟨i, hg1, hF, hS, hi⟩ hKL1
      refine wp_seq_k fun K8 hK8 => ?_
      refine wp_seq_k fun K9 hK9 => ?_
      refine wp_region_lit ?_
      refine sv' hF (wn rfl) rfl rfl (R.move (hF.ev rfl)) fun a hF => ?_
      refine sv' hF (wn rfl) rfl rfl (R.lss (hF.ev rfl) (hF.ev rfl)) fun a hF => ?_
      refine s0 ?_
      refine then_n (hK9 _ _ ?_)
      refine cD hF rfl (fun c1 => ?_) (fun c1 => ?_)
      ·
        have hb := byt_getD hB (31 - i)
        refine wp_skip ?_
        refine then_n (hK8 _ _ ?_)
        refine wp_seq_k fun K10 hK10 => ?_
        refine wp_block ?_
        refine wp_drawS hS [(0, 0), (1, 0), (2, 0), (3, 0), (4, 0), (5, 1), (6, 0), (7, 0), (8, 0), (9, 0), (10, 1), (11, 0), (12, 0), (13, 0), (14, 0), (15, 0), (16, 0), (17, 0), (18, 3)] mix (by kernel_rfl) (hP.then.block.then.then.block) fun w hS => ?_
        have hD := hS
        refine dq hF rfl (wn rfl) rfl rfl (fun w => R.move (hF.ev rfl)) fun a hF => ?_
        refine dq hF rfl (wn rfl) rfl rfl (fun w => R.quoI (hF.ev rfl) (hF.ev rfl) (by omega)) fun a hF => ?_
        refine dq hF rfl (wn rfl) rfl rfl (fun w => R.move (hF.ev rfl)) fun a hF => ?_
        refine dq hF rfl (wn rfl) rfl rfl (fun w => R.quoI (hF.ev rfl) (hF.ev rfl) (by omega)) fun a hF => ?_
        refine dq hF rfl (wn rfl) rfl rfl (fun w => R.indexA Try.underlying29 sz27 (hF.ev rfl) (hF.ev rfl) (by omega) (by omega)) fun a hF => ?_
        refine dr hF rfl (wn rfl) rfl rfl hD (fun w hD => R.load one27 (hF.ev rfl) hD .h (wc_oct (rq xs i) i (by omega))) fun a hF => ?_
        refine dq hF rfl (wn rfl) rfl rfl (fun w => R.move (hF.ev rfl)) fun a hF => ?_
        refine dq hF rfl (wn rfl) rfl rfl (fun w => R.move (hF.ev rfl)) fun a hF => ?_
        refine dq hF rfl (wn rfl) rfl rfl (fun w => R.subI (hF.ev rfl) (hF.ev rfl) (by omega)) fun a hF => ?_
        refine dq hF rfl (wn rfl) rfl rfl (fun w => R.indexO Try.underlying82 sz5 (hF.ev rfl) (Rd.ne hA (by rw [length_byts]; omega)) (hF.ev rfl) (by omega) (by omega)) fun a hF => ?_
        refine dr hF rfl (wn rfl) rfl rfl hD (fun w hD => R.loadO one5 (hF.ev rfl) (hA.old hD) (byts_at (i := 31 - i) (by omega) (by omega))) fun a hF => ?_
        refine dq hF rfl (wn rfl) rfl rfl (fun w => R.as (u := .int .u64 ((xs.getD (31 - i) 0 : Nat) : Int)) (R.convU Try.underlying5 Try.underlying27 (hF.ev rfl)) (congrArg (fun z : Nat => Value.int .u64 (z : Int)) (by omega))) fun a hF => ?_
        refine dq hF rfl (wn rfl) rfl rfl (fun w => R.move (hF.ev rfl)) fun a hF => ?_
        refine dq hF rfl (wn rfl) rfl rfl (fun w => R.remI (hF.ev rfl) (hF.ev rfl) (by omega)) fun a hF => ?_
        refine dq hF rfl (wn rfl) rfl rfl (fun w => R.mulI (hF.ev rfl) (hF.ev rfl) (by omega)) fun a hF => ?_
        refine dq hF rfl (wn rfl) rfl rfl (fun w => R.shlU (m := 8 * (i % 8)) (hF.ev rfl) ((hF.ev rfl).trans (congrArg (Value.int .i64) (by omega))) (by omega)) fun a hF => ?_
        refine dq hF rfl (wn rfl) rfl rfl (fun w => R.orU (hF.ev rfl) (hF.ev rfl) (dg_lt _ _) (Nat.mod_lt _ (by decide))) fun a hF => ?_
        refine dq hF rfl (wn rfl) rfl rfl (fun w => R.indexA Try.underlying29 sz27 (hF.ev rfl) (hF.ev rfl) (by omega) (by omega)) fun a hF => ?_
        refine dw rfl (wn rfl) (O.store sz27 (hF.ev rfl) (hF.ev rfl) rfl rfl hS .h (wc_orb (rq_lt h32 hB i hi) hb (by omega)) (by show _ < 4; omega) fun w hS => ?_)
        refine d0 ?_
        refine blk_n ?_
        refine then_n (hK10 _ _ ?_)
        refine wp_region_lit ?_
        refine sv' hF (wn rfl) rfl rfl (R.move (hF.ev rfl)) fun a hF => ?_
        refine sv' hF (wn rfl) rfl rfl (R.addI (hF.ev rfl) (hF.ev rfl) (by omega)) fun a hF => ?_
        refine sv' hF (wn rfl) rfl rfl (R.assign (hF.ev rfl)) fun a hF => ?_
        refine s0 ?_
        refine then_n (hKL1 (32 - (i + 1)) _ _ ?_ ?_)
        · omega
        · exact ⟨i + 1, rfl, hF.sub ⟨rfl, rfl, rfl, rfl, trivial⟩, hS.sel [0, 1] rfl (by rw [rq_succ h32 i (by omega)]; rfl), by omega⟩
      ·
        obtain rfl : i = 32 := by omega
        rw [show rq xs 32 = be xs from rfl] at hS
        refine wp_exit (then_x (then_x (blk_hit ?_)))
        refine then_n (hK6 _ _ ?_)
        refine wp_seq_k fun K11 hK11 => ?_
        refine wp_region_lit ?_
        refine sv' hF (wn rfl) rfl rfl (R.loadW agg29 (hF.ev rfl) hS .h sz29 (rfl)) fun a hF => ?_
        refine so (wn rfl) (O.storeW sz29 (hF.ev rfl) (hF.ev rfl) (rfl) rfl (by simp [Value.oneCell']) hS (.t .h) (rfl) fun w hS => ?_)
        refine sv' hF (wn rfl) rfl rfl (R.assign (hF.ev rfl)) fun a hF => ?_
        refine s0 ?_
        refine then_n (hK11 _ _ ?_)
        refine wp_ret (hR _ _ _ _ _ hF (run_results Try.results71 (.cw hF rfl agg29 hS (.t .h) sz29 (rfl) (.t hF rfl (.nil)))) ?_)
        exact ⟨_, [], rfl, ⟨by rw [readW, readN, if_pos h32, if_pos h32]; rfl, rfl⟩, hS.none⟩

theorem sum_calls (A : Option Addr) (n c : Nat) (l : List Nat) (w0 : World) (hA : Rd w0 A (l.flatMap wc)) (hn : l.length = n) (hW : AllW l) (hc : n ≤ 9223372036854775807) : Ret Try.prog 62 [.slice A n c] w0 [] (fun v s => v = sumW l ∧ s = []) := by
  refine fn_start Try.func62 rfl Try.ntmps62 rfl [(0, .slice A n c)] ⟨rfl, trivial⟩ ?_
  intro Q a hP hF hR hN
  have hS := St.start w0
  refine wp_seq_k fun K1 hK1 => ?_
  refine wp_region_lit ?_
  refine so (wn rfl) (O.alloc rfl rfl hF ze29 rfl hS fun b2 a w hF hS => ?_)
  refine sv' hF (wn rfl) rfl rfl (R.assign (hF.ev rfl)) fun a hF => ?_
  refine s0 ?_
  refine then_n (hK1 _ _ ?_)
  refine wp_seq_k fun K2 hK2 => ?_
  refine wp_region_lit ?_
  refine so (wn rfl) (O.alloc rfl rfl hF ze29 rfl hS fun b4 a w hF hS => ?_)
  refine s0 ?_
  refine then_n (hK2 _ _ ?_)
  refine wp_seq_k fun K3 hK3 => ?_
  refine wp_seq_k fun K4 hK4 => ?_
  refine wp_region_lit ?_
  refine sv' hF (wn rfl) rfl rfl (R.move (hF.ev rfl)) fun a hF => ?_
  refine sv' hF (wn rfl) rfl rfl (R.len Try.underlying26 (hF.ev rfl)) fun a hF => ?_
  refine sv' hF (wn rfl) rfl rfl (R.move (hF.ev rfl)) fun a hF => ?_
  refine s0 ?_
  refine then_n (hK4 _ _ ?_)
  refine wp_block ?_
  refine wp_loop_N (fun g a w => ∃ (i : Nat), n - i = g ∧ Fr 26 [(2, .pointer (some ⟨b2, 0, none⟩)), (4, .pointer (some ⟨b4, 0, none⟩)), (8, .slice A n c), (9, .int .i64 (n : Nat)), (10, .int .i64 ((i : Nat) : Int))] a ∧ St w0 [] [[(b4, Cel (wc (l.take i).sum) 29)], [(b2, Cel (wc 0) 29)]] w ∧ (i ≤ n) ∧ ((l.take i).sum < 115792089237316195423570985008687907853269984665640564039457584007913129639936)) (n - 0) ?_ ?_
  · exact ⟨0, rfl, hF.sub ⟨rfl, rfl, rfl, rfl, rfl, trivial⟩, hS.sel [0, 1] rfl (by rw [List.take_zero, List.sum_nil]; rfl), by omega, by show (0 : Nat) < _; decide⟩
  · rintro KL1 g a w ⟨i, hg1, hF, hS, hi, hs⟩ hKL1
    refine wp_seq_k fun K5 hK5 => ?_
    refine wp_region_lit ?_
    refine sv' hF (wn rfl) rfl rfl (R.lss (hF.ev rfl) (hF.ev rfl)) fun a hF => ?_
    refine s0 ?_
    refine then_n (hK5 _ _ ?_)
    refine wp_seq_k fun K6 hK6 => ?_
    refine cD hF rfl (fun c1 => ?_) (fun c1 => ?_)
    ·
      have hnx := sum_take_succ l i (by omega)
      refine wp_skip ?_
      refine then_n (hK6 _ _ ?_)
      refine wp_seq_k fun K7 hK7 => ?_
      refine wp_block ?_
      refine wp_seq_k fun K8 hK8 => ?_
      refine wp_region_lit ?_
      refine sv' hF (wn rfl) rfl rfl (R.indexO Try.underlying26 sz29 (hF.ev rfl) (Rd.ne hA (by rw [wcs_length]; omega)) (hF.ev rfl) (by omega) (by omega)) fun a hF => ?_
      refine sv' hF (wn rfl) rfl rfl (R.loadAO (cs := wc (l.getD i 0)) agg29 (hF.ev rfl) (hA.old hS) sz29 rfl (Nat.succ_pos _) (wcs_at (by omega) (by omega))) fun a hF => ?_
      refine so (wn rfl) (O.alloc rfl rfl hF ze29 rfl hS fun b6 a w hF hS => ?_)
      refine so (wn rfl) (O.storeW sz29 (hF.ev rfl) (hF.ev rfl) (rfl) rfl (by simp [Value.oneCell']) hS .h (rfl) fun w hS => ?_)
      refine s0 ?_
      refine then_n (hK8 _ _ ?_)
      refine wp_seq_k fun K9 hK9 => ?_
      refine wp_region_lit ?_
      refine sv' hF (wn rfl) rfl rfl (R.assign (hF.ev rfl)) fun a hF => ?_
      refine s0 ?_
      refine then_n (hK9 _ _ ?_)
      refine wp_seq_k fun K10 hK10 => ?_
      refine wp_region_lit ?_
      refine sv' hF (wn rfl) rfl rfl (R.loadW agg29 (hF.ev rfl) hS (.t .h) sz29 (rfl)) fun a hF => ?_
      refine sv' hF (wn rfl) rfl rfl (R.loadW agg29 (hF.ev rfl) hS .h sz29 (rfl)) fun a hF => ?_
      refine so (wn rfl) (O.call rfl rfl hF ent41 (hF.evs rfl) hS (add_calls (l.take i).sum (l.getD i 0) _ hs (allW_getD hW i)) fun v s17 a w hR hF hS => ?_)
      obtain ⟨rfl, rfl⟩ := hR
      refine sv' hF (wn rfl) rfl rfl (R.move (hF.ev rfl)) fun a hF => ?_
      refine sv' hF (wn rfl) rfl rfl (R.extract (hF.ev rfl) rfl) fun a hF => ?_
      refine sv' hF (wn rfl) rfl rfl (R.extract (hF.ev rfl) rfl) fun a hF => ?_
      refine so (wn rfl) (O.storeW sz29 (hF.ev rfl) (hF.ev rfl) (rfl) rfl (by simp [Value.oneCell']) hS (.t (.t .h)) (rfl) fun w hS => ?_)
      refine sv' hF (wn rfl) rfl rfl (R.assign (hF.ev rfl)) fun a hF => ?_
      refine s0 ?_
      refine then_n (hK10 _ _ ?_)
      refine wp_seq_k fun K11 hK11 => ?_
      refine wp_region_lit ?_
      refine sv' hF (wn rfl) rfl rfl (R.move (hF.ev rfl)) fun a hF => ?_
      refine sv' hF (wn rfl) rfl rfl (R.neq (hF.ev rfl) (hF.ev rfl)) fun a hF => ?_
      refine s0 ?_
      refine then_n (hK11 _ _ ?_)
      refine cD hF rfl (fun c2 => ?_) (fun c2 => ?_)
      ·
        have hbig : ¬ (l.take i).sum + l.getD i 0 < 115792089237316195423570985008687907853269984665640564039457584007913129639936 := fun h => by rw [if_pos h] at c2; exact c2 rfl
        have htot : ¬ l.sum < 115792089237316195423570985008687907853269984665640564039457584007913129639936 := by have := sum_take_le l (i + 1); omega
        refine wp_seq_k fun K12 hK12 => ?_
        refine wp_region_lit ?_
        refine sv' hF (wn rfl) rfl rfl (R.buildArr (l := [_, _, _, _]) Try.underlying29 ze29 sz27 (hF.evp rfl) rfl) fun a hF => ?_
        refine sv' hF (wn rfl) rfl rfl (R.move (hF.ev rfl)) fun a hF => ?_
        refine so (wn rfl) (O.storeW sz29 (hF.ev rfl) (hF.ev rfl) (rfl) rfl (by simp [Value.oneCell']) hS (.t (.t (.t .h))) (rfl) fun w hS => ?_)
        refine sv' hF (wn rfl) rfl rfl (R.assign (hF.ev rfl)) fun a hF => ?_
        refine s0 ?_
        refine then_n (hK12 _ _ ?_)
        refine wp_ret (blk_r (then_r (then_r (blk_r (then_r (hR _ _ _ _ _ hF (run_results Try.results62 (.cw hF rfl agg29 hS (.t (.t (.t .h))) sz29 (rfl) (.t hF rfl (.nil)))) ?_))))))
        exact ⟨_, [], rfl, ⟨by rw [sumW, if_neg htot, if_neg htot, if_neg hbig]; rfl, rfl⟩, hS.none⟩
      ·
        have hfit : (l.take i).sum + l.getD i 0 < 115792089237316195423570985008687907853269984665640564039457584007913129639936 := by (by_cases h : (l.take i).sum + l.getD i 0 < 115792089237316195423570985008687907853269984665640564039457584007913129639936; exact h; rw [if_neg h] at c2; omega)
        rw [if_pos hfit] at hS
        refine wp_skip ?_
        refine blk_n ?_
        refine then_n (hK7 _ _ ?_)
        refine wp_region_lit ?_
        refine sv' hF (wn rfl) rfl rfl (R.addI (hF.ev rfl) (hF.ev rfl) (by omega)) fun a hF => ?_
        refine sv' hF (wn rfl) rfl rfl (R.move (hF.ev rfl)) fun a hF => ?_
        refine s0 ?_
        refine then_n (hKL1 (n - (i + 1)) _ _ ?_ ?_)
        · omega
        · exact ⟨i + 1, rfl, hF.sub ⟨rfl, rfl, rfl, rfl, rfl, trivial⟩, hS.sel [2, 3] rfl (by rw [hnx]; rfl), by omega, by rw [hnx]; exact hfit⟩
    ·
      obtain rfl : i = n := by omega
      have htk : l.take i = l := List.take_of_length_le (by omega)
      rw [htk] at hS hs
      refine wp_exit (then_x (then_x (blk_hit ?_)))
      refine then_n (hK3 _ _ ?_)
      refine wp_seq_k fun K13 hK13 => ?_
      refine wp_region_lit ?_
      refine sv' hF (wn rfl) rfl rfl (R.loadW agg29 (hF.ev rfl) hS .h sz29 (rfl)) fun a hF => ?_
      refine so (wn rfl) (O.storeW sz29 (hF.ev rfl) (hF.ev rfl) (rfl) rfl (by simp [Value.oneCell']) hS (.t .h) (rfl) fun w hS => ?_)
      refine sv' hF (wn rfl) rfl rfl (R.assign (hF.ev rfl)) fun a hF => ?_
      refine s0 ?_
      refine then_n (hK13 _ _ ?_)
      refine wp_ret (hR _ _ _ _ _ hF (run_results Try.results62 (.cw hF rfl agg29 hS (.t .h) sz29 (rfl) (.t hF rfl (.nil)))) ?_)
      exact ⟨_, [], rfl, ⟨by rw [sumW, if_pos hs, if_pos hs]; rfl, rfl⟩, hS.none⟩

theorem rsum_calls (A : Option Addr) (n c : Nat) (l : List Nat) (w0 : World) (hA : Rd w0 A (l.flatMap wc)) (hn : l.length = n) (hW : AllW l) (hc : n ≤ 9223372036854775807) : Ret Try.prog 61 [.slice A n c] w0 [] (fun v s => v = sumW l ∧ s = []) := by
  refine fn_start Try.func61 rfl Try.ntmps61 rfl [(0, .slice A n c)] ⟨rfl, trivial⟩ ?_
  intro Q a hP hF hR hN
  have hS := St.start w0
  refine wp_seq_k fun K1 hK1 => ?_
  refine wp_region_lit ?_
  refine so (wn rfl) (O.alloc rfl rfl hF ze29 rfl hS fun b2 a w hF hS => ?_)
  refine sv' hF (wn rfl) rfl rfl (R.assign (hF.ev rfl)) fun a hF => ?_
  refine s0 ?_
  refine then_n (hK1 _ _ ?_)
  refine wp_seq_k fun K2 hK2 => ?_
  have hS := hS.cons0
  refine wp_region_lit ?_
  refine sv' hF (wn rfl) rfl rfl (R.assign (hF.ev rfl)) fun a hF => ?_
  refine s0 ?_
  refine then_n (hK2 _ _ ?_)
  refine wp_seq_k fun K3 hK3 => ?_
  refine wp_seq_k fun K4 hK4 => ?_
  refine wp_region_lit ?_
  refine sv' hF (wn rfl) rfl rfl (R.assign (hF.ev rfl)) fun a hF => ?_
  refine s0 ?_
  refine then_n (hK4 _ _ ?_)
  refine wp_block ?_
  refine wp_loop_N (fun g a w => ∃ (i : Nat) (A2 : Option Addr) (e : Nat) (z : Seg), n - i = g ∧ Fr 23 [(0, .slice A n c), (2, .pointer (some ⟨b2, 0, none⟩)), (4, .slice A2 (bl (l.take i).sum).length e), (5, .int .i64 ((i : Nat) : Int))] a ∧ St w0 [] [z, [(b2, Cel (wc 0) 29)]] w ∧ (i ≤ n) ∧ (OwnS z A2 (bl (l.take i).sum).length e (ints (bl (l.take i).sum)) 3 1)) (n - 0) ?_ ?_
  · exact ⟨0, none, 0, [], rfl, hF.sub ⟨rfl, rfl, (by rw [List.take_zero, List.sum_nil, bl_0]; rfl), rfl, trivial⟩, hS.sel [0, 1] rfl rfl, by omega, by rw [List.take_zero, List.sum_nil, bl_0]; exact OwnS.nil 3 1⟩
  · rintro KL1 g a w ⟨i, A2, e, z, hg1, hF, hS, hi, hO⟩ hKL1
    refine wp_seq_k fun K5 hK5 => ?_
    refine wp_seq_k fun K6 hK6 => ?_
    refine wp_region_lit ?_
    refine sv' hF (wn rfl) rfl rfl (R.move (hF.ev rfl)) fun a hF => ?_
    refine sv' hF (wn rfl) rfl rfl (R.move (hF.ev rfl)) fun a hF => ?_
    refine sv' hF (wn rfl) rfl rfl (R.len Try.underlying26 (hF.ev rfl)) fun a hF => ?_
    refine sv' hF (wn rfl) rfl rfl (R.lss (hF.ev rfl) (hF.ev rfl)) fun a hF => ?_
    refine s0 ?_
    refine then_n (hK6 _ _ ?_)
    refine cD hF rfl (fun c1 => ?_) (fun c1 => ?_)
    ·
      have hnx := sum_take_succ l i (by omega)
      refine wp_skip ?_
      refine then_n (hK5 _ _ ?_)
      refine wp_seq_k fun K7 hK7 => ?_
      refine wp_block ?_
      refine wp_region_lit ?_
      refine sv' hF (wn rfl) rfl rfl (R.move (hF.ev rfl)) fun a hF => ?_
      refine sv' hF (wn rfl) rfl rfl (R.move (hF.ev rfl)) fun a hF => ?_
      refine sv' hF (wn rfl) rfl rfl (R.move (hF.ev rfl)) fun a hF => ?_
      refine sv' hF (wn rfl) rfl rfl (R.indexO Try.underlying26 sz29 (hF.ev rfl) (Rd.ne hA (by rw [wcs_length]; omega)) (hF.ev rfl) (by omega) (by omega)) fun a hF => ?_
      refine sv' hF (wn rfl) rfl rfl (R.loadAO (cs := wc (l.getD i 0)) agg29 (hF.ev rfl) (hA.old hS) sz29 rfl (Nat.succ_pos _) (wcs_at (by omega) (by omega))) fun a hF => ?_
      refine so (wn rfl) (O.call rfl rfl hF ent75 (hF.evs rfl) hS (digits_calls (l.getD i 0) w (allW_getD hW i)) fun v s17 a w hR hF hS => ?_)
      obtain ⟨A17, c17, rfl, hO17⟩ := hR
      refine so (wn rfl) (O.call rfl rfl hF ent74 (hF.evs rfl) hS (plus_calls A2 A17 e c17 (l.take i).sum (l.getD i 0) w (hO.rd hS (.t .h)) (hO17.rd hS .h) (Nat.le_trans (sum_bits (l := l.take i) (fun x hx => hW x (List.take_subset _ _ hx)) (by rw [List.length_take]; omega)) (by decide)) (Nat.le_trans (len_bl (allW_getD hW i)) (by decide))) fun v s18 a w hR hF hS => ?_)
      obtain ⟨A18, c18, rfl, hO18⟩ := hR
      refine sv' hF (wn rfl) rfl rfl (R.assign (hF.ev rfl)) fun a hF => ?_
      refine s0 ?_
      refine blk_n ?_
      refine then_n (hK7 _ _ ?_)
      refine wp_region_lit ?_
      refine sv' hF (wn rfl) rfl rfl (R.move (hF.ev rfl)) fun a hF => ?_
      refine sv' hF (wn rfl) rfl rfl (R.addI (hF.ev rfl) (hF.ev rfl) (by omega)) fun a hF => ?_
      refine sv' hF (wn rfl) rfl rfl (R.assign (hF.ev rfl)) fun a hF => ?_
      refine s0 ?_
      refine then_n (hKL1 (n - (i + 1)) _ _ ?_ ?_)
      · omega
      · exact ⟨i + 1, A18, c18, s18, rfl, hF.sub ⟨rfl, rfl, (by rw [hnx]; rfl), rfl, trivial⟩, hS.sel [0, 3] rfl rfl, by omega, by rw [hnx]; exact hO18⟩
    ·
      obtain rfl : i = n := by omega
      have htk : l.take i = l := List.take_of_length_le (by omega)
      rw [htk] at hF hO
      refine wp_exit (then_x (then_x (blk_hit ?_)))
      refine then_n (hK3 _ _ ?_)
      refine wp_seq_k fun K8 hK8 => ?_
      refine wp_region_lit ?_
      refine sv' hF (wn rfl) rfl rfl (R.move (hF.ev rfl)) fun a hF => ?_
      refine so (wn rfl) (O.call rfl rfl hF ent73 (hF.evs rfl) hS (answered_bl A2 e l.sum w (hO.rd hS .h) hO.2.1 hO.cap) fun v s20 a w hR hF hS => ?_)
      obtain ⟨rfl, rfl⟩ := hR
      refine sv' hF (wn rfl) rfl rfl (R.extract (hF.ev rfl) rfl) fun a hF => ?_
      refine sv' hF (wn rfl) rfl rfl (R.extract (hF.ev rfl) rfl) fun a hF => ?_
      refine so (wn rfl) (O.storeW sz29 (hF.ev rfl) (hF.ev rfl) (rfl) rfl (by simp [Value.oneCell']) hS (.t (.t .h)) (rfl) fun w hS => ?_)
      refine sv' hF (wn rfl) rfl rfl (R.assign (hF.ev rfl)) fun a hF => ?_
      refine s0 ?_
      refine then_n (hK8 _ _ ?_)
      refine wp_ret (hR _ _ _ _ _ hF (run_results Try.results61 (.cw hF rfl agg29 hS (.t (.t .h)) sz29 (rfl) (.t hF rfl (.nil)))) ?_)
      exact ⟨_, [], rfl, ⟨rfl, rfl⟩, hS.none⟩

end Go.Proofs.Ythgecfjpacebeaa
