/- The calls of WideLists. -/
import Derived.Test.YthgecfjpacebeaaCh
import Derived.Test.YthgecfjpacebeaaWB
namespace Go.Proofs.Ythgecfjpacebeaa
open Go Go.Fw Go.RowKit
attribute [local irreducible] Go.Oper.wp Go.Code.wp Go.wpList Go.Fw.WL Go.Calls
theorem allW_rm {l : List Nat} (h : AllW l) (hl : l.length + 3 < 18446744073709551616) : AllW (rm l 3) := by
  intro x hx
  rcases List.mem_append.1 hx with hx | hx
  · exact h x hx
  · obtain ⟨q, hq, rfl⟩ := List.mem_map.1 hx
    have := List.mem_range.1 hq
    rw [if_pos (by omega), mk7]
    omega

theorem room_calls (A : Option Addr) (c : Nat) (l : List Nat) (w0 : World) (hA : Rd w0 A (l.flatMap wc)) (hc : l.length * 32 ≤ 140737488351232) : Ret Try.prog 60 [.slice A l.length c] w0 [] (fun v s => ∃ b, v = .slice (some ⟨b, 0, none⟩) (l.length + 3) (l.length + 3) ∧ s = [(b, Cel ((rm l 3).flatMap wc) 29)]) := by
  refine fn_start Try.func60 rfl Try.ntmps60 rfl [(0, .slice A l.length c)] ⟨rfl, trivial⟩ ?_
  intro Q a hP hF hR hN
  have hS := St.start w0
  refine wp_seq_k fun K1 hK1 => ?_
  refine wp_region_lit ?_
  refine sv' hF (wn rfl) rfl rfl (R.assign (hF.ev rfl)) fun a hF => ?_
  refine s0 ?_
  refine then_n (hK1 _ _ ?_)
  refine wp_seq_k fun K2 hK2 => ?_
  refine wp_region_lit ?_
  refine sv' hF (wn rfl) rfl rfl (R.move (hF.ev rfl)) fun a hF => ?_
  refine sv' hF (wn rfl) rfl rfl (R.len Try.underlying26 (hF.ev rfl)) fun a hF => ?_
  refine sv' hF (wn rfl) rfl rfl (R.addI (hF.ev rfl) (hF.ev rfl) (by omega)) fun a hF => ?_
  refine so (wn rfl) (O.makeSlice rfl rfl hF Try.underlying26 inf29 rfl rfl (hF.ev rfl) (hF.ev rfl) (by omega) (by omega) (by omega) (by omega) hS fun b8 a w hF hS => ?_)
  rw [show ((l.length : Int) + 3).toNat = l.length + 3 by omega] at hF hS
  refine sv' hF (wn rfl) rfl rfl (R.assign (hF.ev rfl)) fun a hF => ?_
  refine s0 ?_
  refine then_n (hK2 _ _ ?_)
  refine wp_seq_k fun K3 hK3 => ?_
  refine wp_region_lit ?_
  refine sv' hF (wn rfl) rfl rfl (R.move (hF.ev rfl)) fun a hF => ?_
  refine sv' hF (wn rfl) rfl rfl (R.move (hF.ev rfl)) fun a hF => ?_
  refine so (wn rfl) (O.copyS rfl rfl hF Try.underlying26 sz29 (hF.ev rfl) (hF.ev rfl) hS (hA.old hS) (wcs_length l) (by decide) (wcs_one l) .h (room_spl l) (by rw [length_zeros]; simp only [List.length_cons, List.length_nil]; omega) fun a w hF hS => ?_)
  refine s0 ?_
  refine then_n (hK3 _ _ ?_)
  refine wp_seq_k fun K4 hK4 => ?_
  refine wp_seq_k fun K5 hK5 => ?_
  refine wp_region_lit ?_
  refine sv' hF (wn rfl) rfl rfl (R.move (hF.ev rfl)) fun a hF => ?_
  refine sv' hF (wn rfl) rfl rfl (R.len Try.underlying26 (hF.ev rfl)) fun a hF => ?_
  refine sv' hF (wn rfl) rfl rfl (R.assign (hF.ev rfl)) fun a hF => ?_
  refine s0 ?_
  refine then_n (hK5 _ _ ?_)
  refine wp_block ?_
  refine wp_loop_N (fun g a w => ∃ (j : Nat), 3 - j = g ∧ Fr 27 [(3, .slice (some ⟨b8, 0, none⟩) (l.length + 3) (l.length + 3)), (4, .int .i64 ((l.length + j : Nat) : Int))] a ∧ St w0 [] [[(b8, Cel ((rm l j).flatMap wc) 29)]] w ∧ (j ≤ 3)) (3 - 0) ?_ ?_
  · exact ⟨0, rfl, hF.sub ⟨rfl, rfl, trivial⟩, hS.sel [0] rfl rfl, by omega⟩
  · rintro KL1 g a w ⟨j, hg1, hF, hS, hj⟩ hKL1
    refine wp_seq_k fun K6 hK6 => ?_
    refine wp_seq_k fun K7 hK7 => ?_
    refine wp_region_lit ?_
    refine sv' hF (wn rfl) rfl rfl (R.move (hF.ev rfl)) fun a hF => ?_
    refine sv' hF (wn rfl) rfl rfl (R.move (hF.ev rfl)) fun a hF => ?_
    refine sv' hF (wn rfl) rfl rfl (R.len Try.underlying26 (hF.ev rfl)) fun a hF => ?_
    refine sv' hF (wn rfl) rfl rfl (R.lss (hF.ev rfl) (hF.ev rfl)) fun a hF => ?_
    refine s0 ?_
    refine then_n (hK7 _ _ ?_)
    refine cD hF rfl (fun c1 => ?_) (fun c1 => ?_)
    ·
      refine wp_skip ?_
      refine then_n (hK6 _ _ ?_)
      refine wp_seq_k fun K8 hK8 => ?_
      refine wp_block ?_
      refine wp_region_lit ?_
      refine sv' hF (wn rfl) rfl rfl (R.move (hF.ev rfl)) fun a hF => ?_
      refine sv' hF (wn rfl) rfl rfl (R.move (hF.ev rfl)) fun a hF => ?_
      refine sv' hF (wn rfl) rfl rfl (R.move (hF.ev rfl)) fun a hF => ?_
      refine sv' hF (wn rfl) rfl rfl (R.as (u := .int .u64 ((l.length + j : Nat) : Int)) (R.convU (p := l.length + j) Try.underlying3 Try.underlying27 (hF.ev rfl)) (congrArg (fun z : Nat => Value.int .u64 (z : Int)) (by omega))) fun a hF => ?_
      refine sv' hF (wn rfl) rfl rfl (R.buildArr (l := [.int .u64 7, .int .u64 7, .int .u64 7, .int .u64 ((l.length + j : Nat) : Int)]) Try.underlying29 ze29 sz27 (hF.evp rfl) rfl) fun a hF => ?_
      refine sv' hF (wn rfl) rfl rfl (R.indexS Try.underlying26 sz29 (hF.ev rfl) (hF.ev rfl) (by omega) (by omega)) fun a hF => ?_
      refine so (wn rfl) (O.storeA sz29 (hF.ev rfl) (hF.ev rfl) rfl rfl (by simp [Value.oneCell']) hS .h (room_store l j _ (by omega) (by omega) (by omega)) (by rw [wcs_length, length_rm]; simp only [List.length_cons, List.length_nil]; omega) fun w hS => ?_)
      refine s0 ?_
      refine blk_n ?_
      refine then_n (hK8 _ _ ?_)
      refine wp_region_lit ?_
      refine sv' hF (wn rfl) rfl rfl (R.move (hF.ev rfl)) fun a hF => ?_
      refine sv' hF (wn rfl) rfl rfl (R.addI (hF.ev rfl) (hF.ev rfl) (by omega)) fun a hF => ?_
      refine sv' hF (wn rfl) rfl rfl (R.assign (hF.ev rfl)) fun a hF => ?_
      refine s0 ?_
      refine then_n (hKL1 (3 - (j + 1)) _ _ ?_ ?_)
      · omega
      · exact ⟨j + 1, rfl, hF.sub ⟨rfl, (congrArg (fun z => some (Value.int .i64 z)) (by omega)), trivial⟩, hS.sel [0] rfl rfl, by omega⟩
    ·
      obtain rfl : j = 3 := by omega
      refine wp_exit (then_x (then_x (blk_hit ?_)))
      refine then_n (hK4 _ _ ?_)
      refine wp_seq_k fun K9 hK9 => ?_
      refine wp_region_lit ?_
      refine sv' hF (wn rfl) rfl rfl (R.move (hF.ev rfl)) fun a hF => ?_
      refine sv' hF (wn rfl) rfl rfl (R.assign (hF.ev rfl)) fun a hF => ?_
      refine s0 ?_
      refine then_n (hK9 _ _ ?_)
      refine wp_ret (hR _ _ _ _ _ hF (run_results Try.results60 (.t hF rfl (.nil))) ?_)
      exact ⟨_, _, rfl, ⟨b8, rfl, rfl⟩, hS.one .h⟩

theorem alikeW_calls (A B : Option Addr) (c d : Nat) (l : List Nat) (w0 : World) (hA : Rd w0 A (l.flatMap wc)) (hB : Rd w0 B (l.flatMap wc)) (hW : AllW l) (hc : l.length ≤ 9223372036854775807) : Ret Try.prog 63 [.slice A l.length c, .slice B l.length d] w0 [] (fun v s => v = .bool true ∧ s = []) := by
  refine fn_start Try.func63 rfl Try.ntmps63 rfl [(0, .slice A l.length c), (1, .slice B l.length d)] ⟨rfl, rfl, trivial⟩ ?_
  intro Q a hP hF hR hN
  have hS := St.start w0
  refine wp_seq_k fun K1 hK1 => ?_
  refine wp_region_lit ?_
  refine sv' hF (wn rfl) rfl rfl (R.assign (hF.ev rfl)) fun a hF => ?_
  refine s0 ?_
  refine then_n (hK1 _ _ ?_)
  refine wp_seq_k fun K2 hK2 => ?_
  refine wp_seq_k fun K3 hK3 => ?_
  refine wp_region_lit ?_
  refine sv' hF (wn rfl) rfl rfl (R.move (hF.ev rfl)) fun a hF => ?_
  refine sv' hF (wn rfl) rfl rfl (R.len Try.underlying26 (hF.ev rfl)) fun a hF => ?_
  refine sv' hF (wn rfl) rfl rfl (R.move (hF.ev rfl)) fun a hF => ?_
  refine sv' hF (wn rfl) rfl rfl (R.len Try.underlying26 (hF.ev rfl)) fun a hF => ?_
  refine sv' hF (wn rfl) rfl rfl (R.as (u := .bool false) (R.neq (p := (l.length : Int)) (q := (l.length : Int)) (hF.ev rfl) (hF.ev rfl)) (congrArg Value.bool (decide_eq_false (fun h => h (rfl))))) fun a hF => ?_
  refine s0 ?_
  refine then_n (hK3 _ _ ?_)
  refine cF hF rfl ?_
  refine wp_skip ?_
  refine then_n (hK2 _ _ ?_)
  refine wp_seq_k fun K4 hK4 => ?_
  refine wp_seq_k fun K5 hK5 => ?_
  refine wp_region_lit ?_
  refine sv' hF (wn rfl) rfl rfl (R.assign (hF.ev rfl)) fun a hF => ?_
  refine s0 ?_
  refine then_n (hK5 _ _ ?_)
  refine wp_block ?_
  refine wp_loop_N (fun g a w => ∃ (j : Nat), l.length - j = g ∧ Fr 26 [(0, .slice A l.length c), (1, .slice B l.length d), (5, .int .i64 ((j : Nat) : Int))] a ∧ St w0 [] [] w ∧ (j ≤ l.length)) (l.length - 0) ?_ ?_
  · exact ⟨0, rfl, hF.sub ⟨rfl, rfl, rfl, trivial⟩, hS.sel [] rfl rfl, by omega⟩
  · rintro KL1 g a w ⟨j, hg1, hF, hS, hj⟩ hKL1
    refine wp_seq_k fun K6 hK6 => ?_
    refine wp_seq_k fun K7 hK7 => ?_
    refine wp_region_lit ?_
    refine sv' hF (wn rfl) rfl rfl (R.move (hF.ev rfl)) fun a hF => ?_
    refine sv' hF (wn rfl) rfl rfl (R.move (hF.ev rfl)) fun a hF => ?_
    refine sv' hF (wn rfl) rfl rfl (R.len Try.underlying26 (hF.ev rfl)) fun a hF => ?_
    refine sv' hF (wn rfl) rfl rfl (R.lss (hF.ev rfl) (hF.ev rfl)) fun a hF => ?_
    refine s0 ?_
    refine then_n (hK7 _ _ ?_)
    refine cD hF rfl (fun c2 => ?_) (fun c2 => ?_)
    ·
      refine wp_skip ?_
      refine then_n (hK6 _ _ ?_)
      refine wp_seq_k fun K8 hK8 => ?_
      refine wp_block ?_
      refine wp_seq_k fun K9 hK9 => ?_
      refine wp_drawS hS [(0, 0), (1, 0), (2, 0), (3, 1), (4, 0), (5, 0), (6, 0), (7, 1), (8, 0)] mix (by kernel_rfl) (hP.then.block.then.then.block.then) fun w hS => ?_
      have hD := hS
      refine dq hF rfl (wn rfl) rfl rfl (fun w => R.move (hF.ev rfl)) fun a hF => ?_
      refine dq hF rfl (wn rfl) rfl rfl (fun w => R.move (hF.ev rfl)) fun a hF => ?_
      refine dq hF rfl (wn rfl) rfl rfl (fun w => R.indexO Try.underlying26 sz29 (hF.ev rfl) (Rd.ne hA (by rw [wcs_length]; omega)) (hF.ev rfl) (by omega) (by omega)) fun a hF => ?_
      refine dr hF rfl (wn rfl) rfl rfl hD (fun w hD => R.loadAO (cs := wc (l.getD j 0)) agg29 (hF.ev rfl) (hA.old hD) sz29 rfl (Nat.succ_pos _) (wcs_at (by omega) (by omega))) fun a hF => ?_
      refine dq hF rfl (wn rfl) rfl rfl (fun w => R.move (hF.ev rfl)) fun a hF => ?_
      refine dq hF rfl (wn rfl) rfl rfl (fun w => R.move (hF.ev rfl)) fun a hF => ?_
      refine dq hF rfl (wn rfl) rfl rfl (fun w => R.indexO Try.underlying26 sz29 (hF.ev rfl) (Rd.ne hB (by rw [wcs_length]; omega)) (hF.ev rfl) (by omega) (by omega)) fun a hF => ?_
      refine dr hF rfl (wn rfl) rfl rfl hD (fun w hD => R.loadAO (cs := wc (l.getD j 0)) agg29 (hF.ev rfl) (hB.old hD) sz29 rfl (Nat.succ_pos _) (wcs_at (by omega) (by omega))) fun a hF => ?_
      refine dq hF rfl (wn rfl) rfl rfl (fun w => R.as (u := .bool false) (R.neqW (x := l.getD j 0) (y := l.getD j 0) (hF.ev rfl) (hF.ev rfl) (allW_getD hW j) (allW_getD hW j)) (congrArg Value.bool (decide_eq_false (fun h => h (rfl))))) fun a hF => ?_
      refine d0 ?_
      refine then_n (hK9 _ _ ?_)
      refine cF hF rfl ?_
      refine wp_skip ?_
      refine blk_n ?_
      refine then_n (hK8 _ _ ?_)
      refine wp_region_lit ?_
      refine sv' hF (wn rfl) rfl rfl (R.move (hF.ev rfl)) fun a hF => ?_
      refine sv' hF (wn rfl) rfl rfl (R.addI (hF.ev rfl) (hF.ev rfl) (by omega)) fun a hF => ?_
      refine sv' hF (wn rfl) rfl rfl (R.assign (hF.ev rfl)) fun a hF => ?_
      refine s0 ?_
      refine then_n (hKL1 (l.length - (j + 1)) _ _ ?_ ?_)
      · omega
      · exact ⟨j + 1, rfl, hF.sub ⟨rfl, rfl, rfl, trivial⟩, hS.sel [] rfl rfl, by omega⟩
    ·
      refine wp_exit (then_x (then_x (blk_hit ?_)))
      refine then_n (hK4 _ _ ?_)
      refine wp_seq_k fun K10 hK10 => ?_
      refine wp_region_lit ?_
      refine sv' hF (wn rfl) rfl rfl (R.assign (hF.ev rfl)) fun a hF => ?_
      refine s0 ?_
      refine then_n (hK10 _ _ ?_)
      refine wp_ret (hR _ _ _ _ _ hF (run_results Try.results63 (.t hF rfl (.nil))) ?_)
      exact ⟨_, [], rfl, ⟨rfl, rfl⟩, hS.none⟩

theorem alike_room (A B : Option Addr) (c d : Nat) (l : List Nat) (w : World) (hA : Rd w A ((rm l 3).flatMap wc)) (hB : Rd w B ((rm l 3).flatMap wc)) (hW : AllW l) (hc : l.length ≤ 9223372036854775000) :
    Ret Try.prog 63 [.slice A (l.length + 3) c, .slice B (l.length + 3) d] w [] (fun v s => v = .bool true ∧ s = []) := by
  have h := alikeW_calls A B c d (rm l 3) w hA hB (allW_rm hW (by omega)) (by rw [length_rm]; omega)
  rw [length_rm] at h
  exact h

theorem wideLists_calls (A B : Option Addr) (c d : Nat) (l m : List Nat) (w0 : World) (hA : Rd w0 A (l.flatMap wc)) (hB : Rd w0 B (m.flatMap wc)) (hlc : l.length ≤ c) (hW : AllW l) (hV : AllW m) (hc : c * 32 ≤ 140737488351232) : Ret Try.prog 14 [.slice A l.length c, .slice B m.length d] w0 [] (fun v s => v = .bool true ∧ s = []) := by
  refine fn_start Try.func14 rfl Try.ntmps14 rfl [(0, .slice A l.length c), (1, .slice B m.length d)] ⟨rfl, rfl, trivial⟩ ?_
  intro Q a hP hF hR hN
  have hS := St.start w0
  refine wp_seq_k fun K1 hK1 => ?_
  refine wp_region_lit ?_
  refine sv' hF (wn rfl) rfl rfl (R.assign (hF.ev rfl)) fun a hF => ?_
  refine s0 ?_
  refine then_n (hK1 _ _ ?_)
  refine wp_seq_k fun K2 hK2 => ?_
  refine wp_region_lit ?_
  refine so (wn rfl) (O.call rfl rfl hF ent40 (hF.evs rfl) hS (known_calls _) fun v s15 a w hR hF hS => ?_)
  obtain ⟨rfl, rfl⟩ := hR
  refine sv' hF (wn rfl) rfl rfl (R.assign (hF.ev rfl)) fun a hF => ?_
  refine s0 ?_
  refine then_n (hK2 _ _ ?_)
  refine wp_seq_k fun K3 hK3 => ?_
  refine wp_region_lit ?_
  refine sv' hF (wn rfl) rfl rfl (R.move (hF.ev rfl)) fun a hF => ?_
  refine so (wn rfl) (O.call rfl rfl hF ent60 (hF.evs rfl) hS (room_calls A c l w (hA.old hS) (by omega)) fun v s17 a w hR hF hS => ?_)
  obtain ⟨bf, rfl, rfl⟩ := hR
  refine sv' hF (wn rfl) rfl rfl (R.assign (hF.ev rfl)) fun a hF => ?_
  refine s0 ?_
  refine then_n (hK3 _ _ ?_)
  refine wp_seq_k fun K4 hK4 => ?_
  refine wp_region_lit ?_
  refine sv' hF (wn rfl) rfl rfl (R.move (hF.ev rfl)) fun a hF => ?_
  refine sv' hF (wn rfl) rfl rfl (R.move (hF.ev rfl)) fun a hF => ?_
  refine sv' hF (wn rfl) rfl rfl (R.len Try.underlying26 (hF.ev rfl)) fun a hF => ?_
  refine sv' hF (wn rfl) rfl rfl (R.sliceHi (p := ((l.length : Nat) : Int)) Try.underlying26 (hF.ev rfl) (hF.ev rfl) (by omega) (by omega) _ sz29) fun a hF => ?_
  refine sv' hF (wn rfl) rfl rfl (R.assign (hF.ev rfl)) fun a hF => ?_
  refine s0 ?_
  refine then_n (hK4 _ _ ?_)
  refine wp_seq_k fun K5 hK5 => ?_
  refine wp_region_lit ?_
  refine sv' hF (wn rfl) rfl rfl (R.move (hF.ev rfl)) fun a hF => ?_
  refine so (wn rfl) (O.call rfl rfl hF ent61 (hF.evs rfl) hS (rsum_calls A l.length c l w (hA.old hS) rfl hW (by omega)) fun v s24 a w hR hF hS => ?_)
  obtain ⟨rfl, rfl⟩ := hR
  refine sv' hF (wn rfl) rfl rfl (R.move (hF.ev rfl)) fun a hF => ?_
  refine sv' hF (wn rfl) rfl rfl (R.extract (hF.ev rfl) rfl) fun a hF => ?_
  refine sv' hF (wn rfl) rfl rfl (R.extract (hF.ev rfl) rfl) fun a hF => ?_
  refine so (wn rfl) (O.alloc rfl rfl hF ze29 rfl hS fun b8 a w hF hS => ?_)
  refine so (wn rfl) (O.storeW sz29 (hF.ev rfl) (hF.ev rfl) (rfl) rfl (by simp [Value.oneCell']) hS .h (rfl) fun w hS => ?_)
  refine sv' hF (wn rfl) rfl rfl (R.assign (hF.ev rfl)) fun a hF => ?_
  refine s0 ?_
  refine then_n (hK5 _ _ ?_)
  refine wp_seq_k fun K6 hK6 => ?_
  refine wp_region_lit ?_
  refine sv' hF (wn rfl) rfl rfl (R.move (hF.ev rfl)) fun a hF => ?_
  refine so (wn rfl) (O.call rfl rfl hF ent62 (hF.evs rfl) hS (sum_calls (some ⟨bf, 0, none⟩) l.length (l.length + 3) l w (rm_rd (Rd.own0 hS (.t (.t .h)))) rfl hW (by omega)) fun v s29 a w hR hF hS => ?_)
  obtain ⟨rfl, rfl⟩ := hR
  refine sv' hF (wn rfl) rfl rfl (R.move (hF.ev rfl)) fun a hF => ?_
  refine sv' hF (wn rfl) rfl rfl (R.extract (hF.ev rfl) rfl) fun a hF => ?_
  refine sv' hF (wn rfl) rfl rfl (R.extract (hF.ev rfl) rfl) fun a hF => ?_
  refine so (wn rfl) (O.alloc rfl rfl hF ze29 rfl hS fun b10 a w hF hS => ?_)
  refine so (wn rfl) (O.storeW sz29 (hF.ev rfl) (hF.ev rfl) (rfl) rfl (by simp [Value.oneCell']) hS .h (rfl) fun w hS => ?_)
  refine sv' hF (wn rfl) rfl rfl (R.assign (hF.ev rfl)) fun a hF => ?_
  refine s0 ?_
  refine then_n (hK6 _ _ ?_)
  refine wp_seq_k fun K7 hK7 => ?_
  refine wp_region_lit ?_
  refine sv' hF (wn rfl) rfl rfl (R.move (hF.ev rfl)) fun a hF => ?_
  refine so (wn rfl) (O.call rfl rfl hF ent62 (hF.evs rfl) hS (sum_calls (some ⟨bf, 0, none⟩) l.length (l.length + 3) l w (rm_rd (Rd.own0 hS (.t (.t (.t (.t .h)))))) rfl hW (by omega)) fun v s34 a w hR hF hS => ?_)
  obtain ⟨rfl, rfl⟩ := hR
  refine sv' hF (wn rfl) rfl rfl (R.move (hF.ev rfl)) fun a hF => ?_
  refine sv' hF (wn rfl) rfl rfl (R.extract (hF.ev rfl) rfl) fun a hF => ?_
  refine sv' hF (wn rfl) rfl rfl (R.extract (hF.ev rfl) rfl) fun a hF => ?_
  refine so (wn rfl) (O.alloc rfl rfl hF ze29 rfl hS fun b12 a w hF hS => ?_)
  refine so (wn rfl) (O.storeW sz29 (hF.ev rfl) (hF.ev rfl) (rfl) rfl (by simp [Value.oneCell']) hS .h (rfl) fun w hS => ?_)
  refine sv' hF (wn rfl) rfl rfl (R.assign (hF.ev rfl)) fun a hF => ?_
  refine s0 ?_
  refine then_n (hK7 _ _ ?_)
  refine wp_seq_k fun K8 hK8 => ?_
  refine wp_seq_k fun K9 hK9 => ?_
  refine wp_region_lit ?_
  refine sv' hF (wn rfl) rfl rfl (R.move (hF.ev rfl)) fun a hF => ?_
  refine sv' hF (wn rfl) rfl rfl (R.as (u := .bool false) (R.not (b := true) (hF.ev rfl)) (rfl)) fun a hF => ?_
  refine sv' hF (wn rfl) rfl rfl (R.move (hF.ev rfl)) fun a hF => ?_
  refine sv' hF (wy hF rfl rfl rfl) rfl rfl (R.loadW agg29 (hF.ev rfl) hS (.t (.t .h)) sz29 (rfl)) fun a hF => ?_
  refine sv' hF (wy hF rfl rfl rfl) rfl rfl (R.loadW agg29 (hF.ev rfl) hS (.t (.t (.t (.t .h)))) sz29 (rfl)) fun a hF => ?_
  refine sv' hF (wy hF rfl rfl rfl) rfl rfl (R.as (u := .bool false) (R.neqW (x := (if l.sum < 115792089237316195423570985008687907853269984665640564039457584007913129639936 then l.sum else 0)) (y := (if l.sum < 115792089237316195423570985008687907853269984665640564039457584007913129639936 then l.sum else 0)) (hF.ev rfl) (hF.ev rfl) (fit_lt fun h => h) (fit_lt fun h => h)) (congrArg Value.bool (decide_eq_false (fun h => h (rfl))))) fun a hF => ?_
  refine sv' hF (wn rfl) rfl rfl (R.pickF (hF.ev rfl) (hF.ev rfl)) fun a hF => ?_
  refine sv' hF (wn rfl) rfl rfl (R.move (hF.ev rfl)) fun a hF => ?_
  refine sv' hF (wy hF rfl rfl rfl) rfl rfl (R.loadW agg29 (hF.ev rfl) hS .h sz29 (rfl)) fun a hF => ?_
  refine sv' hF (wy hF rfl rfl rfl) rfl rfl (R.loadW agg29 (hF.ev rfl) hS (.t (.t (.t (.t .h)))) sz29 (rfl)) fun a hF => ?_
  refine sv' hF (wy hF rfl rfl rfl) rfl rfl (R.as (u := .bool false) (R.neqW (x := (if l.sum < 115792089237316195423570985008687907853269984665640564039457584007913129639936 then l.sum else 0)) (y := (if l.sum < 115792089237316195423570985008687907853269984665640564039457584007913129639936 then l.sum else 0)) (hF.ev rfl) (hF.ev rfl) (fit_lt fun h => h) (fit_lt fun h => h)) (congrArg Value.bool (decide_eq_false (fun h => h (rfl))))) fun a hF => ?_
  refine sv' hF (wn rfl) rfl rfl (R.pickF (hF.ev rfl) (hF.ev rfl)) fun a hF => ?_
  refine sv' hF (wn rfl) rfl rfl (R.move (hF.ev rfl)) fun a hF => ?_
  refine sv' hF (wy hF rfl rfl rfl) rfl rfl (R.move (hF.ev rfl)) fun a hF => ?_
  refine sv' hF (wy hF rfl rfl rfl) rfl rfl (R.move (hF.ev rfl)) fun a hF => ?_
  refine sv' hF (wy hF rfl rfl rfl) rfl rfl (R.as (u := .bool false) (R.neq (p := if l.sum < 115792089237316195423570985008687907853269984665640564039457584007913129639936 then 0 else 22) (q := if l.sum < 115792089237316195423570985008687907853269984665640564039457584007913129639936 then 0 else 22) (hF.ev rfl) (hF.ev rfl)) (congrArg Value.bool (decide_eq_false (fun h => h (rfl))))) fun a hF => ?_
  refine sv' hF (wn rfl) rfl rfl (R.pickF (hF.ev rfl) (hF.ev rfl)) fun a hF => ?_
  refine sv' hF (wn rfl) rfl rfl (R.move (hF.ev rfl)) fun a hF => ?_
  refine sv' hF (wy hF rfl rfl rfl) rfl rfl (R.move (hF.ev rfl)) fun a hF => ?_
  refine sv' hF (wy hF rfl rfl rfl) rfl rfl (R.move (hF.ev rfl)) fun a hF => ?_
  refine sv' hF (wy hF rfl rfl rfl) rfl rfl (R.as (u := .bool false) (R.neq (p := if l.sum < 115792089237316195423570985008687907853269984665640564039457584007913129639936 then 0 else 22) (q := if l.sum < 115792089237316195423570985008687907853269984665640564039457584007913129639936 then 0 else 22) (hF.ev rfl) (hF.ev rfl)) (congrArg Value.bool (decide_eq_false (fun h => h (rfl))))) fun a hF => ?_
  refine sv' hF (wn rfl) rfl rfl (R.pickF (hF.ev rfl) (hF.ev rfl)) fun a hF => ?_
  refine sv' hF (wn rfl) rfl rfl (R.move (hF.ev rfl)) fun a hF => ?_
  refine sv' hF (wy hF rfl rfl rfl) rfl rfl (R.move (hF.ev rfl)) fun a hF => ?_
  refine sv' hF (wy hF rfl rfl rfl) rfl rfl (R.move (hF.ev rfl)) fun a hF => ?_
  refine so (wy hF rfl rfl rfl) (O.call rfl rfl hF ent60 (hF.evs rfl) hS (room_calls A c l w (hA.old hS) (by omega)) fun v s62 a w hR hF hS => ?_)
  obtain ⟨bg, rfl, rfl⟩ := hR
  refine so (wy hF rfl rfl rfl) (O.call rfl rfl hF ent63 (hF.evs rfl) hS (alike_room (some ⟨bf, 0, none⟩) (some ⟨bg, 0, none⟩) _ _ l w (Rd.own0 hS (.t (.t (.t (.t (.t (.t (.t .h)))))))) (Rd.own0 hS .h) hW (by omega)) fun v s63 a w hR hF hS => ?_)
  obtain ⟨rfl, rfl⟩ := hR
  refine sv' hF (wy hF rfl rfl rfl) rfl rfl (R.as (u := .bool false) (R.not (b := true) (hF.ev rfl)) (rfl)) fun a hF => ?_
  refine sv' hF (wn rfl) rfl rfl (R.pickF (hF.ev rfl) (hF.ev rfl)) fun a hF => ?_
  refine s0 ?_
  refine then_n (hK9 _ _ ?_)
  refine cF hF rfl ?_
  refine wp_skip ?_
  refine then_n (hK8 _ _ ?_)
  refine wp_seq_k fun K10 hK10 => ?_
  refine wp_region_lit ?_
  refine sv' hF (wn rfl) rfl rfl (R.move (hF.ev rfl)) fun a hF => ?_
  refine sv' hF (wn rfl) rfl rfl (R.len Try.underlying26 (hF.ev rfl)) fun a hF => ?_
  refine so (wn rfl) (O.makeSlice rfl rfl hF Try.underlying26 inf29 rfl rfl (hF.ev rfl) (hF.ev rfl) (by omega) (by omega) (by omega) (by omega) hS fun b68 a w hF hS => ?_)
  rw [Int.toNat_natCast] at hF hS
  refine sv' hF (wn rfl) rfl rfl (R.assign (hF.ev rfl)) fun a hF => ?_
  refine s0 ?_
  refine then_n (hK10 _ _ ?_)
  refine wp_seq_k fun K11 hK11 => ?_
  refine wp_region_lit ?_
  refine sv' hF (wn rfl) rfl rfl (R.move (hF.ev rfl)) fun a hF => ?_
  refine sv' hF (wn rfl) rfl rfl (R.move (hF.ev rfl)) fun a hF => ?_
  refine so (wn rfl) (O.copyS rfl rfl hF Try.underlying26 sz29 (hF.ev rfl) (hF.ev rfl) hS (hB.old hS) (wcs_length m) (by decide) (wcs_one m) .h (lay_spl m l.length) (by rw [length_zeros]; simp only [List.length_cons, List.length_nil]; omega) fun a w hF hS => ?_)
  refine s0 ?_
  refine then_n (hK11 _ _ ?_)
  refine wp_seq_k fun K12 hK12 => ?_
  refine wp_region_lit ?_
  refine sv' hF (wn rfl) rfl rfl (R.move (hF.ev rfl)) fun a hF => ?_
  refine sv' hF (wn rfl) rfl rfl (R.move (hF.ev rfl)) fun a hF => ?_
  refine so (wn rfl) (O.copyS rfl rfl hF Try.underlying26 sz29 (hF.ev rfl) (hF.ev rfl) hS (Rd.own0 hS .h) (by rw [wcs_length, length_lay]) (by decide) (wcs_one _) (.t (.t (.t (.t (.t (.t (.t (.t (.t .h))))))))) (over_spl l (lay m l.length) 3 (length_lay _ _)) (by rw [wcs_length, length_rm]; omega) fun a w hF hS => ?_)
  refine s0 ?_
  refine then_n (hK12 _ _ ?_)
  refine wp_seq_k fun K13 hK13 => ?_
  refine wp_region_lit ?_
  refine sv' hF (wn rfl) rfl rfl (R.move (hF.ev rfl)) fun a hF => ?_
  refine so (wn rfl) (O.call rfl rfl hF ent61 (hF.evs rfl) hS (rsum_calls (some ⟨b68, 0, none⟩) l.length l.length (lay m l.length) w (Rd.own0 hS .h) (length_lay _ _) (allW_lay hV _) (by omega)) fun v s77 a w hR hF hS => ?_)
  obtain ⟨rfl, rfl⟩ := hR
  refine sv' hF (wn rfl) rfl rfl (R.move (hF.ev rfl)) fun a hF => ?_
  refine sv' hF (wn rfl) rfl rfl (R.extract (hF.ev rfl) rfl) fun a hF => ?_
  refine sv' hF (wn rfl) rfl rfl (R.extract (hF.ev rfl) rfl) fun a hF => ?_
  refine so (wn rfl) (O.storeW sz29 (hF.ev rfl) (hF.ev rfl) (rfl) rfl (by simp [Value.oneCell']) hS (.t (.t (.t (.t (.t (.t (.t (.t .h)))))))) (rfl) fun w hS => ?_)
  refine sv' hF (wn rfl) rfl rfl (R.assign (hF.ev rfl)) fun a hF => ?_
  refine s0 ?_
  refine then_n (hK13 _ _ ?_)
  refine wp_seq_k fun K14 hK14 => ?_
  refine wp_region_lit ?_
  refine sv' hF (wn rfl) rfl rfl (R.move (hF.ev rfl)) fun a hF => ?_
  refine so (wn rfl) (O.call rfl rfl hF ent62 (hF.evs rfl) hS (sum_calls (some ⟨bf, 0, none⟩) l.length (l.length + 3) (lay m l.length) w (over_rd (Rd.own0 hS (.t (.t (.t (.t (.t (.t (.t (.t (.t (.t .h)))))))))))) (length_lay _ _) (allW_lay hV _) (by omega)) fun v s82 a w hR hF hS => ?_)
  obtain ⟨rfl, rfl⟩ := hR
  refine sv' hF (wn rfl) rfl rfl (R.move (hF.ev rfl)) fun a hF => ?_
  refine sv' hF (wn rfl) rfl rfl (R.extract (hF.ev rfl) rfl) fun a hF => ?_
  refine sv' hF (wn rfl) rfl rfl (R.extract (hF.ev rfl) rfl) fun a hF => ?_
  refine so (wn rfl) (O.storeW sz29 (hF.ev rfl) (hF.ev rfl) (rfl) rfl (by simp [Value.oneCell']) hS (.t (.t (.t (.t (.t (.t (.t .h))))))) (rfl) fun w hS => ?_)
  refine sv' hF (wn rfl) rfl rfl (R.assign (hF.ev rfl)) fun a hF => ?_
  refine s0 ?_
  refine then_n (hK14 _ _ ?_)
  refine wp_seq_k fun K15 hK15 => ?_
  refine wp_region_lit ?_
  refine sv' hF (wn rfl) rfl rfl (R.loadW agg29 (hF.ev rfl) hS (.t (.t (.t (.t (.t (.t (.t .h))))))) sz29 (rfl)) fun a hF => ?_
  refine sv' hF (wn rfl) rfl rfl (R.loadW agg29 (hF.ev rfl) hS (.t (.t (.t (.t (.t (.t (.t (.t (.t .h))))))))) sz29 (rfl)) fun a hF => ?_
  refine sv' hF (wn rfl) rfl rfl (R.as (u := .bool true) (R.eqlW (x := (if (lay m l.length).sum < 115792089237316195423570985008687907853269984665640564039457584007913129639936 then (lay m l.length).sum else 0)) (y := (if (lay m l.length).sum < 115792089237316195423570985008687907853269984665640564039457584007913129639936 then (lay m l.length).sum else 0)) (hF.ev rfl) (hF.ev rfl) (fit_lt fun h => h) (fit_lt fun h => h)) (congrArg Value.bool (decide_eq_true (rfl)))) fun a hF => ?_
  refine sv' hF (wn rfl) rfl rfl (R.move (hF.ev rfl)) fun a hF => ?_
  refine sv' hF (wy hF rfl rfl rfl) rfl rfl (R.move (hF.ev rfl)) fun a hF => ?_
  refine sv' hF (wy hF rfl rfl rfl) rfl rfl (R.move (hF.ev rfl)) fun a hF => ?_
  refine sv' hF (wy hF rfl rfl rfl) rfl rfl (R.as (u := .bool true) (R.eql (p := if (lay m l.length).sum < 115792089237316195423570985008687907853269984665640564039457584007913129639936 then 0 else 22) (q := if (lay m l.length).sum < 115792089237316195423570985008687907853269984665640564039457584007913129639936 then 0 else 22) (hF.ev rfl) (hF.ev rfl)) (congrArg Value.bool (decide_eq_true (rfl)))) fun a hF => ?_
  refine sv' hF (wn rfl) rfl rfl (R.pickT (hF.ev rfl) (hF.ev rfl)) fun a hF => ?_
  refine sv' hF (wn rfl) rfl rfl (R.assign (hF.ev rfl)) fun a hF => ?_
  refine s0 ?_
  refine then_n (hK15 _ _ ?_)
  refine wp_ret (hR _ _ _ _ _ hF (run_results Try.results14 (.t hF rfl (.nil))) ?_)
  exact ⟨_, [], rfl, ⟨rfl, rfl⟩, hS.none⟩

end Go.Proofs.Ythgecfjpacebeaa
