/- The calls of the reference's product. -/
import Derived.Test.YthgecfjpacebeaaBc
namespace Go.Proofs.Ythgecfjpacebeaa
open Go Go.Fw Go.RowKit
attribute [local irreducible] Go.Oper.wp Go.Code.wp Go.wpList Go.Fw.WL Go.Calls
theorem own_fullN {f : Nat → Nat} (b : Nat) {n : Nat} (h : n ≤ 9223372036854775807) : OwnS [(b, Cel (intsF n f) 3)] (some ⟨b, 0, none⟩) n n (ints ((List.range n).map f)) 3 1 := by
  have := own_full b ((List.range n).map f) (by simpa using h)
  simpa [intsF] using this

theorem times_calls (A B : Option Addr) (c d x y : Nat) (w0 : World) (hA : Rd w0 A (ints (bl x))) (hB : Rd w0 B (ints (bl y))) (hx : (bl x).length ≤ 1000000) (hy : (bl y).length ≤ 1000000) : Ret Try.prog 99 [.slice A (bl x).length c, .slice B (bl y).length d] w0 [] (RetI (bl (x * y))) := by
  refine fn_start Try.func99 rfl Try.ntmps99 rfl [(0, .slice A (bl x).length c), (1, .slice B (bl y).length d)] ⟨rfl, rfl, trivial⟩ ?_
  intro Q a hP hF hR hN
  have hS := St.start w0
  refine wp_seq_k fun K1 hK1 => ?_
  refine wp_region_lit ?_
  refine sv' hF (wn rfl) rfl rfl (R.assign (hF.ev rfl)) fun a hF => ?_
  refine s0 ?_
  refine then_n (hK1 _ _ ?_)
  refine wp_seq_k fun K2 hK2 => ?_
  refine wp_region_lit ?_
  refine sv' hF (wn rfl) rfl rfl (R.move (hF.ev rfl)) fun a hF => ?_
  refine sv' hF (wn rfl) rfl rfl (R.len Try.underlying64 (hF.ev rfl)) fun a hF => ?_
  refine sv' hF (wn rfl) rfl rfl (R.move (hF.ev rfl)) fun a hF => ?_
  refine sv' hF (wn rfl) rfl rfl (R.len Try.underlying64 (hF.ev rfl)) fun a hF => ?_
  refine sv' hF (wn rfl) rfl rfl (R.addI (hF.ev rfl) (hF.ev rfl) (by omega)) fun a hF => ?_
  refine sv' hF (wn rfl) rfl rfl (R.addI (hF.ev rfl) (hF.ev rfl) (by omega)) fun a hF => ?_
  refine so (wn rfl) (O.makeSlice rfl rfl hF Try.underlying64 inf3 rfl rfl (hF.ev rfl) (hF.ev rfl) (by omega) (by omega) (by omega) (by omega) hS fun b15 a w hF hS => ?_)
  rw [show Int.toNat (((bl x).length : Int) + ((bl y).length : Int) + 1) = ((bl x).length + (bl y).length + 1) from by omega] at hF hS; rw [zeros_intsF] at hS
  refine sv' hF (wn rfl) rfl rfl (R.assign (hF.ev rfl)) fun a hF => ?_
  refine s0 ?_
  refine then_n (hK2 _ _ ?_)
  refine wp_seq_k fun K3 hK3 => ?_
  refine wp_seq_k fun K4 hK4 => ?_
  refine wp_region_lit ?_
  refine sv' hF (wn rfl) rfl rfl (R.assign (hF.ev rfl)) fun a hF => ?_
  refine s0 ?_
  refine then_n (hK4 _ _ ?_)
  refine wp_block ?_
  refine wp_loop_N (fun g a w => ∃ (i : Nat) (f : Nat → Nat), (bl x).length - i = g ∧ Fr 81 [(0, .slice A (bl x).length c), (1, .slice B (bl y).length d), (5, .slice (some ⟨b15, 0, none⟩) ((bl x).length + (bl y).length + 1) ((bl x).length + (bl y).length + 1)), (6, .int .i64 (i : Nat))] a ∧ St w0 [] [[(b15, Cel (intsF ((bl x).length + (bl y).length + 1) f) 3)]] w ∧ (i ≤ (bl x).length) ∧ (valF f ((bl x).length + (bl y).length + 1) = x % 2 ^ i * y) ∧ (∀ k, f k ≤ i)) ((bl x).length - 0) ?_ ?_
  · exact ⟨0, fun _ => 0, rfl, hF.sub ⟨rfl, rfl, rfl, rfl, trivial⟩, hS.sel [0] rfl rfl, by omega, by rw [valF_0]; simp [Nat.mod_one], fun _ => Nat.zero_le _⟩
  · rintro KL1 g a w ⟨i, f, hg1, hF, hS, hi, hv, hf⟩ hKL1
    refine wp_seq_k fun K5 hK5 => ?_
    refine wp_seq_k fun K6 hK6 => ?_
    refine wp_region_lit ?_
    refine sv' hF (wn rfl) rfl rfl (R.move (hF.ev rfl)) fun a hF => ?_
    refine sv' hF (wn rfl) rfl rfl (R.move (hF.ev rfl)) fun a hF => ?_
    refine sv' hF (wn rfl) rfl rfl (R.len Try.underlying64 (hF.ev rfl)) fun a hF => ?_
    refine sv' hF (wn rfl) rfl rfl (R.lss (hF.ev rfl) (hF.ev rfl)) fun a hF => ?_
    refine s0 ?_
    refine then_n (hK6 _ _ ?_)
    refine cD hF rfl (fun c1 => ?_) (fun c1 => ?_)
    ·
      have hbi := bit_le x i
      refine wp_skip ?_
      refine then_n (hK5 _ _ ?_)
      refine wp_seq_k fun K7 hK7 => ?_
      refine wp_block ?_
      refine wp_seq_k fun K8 hK8 => ?_
      refine wp_seq_k fun K9 hK9 => ?_
      refine wp_region_lit ?_
      refine sv' hF (wn rfl) rfl rfl (R.move (hF.ev rfl)) fun a hF => ?_
      refine sv' hF (wn rfl) rfl rfl (R.move (hF.ev rfl)) fun a hF => ?_
      refine sv' hF (wn rfl) rfl rfl (R.indexO Try.underlying64 sz3 (hF.ev rfl) (Rd.ne hA (by rw [length_ints]; omega)) (hF.ev rfl) (by omega) (by omega)) fun a hF => ?_
      refine sv' hF (wn rfl) rfl rfl (R.loadO one3 (hF.ev rfl) (hA.old hS) (bl_at x i (by omega))) fun a hF => ?_
      refine sv' hF (wn rfl) rfl rfl (R.eql (hF.ev rfl) (hF.ev rfl)) fun a hF => ?_
      refine s0 ?_
      refine then_n (hK9 _ _ ?_)
      refine cD hF rfl (fun c2 => ?_) (fun c2 => ?_)
      ·
        refine wp_exit (then_x (blk_hit ?_))
        refine then_n (hK7 _ _ ?_)
        refine wp_region_lit ?_
        refine sv' hF (wn rfl) rfl rfl (R.move (hF.ev rfl)) fun a hF => ?_
        refine sv' hF (wn rfl) rfl rfl (R.addI (hF.ev rfl) (hF.ev rfl) (by omega)) fun a hF => ?_
        refine sv' hF (wn rfl) rfl rfl (R.assign (hF.ev rfl)) fun a hF => ?_
        refine s0 ?_
        refine then_n (hKL1 ((bl x).length - (i + 1)) _ _ ?_ ?_)
        · omega
        · exact ⟨i + 1, f, rfl, hF.sub ⟨rfl, rfl, rfl, rfl, trivial⟩, hS.sel [0] rfl rfl, by omega, by first | (rw [hv]; exact times_row0 (by omega)) | (rw [inv]; exact times_row1 ((length_bl_lt y _).1 (Nat.le_refl _)) h1), fun k => by first | exact Nat.le_succ_of_le (hf k) | exact hg1 k⟩
      ·
        have h1 : bit x i = 1 := by omega
        refine wp_skip ?_
        refine then_n (hK8 _ _ ?_)
        refine wp_seq_k fun K10 hK10 => ?_
        refine wp_region_lit ?_
        refine sv' hF (wn rfl) rfl rfl (R.assign (hF.ev rfl)) fun a hF => ?_
        refine s0 ?_
        refine then_n (hK10 _ _ ?_)
        refine wp_block ?_
        refine wp_loop_N (fun g a w => ∃ (j : Nat) (f : Nat → Nat), (bl y).length - j = g ∧ Fr 81 [(0, .slice A (bl x).length c), (1, .slice B (bl y).length d), (5, .slice (some ⟨b15, 0, none⟩) ((bl x).length + (bl y).length + 1) ((bl x).length + (bl y).length + 1)), (6, .int .i64 (i : Nat)), (7, .int .i64 (j : Nat))] a ∧ St w0 [] [[(b15, Cel (intsF ((bl x).length + (bl y).length + 1) f) 3)]] w ∧ (j ≤ (bl y).length) ∧ (valF f ((bl x).length + (bl y).length + 1) = x % 2 ^ i * y + (y % 2 ^ j) * 2 ^ i) ∧ (∀ k, f k ≤ i + 1) ∧ (∀ k, i + j ≤ k → f k ≤ i)) ((bl y).length - 0) ?_ ?_
        · exact ⟨0, f, rfl, hF.sub ⟨rfl, rfl, rfl, rfl, rfl, trivial⟩, hS.sel [0] rfl rfl, by omega, by rw [hv]; simp [Nat.mod_one], fun k => Nat.le_succ_of_le (hf k), fun k _ => hf k⟩
        · rintro KL2 g a w ⟨j, f, hg2, hF, hS, hj, inv, hg1, hg⟩ hKL2
          refine wp_seq_k fun K11 hK11 => ?_
          refine wp_seq_k fun K12 hK12 => ?_
          refine wp_region_lit ?_
          refine sv' hF (wn rfl) rfl rfl (R.move (hF.ev rfl)) fun a hF => ?_
          refine sv' hF (wn rfl) rfl rfl (R.move (hF.ev rfl)) fun a hF => ?_
          refine sv' hF (wn rfl) rfl rfl (R.len Try.underlying64 (hF.ev rfl)) fun a hF => ?_
          refine sv' hF (wn rfl) rfl rfl (R.lss (hF.ev rfl) (hF.ev rfl)) fun a hF => ?_
          refine s0 ?_
          refine then_n (hK12 _ _ ?_)
          refine cD hF rfl (fun c3 => ?_) (fun c3 => ?_)
          ·
            have hfij := hg (i + j) (by omega)
            have hbj := bit_le y j
            refine wp_skip ?_
            refine then_n (hK11 _ _ ?_)
            refine wp_seq_k fun K13 hK13 => ?_
            refine wp_block ?_
            refine wp_drawS hS [(0, 0), (1, 0), (2, 0), (3, 0), (4, 0), (5, 0), (6, 0), (7, 0), (8, 0), (9, 1), (10, 0), (11, 0), (12, 0), (13, 1), (14, 0), (15, 0), (16, 3)] mix (by kernel_rfl) (hP.then.block.then.then.block.block.then.then.block) fun w hS => ?_
            have hD := hS
            refine dq hF rfl (wn rfl) rfl rfl (fun w => R.move (hF.ev rfl)) fun a hF => ?_
            refine dq hF rfl (wn rfl) rfl rfl (fun w => R.move (hF.ev rfl)) fun a hF => ?_
            refine dq hF rfl (wn rfl) rfl rfl (fun w => R.move (hF.ev rfl)) fun a hF => ?_
            refine dq hF rfl (wn rfl) rfl rfl (fun w => R.addI (hF.ev rfl) (hF.ev rfl) (by omega)) fun a hF => ?_
            refine dq hF rfl (wn rfl) rfl rfl (fun w => R.move (hF.ev rfl)) fun a hF => ?_
            refine dq hF rfl (wn rfl) rfl rfl (fun w => R.move (hF.ev rfl)) fun a hF => ?_
            refine dq hF rfl (wn rfl) rfl rfl (fun w => R.move (hF.ev rfl)) fun a hF => ?_
            refine dq hF rfl (wn rfl) rfl rfl (fun w => R.addI (hF.ev rfl) (hF.ev rfl) (by omega)) fun a hF => ?_
            refine dq hF rfl (wn rfl) rfl rfl (fun w => R.indexS Try.underlying64 sz3 (hF.ev rfl) (hF.ev rfl) (by omega) (by omega)) fun a hF => ?_
            refine dr hF rfl (wn rfl) rfl rfl hD (fun w hD => R.load one3 (hF.ev rfl) hD .h (intsF_at (k := i + j) (by omega) (by omega))) fun a hF => ?_
            refine dq hF rfl (wn rfl) rfl rfl (fun w => R.move (hF.ev rfl)) fun a hF => ?_
            refine dq hF rfl (wn rfl) rfl rfl (fun w => R.move (hF.ev rfl)) fun a hF => ?_
            refine dq hF rfl (wn rfl) rfl rfl (fun w => R.indexO Try.underlying64 sz3 (hF.ev rfl) (Rd.ne hB (by rw [length_ints]; omega)) (hF.ev rfl) (by omega) (by omega)) fun a hF => ?_
            refine dr hF rfl (wn rfl) rfl rfl hD (fun w hD => R.loadO one3 (hF.ev rfl) (hB.old hD) (bl_at y j (by omega))) fun a hF => ?_
            refine dq hF rfl (wn rfl) rfl rfl (fun w => R.addI (hF.ev rfl) (hF.ev rfl) (by omega)) fun a hF => ?_
            refine dq hF rfl (wn rfl) rfl rfl (fun w => R.indexS Try.underlying64 sz3 (hF.ev rfl) (hF.ev rfl) (by omega) (by omega)) fun a hF => ?_
            refine dw rfl (wn rfl) (O.store sz3 (hF.ev rfl) (hF.ev rfl) rfl rfl hS .h (intsF_set (k := i + j) (v := f (i + j) + bit y j) (by omega) (by simp)) (by rw [length_intsF]; omega) fun w hS => ?_)
            refine d0 ?_
            refine blk_n ?_
            refine then_n (hK13 _ _ ?_)
            refine wp_region_lit ?_
            refine sv' hF (wn rfl) rfl rfl (R.move (hF.ev rfl)) fun a hF => ?_
            refine sv' hF (wn rfl) rfl rfl (R.addI (hF.ev rfl) (hF.ev rfl) (by omega)) fun a hF => ?_
            refine sv' hF (wn rfl) rfl rfl (R.assign (hF.ev rfl)) fun a hF => ?_
            refine s0 ?_
            refine then_n (hKL2 ((bl y).length - (j + 1)) _ _ ?_ ?_)
            · omega
            · exact ⟨j + 1, _, rfl, hF.sub ⟨rfl, rfl, rfl, rfl, rfl, trivial⟩, hS.sel [0] rfl rfl, by omega, times_step (by omega) inv, fun k => by unfold upd8; split; omega; exact hg1 k, fun k hk => by rw [upd8, if_neg (by omega)]; exact hg k (by omega)⟩
          ·
            obtain rfl : j = (bl y).length := by omega
            refine wp_exit (then_x (then_x (blk_hit ?_)))
            refine blk_n ?_
            refine then_n (hK7 _ _ ?_)
            refine wp_region_lit ?_
            refine sv' hF (wn rfl) rfl rfl (R.move (hF.ev rfl)) fun a hF => ?_
            refine sv' hF (wn rfl) rfl rfl (R.addI (hF.ev rfl) (hF.ev rfl) (by omega)) fun a hF => ?_
            refine sv' hF (wn rfl) rfl rfl (R.assign (hF.ev rfl)) fun a hF => ?_
            refine s0 ?_
            refine then_n (hKL1 ((bl x).length - (i + 1)) _ _ ?_ ?_)
            · omega
            · exact ⟨i + 1, f, rfl, hF.sub ⟨rfl, rfl, rfl, rfl, trivial⟩, hS.sel [0] rfl rfl, by omega, by first | (rw [hv]; exact times_row0 (by omega)) | (rw [inv]; exact times_row1 ((length_bl_lt y _).1 (Nat.le_refl _)) h1), fun k => by first | exact Nat.le_succ_of_le (hf k) | exact hg1 k⟩
    ·
      obtain rfl : i = (bl x).length := by omega
      refine wp_exit (then_x (then_x (blk_hit ?_)))
      refine then_n (hK3 _ _ ?_)
      refine wp_seq_k fun K14 hK14 => ?_
      refine wp_seq_k fun K15 hK15 => ?_
      refine wp_region_lit ?_
      refine sv' hF (wn rfl) rfl rfl (R.assign (hF.ev rfl)) fun a hF => ?_
      refine s0 ?_
      refine then_n (hK15 _ _ ?_)
      refine wp_block ?_
      refine wp_loop_N (fun g a w => ∃ (k : Nat) (f : Nat → Nat), ((bl x).length + (bl y).length + 1) - k = g ∧ Fr 81 [(0, .slice A (bl x).length c), (1, .slice B (bl y).length d), (5, .slice (some ⟨b15, 0, none⟩) ((bl x).length + (bl y).length + 1) ((bl x).length + (bl y).length + 1)), (8, .int .i64 (k : Nat))] a ∧ St w0 [] [[(b15, Cel (intsF ((bl x).length + (bl y).length + 1) f) 3)]] w ∧ (k + 1 ≤ ((bl x).length + (bl y).length + 1)) ∧ (valF f ((bl x).length + (bl y).length + 1) = x * y) ∧ (∀ m, m < k → f m ≤ 1) ∧ (f k ≤ 2 * (bl x).length) ∧ (∀ m, k < m → f m ≤ (bl x).length)) (((bl x).length + (bl y).length + 1) - 0) ?_ ?_
      · exact ⟨0, f, rfl, hF.sub ⟨rfl, rfl, rfl, rfl, trivial⟩, hS.sel [0] rfl rfl, by omega, by rw [hv, mod_all], fun m hm => absurd hm (by omega), Nat.le_trans (hf 0) (by omega), fun m _ => hf m⟩
      · rintro KL3 g a w ⟨k, f, hg3, hF, hS, hk, hv, hl, hfk, hh⟩ hKL3
        refine wp_seq_k fun K16 hK16 => ?_
        refine wp_seq_k fun K17 hK17 => ?_
        refine wp_region_lit ?_
        refine sv' hF (wn rfl) rfl rfl (R.move (hF.ev rfl)) fun a hF => ?_
        refine sv' hF (wn rfl) rfl rfl (R.addI (hF.ev rfl) (hF.ev rfl) (by omega)) fun a hF => ?_
        refine sv' hF (wn rfl) rfl rfl (R.move (hF.ev rfl)) fun a hF => ?_
        refine sv' hF (wn rfl) rfl rfl (R.len Try.underlying64 (hF.ev rfl)) fun a hF => ?_
        refine sv' hF (wn rfl) rfl rfl (R.lss (hF.ev rfl) (hF.ev rfl)) fun a hF => ?_
        refine s0 ?_
        refine then_n (hK17 _ _ ?_)
        refine cD hF rfl (fun c4 => ?_) (fun c4 => ?_)
        ·
          have hk1 := hh (k + 1) (by omega)
          refine wp_skip ?_
          refine then_n (hK16 _ _ ?_)
          refine wp_seq_k fun K18 hK18 => ?_
          refine wp_block ?_
          refine wp_seq_k fun K19 hK19 => ?_
          refine wp_drawS hS [(0, 0), (1, 0), (2, 0), (3, 0), (4, 0), (5, 0), (6, 0), (7, 1), (8, 0), (9, 0), (10, 0), (11, 1), (12, 0), (13, 0), (14, 0), (15, 3)] mix (by kernel_rfl) (hP.then.block.then.then.block.then) fun w hS => ?_
          have hD := hS
          refine dq hF rfl (wn rfl) rfl rfl (fun w => R.move (hF.ev rfl)) fun a hF => ?_
          refine dq hF rfl (wn rfl) rfl rfl (fun w => R.move (hF.ev rfl)) fun a hF => ?_
          refine dq hF rfl (wn rfl) rfl rfl (fun w => R.addI (hF.ev rfl) (hF.ev rfl) (by omega)) fun a hF => ?_
          refine dq hF rfl (wn rfl) rfl rfl (fun w => R.move (hF.ev rfl)) fun a hF => ?_
          refine dq hF rfl (wn rfl) rfl rfl (fun w => R.move (hF.ev rfl)) fun a hF => ?_
          refine dq hF rfl (wn rfl) rfl rfl (fun w => R.addI (hF.ev rfl) (hF.ev rfl) (by omega)) fun a hF => ?_
          refine dq hF rfl (wn rfl) rfl rfl (fun w => R.indexS Try.underlying64 sz3 (hF.ev rfl) (hF.ev rfl) (by omega) (by omega)) fun a hF => ?_
          refine dr hF rfl (wn rfl) rfl rfl hD (fun w hD => R.load one3 (hF.ev rfl) hD .h (intsF_at (k := k + 1) (by omega) (by omega))) fun a hF => ?_
          refine dq hF rfl (wn rfl) rfl rfl (fun w => R.move (hF.ev rfl)) fun a hF => ?_
          refine dq hF rfl (wn rfl) rfl rfl (fun w => R.move (hF.ev rfl)) fun a hF => ?_
          refine dq hF rfl (wn rfl) rfl rfl (fun w => R.indexS Try.underlying64 sz3 (hF.ev rfl) (hF.ev rfl) (by omega) (by omega)) fun a hF => ?_
          refine dr hF rfl (wn rfl) rfl rfl hD (fun w hD => R.load one3 (hF.ev rfl) hD .h (intsF_at (k := k) (by omega) (by omega))) fun a hF => ?_
          refine dq hF rfl (wn rfl) rfl rfl (fun w => R.quoI (hF.ev rfl) (hF.ev rfl) (by omega)) fun a hF => ?_
          refine dq hF rfl (wn rfl) rfl rfl (fun w => R.addI (hF.ev rfl) (hF.ev rfl) (by omega)) fun a hF => ?_
          refine dq hF rfl (wn rfl) rfl rfl (fun w => R.indexS Try.underlying64 sz3 (hF.ev rfl) (hF.ev rfl) (by omega) (by omega)) fun a hF => ?_
          refine dw rfl (wn rfl) (O.store sz3 (hF.ev rfl) (hF.ev rfl) rfl rfl hS .h (intsF_set (k := k + 1) (v := f (k + 1) + f k / 2) (by omega) (by simp)) (by rw [length_intsF]; omega) fun w hS => ?_)
          refine d0 ?_
          refine then_n (hK19 _ _ ?_)
          refine wp_region_lit ?_
          refine sv' hF (wn rfl) rfl rfl (R.move (hF.ev rfl)) fun a hF => ?_
          refine sv' hF (wn rfl) rfl rfl (R.move (hF.ev rfl)) fun a hF => ?_
          refine sv' hF (wn rfl) rfl rfl (R.move (hF.ev rfl)) fun a hF => ?_
          refine sv' hF (wn rfl) rfl rfl (R.move (hF.ev rfl)) fun a hF => ?_
          refine sv' hF (wn rfl) rfl rfl (R.indexS Try.underlying64 sz3 (hF.ev rfl) (hF.ev rfl) (by omega) (by omega)) fun a hF => ?_
          refine sv' hF (wn rfl) rfl rfl (R.load one3 (hF.ev rfl) hS .h (show _ = some (Value.int .i64 ((f k : Nat) : Int)) from by rw [intsF_at (k := k) (by omega) (by omega)]; simp [upd8])) fun a hF => ?_
          refine sv' hF (wn rfl) rfl rfl (R.remI (hF.ev rfl) (hF.ev rfl) (by omega)) fun a hF => ?_
          refine sv' hF (wn rfl) rfl rfl (R.indexS Try.underlying64 sz3 (hF.ev rfl) (hF.ev rfl) (by omega) (by omega)) fun a hF => ?_
          refine so (wn rfl) (O.store sz3 (hF.ev rfl) (hF.ev rfl) rfl rfl hS .h (intsF_set (k := k) (v := f k % 2) (by omega) (by simp)) (by rw [length_intsF]; omega) fun w hS => ?_)
          refine s0 ?_
          refine blk_n ?_
          refine then_n (hK18 _ _ ?_)
          refine wp_region_lit ?_
          refine sv' hF (wn rfl) rfl rfl (R.move (hF.ev rfl)) fun a hF => ?_
          refine sv' hF (wn rfl) rfl rfl (R.addI (hF.ev rfl) (hF.ev rfl) (by omega)) fun a hF => ?_
          refine sv' hF (wn rfl) rfl rfl (R.assign (hF.ev rfl)) fun a hF => ?_
          refine s0 ?_
          refine then_n (hKL3 (((bl x).length + (bl y).length + 1) - (k + 1)) _ _ ?_ ?_)
          · omega
          · exact ⟨k + 1, upd8 (upd8 f (k + 1) (f (k + 1) + f k / 2)) k (f k % 2), rfl, hF.sub ⟨rfl, rfl, rfl, rfl, trivial⟩, hS.sel [0] rfl rfl, by omega, (carry_step (by omega)).trans hv, fun m hm => by unfold upd8; split; omega; split; omega; exact hl m (by omega), by unfold upd8; rw [if_neg (by omega), if_pos rfl]; have := hh (k + 1) (by omega); omega, fun m hm => by unfold upd8; rw [if_neg (by omega), if_neg (by omega)]; exact hh m (by omega)⟩
        ·
          obtain ⟨hbits, hval⟩ := times_end (f := f) (x := x) (y := y) (k := (bl x).length + (bl y).length) rfl hv (fun m hm => hl m (by omega))
          refine wp_exit (then_x (then_x (blk_hit ?_)))
          refine then_n (hK14 _ _ ?_)
          refine wp_seq_k fun K20 hK20 => ?_
          refine wp_region_lit ?_
          refine sv' hF (wn rfl) rfl rfl (R.move (hF.ev rfl)) fun a hF => ?_
          refine so (wn rfl) (O.call rfl rfl hF ent105 (hF.evs rfl) hS (cut_calls (some ⟨b15, 0, none⟩) ((bl x).length + (bl y).length + 1) ((bl x).length + (bl y).length + 1) ((List.range ((bl x).length + (bl y).length + 1)).map f) w (Rd.own0 hS .h) (by simp) (by omega) (by omega) hbits) fun v s80 a w hR hF hS => ?_)
          obtain ⟨rfl, rfl⟩ := hR
          refine sv' hF (wn rfl) rfl rfl (R.assign (hF.ev rfl)) fun a hF => ?_
          refine s0 ?_
          refine then_n (hK20 _ _ ?_)
          refine wp_ret (hR _ _ _ _ _ hF (run_results Try.results99 (.t hF rfl (.nil))) ?_)
          exact ⟨_, _, rfl, ⟨_, _, by rw [hval]; rfl, hval ▸ own_cut (own_fullN b15 (by omega)) (by simp) hbits⟩, hS.one (.t .h)⟩

theorem rmul_calls (x y : Nat) (w0 : World) (hx : x < 115792089237316195423570985008687907853269984665640564039457584007913129639936) (hy : y < 115792089237316195423570985008687907853269984665640564039457584007913129639936) : Ret Try.prog 44 [wv x, wv y] w0 [] (fun v s => v = mulW x y ∧ s = []) := by
  refine fn_start Try.func44 rfl Try.ntmps44 rfl [(0, wv x), (1, wv y)] ⟨rfl, rfl, trivial⟩ ?_
  intro Q a hP hF hR hN
  have hS := St.start w0
  refine wp_seq_k fun K1 hK1 => ?_
  refine wp_region_lit ?_
  refine so (wn rfl) (O.box rfl rfl hF (hF.ev rfl) rfl hS fun b2 a w hF hS => ?_)
  refine so (wn rfl) (O.box rfl rfl hF (hF.ev rfl) rfl hS fun b3 a w hF hS => ?_)
  refine so (wn rfl) (O.alloc rfl rfl hF ze29 rfl hS fun b4 a w hF hS => ?_)
  refine sv' hF (wn rfl) rfl rfl (R.assign (hF.ev rfl)) fun a hF => ?_
  refine s0 ?_
  refine then_n (hK1 _ _ ?_)
  refine wp_seq_k fun K2 hK2 => ?_
  refine wp_drawS hS [(0, 1), (2, 1), (1, 2), (3, 2), (4, 2), (5, 2), (6, 0), (7, 0), (8, 3), (9, 0)] mix (by kernel_rfl) (hP.then) fun w hS => ?_
  have hD := hS
  refine dr hF rfl (wn rfl) rfl rfl hD (fun w hD => R.loadW agg29 (hF.ev rfl) hD (.t (.t .h)) sz29 (rfl)) fun a hF => ?_
  refine dr hF rfl (wn rfl) rfl rfl hD (fun w hD => R.loadW agg29 (hF.ev rfl) hD (.t .h) sz29 (rfl)) fun a hF => ?_
  refine dl rfl (wn rfl) (O.call rfl rfl hF ent75 (hF.evs rfl) hS (digits_calls x w hx) fun v s7 a w hR hF hS => ⟨fun hD => hS.tail, ?_⟩)
  obtain ⟨A7, c7, rfl, hO7⟩ := hR
  have hD := hS.tail
  refine dl rfl (wn rfl) (O.call rfl rfl hF ent75 (hF.evs rfl) hS (digits_calls y w hy) fun v s9 a w hR hF hS => ⟨fun hD => hS.tail.tail, ?_⟩)
  obtain ⟨A9, c9, rfl, hO9⟩ := hR
  have hD := hS.tail.tail
  refine dl rfl (wn rfl) (O.call rfl rfl hF ent99 (hF.evs rfl) hS (times_calls A7 A9 c7 c9 x y w (hO7.rd hS (.t .h)) (hO9.rd hS .h) (Nat.le_trans (len_bl hx) (by decide)) (Nat.le_trans (len_bl hy) (by decide))) fun v s10 a w hR hF hS => ⟨fun hD => hS.tail.tail.tail, ?_⟩)
  obtain ⟨A10, c10, rfl, hO10⟩ := hR
  have hD := hS.tail.tail.tail
  refine dl rfl (wn rfl) (O.call rfl rfl hF ent73 (hF.evs rfl) hS (answered_bl A10 c10 (x * y) w (hO10.rd hS .h) hO10.2.1 hO10.cap) fun v s11 a w hR hF hS => ⟨fun hD => hS.tail.tail.tail.tail, ?_⟩)
  obtain ⟨rfl, rfl⟩ := hR
  have hD := hS.tail.tail.tail.tail
  refine dq hF rfl (wn rfl) rfl rfl (fun w => R.extract (hF.ev rfl) rfl) fun a hF => ?_
  refine dq hF rfl (wn rfl) rfl rfl (fun w => R.extract (hF.ev rfl) rfl) fun a hF => ?_
  refine dw rfl (wn rfl) (O.storeW sz29 (hF.ev rfl) (hF.ev rfl) (rfl) rfl (by simp [Value.oneCell']) hS (.t (.t (.t (.t .h)))) (rfl) fun w hS => ?_)
  refine dq hF rfl (wn rfl) rfl rfl (fun w => R.assign (hF.ev rfl)) fun a hF => ?_
  refine d0 ?_
  refine then_n (hK2 _ _ ?_)
  refine wp_ret (hR _ _ _ _ _ hF (run_results Try.results44 (.cw hF rfl agg29 hS (.t (.t (.t (.t .h)))) sz29 (rfl) (.t hF rfl (.nil)))) ?_)
  exact ⟨_, [], rfl, ⟨rfl, rfl⟩, hS.none⟩

end Go.Proofs.Ythgecfjpacebeaa
