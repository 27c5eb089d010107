/- The calls of divided. -/
import Derived.Test.YthgecfjpacebeaaBg
namespace Go.Proofs.Ythgecfjpacebeaa
open Go Go.Fw Go.RowKit
attribute [local irreducible] Go.Oper.wp Go.Code.wp Go.wpList Go.Fw.WL Go.Calls
theorem shl4_lt (L k m : Nat) : shl4 L k m < 18446744073709551616 := by unfold shl4; split <;> exact dg_lt _ _
theorem wc_mod (n : Nat) : wc (n % 115792089237316195423570985008687907853269984665640564039457584007913129639936) = wc n := by
  simp only [wc, dg0, dg1, dg2, dg3]
  have h0 : n % 115792089237316195423570985008687907853269984665640564039457584007913129639936 % 18446744073709551616 = n % 18446744073709551616 := by omega
  have h1 : n % 115792089237316195423570985008687907853269984665640564039457584007913129639936 / 18446744073709551616 % 18446744073709551616 = n / 18446744073709551616 % 18446744073709551616 := by omega
  have h2 : n % 115792089237316195423570985008687907853269984665640564039457584007913129639936 / 340282366920938463463374607431768211456 % 18446744073709551616 = n / 340282366920938463463374607431768211456 % 18446744073709551616 := by omega
  have h3 : n % 115792089237316195423570985008687907853269984665640564039457584007913129639936 / 6277101735386680763835789423207666416102355444464034512896 % 18446744073709551616 = n / 6277101735386680763835789423207666416102355444464034512896 % 18446744073709551616 := by omega
  rw [h0, h1, h2, h3]
theorem sub4_end (n y : Nat) (_hn : n < 2 * 115792089237316195423570985008687907853269984665640564039457584007913129639936) (hy : y < 115792089237316195423570985008687907853269984665640564039457584007913129639936) (h : y ≤ n) (_hl : n < 2 * y) : wc (n % 115792089237316195423570985008687907853269984665640564039457584007913129639936 + 115792089237316195423570985008687907853269984665640564039457584007913129639936 - y) = wc (n - y) := by
  have e : (n % 115792089237316195423570985008687907853269984665640564039457584007913129639936 + 115792089237316195423570985008687907853269984665640564039457584007913129639936 - y) % 115792089237316195423570985008687907853269984665640564039457584007913129639936 = (n - y) % 115792089237316195423570985008687907853269984665640564039457584007913129639936 := by omega
  rw [← wc_mod (n % 115792089237316195423570985008687907853269984665640564039457584007913129639936 + 115792089237316195423570985008687907853269984665640564039457584007913129639936 - y), ← wc_mod (n - y), e]
theorem p64 {k : Nat} (h : k < 64) : 2 ^ k < 18446744073709551616 := by
  have : (2 : Nat) ^ k < 2 ^ 64 := Nat.pow_lt_pow_right (by decide) h
  exact this
theorem pow_half (e : Nat) : (2 : Nat) ^ (e * 8) = 2 ^ (e * 4) * 2 ^ (e * 4) := by rw [← Nat.pow_add]; congr 1; omega
theorem pow512 : (2 : Nat) ^ (64 * 8) = 13407807929942597099574024998205846127479365820592393377723561443721764030073546976801874298166903427690031858186486050853753882811946569946433649006084096 := (pow_half 64).trans (by rw [show (2 : Nat) ^ (64 * 4) = 115792089237316195423570985008687907853269984665640564039457584007913129639936 from by decide])
theorem cmp_neg (x y : Nat) : cmpN x y < 0 ↔ x < y := by unfold cmpN; by_cases h1 : x < y <;> by_cases h2 : y < x <;> simp [h1, h2]
theorem bit_at (D i k : Nat) (hk : k < 64) : dg D i / 2 ^ k % 2 = bit D (64 * i + k) := by
  have := bit_dg D (64 * i + k)
  rw [show (64 * i + k) / 64 = i from by omega, show (64 * i + k) % 64 = k from by omega] at this
  exact this
theorem q_cells (a i k : Nat) (hk : k < 64) : cells8 (upd8 (dg (a * 2 ^ (64 * i + k + 1))) i (dg (a * 2 ^ (64 * i + k + 1)) i ||| 2 ^ k)) = cells8 (dg (a * 2 ^ (64 * i + k + 1) + 2 ^ (64 * i + k))) :=
  cells8_congr fun m _ => by rw [dg_qbit a i k m hk]; rfl

theorem divided_calls (D y : Nat) (w0 : World) (hD0 : D < 13407807929942597099574024998205846127479365820592393377723561443721764030073546976801874298166903427690031858186486050853753882811946569946433649006084096) (hy0 : 0 < y) (hy : y < 115792089237316195423570985008687907853269984665640564039457584007913129639936) : Ret Try.prog 102 [.agg (cells8 (dg D)).toArray, wv y] w0 [] (fun v s => v = .tuple #[.agg (cells8 (dg (D / y))).toArray, wv (D % y)] ∧ s = []) := by
  refine fn_start Try.func102 rfl Try.ntmps102 rfl [(0, .agg (cells8 (dg D)).toArray), (1, wv y)] ⟨rfl, rfl, trivial⟩ ?_
  intro Q a hP hF hR hN
  have hS := St.start w0
  refine wp_seq_k fun K1 hK1 => ?_
  refine wp_region_lit ?_
  refine so (wn rfl) (O.box rfl rfl hF (hF.ev rfl) rfl hS fun b2 a w hF hS => ?_)
  refine so (wn rfl) (O.box rfl rfl hF (hF.ev rfl) rfl hS fun b3 a w hF hS => ?_)
  refine so (wn rfl) (O.alloc rfl rfl hF ze123 rfl hS fun b4 a w hF hS => ?_)
  rw [show Cel [.int .u64 0, .int .u64 0, .int .u64 0, .int .u64 0, .int .u64 0, .int .u64 0, .int .u64 0, .int .u64 0] 123 = Cel (cells8 (dg 0)) 123 from rfl] at hS
  refine so (wn rfl) (O.alloc rfl rfl hF ze29 rfl hS fun b5 a w hF hS => ?_)
  rw [show Cel [.int .u64 0, .int .u64 0, .int .u64 0, .int .u64 0] 29 = Cel (wc 0) 29 from rfl] at hS
  refine s0 ?_
  refine then_n (hK1 _ _ ?_)
  refine wp_scope_straight ?_
  refine wp_seq_k fun K2 hK2 => ?_
  refine wp_region_lit ?_
  refine so (wn rfl) (O.alloc rfl rfl hF ze123 rfl hS fun b6 a w hF hS => ?_)
  rw [show Cel [.int .u64 0, .int .u64 0, .int .u64 0, .int .u64 0, .int .u64 0, .int .u64 0, .int .u64 0, .int .u64 0] 123 = Cel (cells8 (dg 0)) 123 from rfl] at hS
  refine s0 ?_
  refine then_n (hK2 _ _ ?_)
  refine wp_seq_k fun K3 hK3 => ?_
  refine wp_region_lit ?_
  refine so (wn rfl) (O.alloc rfl rfl hF ze29 rfl hS fun b7 a w hF hS => ?_)
  rw [show Cel [.int .u64 0, .int .u64 0, .int .u64 0, .int .u64 0] 29 = Cel (wc 0) 29 from rfl] at hS
  refine s0 ?_
  refine then_n (hK3 _ _ ?_)
  refine wp_seq_k fun K4 hK4 => ?_
  refine wp_label ?_
  refine then_n (hK4 _ _ ?_)
  refine wp_seq_k fun K5 hK5 => ?_
  refine wp_seq_k fun K6 hK6 => ?_
  refine wp_region_lit ?_
  refine sv' hF (wn rfl) rfl rfl (R.assign (hF.ev rfl)) fun a hF => ?_
  refine s0 ?_
  refine then_n (hK6 _ _ ?_)
  refine wp_block ?_
  refine wp_loop_N (fun g a w => ∃ (p : Nat), p = g ∧ Fr 95 [(2, .pointer (some ⟨b2, 0, none⟩)), (3, .pointer (some ⟨b3, 0, none⟩)), (4, .pointer (some ⟨b4, 0, none⟩)), (5, .pointer (some ⟨b5, 0, none⟩)), (6, .pointer (some ⟨b6, 0, none⟩)), (7, .pointer (some ⟨b7, 0, none⟩)), (8, .int .i64 ((p : Nat) - 1 : Int))] a ∧ St w0 [] [[(b7, Cel (wc (LL D y (64 * p))) 29)], [(b6, Cel (cells8 (dg (QQ D y (64 * p)))) 123)], [(b5, Cel (wc 0) 29)], [(b4, Cel (cells8 (dg (0))) 123)], [(b3, Cel (wc y) 29)], [(b2, Cel (cells8 (dg (D))) 123)]] w ∧ (p ≤ 8)) (8) ?_ ?_
  · exact ⟨8, rfl, hF.sub ⟨rfl, rfl, rfl, rfl, rfl, rfl, rfl, trivial⟩, hS.sel [0, 1, 2, 3, 4, 5] rfl (by rw [LL_top (show D < 2 ^ (64 * 8) from pow512 ▸ hD0), QQ_top (show D < 2 ^ (64 * 8) from pow512 ▸ hD0)]; rfl), by omega⟩
  · rintro KL1 g a w ⟨p, hg1, hF, hS, hp⟩ hKL1
    refine wp_seq_k fun K7 hK7 => ?_
    refine wp_seq_k fun K8 hK8 => ?_
    refine wp_region_lit ?_
    refine sv' hF (wn rfl) rfl rfl (R.move (hF.ev rfl)) fun a hF => ?_
    refine sv' hF (wn rfl) rfl rfl (R.geq (hF.ev rfl) (hF.ev rfl)) fun a hF => ?_
    refine s0 ?_
    refine then_n (hK8 _ _ ?_)
    refine cD hF rfl (fun c1 => ?_) (fun c1 => ?_)
    ·
      refine wp_skip ?_
      refine then_n (hK7 _ _ ?_)
      refine wp_seq_k fun K9 hK9 => ?_
      refine wp_block ?_
      refine wp_seq_k fun K10 hK10 => ?_
      have hK10' : ∀ a w, (Fr 95 [(2, .pointer (some ⟨b2, 0, none⟩)), (3, .pointer (some ⟨b3, 0, none⟩)), (4, .pointer (some ⟨b4, 0, none⟩)), (5, .pointer (some ⟨b5, 0, none⟩)), (6, .pointer (some ⟨b6, 0, none⟩)), (7, .pointer (some ⟨b7, 0, none⟩)), (8, .int .i64 ((p : Nat) - 1 : Int))] a ∧ St w0 [] [[(b7, Cel (wc (LL D y (64 * p))) 29)], [(b6, Cel (cells8 (dg (QQ D y (64 * p)))) 123)], [(b5, Cel (wc 0) 29)], [(b4, Cel (cells8 (dg (0))) 123)], [(b3, Cel (wc y) 29)], [(b2, Cel (cells8 (dg (D))) 123)]] w) → K10 a w := by
        rintro a w ⟨hF, hS⟩
        refine hK10 _ _ ?_
        refine wp_seq_k fun K11 hK11 => ?_
        refine wp_region_lit ?_
        refine sv' hF (wn rfl) rfl rfl (R.assign (hF.ev rfl)) fun a hF => ?_
        refine s0 ?_
        refine then_n (hK11 _ _ ?_)
        refine wp_block ?_
        refine wp_loop_N (fun g a w => ∃ (k : Nat), k = g ∧ Fr 95 [(2, .pointer (some ⟨b2, 0, none⟩)), (3, .pointer (some ⟨b3, 0, none⟩)), (4, .pointer (some ⟨b4, 0, none⟩)), (5, .pointer (some ⟨b5, 0, none⟩)), (6, .pointer (some ⟨b6, 0, none⟩)), (7, .pointer (some ⟨b7, 0, none⟩)), (8, .int .i64 ((p : Nat) - 1 : Int)), (9, .int .i64 ((k : Nat) - 1 : Int))] a ∧ St w0 [] [[(b7, Cel (wc (LL D y ((64 * (p - 1) + k)))) 29)], [(b6, Cel (cells8 (dg (QQ D y ((64 * (p - 1) + k))))) 123)], [(b5, Cel (wc 0) 29)], [(b4, Cel (cells8 (dg (0))) 123)], [(b3, Cel (wc y) 29)], [(b2, Cel (cells8 (dg (D))) 123)]] w ∧ (k ≤ 64)) (64) ?_ ?_
        · exact ⟨64, rfl, hF.sub ⟨rfl, rfl, rfl, rfl, rfl, rfl, rfl, rfl, trivial⟩, hS.sel [0, 1, 2, 3, 4, 5] rfl (by rw [show 64 * (p - 1) + 64 = 64 * p from by omega]; rfl), by omega⟩
        · rintro KL2 g a w ⟨k, hg2, hF, hS, hk⟩ hKL2
          refine wp_seq_k fun K12 hK12 => ?_
          refine wp_seq_k fun K13 hK13 => ?_
          refine wp_region_lit ?_
          refine sv' hF (wn rfl) rfl rfl (R.move (hF.ev rfl)) fun a hF => ?_
          refine sv' hF (wn rfl) rfl rfl (R.geq (hF.ev rfl) (hF.ev rfl)) fun a hF => ?_
          refine s0 ?_
          refine then_n (hK13 _ _ ?_)
          refine cD hF rfl (fun c3 => ?_) (fun c3 => ?_)
          ·
            have hLy := LL_lt D (64 * (p - 1) + k) hy0
            have hbit := bit_le D (64 * (p - 1) + (k - 1))
            have ht := top_dbl (LL D y (64 * (p - 1) + k)) (Nat.lt_trans hLy hy)
            have eP : 64 * (p - 1) + k = 64 * (p - 1) + (k - 1) + 1 := by omega
            refine wp_skip ?_
            refine then_n (hK12 _ _ ?_)
            refine wp_seq_k fun K14 hK14 => ?_
            refine wp_block ?_
            refine wp_seq_k fun K15 hK15 => ?_
            refine wp_region_lit ?_
            refine sv' hF (wn rfl) rfl rfl (R.indexA Try.underlying29 sz27 (hF.ev rfl) (hF.ev rfl) (by omega) (by omega)) fun a hF => ?_
            refine sv' hF (wn rfl) rfl rfl (R.load one27 (hF.ev rfl) hS .h (rfl)) fun a hF => ?_
            refine sv' hF (wn rfl) rfl rfl (R.shrU (m := 63) (hF.ev rfl) (hF.ev rfl) (by decide)) fun a hF => ?_
            refine sv' hF (wn rfl) rfl rfl (R.assign (hF.ev rfl)) fun a hF => ?_
            refine s0 ?_
            refine then_n (hK15 _ _ ?_)
            refine wp_seq_k fun K16 hK16 => ?_
            refine wp_seq_k fun K17 hK17 => ?_
            refine wp_region_lit ?_
            refine sv' hF (wn rfl) rfl rfl (R.assign (hF.ev rfl)) fun a hF => ?_
            refine s0 ?_
            refine then_n (hK17 _ _ ?_)
            refine wp_block ?_
            refine wp_loop_N (fun g a w => ∃ (j : Nat), j = g ∧ Fr 95 [(2, .pointer (some ⟨b2, 0, none⟩)), (3, .pointer (some ⟨b3, 0, none⟩)), (4, .pointer (some ⟨b4, 0, none⟩)), (5, .pointer (some ⟨b5, 0, none⟩)), (6, .pointer (some ⟨b6, 0, none⟩)), (7, .pointer (some ⟨b7, 0, none⟩)), (8, .int .i64 ((p : Nat) - 1 : Int)), (9, .int .i64 ((k : Nat) - 1 : Int)), (10, .int .u64 ((dg (LL D y (64 * (p - 1) + k)) 3 / 2 ^ 63 : Nat) : Int)), (11, .int .i64 (j : Nat))] a ∧ St w0 [] [[(b7, Cel (cells4 (shl4 (LL D y (64 * (p - 1) + k)) j)) 29)], [(b6, Cel (cells8 (dg (QQ D y ((64 * (p - 1) + k))))) 123)], [(b5, Cel (wc 0) 29)], [(b4, Cel (cells8 (dg (0))) 123)], [(b3, Cel (wc y) 29)], [(b2, Cel (cells8 (dg (D))) 123)]] w ∧ (j ≤ 3)) (3) ?_ ?_
            · exact ⟨3, rfl, hF.sub ⟨rfl, rfl, rfl, rfl, rfl, rfl, rfl, rfl, rfl, rfl, trivial⟩, hS.sel [0, 1, 2, 3, 4, 5] rfl (by rw [shl4_3]; rfl), by omega⟩
            · rintro KL3 g a w ⟨j, hg3, hF, hS, hj⟩ hKL3
              refine wp_seq_k fun K18 hK18 => ?_
              refine wp_seq_k fun K19 hK19 => ?_
              refine wp_region_lit ?_
              refine sv' hF (wn rfl) rfl rfl (R.move (hF.ev rfl)) fun a hF => ?_
              refine sv' hF (wn rfl) rfl rfl (R.gtr (hF.ev rfl) (hF.ev rfl)) fun a hF => ?_
              refine s0 ?_
              refine then_n (hK19 _ _ ?_)
              refine cD hF rfl (fun c4 => ?_) (fun c4 => ?_)
              ·
                refine wp_skip ?_
                refine then_n (hK18 _ _ ?_)
                refine wp_seq_k fun K20 hK20 => ?_
                refine wp_block ?_
                refine wp_drawS hS [(0, 0), (1, 0), (2, 0), (3, 1), (4, 0), (5, 0), (6, 0), (7, 0), (8, 1), (9, 0), (10, 0), (11, 0), (12, 3)] mix (by kernel_rfl) (hP.noGoto.then.block.then.then.block.block.then.then.block.then.block.then.then.block) fun w hS => ?_
                have hD := hS
                refine dq hF rfl (wn rfl) rfl rfl (fun w => R.move (hF.ev rfl)) fun a hF => ?_
                refine dq hF rfl (wn rfl) rfl rfl (fun w => R.move (hF.ev rfl)) fun a hF => ?_
                refine dq hF rfl (wn rfl) rfl rfl (fun w => R.indexA Try.underlying29 sz27 (hF.ev rfl) (hF.ev rfl) (by omega) (by omega)) fun a hF => ?_
                refine dr hF rfl (wn rfl) rfl rfl hD (fun w hD => R.load one27 (hF.ev rfl) hD .h (cells4_at (k := j) (by omega) (by omega))) fun a hF => ?_
                refine dq hF rfl (wn rfl) rfl rfl (fun w => R.shlU (m := 1) (hF.ev rfl) (hF.ev rfl) (by decide)) fun a hF => ?_
                refine dq hF rfl (wn rfl) rfl rfl (fun w => R.move (hF.ev rfl)) fun a hF => ?_
                refine dq hF rfl (wn rfl) rfl rfl (fun w => R.subI (hF.ev rfl) (hF.ev rfl) (by omega)) fun a hF => ?_
                refine dq hF rfl (wn rfl) rfl rfl (fun w => R.indexA Try.underlying29 sz27 (hF.ev rfl) (hF.ev rfl) (by omega) (by omega)) fun a hF => ?_
                refine dr hF rfl (wn rfl) rfl rfl hD (fun w hD => R.load one27 (hF.ev rfl) hD .h (cells4_at (k := j - 1) (by omega) (by omega))) fun a hF => ?_
                refine dq hF rfl (wn rfl) rfl rfl (fun w => R.shrU (m := 63) (hF.ev rfl) (hF.ev rfl) (by decide)) fun a hF => ?_
                refine dq hF rfl (wn rfl) rfl rfl (fun w => R.orU (hF.ev rfl) (hF.ev rfl) (Nat.mod_lt _ (by decide)) (Nat.lt_of_le_of_lt (Nat.div_le_self _ _) (shl4_lt _ _ _))) fun a hF => ?_
                refine dq hF rfl (wn rfl) rfl rfl (fun w => R.indexA Try.underlying29 sz27 (hF.ev rfl) (hF.ev rfl) (by omega) (by omega)) fun a hF => ?_
                refine dw rfl (wn rfl) (O.store sz27 (hF.ev rfl) (hF.ev rfl) rfl rfl hS .h (cells4_set (k := j) (by omega)) (by rw [length_cells4]; omega) fun w hS => ?_)
                refine d0 ?_
                refine blk_n ?_
                refine then_n (hK20 _ _ ?_)
                refine wp_region_lit ?_
                refine sv' hF (wn rfl) rfl rfl (R.move (hF.ev rfl)) fun a hF => ?_
                refine sv' hF (wn rfl) rfl rfl (R.subI (hF.ev rfl) (hF.ev rfl) (by omega)) fun a hF => ?_
                refine sv' hF (wn rfl) rfl rfl (R.assign (hF.ev rfl)) fun a hF => ?_
                refine s0 ?_
                refine then_n (hKL3 (j - 1) _ _ ?_ ?_)
                · omega
                · exact ⟨j - 1, rfl, hF.sub ⟨rfl, rfl, rfl, rfl, rfl, rfl, rfl, rfl, rfl, (congrArg (fun z => some (Value.int .i64 z)) (by omega)), trivial⟩, hS.sel [0, 1, 2, 3, 4, 5] rfl (by rw [← shl4_step _ j (by omega)]; rfl), by omega⟩
              ·
                obtain rfl : j = 0 := by omega
                refine wp_exit (then_x (then_x (blk_hit ?_)))
                refine then_n (hK16 _ _ ?_)
                refine wp_seq_k fun K21 hK21 => ?_
                refine wp_drawS hS [(0, 0), (1, 1), (2, 0), (3, 0), (4, 0), (5, 1), (6, 0), (7, 0), (8, 0), (9, 0), (10, 0), (11, 3)] mix (by kernel_rfl) (hP.noGoto.then.block.then.then.block.block.then.then.block.then) fun w hS => ?_
                have hD := hS
                refine dq hF rfl (wn rfl) rfl rfl (fun w => R.indexA Try.underlying29 sz27 (hF.ev rfl) (hF.ev rfl) (by omega) (by omega)) fun a hF => ?_
                refine dr hF rfl (wn rfl) rfl rfl hD (fun w hD => R.load one27 (hF.ev rfl) hD .h (cells4_at (k := 0) (by simp) (by omega))) fun a hF => ?_
                refine dq hF rfl (wn rfl) rfl rfl (fun w => R.shlU (m := 1) (hF.ev rfl) (hF.ev rfl) (by decide)) fun a hF => ?_
                refine dq hF rfl (wn rfl) rfl rfl (fun w => R.move (hF.ev rfl)) fun a hF => ?_
                refine dq hF rfl (wn rfl) rfl rfl (fun w => R.indexA Try.underlying123 sz27 (hF.ev rfl) (hF.ev rfl) (by omega) (by omega)) fun a hF => ?_
                refine dr hF rfl (wn rfl) rfl rfl hD (fun w hD => R.load one27 (hF.ev rfl) hD (.t (.t (.t (.t (.t .h))))) (cells8_at (k := p - 1) (by omega) (by omega))) fun a hF => ?_
                refine dq hF rfl (wn rfl) rfl rfl (fun w => R.move (hF.ev rfl)) fun a hF => ?_
                refine dq hF rfl (wn rfl) rfl rfl (fun w => R.shrU (m := k - 1) (hF.ev rfl) ((hF.ev rfl).trans (congrArg (Value.int .i64) (by omega))) (by omega)) fun a hF => ?_
                refine dq hF rfl (wn rfl) rfl rfl (fun w => R.as (R.andU (q := 1) (hF.ev rfl) (hF.ev rfl) (Nat.lt_of_le_of_lt (Nat.div_le_self _ _) (dg_lt _ _)) (by decide)) (by rw [Nat.and_one_is_mod, bit_at D (p - 1) (k - 1) (by omega)])) fun a hF => ?_
                refine dq hF rfl (wn rfl) rfl rfl (fun w => R.orU (hF.ev rfl) (hF.ev rfl) (Nat.mod_lt _ (by decide)) (Nat.lt_of_le_of_lt (bit_le _ _) (by decide))) fun a hF => ?_
                refine dq hF rfl (wn rfl) rfl rfl (fun w => R.indexA Try.underlying29 sz27 (hF.ev rfl) (hF.ev rfl) (by omega) (by omega)) fun a hF => ?_
                refine dw rfl (wn rfl) (O.store sz27 (hF.ev rfl) (hF.ev rfl) rfl rfl hS .h ((cells4_set (k := 0) (by simp)).trans (shl4_0 _ _ (bit_le _ _))) (by rw [length_cells4]; simp) fun w hS => ?_)
                refine d0 ?_
                refine then_n (hK21 _ _ ?_)
                refine wp_seq_k fun K22 hK22 => ?_
                have hK22' : ∀ a w, (Fr 95 [(2, .pointer (some ⟨b2, 0, none⟩)), (3, .pointer (some ⟨b3, 0, none⟩)), (4, .pointer (some ⟨b4, 0, none⟩)), (5, .pointer (some ⟨b5, 0, none⟩)), (6, .pointer (some ⟨b6, 0, none⟩)), (7, .pointer (some ⟨b7, 0, none⟩)), (8, .int .i64 ((p : Nat) - 1 : Int)), (9, .int .i64 ((k : Nat) - 1 : Int))] a ∧ St w0 [] [[(b7, Cel (wc (2 * LL D y (64 * (p - 1) + k) + bit D (64 * (p - 1) + (k - 1)))) 29)], [(b6, Cel (cells8 (dg (QQ D y ((64 * (p - 1) + k))))) 123)], [(b5, Cel (wc 0) 29)], [(b4, Cel (cells8 (dg (0))) 123)], [(b3, Cel (wc y) 29)], [(b2, Cel (cells8 (dg (D))) 123)]] w ∧ (y ≤ 2 * LL D y (64 * (p - 1) + k) + bit D (64 * (p - 1) + (k - 1)))) → K22 a w := by
                  rintro a w ⟨hF, hS, hle⟩
                  refine hK22 _ _ ?_
                  refine wp_seq_k fun K23 hK23 => ?_
                  refine wp_region_lit ?_
                  refine sv' hF (wn rfl) rfl rfl (R.assign (hF.ev rfl)) fun a hF => ?_
                  refine s0 ?_
                  refine then_n (hK23 _ _ ?_)
                  refine wp_seq_k fun K24 hK24 => ?_
                  refine wp_seq_k fun K25 hK25 => ?_
                  refine wp_region_lit ?_
                  refine sv' hF (wn rfl) rfl rfl (R.move (hF.ev rfl)) fun a hF => ?_
                  refine s0 ?_
                  refine then_n (hK25 _ _ ?_)
                  refine wp_block ?_
                  refine wp_loop_N (fun g a w => ∃ (j : Nat), 4 - j = g ∧ Fr 95 [(2, .pointer (some ⟨b2, 0, none⟩)), (3, .pointer (some ⟨b3, 0, none⟩)), (4, .pointer (some ⟨b4, 0, none⟩)), (5, .pointer (some ⟨b5, 0, none⟩)), (6, .pointer (some ⟨b6, 0, none⟩)), (7, .pointer (some ⟨b7, 0, none⟩)), (8, .int .i64 ((p : Nat) - 1 : Int)), (9, .int .i64 ((k : Nat) - 1 : Int)), (12, .int .u64 ((bw ((2 * LL D y (64 * (p - 1) + k) + bit D (64 * (p - 1) + (k - 1))) % 115792089237316195423570985008687907853269984665640564039457584007913129639936) y j : Nat) : Int)), (69, .int .i64 (j : Nat))] a ∧ St w0 [] [[(b7, Cel (cells4 (sub4 ((2 * LL D y (64 * (p - 1) + k) + bit D (64 * (p - 1) + (k - 1))) % 115792089237316195423570985008687907853269984665640564039457584007913129639936) y j)) 29)], [(b6, Cel (cells8 (dg (QQ D y ((64 * (p - 1) + k))))) 123)], [(b5, Cel (wc 0) 29)], [(b4, Cel (cells8 (dg (0))) 123)], [(b3, Cel (wc y) 29)], [(b2, Cel (cells8 (dg (D))) 123)]] w ∧ (j ≤ 4)) (4 - 0) ?_ ?_
                  · exact ⟨0, rfl, hF.sub ⟨rfl, rfl, rfl, rfl, rfl, rfl, rfl, rfl, (by rw [bw_0]; rfl), rfl, trivial⟩, hS.sel [0, 1, 2, 3, 4, 5] rfl (by rw [sub4_0, wc_mod]; rfl), by omega⟩
                  · rintro KL4 g a w ⟨j, hg4, hF, hS, hj⟩ hKL4
                    refine wp_seq_k fun K26 hK26 => ?_
                    refine wp_region_lit ?_
                    refine sv' hF (wn rfl) rfl rfl (R.lss (hF.ev rfl) (hF.ev rfl)) fun a hF => ?_
                    refine s0 ?_
                    refine then_n (hK26 _ _ ?_)
                    refine wp_seq_k fun K27 hK27 => ?_
                    refine cD hF rfl (fun c6 => ?_) (fun c6 => ?_)
                    ·
                      refine wp_skip ?_
                      refine then_n (hK27 _ _ ?_)
                      refine wp_seq_k fun K28 hK28 => ?_
                      refine wp_block ?_
                      refine wp_seq_k fun K29 hK29 => ?_
                      refine wp_region_lit ?_
                      refine sv' hF (wn rfl) rfl rfl (R.move (hF.ev rfl)) fun a hF => ?_
                      refine sv' hF (wn rfl) rfl rfl (R.assign (hF.ev rfl)) fun a hF => ?_
                      refine s0 ?_
                      refine then_n (hK29 _ _ ?_)
                      refine wp_drawS hS [(0, 0), (1, 0), (2, 0), (3, 1), (4, 0), (5, 0), (6, 1), (7, 0), (8, 0), (9, 0), (10, 0), (11, 0), (12, 0), (13, 3), (14, 0)] mix (by kernel_rfl) (hP.noGoto.then.block.then.then.block.block.then.then.block.then.block.then.then.block) fun w hS => ?_
                      have hD := hS
                      refine dq hF rfl (wn rfl) rfl rfl (fun w => R.move (hF.ev rfl)) fun a hF => ?_
                      refine dq hF rfl (wn rfl) rfl rfl (fun w => R.move (hF.ev rfl)) fun a hF => ?_
                      refine dq hF rfl (wn rfl) rfl rfl (fun w => R.indexA Try.underlying29 sz27 (hF.ev rfl) (hF.ev rfl) (by omega) (by omega)) fun a hF => ?_
                      refine dr hF rfl (wn rfl) rfl rfl hD (fun w hD => R.load one27 (hF.ev rfl) hD .h (show _ = some (Value.int .u64 ((dg ((2 * LL D y (64 * (p - 1) + k) + bit D (64 * (p - 1) + (k - 1))) % 115792089237316195423570985008687907853269984665640564039457584007913129639936) j : Nat) : Int)) from by rw [cells4_at (k := j) (by omega) (by omega)]; simp [sub4])) fun a hF => ?_
                      refine dq hF rfl (wn rfl) rfl rfl (fun w => R.move (hF.ev rfl)) fun a hF => ?_
                      refine dq hF rfl (wn rfl) rfl rfl (fun w => R.indexA Try.underlying29 sz27 (hF.ev rfl) (hF.ev rfl) (by omega) (by omega)) fun a hF => ?_
                      refine dr hF rfl (wn rfl) rfl rfl hD (fun w hD => R.load one27 (hF.ev rfl) hD (.t (.t (.t (.t .h)))) (wc_at y j (by omega))) fun a hF => ?_
                      refine dq hF rfl (wn rfl) rfl rfl (fun w => R.move (hF.ev rfl)) fun a hF => ?_
                      refine dq hF rfl (wn rfl) rfl rfl (fun w => R.extern (hF.evs rfl) (x96 (dg ((2 * LL D y (64 * (p - 1) + k) + bit D (64 * (p - 1) + (k - 1))) % 115792089237316195423570985008687907853269984665640564039457584007913129639936) j) (dg y j) (bw ((2 * LL D y (64 * (p - 1) + k) + bit D (64 * (p - 1) + (k - 1))) % 115792089237316195423570985008687907853269984665640564039457584007913129639936) y j) (bw_le _ _ _) w)) fun a hF => ?_
                      refine dq hF rfl (wn rfl) rfl rfl (fun w => R.move (hF.ev rfl)) fun a hF => ?_
                      refine dq hF rfl (wn rfl) rfl rfl (fun w => R.extract (hF.ev rfl) rfl) fun a hF => ?_
                      refine dq hF rfl (wn rfl) rfl rfl (fun w => R.extract (hF.ev rfl) rfl) fun a hF => ?_
                      refine dq hF rfl (wn rfl) rfl rfl (fun w => R.indexA Try.underlying29 sz27 (hF.ev rfl) (hF.ev rfl) (by omega) (by omega)) fun a hF => ?_
                      refine dw rfl (wn rfl) (O.store sz27 (hF.ev rfl) (hF.ev rfl) rfl rfl hS .h ((congrArg (fun z => List.set (cells4 (sub4 ((2 * LL D y (64 * (p - 1) + k) + bit D (64 * (p - 1) + (k - 1))) % 115792089237316195423570985008687907853269984665640564039457584007913129639936) y j)) _ (Value.int .u64 ((z : Nat) : Int))) (dg_sub ((2 * LL D y (64 * (p - 1) + k) + bit D (64 * (p - 1) + (k - 1))) % 115792089237316195423570985008687907853269984665640564039457584007913129639936) y j (by omega) hy).symm).trans (cells4_set (k := j) (by omega))) (by rw [length_cells4]; omega) fun w hS => ?_)
                      refine dq hF rfl (wn rfl) rfl rfl (fun w => R.assign (hF.ev rfl)) fun a hF => ?_
                      refine d0 ?_
                      refine blk_n ?_
                      refine then_n (hK28 _ _ ?_)
                      refine wp_region_lit ?_
                      refine sv' hF (wn rfl) rfl rfl (R.addI (hF.ev rfl) (hF.ev rfl) (by omega)) fun a hF => ?_
                      refine sv' hF (wn rfl) rfl rfl (R.move (hF.ev rfl)) fun a hF => ?_
                      refine s0 ?_
                      refine then_n (hKL4 (4 - (j + 1)) _ _ ?_ ?_)
                      · omega
                      · exact ⟨j + 1, rfl, hF.sub ⟨rfl, rfl, rfl, rfl, rfl, rfl, rfl, rfl, (by rw [bw_succ]; rfl), rfl, trivial⟩, hS.sel [0, 1, 2, 3, 4, 5] rfl (by rw [← sub4_step]; rfl), by omega⟩
                    ·
                      obtain rfl : j = 4 := by omega
                      rw [sub4_4, sub4_end _ y (by omega) hy hle (by omega)] at hS
                      rw [eP] at hS hle
                      rw [show QQ D y (64 * (p - 1) + (k - 1) + 1) = D / 2 ^ (64 * (p - 1) + (k - 1) + 1) / y * 2 ^ (64 * (p - 1) + (k - 1) + 1) from rfl] at hS
                      refine wp_exit (then_x (then_x (blk_hit ?_)))
                      refine then_n (hK24 _ _ ?_)
                      refine wp_drawS hS [(0, 0), (1, 0), (2, 1), (3, 0), (4, 0), (5, 0), (6, 0), (7, 3)] mix (by kernel_rfl) (hP.noGoto.then.block.then.then.block.block.then.then.block) fun w hS => ?_
                      have hD := hS
                      refine dq hF rfl (wn rfl) rfl rfl (fun w => R.move (hF.ev rfl)) fun a hF => ?_
                      refine dq hF rfl (wn rfl) rfl rfl (fun w => R.indexA Try.underlying123 sz27 (hF.ev rfl) (hF.ev rfl) (by omega) (by omega)) fun a hF => ?_
                      refine dr hF rfl (wn rfl) rfl rfl hD (fun w hD => R.load one27 (hF.ev rfl) hD (.t .h) (cells8_at (k := p - 1) (by omega) (by omega))) fun a hF => ?_
                      refine dq hF rfl (wn rfl) rfl rfl (fun w => R.move (hF.ev rfl)) fun a hF => ?_
                      refine dq hF rfl (wn rfl) rfl rfl (fun w => R.as (R.shlU (p := 1) (m := k - 1) (hF.ev rfl) ((hF.ev rfl).trans (congrArg (Value.int .i64) (by omega))) (by omega)) (by rw [Nat.one_mul, Nat.mod_eq_of_lt (p64 (k := k - 1) (by omega))])) fun a hF => ?_
                      refine dq hF rfl (wn rfl) rfl rfl (fun w => R.orU (hF.ev rfl) (hF.ev rfl) (dg_lt _ _) (p64 (by omega))) fun a hF => ?_
                      refine dq hF rfl (wn rfl) rfl rfl (fun w => R.indexA Try.underlying123 sz27 (hF.ev rfl) (hF.ev rfl) (by omega) (by omega)) fun a hF => ?_
                      refine dw rfl (wn rfl) (O.store sz27 (hF.ev rfl) (hF.ev rfl) rfl rfl hS (.t .h) ((cells8_set (k := p - 1) (by omega)).trans (q_cells _ _ (k - 1) (by omega))) (by rw [length_cells8]; omega) fun w hS => ?_)
                      rw [show D / 2 ^ (64 * (p - 1) + (k - 1) + 1) / y * 2 ^ (64 * (p - 1) + (k - 1) + 1) + 2 ^ (64 * (p - 1) + (k - 1)) = QQ D y (64 * (p - 1) + (k - 1)) from (QQ_hi hy0 hle).symm, ← LL_hi hy0 hle] at hS
                      refine d0 ?_
                      refine blk_n ?_
                      refine then_n (hK14 _ _ ?_)
                      refine wp_region_lit ?_
                      refine sv' hF (wn rfl) rfl rfl (R.move (hF.ev rfl)) fun a hF => ?_
                      refine sv' hF (wn rfl) rfl rfl (R.subI (hF.ev rfl) (hF.ev rfl) (by omega)) fun a hF => ?_
                      refine sv' hF (wn rfl) rfl rfl (R.assign (hF.ev rfl)) fun a hF => ?_
                      refine s0 ?_
                      refine then_n (hKL2 (k - 1) _ _ ?_ ?_)
                      · omega
                      · exact ⟨k - 1, rfl, hF.sub ⟨rfl, rfl, rfl, rfl, rfl, rfl, rfl, (congrArg (fun z => some (Value.int .i64 z)) (by omega)), trivial⟩, hS.sel [0, 1, 2, 3, 4, 5] rfl rfl, by omega⟩
                refine wp_seq_k fun K30 hK30 => ?_
                refine wp_region_lit ?_
                refine sv' hF (wn rfl) rfl rfl (R.move (hF.ev rfl)) fun a hF => ?_
                refine sv' hF (wn rfl) rfl rfl (R.eql (hF.ev rfl) (hF.ev rfl)) fun a hF => ?_
                refine sv' hF (wn rfl) rfl rfl (R.move (hF.ev rfl)) fun a hF => ?_
                refine hF.splitD (t := 63) rfl (fun h63 hF => ?_) (fun h63 hF => ?_)
                ·
                  have h2L : 2 * LL D y (64 * (p - 1) + k) + bit D (64 * (p - 1) + (k - 1)) < 115792089237316195423570985008687907853269984665640564039457584007913129639936 := by (split at ht <;> omega)
                  refine sv' hF (wy hF rfl rfl rfl) rfl rfl (R.loadW agg29 (hF.ev rfl) hS .h sz29 (rfl)) fun a hF => ?_
                  refine sv' hF (wy hF rfl rfl rfl) rfl rfl (R.loadW agg29 (hF.ev rfl) hS (.t (.t (.t (.t .h)))) sz29 (rfl)) fun a hF => ?_
                  refine so (wy hF rfl rfl rfl) (O.call rfl rfl hF ent49 (hF.evs rfl) hS (cmp_calls (2 * LL D y (64 * (p - 1) + k) + bit D (64 * (p - 1) + (k - 1))) y _ h2L hy) fun v s66 a w hR hF hS => ?_)
                  obtain ⟨rfl, rfl⟩ := hR
                  refine sv' hF (wy hF rfl rfl rfl) rfl rfl (R.lss (hF.ev rfl) (hF.ev rfl)) fun a hF => ?_
                  refine sv' hF (wn rfl) rfl rfl (R.pickT (hF.ev rfl) (hF.ev rfl)) fun a hF => ?_
                  refine s0 ?_
                  refine then_n (hK30 _ _ ?_)
                  refine cD hF rfl (fun c5 => ?_) (fun c5 => ?_)
                  ·
                    have hlo := (cmp_neg _ _).1 c5
                    rw [eP] at hS hlo
                    rw [← LL_lo hy0 hlo, ← QQ_lo hy0 hlo] at hS
                    refine wp_exit (then_x (blk_hit ?_))
                    refine then_n (hK14 _ _ ?_)
                    refine wp_region_lit ?_
                    refine sv' hF (wn rfl) rfl rfl (R.move (hF.ev rfl)) fun a hF => ?_
                    refine sv' hF (wn rfl) rfl rfl (R.subI (hF.ev rfl) (hF.ev rfl) (by omega)) fun a hF => ?_
                    refine sv' hF (wn rfl) rfl rfl (R.assign (hF.ev rfl)) fun a hF => ?_
                    refine s0 ?_
                    refine then_n (hKL2 (k - 1) _ _ ?_ ?_)
                    · omega
                    · exact ⟨k - 1, rfl, hF.sub ⟨rfl, rfl, rfl, rfl, rfl, rfl, rfl, (congrArg (fun z => some (Value.int .i64 z)) (by omega)), trivial⟩, hS.sel [1, 2, 3, 4, 5, 6] rfl rfl, by omega⟩
                  ·
                    have hle : y ≤ 2 * LL D y (64 * (p - 1) + k) + bit D (64 * (p - 1) + (k - 1)) := Nat.le_of_not_lt fun h => c5 ((cmp_neg _ _).2 h)
                    refine wp_skip ?_
                    exact then_n (hK22' _ _ ⟨hF.sub ⟨rfl, rfl, rfl, rfl, rfl, rfl, rfl, rfl, trivial⟩, hS.sel [1, 2, 3, 4, 5, 6] rfl rfl, hle⟩)
                ·
                  have hle : y ≤ 2 * LL D y (64 * (p - 1) + k) + bit D (64 * (p - 1) + (k - 1)) := by (split at ht <;> omega)
                  refine sk hF (ws hF rfl rfl rfl rfl) rfl rfl fun a hF => ?_
                  refine sk hF (ws hF rfl rfl rfl rfl) rfl rfl fun a hF => ?_
                  refine sk hF (ws hF rfl rfl rfl rfl) rfl rfl fun a hF => ?_
                  refine sk hF (ws hF rfl rfl rfl rfl) rfl rfl fun a hF => ?_
                  refine sv' hF (wn rfl) rfl rfl (R.pickF (hF.ev rfl) (hF.ev rfl)) fun a hF => ?_
                  refine s0 ?_
                  refine then_n (hK30 _ _ ?_)
                  refine cF hF rfl ?_
                  refine wp_skip ?_
                  exact then_n (hK22' _ _ ⟨hF.sub ⟨rfl, rfl, rfl, rfl, rfl, rfl, rfl, rfl, trivial⟩, hS.sel [0, 1, 2, 3, 4, 5] rfl rfl, hle⟩)
          ·
            obtain rfl : k = 0 := by omega
            refine wp_exit (then_x (then_x (blk_hit ?_)))
            refine blk_n ?_
            refine then_n (hK9 _ _ ?_)
            refine wp_region_lit ?_
            refine sv' hF (wn rfl) rfl rfl (R.move (hF.ev rfl)) fun a hF => ?_
            refine sv' hF (wn rfl) rfl rfl (R.subI (hF.ev rfl) (hF.ev rfl) (by omega)) fun a hF => ?_
            refine sv' hF (wn rfl) rfl rfl (R.assign (hF.ev rfl)) fun a hF => ?_
            refine s0 ?_
            refine then_n (hKL1 (p - 1) _ _ ?_ ?_)
            · omega
            · exact ⟨p - 1, rfl, hF.sub ⟨rfl, rfl, rfl, rfl, rfl, rfl, (congrArg (fun z => some (Value.int .i64 z)) (by omega)), trivial⟩, hS.sel [0, 1, 2, 3, 4, 5] rfl rfl, by omega⟩
      refine wp_seq_k fun K31 hK31 => ?_
      refine wp_region_lit ?_
      refine sv' hF (wn rfl) rfl rfl (R.move (hF.ev rfl)) fun a hF => ?_
      refine sv' hF (wn rfl) rfl rfl (R.indexA Try.underlying123 sz27 (hF.ev rfl) (hF.ev rfl) (by omega) (by omega)) fun a hF => ?_
      refine sv' hF (wn rfl) rfl rfl (R.load one27 (hF.ev rfl) hS (.t (.t (.t (.t (.t .h))))) (cells8_at (k := p - 1) (by omega) (by omega))) fun a hF => ?_
      refine sv' hF (wn rfl) rfl rfl (R.eql (hF.ev rfl) (hF.ev rfl)) fun a hF => ?_
      refine sv' hF (wn rfl) rfl rfl (R.move (hF.ev rfl)) fun a hF => ?_
      refine hF.splitD (t := 22) rfl (fun h22 hF => ?_) (fun h22 hF => ?_)
      ·
        refine sv' hF (wy hF rfl rfl rfl) rfl rfl (R.loadW agg29 (hF.ev rfl) hS .h sz29 (rfl)) fun a hF => ?_
        refine sv' hF (wy hF rfl rfl rfl) rfl rfl (R.buildArr (l := wc 0) Try.underlying29 ze29 sz27 (hF.evp rfl) rfl) fun a hF => ?_
        refine sv' hF (wy hF rfl rfl rfl) rfl rfl (R.eqlW (x := LL D y (64 * p)) (y := 0) (hF.ev rfl) (hF.ev rfl) (Nat.lt_trans (LL_lt _ _ hy0) hy) (by decide)) fun a hF => ?_
        refine sv' hF (wn rfl) rfl rfl (R.pickT (hF.ev rfl) (hF.ev rfl)) fun a hF => ?_
        refine s0 ?_
        refine then_n (hK31 _ _ ?_)
        refine cD hF rfl (fun c2 => ?_) (fun c2 => ?_)
        ·
          obtain ⟨e1, e2⟩ := skip_part (D := D) (y := y) (i := p - 1) (by omega) (by rw [show p - 1 + 1 = p from by omega]; exact c2)
          rw [show p - 1 + 1 = p from by omega] at e2
          have e3 : LL D y (64 * p) = LL D y (64 * (p - 1)) := by rw [c2, e1]
          rw [e3, ← e2] at hS
          refine wp_exit (then_x (blk_hit ?_))
          refine then_n (hK9 _ _ ?_)
          refine wp_region_lit ?_
          refine sv' hF (wn rfl) rfl rfl (R.move (hF.ev rfl)) fun a hF => ?_
          refine sv' hF (wn rfl) rfl rfl (R.subI (hF.ev rfl) (hF.ev rfl) (by omega)) fun a hF => ?_
          refine sv' hF (wn rfl) rfl rfl (R.assign (hF.ev rfl)) fun a hF => ?_
          refine s0 ?_
          refine then_n (hKL1 (p - 1) _ _ ?_ ?_)
          · omega
          · exact ⟨p - 1, rfl, hF.sub ⟨rfl, rfl, rfl, rfl, rfl, rfl, (congrArg (fun z => some (Value.int .i64 z)) (by omega)), trivial⟩, hS.sel [0, 1, 2, 3, 4, 5] rfl rfl, by omega⟩
        ·
          refine wp_skip ?_
          exact then_n (hK10' _ _ ⟨hF.sub ⟨rfl, rfl, rfl, rfl, rfl, rfl, rfl, trivial⟩, hS.sel [0, 1, 2, 3, 4, 5] rfl rfl⟩)
      ·
        refine sk hF (ws hF rfl rfl rfl rfl) rfl rfl fun a hF => ?_
        refine sk hF (ws hF rfl rfl rfl rfl) rfl rfl fun a hF => ?_
        refine sk hF (ws hF rfl rfl rfl rfl) rfl rfl fun a hF => ?_
        refine sv' hF (wn rfl) rfl rfl (R.pickF (hF.ev rfl) (hF.ev rfl)) fun a hF => ?_
        refine s0 ?_
        refine then_n (hK31 _ _ ?_)
        refine cF hF rfl ?_
        refine wp_skip ?_
        exact then_n (hK10' _ _ ⟨hF.sub ⟨rfl, rfl, rfl, rfl, rfl, rfl, rfl, trivial⟩, hS.sel [0, 1, 2, 3, 4, 5] rfl rfl⟩)
    ·
      obtain rfl : p = 0 := by omega
      rw [show 64 * 0 = 0 from rfl, LL_0, QQ_0] at hS
      refine wp_exit (then_x (then_x (blk_hit ?_)))
      refine then_n (hK5 _ _ ?_)
      refine wp_seq_k fun K32 hK32 => ?_
      refine wp_drawG hS (hS.sel [0, 1] rfl rfl) [(0, 1), (1, 1), (2, 2), (3, 2)] mix (by kernel_rfl) (hP.noGoto.then) fun w hS hD => ?_
      refine dr hF rfl (wn rfl) rfl rfl hD (fun w hD => R.loadW agg123 (hF.ev rfl) hD (.t .h) sz123 (length_cells8 _)) fun a hF => ?_
      refine dr hF rfl (wn rfl) rfl rfl hD (fun w hD => R.loadW agg29 (hF.ev rfl) hD .h sz29 (rfl)) fun a hF => ?_
      refine dl rfl (wn rfl) (O.storeW sz123 (hF.ev rfl) (hF.ev rfl) (length_cells8 _) rfl (one_cells8 _) hS (.t (.t (.t .h))) ((length_cells8 _).trans (length_cells8 _).symm) fun w hS => ⟨fun hD => hS.sel [0, 1] rfl rfl, ?_⟩)
      have hD := hS.sel [0, 1] rfl rfl
      refine dl rfl (wn rfl) (O.storeW sz29 (hF.ev rfl) (hF.ev rfl) (rfl) rfl (by simp [Value.oneCell']) hS (.t (.t .h)) (rfl) fun w hS => ⟨fun hD => hS.sel [0, 1] rfl rfl, ?_⟩)
      have hD := hS.sel [0, 1] rfl rfl
      refine d0 ?_
      refine then_n (hK32 _ _ ?_)
      refine wp_ret (sc_r (hR _ _ _ _ _ hF (run_results Try.results102 (.cw hF rfl agg123 hS (.t (.t (.t .h))) sz123 (rfl) (.cw hF rfl agg29 hS (.t (.t .h)) sz29 (rfl) (.nil)))) ?_))
      exact ⟨_, [], rfl, ⟨rfl, rfl⟩, hS.none⟩

end Go.Proofs.Ythgecfjpacebeaa
