/- The calls of wide.Text. -/
import Derived.Test.YthgecfjpacebeaaBt
namespace Go.Proofs.Ythgecfjpacebeaa
open Go Go.Fw Go.RowKit
attribute [local irreducible] Go.Oper.wp Go.Code.wp Go.wpList Go.Fw.WL Go.Calls
theorem own_snoc {s : Seg} {A : Option Addr} {c b : Nat} {m : List Nat} (h : OwnS s A (m.length + 1) c (dch m ++ [.int .u8 ((48 + b : Nat) : Int)]) 5 1) : OwnS s A (m ++ [b]).length c (dch (m ++ [b])) 5 1 := by
  rw [dch_snoc] at h
  rw [List.length_append, List.length_singleton]
  exact h

theorem text_calls (x : Nat) (w0 : World) (hx : x < 115792089237316195423570985008687907853269984665640564039457584007913129639936) : Ret Try.prog 45 [wv x] w0 [] (fun v s => v = .string (bstr (txt x)) ∧ s = []) := by
  refine fn_start Try.func45 rfl Try.ntmps45 rfl [(0, wv x)] ⟨rfl, trivial⟩ ?_
  intro Q a hP hF hR hN
  have hS := St.start w0
  refine wp_seq_k fun K1 hK1 => ?_
  refine wp_region_lit ?_
  refine so (wn rfl) (O.box rfl rfl hF (hF.ev rfl) rfl hS fun b1 a w hF hS => ?_)
  refine sv' hF (wn rfl) rfl rfl (R.assign (hF.ev rfl)) fun a hF => ?_
  refine s0 ?_
  refine then_n (hK1 _ _ ?_)
  refine wp_seq_k fun K2 hK2 => ?_
  have hS := hS.cons0
  refine wp_region_lit ?_
  refine sv' hF (wn rfl) rfl rfl (R.assign (hF.ev rfl)) fun a hF => ?_
  refine s0 ?_
  refine then_n (hK2 _ _ ?_)
  refine wp_seq_k fun K3 hK3 => ?_
  refine wp_block ?_
  refine wp_loop_N (fun g a w => ∃ (y : Nat) (l : List Nat) (A : Option Addr) (e : Nat) (s : Seg), y + (if l.length = 0 then 1 else 0) = g ∧ Fr 85 [(1, .pointer (some ⟨b1, 0, none⟩)), (3, .slice A l.length e)] a ∧ St w0 [] [[(b1, Cel (wc y) 29)], s] w ∧ (OwnS s A l.length e (dch l) 5 1) ∧ (Dig l) ∧ (val10 l + 10 ^ l.length * y = x) ∧ (y ≤ x)) (x + (if 0 = 0 then 1 else 0)) ?_ ?_
  · exact ⟨x, [], none, 0, [], rfl, hF.sub ⟨rfl, rfl, trivial⟩, hS.sel [1, 0] rfl rfl, OwnS.nil 5 1, by intro b hb; simp at hb, by simp [val10], Nat.le_refl _⟩
  · rintro KL1 g a w ⟨y, l, A, e, s, hg1, hF, hS, hO, hd, hv, hyx⟩ hKL1
    refine wp_seq_k fun K4 hK4 => ?_
    refine wp_seq_k fun K5 hK5 => ?_
    have hK5' : ∀ a w, (Fr 85 [(1, .pointer (some ⟨b1, 0, none⟩)), (3, .slice A l.length e), (15, .bool (decide (y ≠ 0 ∨ l.length = 0)))] a ∧ St w0 [] [[(b1, Cel (wc y) 29)], s] w) → K5 a w := by
      rintro a w ⟨hF, hS⟩
      refine hK5 _ _ ?_
      refine cD hF rfl (fun c1 => ?_) (fun c1 => ?_)
      ·
        have hl77 := few_dec hx hv c1
        refine wp_skip ?_
        refine then_n (hK4 _ _ ?_)
        refine wp_block ?_
        refine wp_seq_k fun K6 hK6 => ?_
        refine wp_region_lit ?_
        refine sv' hF (wn rfl) rfl rfl (R.assign (hF.ev rfl)) fun a hF => ?_
        refine s0 ?_
        refine then_n (hK6 _ _ ?_)
        refine wp_seq_k fun K7 hK7 => ?_
        refine wp_seq_k fun K8 hK8 => ?_
        refine wp_region_lit ?_
        refine sv' hF (wn rfl) rfl rfl (R.assign (hF.ev rfl)) fun a hF => ?_
        refine s0 ?_
        refine then_n (hK8 _ _ ?_)
        refine wp_block ?_
        refine wp_loop_N (fun g a w => ∃ (k : Nat), k = g ∧ Fr 85 [(1, .pointer (some ⟨b1, 0, none⟩)), (3, .slice A l.length e), (4, .int .u64 ((y / 18446744073709551616 ^ k % 10000000000000000000 : Nat) : Int)), (5, .int .i64 ((k : Nat) - 1 : Int))] a ∧ St w0 [] [[(b1, Cel (cells4 (quo4 y 10000000000000000000 k)) 29)], s] w ∧ (k ≤ 4)) (4) ?_ ?_
        · exact ⟨4, rfl, hF.sub ⟨rfl, rfl, (by rw [Nat.div_eq_of_lt (show y < 18446744073709551616 ^ 4 from Nat.lt_of_le_of_lt hyx hx)]; rfl), rfl, trivial⟩, hS.sel [0, 1] rfl (by rw [quo4_4]; rfl), by omega⟩
        · rintro KL2 g a w ⟨k, hg2, hF, hS, hk⟩ hKL2
          refine wp_seq_k fun K9 hK9 => ?_
          refine wp_seq_k fun K10 hK10 => ?_
          refine wp_region_lit ?_
          refine sv' hF (wn rfl) rfl rfl (R.move (hF.ev rfl)) fun a hF => ?_
          refine sv' hF (wn rfl) rfl rfl (R.geq (hF.ev rfl) (hF.ev rfl)) fun a hF => ?_
          refine s0 ?_
          refine then_n (hK10 _ _ ?_)
          refine cD hF rfl (fun c2 => ?_) (fun c2 => ?_)
          ·
            refine wp_skip ?_
            refine then_n (hK9 _ _ ?_)
            refine wp_seq_k fun K11 hK11 => ?_
            refine wp_block ?_
            refine wp_region_lit ?_
            refine sv' hF (wn rfl) rfl rfl (R.move (hF.ev rfl)) fun a hF => ?_
            refine sv' hF (wn rfl) rfl rfl (R.move (hF.ev rfl)) fun a hF => ?_
            refine sv' hF (wn rfl) rfl rfl (R.move (hF.ev rfl)) fun a hF => ?_
            refine sv' hF (wn rfl) rfl rfl (R.indexA Try.underlying29 sz27 (hF.ev rfl) (hF.ev rfl) (by omega) (by omega)) fun a hF => ?_
            refine sv' hF (wn rfl) rfl rfl (R.load one27 (hF.ev rfl) hS .h (show _ = some (Value.int .u64 ((dg y (k - 1) : Nat) : Int)) from by rw [cells4_at (k := k - 1) (by omega) (by omega), quo4_at _ _ _ (by omega)])) fun a hF => ?_
            refine so (wn rfl) (O.call rfl rfl hF ent100 (hF.evs rfl) hS (div64_calls (y / 18446744073709551616 ^ k % 10000000000000000000) (dg y (k - 1)) 10000000000000000000 w (Nat.mod_lt _ (by decide)) (dg_lt _ _) (by decide) (by decide)) fun v s26 a w hR hF hS => ?_)
            obtain ⟨rfl, rfl⟩ := hR
            refine sv' hF (wn rfl) rfl rfl (R.move (hF.ev rfl)) fun a hF => ?_
            refine sv' hF (wn rfl) rfl rfl (R.extract (hF.ev rfl) rfl) fun a hF => ?_
            refine sv' hF (wn rfl) rfl rfl (R.extract (hF.ev rfl) rfl) fun a hF => ?_
            refine sv' hF (wn rfl) rfl rfl (R.indexA Try.underlying29 sz27 (hF.ev rfl) (hF.ev rfl) (by omega) (by omega)) fun a hF => ?_
            refine so (wn rfl) (O.store sz27 (hF.ev rfl) (hF.ev rfl) rfl rfl hS (.t .h) (cells4_set (k := k - 1) (by omega)) (by rw [length_cells4]; omega) fun w hS => ?_)
            refine sv' hF (wn rfl) rfl rfl (R.assign (hF.ev rfl)) fun a hF => ?_
            refine s0 ?_
            refine blk_n ?_
            refine then_n (hK11 _ _ ?_)
            refine wp_region_lit ?_
            refine sv' hF (wn rfl) rfl rfl (R.move (hF.ev rfl)) fun a hF => ?_
            refine sv' hF (wn rfl) rfl rfl (R.subI (hF.ev rfl) (hF.ev rfl) (by omega)) fun a hF => ?_
            refine sv' hF (wn rfl) rfl rfl (R.assign (hF.ev rfl)) fun a hF => ?_
            refine s0 ?_
            refine then_n (hKL2 (k - 1) _ _ ?_ ?_)
            · omega
            · exact ⟨k - 1, rfl, hF.sub ⟨rfl, rfl, (by rw [← rem_div y 10000000000000000000 k (by decide) (by omega)]; rfl), (congrArg (fun z => some (Value.int .i64 z)) (by omega)), trivial⟩, hS.sel [1, 2] rfl (by rw [← quo4_step y 10000000000000000000 k (by decide) (by omega)]; rfl), by omega⟩
          ·
            obtain rfl : k = 0 := by omega
            rw [quo4_0] at hS
            refine wp_exit (then_x (then_x (blk_hit ?_)))
            refine then_n (hK7 _ _ ?_)
            refine wp_seq_k fun K12 hK12 => ?_
            refine wp_region_lit ?_
            refine sv' hF (wn rfl) rfl rfl (R.move (hF.ev rfl)) fun a hF => ?_
            refine s0 ?_
            refine then_n (hK12 _ _ ?_)
            refine wp_block ?_
            refine wp_loop_N (fun g a w => ∃ (j : Nat) (r : Nat) (m : List Nat) (A2 : Option Addr) (e2 : Nat) (s2 : Seg), 19 - j = g ∧ Fr 85 [(1, .pointer (some ⟨b1, 0, none⟩)), (3, .slice A2 m.length e2), (4, .int .u64 ((r : Nat) : Int)), (30, .int .i64 (j : Nat))] a ∧ St w0 [] [[(b1, Cel (wc (y / 10000000000000000000)) 29)], s2] w ∧ (OwnS s2 A2 m.length e2 (dch m) 5 1) ∧ (Dig m) ∧ (m.length = l.length + j) ∧ (j ≤ 19) ∧ (r < 10 ^ (19 - j)) ∧ (val10 m + 10 ^ m.length * r = val10 l + 10 ^ l.length * (y % 10000000000000000000))) (19 - 0) ?_ ?_
            · exact ⟨0, y % 10000000000000000000, l, A, e, s, rfl, hF.sub ⟨rfl, rfl, (by rw [Nat.pow_zero, Nat.div_one]; rfl), rfl, trivial⟩, hS.sel [0, 1] rfl rfl, hO, hd, rfl, by omega, Nat.mod_lt _ (by decide), rfl⟩
            · rintro KL3 g a w ⟨j, r, m, A2, e2, s2, hg3, hF, hS, hO2, hm, hml, hj, hr, hmv⟩ hKL3
              refine wp_seq_k fun K13 hK13 => ?_
              refine wp_region_lit ?_
              refine sv' hF (wn rfl) rfl rfl (R.lss (hF.ev rfl) (hF.ev rfl)) fun a hF => ?_
              refine s0 ?_
              refine then_n (hK13 _ _ ?_)
              refine wp_seq_k fun K14 hK14 => ?_
              refine cD hF rfl (fun c3 => ?_) (fun c3 => ?_)
              ·
                have hrl : r < 18446744073709551616 := Nat.lt_of_lt_of_le hr (Nat.le_trans (Nat.pow_le_pow_right (by decide) (Nat.sub_le _ _)) (by decide : 10 ^ 19 ≤ 18446744073709551616))
                refine wp_skip ?_
                refine then_n (hK14 _ _ ?_)
                refine wp_seq_k fun K15 hK15 => ?_
                refine wp_block ?_
                refine wp_seq_k fun K16 hK16 => ?_
                refine wp_region_lit ?_
                refine sv' hF (wn rfl) rfl rfl (R.move (hF.ev rfl)) fun a hF => ?_
                refine sv' hF (wn rfl) rfl rfl (R.move (hF.ev rfl)) fun a hF => ?_
                refine sv' hF (wn rfl) rfl rfl (R.remU (q := 10) (hF.ev rfl) (hF.ev rfl) (by decide)) fun a hF => ?_
                refine sv' hF (wn rfl) rfl rfl (R.as (u := .int .u64 ((48 + r % 10 : Nat) : Int)) (R.addU (p := 48) (hF.ev rfl) (hF.ev rfl)) (congrArg (fun z : Nat => Value.int .u64 (z : Int)) (by omega))) fun a hF => ?_
                refine sv' hF (wn rfl) rfl rfl (R.as (u := .int .u8 ((48 + r % 10 : Nat) : Int)) (R.convB Try.underlying27 Try.underlying5 (hF.ev rfl)) (congrArg (fun z : Nat => Value.int .u8 (z : Int)) (by omega))) fun a hF => ?_
                refine so (wn rfl) (O.buildSlice (l := [_]) rfl rfl hF Try.underlying82 inf5 rfl rfl (hF.evp rfl) (by decide) rfl hS fun b37 a w hF hS => ?_)
                refine so (wn rfl) (O.append rfl rfl hF Try.underlying82 inf5 rfl rfl (by decide) (hF.ev rfl) (hF.ev rfl) hS hO2 (fun _ => (.t (.t .h))) (Rd.own0 hS .h) (rfl) (by simp [Value.oneCell']) (by unfold maxLen; omega) (by omega) fun A38 c38 s38 a w hO38 hF hS => ?_)
                refine sv' hF (wn rfl) rfl rfl (R.assign (hF.ev rfl)) fun a hF => ?_
                refine s0 ?_
                refine then_n (hK16 _ _ ?_)
                refine wp_region_lit ?_
                refine sv' hF (wn rfl) rfl rfl (R.move (hF.ev rfl)) fun a hF => ?_
                refine sv' hF (wn rfl) rfl rfl (R.quoU (q := 10) (hF.ev rfl) (hF.ev rfl) (by omega) (by decide)) fun a hF => ?_
                refine sv' hF (wn rfl) rfl rfl (R.assign (hF.ev rfl)) fun a hF => ?_
                refine s0 ?_
                refine blk_n ?_
                refine then_n (hK15 _ _ ?_)
                refine wp_region_lit ?_
                refine sv' hF (wn rfl) rfl rfl (R.addI (hF.ev rfl) (hF.ev rfl) (by omega)) fun a hF => ?_
                refine sv' hF (wn rfl) rfl rfl (R.move (hF.ev rfl)) fun a hF => ?_
                refine s0 ?_
                refine then_n (hKL3 (19 - (j + 1)) _ _ ?_ ?_)
                · omega
                · exact ⟨j + 1, r / 10, m ++ [r % 10], A38, c38, s38, rfl, hF.sub ⟨rfl, (by rw [List.length_append, List.length_singleton]; rfl), rfl, rfl, trivial⟩, hS.sel [1, 2] rfl rfl, own_snoc hO38, dig_snoc hm (by omega), by simp only [List.length_append, List.length_singleton]; omega, by omega, chunk_lt (by omega) hr, chunk_step hmv⟩
              ·
                obtain rfl : j = 19 := by omega
                refine wp_exit (then_x (then_x (blk_hit ?_)))
                refine blk_n ?_
                refine then_n (hKL1 (y / 10000000000000000000 + (if m.length = 0 then 1 else 0)) _ _ ?_ ?_)
                · rcases c1 with c1 | c1 <;> rw [if_neg (show ¬ m.length = 0 by omega)] <;> (try rw [if_pos c1] at hg1) <;> omega
                · exact ⟨y / 10000000000000000000, m, A2, e2, s2, rfl, hF.sub ⟨rfl, rfl, trivial⟩, hS.sel [0, 1] rfl rfl, hO2, hm, chunk_end hmv (by simpa using hr) (by omega) hv, Nat.le_trans (Nat.div_le_self _ _) hyx⟩
      ·
        have hy0 : y = 0 := by omega
        refine wp_exit (then_x (then_x (blk_hit ?_)))
        refine then_n (hK3 _ _ ?_)
        refine wp_seq_k fun K17 hK17 => ?_
        refine wp_block ?_
        refine wp_loop_N (fun g a w => ∃ (z : List Nat), z.length = g ∧ Fr 85 [(3, .slice A z.length e)] a ∧ St w0 [] [s] w ∧ (OwnS s A z.length e (dch z) 5 1) ∧ (Dig z) ∧ (val10 z = x) ∧ (0 < z.length)) (l.length) ?_ ?_
        · exact ⟨l, rfl, hF.sub ⟨rfl, trivial⟩, hS.sel [1] rfl rfl, hO, hd, by simpa [hy0] using hv, by omega⟩
        · rintro KL4 g a w ⟨z, hg4, hF, hS, hO, hd, hv, hz⟩ hKL4
          have hcap := hO.cap; have hle := hO.2.1
          refine wp_seq_k fun K18 hK18 => ?_
          refine wp_seq_k fun K19 hK19 => ?_
          have hK19' : ∀ a w, (Fr 85 [(3, .slice A z.length e), (53, .bool (decide (1 < z.length ∧ z.getD (z.length - 1) 0 = 0)))] a ∧ St w0 [] [s] w) → K19 a w := by
            rintro a w ⟨hF, hS⟩
            refine hK19 _ _ ?_
            refine cD hF rfl (fun c4 => ?_) (fun c4 => ?_)
            ·
              refine wp_skip ?_
              refine then_n (hK18 _ _ ?_)
              refine wp_block ?_
              refine wp_region_lit ?_
              refine sv' hF (wn rfl) rfl rfl (R.move (hF.ev rfl)) fun a hF => ?_
              refine sv' hF (wn rfl) rfl rfl (R.move (hF.ev rfl)) fun a hF => ?_
              refine sv' hF (wn rfl) rfl rfl (R.len Try.underlying82 (hF.ev rfl)) fun a hF => ?_
              refine sv' hF (wn rfl) rfl rfl (R.subI (hF.ev rfl) (hF.ev rfl) (by omega)) fun a hF => ?_
              refine sv' hF (wn rfl) rfl rfl (R.sliceHi Try.underlying82 (hF.ev rfl) (hF.ev rfl) (by omega) (by omega) _ sz5) fun a hF => ?_
              refine sv' hF (wn rfl) rfl rfl (R.assign (hF.ev rfl)) fun a hF => ?_
              refine s0 ?_
              refine blk_n ?_
              refine then_n (hKL4 (z.dropLast.length) _ _ ?_ ?_)
              · rw [List.length_dropLast]; omega
              · exact ⟨z.dropLast, rfl, hF.sub ⟨(congrArg (fun z => some (Value.slice A z e)) (by rw [List.length_dropLast]; omega)), trivial⟩, hS.sel [0] rfl rfl, own_drop hO, dig_dropLast hd, (strip (by omega) c4.2).trans hv, by rw [List.length_dropLast]; omega⟩
            ·
              have hdec := stripped hd hv hz c4
              refine wp_exit (then_x (then_x (blk_hit ?_)))
              refine then_n (hK17 _ _ ?_)
              refine wp_seq_k fun K20 hK20 => ?_
              refine wp_seq_k fun K21 hK21 => ?_
              obtain ⟨gb, rest, rfl, rfl, o4, o5⟩ := own_open hO hz; have hmx : maxLen = 9223372036854775807 := rfl
              refine wp_region_lit ?_
              refine sv' hF (wn rfl) rfl rfl (R.move (hF.ev rfl)) fun a hF => ?_
              refine sv' hF (wn rfl) rfl rfl (R.len Try.underlying82 (hF.ev rfl)) fun a hF => ?_
              refine sv' hF (wn rfl) rfl rfl (R.subI (hF.ev rfl) (hF.ev rfl) (by omega)) fun a hF => ?_
              refine sv' hF (wn rfl) rfl rfl (R.assign (hF.ev rfl)) fun a hF => ?_
              refine sv' hF (wn rfl) rfl rfl (R.assign (hF.ev rfl)) fun a hF => ?_
              refine s0 ?_
              refine then_n (hK21 _ _ ?_)
              refine wp_block ?_
              refine wp_loop_N (fun g a w => ∃ (i : Nat), z.length - i = g ∧ Fr 85 [(3, .slice (some ⟨gb, 0, none⟩) z.length e), (6, .int .i64 (i : Nat)), (7, .int .i64 ((z.length : Nat) - 1 - (i : Nat) : Int))] a ∧ St w0 [] [[(gb, Cel (dch (swp z i) ++ rest) 5)]] w ∧ (2 * i ≤ z.length)) (z.length - 0) ?_ ?_
              · exact ⟨0, rfl, hF.sub ⟨rfl, rfl, (congrArg (fun z => some (Value.int .i64 z)) (by omega)), trivial⟩, hS.sel [0] rfl (by rw [swp_0]; rfl), by omega⟩
              · rintro KL5 g a w ⟨i, hg5, hF, hS, hi⟩ hKL5
                refine wp_seq_k fun K22 hK22 => ?_
                refine wp_seq_k fun K23 hK23 => ?_
                refine wp_region_lit ?_
                refine sv' hF (wn rfl) rfl rfl (R.move (hF.ev rfl)) fun a hF => ?_
                refine sv' hF (wn rfl) rfl rfl (R.move (hF.ev rfl)) fun a hF => ?_
                refine sv' hF (wn rfl) rfl rfl (R.lss (hF.ev rfl) (hF.ev rfl)) fun a hF => ?_
                refine s0 ?_
                refine then_n (hK23 _ _ ?_)
                refine cD hF rfl (fun c5 => ?_) (fun c5 => ?_)
                ·
                  refine wp_skip ?_
                  refine then_n (hK22 _ _ ?_)
                  refine wp_seq_k fun K24 hK24 => ?_
                  refine wp_block ?_
                  refine wp_drawS hS [(0, 0), (1, 0), (2, 0), (3, 0), (4, 0), (5, 0), (6, 0), (7, 1), (8, 0), (9, 0), (10, 0), (11, 1), (12, 0), (13, 3), (14, 0), (15, 3)] mix (by kernel_rfl) (hP.then.block.then.then.block) fun w hS => ?_
                  have hD := hS
                  refine dq hF rfl (wn rfl) rfl rfl (fun w => R.move (hF.ev rfl)) fun a hF => ?_
                  refine dq hF rfl (wn rfl) rfl rfl (fun w => R.move (hF.ev rfl)) fun a hF => ?_
                  refine dq hF rfl (wn rfl) rfl rfl (fun w => R.move (hF.ev rfl)) fun a hF => ?_
                  refine dq hF rfl (wn rfl) rfl rfl (fun w => R.move (hF.ev rfl)) fun a hF => ?_
                  refine dq hF rfl (wn rfl) rfl rfl (fun w => R.move (hF.ev rfl)) fun a hF => ?_
                  refine dq hF rfl (wn rfl) rfl rfl (fun w => R.move (hF.ev rfl)) fun a hF => ?_
                  refine dq hF rfl (wn rfl) rfl rfl (fun w => R.indexS Try.underlying82 sz5 (hF.ev rfl) (hF.ev rfl) (by omega) (by omega)) fun a hF => ?_
                  refine dr hF rfl (wn rfl) rfl rfl hD (fun w hD => R.load one5 (hF.ev rfl) hD .h (swp_at z rest i (z.length - 1 - i) (by omega) (by omega) (by omega) _ (by omega))) fun a hF => ?_
                  refine dq hF rfl (wn rfl) rfl rfl (fun w => R.move (hF.ev rfl)) fun a hF => ?_
                  refine dq hF rfl (wn rfl) rfl rfl (fun w => R.move (hF.ev rfl)) fun a hF => ?_
                  refine dq hF rfl (wn rfl) rfl rfl (fun w => R.indexS Try.underlying82 sz5 (hF.ev rfl) (hF.ev rfl) (by omega) (by omega)) fun a hF => ?_
                  refine dr hF rfl (wn rfl) rfl rfl hD (fun w hD => R.load one5 (hF.ev rfl) hD .h (swp_at z rest i i (by omega) (by omega) (by omega) _ (by omega))) fun a hF => ?_
                  refine dq hF rfl (wn rfl) rfl rfl (fun w => R.indexS Try.underlying82 sz5 (hF.ev rfl) (hF.ev rfl) (by omega) (by omega)) fun a hF => ?_
                  refine dw rfl (wn rfl) (O.store sz5 (hF.ev rfl) (hF.ev rfl) rfl rfl hS .h (rfl) (by rw [List.length_append, length_dch, length_swp]; omega) fun w hS => ?_)
                  refine dq hF rfl (wn rfl) rfl rfl (fun w => R.indexS Try.underlying82 sz5 (hF.ev rfl) (hF.ev rfl) (by omega) (by omega)) fun a hF => ?_
                  refine dw rfl (wn rfl) (O.store sz5 (hF.ev rfl) (hF.ev rfl) rfl rfl hS .h (swp_step z rest i _ _ (by omega) (by omega) (by omega)) (by rw [List.length_set, List.length_append, length_dch, length_swp]; omega) fun w hS => ?_)
                  refine d0 ?_
                  refine blk_n ?_
                  refine then_n (hK24 _ _ ?_)
                  refine wp_region_lit ?_
                  refine sv' hF (wn rfl) rfl rfl (R.move (hF.ev rfl)) fun a hF => ?_
                  refine sv' hF (wn rfl) rfl rfl (R.addI (hF.ev rfl) (hF.ev rfl) (by omega)) fun a hF => ?_
                  refine sv' hF (wn rfl) rfl rfl (R.move (hF.ev rfl)) fun a hF => ?_
                  refine sv' hF (wn rfl) rfl rfl (R.subI (hF.ev rfl) (hF.ev rfl) (by omega)) fun a hF => ?_
                  refine sv' hF (wn rfl) rfl rfl (R.assign (hF.ev rfl)) fun a hF => ?_
                  refine sv' hF (wn rfl) rfl rfl (R.assign (hF.ev rfl)) fun a hF => ?_
                  refine s0 ?_
                  refine then_n (hKL5 (z.length - (i + 1)) _ _ ?_ ?_)
                  · omega
                  · exact ⟨i + 1, rfl, hF.sub ⟨rfl, rfl, (congrArg (fun z => some (Value.int .i64 z)) (by omega)), trivial⟩, hS.sel [0] rfl rfl, by omega⟩
                ·
                  have hsw := swp_end z i (by omega)
                  refine wp_exit (then_x (then_x (blk_hit ?_)))
                  refine then_n (hK20 _ _ ?_)
                  refine wp_seq_k fun K25 hK25 => ?_
                  refine wp_region_lit ?_
                  refine sv' hF (wn rfl) rfl rfl (R.move (hF.ev rfl)) fun a hF => ?_
                  refine sv' hF (wn rfl) rfl rfl (R.convStr (xs := (swp z i).map (48 + ·)) Try.underlying82 Try.underlying5 Try.underlying9 (hF.ev rfl) (Rd.own hS .h fun j v hj => by rw [Nat.zero_add, List.getElem?_append_left (l₁ := dch (swp z i)) (List.getElem?_eq_some_iff.1 hj).1]; exact hj) (by rw [List.length_map, length_swp])) fun a hF => ?_
                  refine sv' hF (wn rfl) rfl rfl (R.assign (hF.ev rfl)) fun a hF => ?_
                  refine s0 ?_
                  refine then_n (hK25 _ _ ?_)
                  refine wp_ret (hR _ _ _ _ _ hF (run_results Try.results45 (.t hF rfl (.nil))) ?_)
                  exact ⟨_, [], rfl, ⟨by rw [hsw, ← hdec]; rfl, rfl⟩, hS.none⟩
          refine wp_region_lit ?_
          refine sv' hF (wn rfl) rfl rfl (R.move (hF.ev rfl)) fun a hF => ?_
          refine sv' hF (wn rfl) rfl rfl (R.len Try.underlying82 (hF.ev rfl)) fun a hF => ?_
          refine sv' hF (wn rfl) rfl rfl (R.gtr (hF.ev rfl) (hF.ev rfl)) fun a hF => ?_
          refine sv' hF (wn rfl) rfl rfl (R.move (hF.ev rfl)) fun a hF => ?_
          refine hF.splitD (t := 45) rfl (fun h45 hF => ?_) (fun h45 hF => ?_)
          ·
            refine sv' hF (wy hF rfl rfl rfl) rfl rfl (R.move (hF.ev rfl)) fun a hF => ?_
            refine sv' hF (wy hF rfl rfl rfl) rfl rfl (R.move (hF.ev rfl)) fun a hF => ?_
            refine sv' hF (wy hF rfl rfl rfl) rfl rfl (R.len Try.underlying82 (hF.ev rfl)) fun a hF => ?_
            refine sv' hF (wy hF rfl rfl rfl) rfl rfl (R.subI (hF.ev rfl) (hF.ev rfl) (by omega)) fun a hF => ?_
            refine sv' hF (wy hF rfl rfl rfl) rfl rfl (R.indexO Try.underlying82 sz5 (hF.ev rfl) (Rd.ne (hO.rd hS .h) (by rw [length_dch]; omega)) (hF.ev rfl) (by omega) (by omega)) fun a hF => ?_
            refine sv' hF (wy hF rfl rfl rfl) rfl rfl (R.loadO one5 (hF.ev rfl) (hO.rd hS .h) (show _ = some (Value.int .u8 ((48 + z.getD (z.length - 1) 0 : Nat) : Int)) from by rw [show (((z.length : Nat) : Int) - 1).toNat * 1 = z.length - 1 from by omega]; exact dch_get z _ (by omega))) fun a hF => ?_
            refine sv' hF (wy hF rfl rfl rfl) rfl rfl (R.eql (hF.ev rfl) (hF.ev rfl)) fun a hF => ?_
            refine sv' hF (wn rfl) rfl rfl (R.pickT (hF.ev rfl) (hF.ev rfl)) fun a hF => ?_
            refine s0 ?_
            exact then_n (hK19' _ _ ⟨hF.sub ⟨rfl, (congrArg (fun z => some (Value.bool z)) (by first | exact (decide_eq_false (by omega)).symm | exact decide_eq_decide.2 (by omega))), trivial⟩, hS.sel [0] rfl rfl⟩)
          ·
            refine sk hF (ws hF rfl rfl rfl rfl) rfl rfl fun a hF => ?_
            refine sk hF (ws hF rfl rfl rfl rfl) rfl rfl fun a hF => ?_
            refine sk hF (ws hF rfl rfl rfl rfl) rfl rfl fun a hF => ?_
            refine sk hF (ws hF rfl rfl rfl rfl) rfl rfl fun a hF => ?_
            refine sk hF (ws hF rfl rfl rfl rfl) rfl rfl fun a hF => ?_
            refine sk hF (ws hF rfl rfl rfl rfl) rfl rfl fun a hF => ?_
            refine sk hF (ws hF rfl rfl rfl rfl) rfl rfl fun a hF => ?_
            refine sv' hF (wn rfl) rfl rfl (R.pickF (hF.ev rfl) (hF.ev rfl)) fun a hF => ?_
            refine s0 ?_
            exact then_n (hK19' _ _ ⟨hF.sub ⟨rfl, (congrArg (fun z => some (Value.bool z)) (by first | exact (decide_eq_false (by omega)).symm | exact decide_eq_decide.2 (by omega))), trivial⟩, hS.sel [0] rfl rfl⟩)
    refine wp_region_lit ?_
    refine sv' hF (wn rfl) rfl rfl (R.loadW agg29 (hF.ev rfl) hS .h sz29 (rfl)) fun a hF => ?_
    refine so (wn rfl) (O.call rfl rfl hF ent54 (hF.evs rfl) hS (isZero_calls y _ (Nat.lt_of_le_of_lt hyx hx)) fun v s9 a w hR hF hS => ?_)
    obtain ⟨rfl, rfl⟩ := hR
    refine sv' hF (wn rfl) rfl rfl ((by first | exact R.notD (hF.ev rfl) | exact R.not (hF.ev rfl))) fun a hF => ?_
    refine sv' hF (wn rfl) rfl rfl (R.move (hF.ev rfl)) fun a hF => ?_
    refine hF.splitD (t := 11) rfl (fun h11 hF => ?_) (fun h11 hF => ?_)
    ·
      refine sk hF (ws hF rfl rfl rfl rfl) rfl rfl fun a hF => ?_
      refine sk hF (ws hF rfl rfl rfl rfl) rfl rfl fun a hF => ?_
      refine sk hF (ws hF rfl rfl rfl rfl) rfl rfl fun a hF => ?_
      refine sv' hF (wn rfl) rfl rfl (R.pickT (hF.ev rfl) (hF.ev rfl)) fun a hF => ?_
      refine s0 ?_
      exact then_n (hK5' _ _ ⟨hF.sub ⟨rfl, rfl, (congrArg (fun z => some (Value.bool z)) (by first | exact (decide_eq_true (by omega)).symm | exact decide_eq_decide.2 (by omega))), trivial⟩, hS.sel [1, 2] rfl rfl⟩)
    ·
      refine sv' hF (wy hF rfl rfl rfl) rfl rfl (R.move (hF.ev rfl)) fun a hF => ?_
      refine sv' hF (wy hF rfl rfl rfl) rfl rfl (R.len Try.underlying82 (hF.ev rfl)) fun a hF => ?_
      refine sv' hF (wy hF rfl rfl rfl) rfl rfl (R.eql (hF.ev rfl) (hF.ev rfl)) fun a hF => ?_
      refine sv' hF (wn rfl) rfl rfl (R.pickF (hF.ev rfl) (hF.ev rfl)) fun a hF => ?_
      refine s0 ?_
      exact then_n (hK5' _ _ ⟨hF.sub ⟨rfl, rfl, (congrArg (fun z => some (Value.bool z)) (by first | exact (decide_eq_true (by omega)).symm | exact decide_eq_decide.2 (by omega))), trivial⟩, hS.sel [1, 2] rfl rfl⟩)

end Go.Proofs.Ythgecfjpacebeaa
