/- The calls of WideSums. -/
import Derived.Test.YthgecfjpacebeaaBw
namespace Go.Proofs.Ythgecfjpacebeaa
open Go Go.Fw Go.RowKit
attribute [local irreducible] Go.Oper.wp Go.Code.wp Go.wpList Go.Fw.WL Go.Calls
def sel (a b k : Nat) : Nat := if k = 0 then a else b
theorem sel_lt {a b : Nat} (k : Nat) (ha : a < 115792089237316195423570985008687907853269984665640564039457584007913129639936) (hb : b < 115792089237316195423570985008687907853269984665640564039457584007913129639936) : sel a b k < 115792089237316195423570985008687907853269984665640564039457584007913129639936 := by unfold sel; split <;> assumption
theorem pair_at {a b k off : Nat} (hk : k < 2) (ho : off = k * 4) : ∀ j v, (wc (sel a b k))[j]? = some v → (wc a ++ wc b)[off + j]? = some v := by
  intro j v h
  subst ho
  have hj : j < 4 := (List.getElem?_eq_some_iff.1 h).1
  have : k = 0 ∨ k = 1 := by omega
  rcases this with rfl | rfl
  · rw [show sel a b 0 = a from rfl] at h
    rw [List.getElem?_append_left (show 0 * 4 + j < 4 by omega)]; simpa using h
  · rw [show sel a b 1 = b from rfl] at h
    rw [List.getElem?_append_right (show 4 ≤ 1 * 4 + j by omega)]
    rw [show 1 * 4 + j - (wc a).length = j from by show 1 * 4 + j - 4 = j; omega]; exact h
theorem fit_lt {p : Prop} [Decidable p] {z : Nat} (h : p → z < 115792089237316195423570985008687907853269984665640564039457584007913129639936) : (if p then z else 0) < 115792089237316195423570985008687907853269984665640564039457584007913129639936 := by
  split
  · rename_i hp; exact h hp
  · decide

theorem wideSums_calls (m n : Nat) (w0 : World) (hm : m < 115792089237316195423570985008687907853269984665640564039457584007913129639936) (hn : n < 115792089237316195423570985008687907853269984665640564039457584007913129639936) : Ret Try.prog 8 [wv m, wv n] w0 [] (fun v s => v = .bool true ∧ s = []) := by
  refine fn_start Try.func8 rfl Try.ntmps8 rfl [(0, wv m), (1, wv n)] ⟨rfl, rfl, trivial⟩ ?_
  intro Q a hP hF hR hN
  have hS := St.start w0
  refine wp_seq_k fun K1 hK1 => ?_
  refine wp_region_lit ?_
  refine so (wn rfl) (O.box rfl rfl hF (hF.ev rfl) rfl hS fun b2 a w hF hS => ?_)
  refine so (wn rfl) (O.box rfl rfl hF (hF.ev rfl) rfl hS fun b3 a w hF hS => ?_)
  refine sv' hF (wn rfl) rfl rfl (R.assign (hF.ev rfl)) fun a hF => ?_
  refine s0 ?_
  refine then_n (hK1 _ _ ?_)
  refine wp_seq_k fun K2 hK2 => ?_
  refine wp_region_lit ?_
  refine so (wn rfl) (O.call rfl rfl hF ent40 (hF.evs rfl) hS (known_calls _) fun v s13 a w hR hF hS => ?_)
  obtain ⟨rfl, rfl⟩ := hR
  refine sv' hF (wn rfl) rfl rfl (R.assign (hF.ev rfl)) fun a hF => ?_
  refine s0 ?_
  refine then_n (hK2 _ _ ?_)
  refine wp_seq_k fun K3 hK3 => ?_
  refine wp_region_lit ?_
  refine sv' hF (wn rfl) rfl rfl (R.loadW agg29 (hF.ev rfl) hS (.t (.t .h)) sz29 (rfl)) fun a hF => ?_
  refine sv' hF (wn rfl) rfl rfl (R.loadW agg29 (hF.ev rfl) hS (.t .h) sz29 (rfl)) fun a hF => ?_
  refine so (wn rfl) (O.buildSlice (l := wc m ++ wc n) rfl rfl hF Try.underlying26 inf29 rfl rfl (hF.evp rfl) (by decide) rfl hS fun b16 a w hF hS => ?_)
  refine sv' hF (wn rfl) rfl rfl (R.assign (hF.ev rfl)) fun a hF => ?_
  refine s0 ?_
  refine then_n (hK3 _ _ ?_)
  refine wp_seq_k fun K4 hK4 => ?_
  refine wp_region_lit ?_
  refine sv' hF (wn rfl) rfl rfl (R.loadW agg29 (hF.ev rfl) hS (.t (.t .h)) sz29 (rfl)) fun a hF => ?_
  refine sv' hF (wn rfl) rfl rfl (R.loadW agg29 (hF.ev rfl) hS (.t (.t (.t .h))) sz29 (rfl)) fun a hF => ?_
  refine so (wn rfl) (O.buildSlice (l := wc n ++ wc m) rfl rfl hF Try.underlying26 inf29 rfl rfl (hF.evp rfl) (by decide) rfl hS fun b19 a w hF hS => ?_)
  refine sv' hF (wn rfl) rfl rfl (R.assign (hF.ev rfl)) fun a hF => ?_
  refine s0 ?_
  refine then_n (hK4 _ _ ?_)
  refine wp_seq_k fun K5 hK5 => ?_
  refine wp_seq_k fun K6 hK6 => ?_
  refine wp_region_lit ?_
  refine sv' hF (wn rfl) rfl rfl (R.assign (hF.ev rfl)) fun a hF => ?_
  refine s0 ?_
  refine then_n (hK6 _ _ ?_)
  refine wp_block ?_
  refine wp_loop_N (fun g a w => ∃ (k : Nat), 2 - k = g ∧ Fr 121 [(5, .bool true), (6, .slice (some ⟨b16, 0, none⟩) 2 2), (7, .slice (some ⟨b19, 0, none⟩) 2 2), (8, .int .i64 (k : Nat))] a ∧ St w0 [] [[(b16, Cel (wc m ++ wc n) 29)], [(b19, Cel (wc n ++ wc m) 29)]] w ∧ (k ≤ 2)) (2 - 0) ?_ ?_
  · exact ⟨0, rfl, hF.sub ⟨rfl, rfl, rfl, rfl, trivial⟩, hS.sel [1, 0] rfl rfl, by omega⟩
  · rintro KL1 g a w ⟨k, hg1, hF, hS, hk⟩ hKL1
    refine wp_seq_k fun K7 hK7 => ?_
    refine wp_seq_k fun K8 hK8 => ?_
    refine wp_region_lit ?_
    refine sv' hF (wn rfl) rfl rfl (R.move (hF.ev rfl)) fun a hF => ?_
    refine sv' hF (wn rfl) rfl rfl (R.lss (hF.ev rfl) (hF.ev rfl)) fun a hF => ?_
    refine s0 ?_
    refine then_n (hK8 _ _ ?_)
    refine cD hF rfl (fun c1 => ?_) (fun c1 => ?_)
    ·
      have hk2 : k < 2 := by omega
      have hx := sel_lt k hm hn
      have hy := sel_lt k hn hm
      refine wp_skip ?_
      refine then_n (hK7 _ _ ?_)
      refine wp_seq_k fun K9 hK9 => ?_
      refine wp_block ?_
      refine wp_seq_k fun K10 hK10 => ?_
      have hK10' : ∀ a w, (∃ (b9 : Nat), Fr 121 [(5, .bool true), (6, .slice (some ⟨b16, 0, none⟩) 2 2), (7, .slice (some ⟨b19, 0, none⟩) 2 2), (8, .int .i64 (k : Nat)), (9, .pointer (some ⟨b9, 0, none⟩)), (10, .int .i64 (if (sel m n k) + (sel n m k) < 115792089237316195423570985008687907853269984665640564039457584007913129639936 then 0 else 22))] a ∧ St w0 [] [[(b16, Cel (wc m ++ wc n) 29)], [(b19, Cel (wc n ++ wc m) 29)], [(b9, Cel (wc (if (sel m n k) + (sel n m k) < 115792089237316195423570985008687907853269984665640564039457584007913129639936 then (sel m n k) + (sel n m k) else 0)) 29)]] w) → K10 a w := by
        rintro a w ⟨b9, hF, hS⟩
        refine hK10 _ _ ?_
        refine wp_seq_k fun K11 hK11 => ?_
        have hK11' : ∀ a w, (∃ (b9 : Nat) (b11 : Nat), Fr 121 [(5, .bool true), (6, .slice (some ⟨b16, 0, none⟩) 2 2), (7, .slice (some ⟨b19, 0, none⟩) 2 2), (8, .int .i64 (k : Nat)), (9, .pointer (some ⟨b9, 0, none⟩)), (10, .int .i64 (if (sel m n k) + (sel n m k) < 115792089237316195423570985008687907853269984665640564039457584007913129639936 then 0 else 22)), (11, .pointer (some ⟨b11, 0, none⟩)), (12, .int .i64 (if (sel m n k) + (sel n m k) < 115792089237316195423570985008687907853269984665640564039457584007913129639936 then 0 else 22))] a ∧ St w0 [] [[(b16, Cel (wc m ++ wc n) 29)], [(b19, Cel (wc n ++ wc m) 29)], [(b9, Cel (wc (if (sel m n k) + (sel n m k) < 115792089237316195423570985008687907853269984665640564039457584007913129639936 then (sel m n k) + (sel n m k) else 0)) 29)], [(b11, Cel (wc (if (sel m n k) + (sel n m k) < 115792089237316195423570985008687907853269984665640564039457584007913129639936 then (sel m n k) + (sel n m k) else 0)) 29)]] w) → K11 a w := by
          rintro a w ⟨b9, b11, hF, hS⟩
          refine hK11 _ _ ?_
          refine wp_seq_k fun K12 hK12 => ?_
          refine wp_seq_k fun K13 hK13 => ?_
          refine wp_region_lit ?_
          refine sv' hF (wn rfl) rfl rfl (R.loadW agg29 (hF.ev rfl) hS (.t (.t .h)) sz29 (rfl)) fun a hF => ?_
          refine sv' hF (wn rfl) rfl rfl (R.loadW agg29 (hF.ev rfl) hS (.t (.t (.t .h))) sz29 (rfl)) fun a hF => ?_
          refine sv' hF (wn rfl) rfl rfl (R.as (u := .bool false) (R.neqW (x := if (sel m n k) + (sel n m k) < 115792089237316195423570985008687907853269984665640564039457584007913129639936 then (sel m n k) + (sel n m k) else 0) (y := if (sel m n k) + (sel n m k) < 115792089237316195423570985008687907853269984665640564039457584007913129639936 then (sel m n k) + (sel n m k) else 0) (hF.ev rfl) (hF.ev rfl) (fit_lt (fun h => h)) (fit_lt (fun h => h))) (congrArg Value.bool (decide_eq_false (fun h => h rfl)))) fun a hF => ?_
          refine sv' hF (wn rfl) rfl rfl (R.move (hF.ev rfl)) fun a hF => ?_
          refine sv' hF (wy hF rfl rfl rfl) rfl rfl (R.move (hF.ev rfl)) fun a hF => ?_
          refine sv' hF (wy hF rfl rfl rfl) rfl rfl (R.move (hF.ev rfl)) fun a hF => ?_
          refine sv' hF (wy hF rfl rfl rfl) rfl rfl (R.as (u := .bool false) (R.neq (p := if (sel m n k) + (sel n m k) < 115792089237316195423570985008687907853269984665640564039457584007913129639936 then 0 else 22) (q := if (sel m n k) + (sel n m k) < 115792089237316195423570985008687907853269984665640564039457584007913129639936 then 0 else 22) (hF.ev rfl) (hF.ev rfl)) (congrArg Value.bool (decide_eq_false (fun h => h rfl)))) fun a hF => ?_
          refine sv' hF (wn rfl) rfl rfl (R.pickF (hF.ev rfl) (hF.ev rfl)) fun a hF => ?_
          refine s0 ?_
          refine then_n (hK13 _ _ ?_)
          refine cF hF rfl ?_
          refine wp_skip ?_
          refine then_n (hK12 _ _ ?_)
          refine wp_seq_k fun K14 hK14 => ?_
          refine wp_drawS hS [(0, 0), (1, 0), (2, 0), (3, 1), (4, 0), (5, 0), (6, 0), (7, 1), (8, 2), (9, 0), (10, 0), (11, 0), (12, 3), (13, 0)] mix (by kernel_rfl) (hP.then.block.then.then.block.then) fun w hS => ?_
          have hD := hS
          refine dq hF rfl (wn rfl) rfl rfl (fun w => R.move (hF.ev rfl)) fun a hF => ?_
          refine dq hF rfl (wn rfl) rfl rfl (fun w => R.move (hF.ev rfl)) fun a hF => ?_
          refine dq hF rfl (wn rfl) rfl rfl (fun w => R.indexS Try.underlying26 sz29 (hF.ev rfl) (hF.ev rfl) (by omega) (by omega)) fun a hF => ?_
          refine dr hF rfl (wn rfl) rfl rfl hD (fun w hD => R.loadA (cs := wc (sel m n k)) agg29 (hF.ev rfl) hD .h sz29 rfl (pair_at hk2 (by omega))) fun a hF => ?_
          refine dq hF rfl (wn rfl) rfl rfl (fun w => R.move (hF.ev rfl)) fun a hF => ?_
          refine dq hF rfl (wn rfl) rfl rfl (fun w => R.move (hF.ev rfl)) fun a hF => ?_
          refine dq hF rfl (wn rfl) rfl rfl (fun w => R.indexS Try.underlying26 sz29 (hF.ev rfl) (hF.ev rfl) (by omega) (by omega)) fun a hF => ?_
          refine dr hF rfl (wn rfl) rfl rfl hD (fun w hD => R.loadA (cs := wc (sel n m k)) agg29 (hF.ev rfl) hD (.t .h) sz29 rfl (pair_at hk2 (by omega))) fun a hF => ?_
          refine dl rfl (wn rfl) (O.call rfl rfl hF ent42 (hF.evs rfl) hS (sub_calls _ _ _ hx hy) fun v s65 a w hR hF hS => ⟨fun hD => hS.tail, ?_⟩)
          obtain ⟨rfl, rfl⟩ := hR
          have hD := hS.tail
          refine dq hF rfl (wn rfl) rfl rfl (fun w => R.move (hF.ev rfl)) fun a hF => ?_
          refine dq hF rfl (wn rfl) rfl rfl (fun w => R.extract (hF.ev rfl) rfl) fun a hF => ?_
          refine dq hF rfl (wn rfl) rfl rfl (fun w => R.extract (hF.ev rfl) rfl) fun a hF => ?_
          refine dw rfl (wn rfl) (O.storeW sz29 (hF.ev rfl) (hF.ev rfl) (rfl) rfl (by simp [Value.oneCell']) hS (.t (.t (.t .h))) (rfl) fun w hS => ?_)
          refine dq hF rfl (wn rfl) rfl rfl (fun w => R.assign (hF.ev rfl)) fun a hF => ?_
          refine d0 ?_
          refine then_n (hK14 _ _ ?_)
          refine wp_seq_k fun K15 hK15 => ?_
          refine wp_drawS hS [(0, 0), (1, 0), (2, 0), (3, 1), (4, 0), (5, 0), (6, 0), (7, 1), (8, 2), (9, 0), (10, 0), (11, 0), (12, 3), (13, 0)] mix (by kernel_rfl) (hP.then.block.then.then.block.then) fun w hS => ?_
          have hD := hS
          refine dq hF rfl (wn rfl) rfl rfl (fun w => R.move (hF.ev rfl)) fun a hF => ?_
          refine dq hF rfl (wn rfl) rfl rfl (fun w => R.move (hF.ev rfl)) fun a hF => ?_
          refine dq hF rfl (wn rfl) rfl rfl (fun w => R.indexS Try.underlying26 sz29 (hF.ev rfl) (hF.ev rfl) (by omega) (by omega)) fun a hF => ?_
          refine dr hF rfl (wn rfl) rfl rfl hD (fun w hD => R.loadA (cs := wc (sel m n k)) agg29 (hF.ev rfl) hD (.t .h) sz29 rfl (pair_at hk2 (by omega))) fun a hF => ?_
          refine dq hF rfl (wn rfl) rfl rfl (fun w => R.move (hF.ev rfl)) fun a hF => ?_
          refine dq hF rfl (wn rfl) rfl rfl (fun w => R.move (hF.ev rfl)) fun a hF => ?_
          refine dq hF rfl (wn rfl) rfl rfl (fun w => R.indexS Try.underlying26 sz29 (hF.ev rfl) (hF.ev rfl) (by omega) (by omega)) fun a hF => ?_
          refine dr hF rfl (wn rfl) rfl rfl hD (fun w hD => R.loadA (cs := wc (sel n m k)) agg29 (hF.ev rfl) hD (.t (.t .h)) sz29 rfl (pair_at hk2 (by omega))) fun a hF => ?_
          refine dl rfl (wn rfl) (O.call rfl rfl hF ent23 (hF.evs rfl) hS (rsub_calls _ _ _ hx hy) fun v s77 a w hR hF hS => ⟨fun hD => hS.tail, ?_⟩)
          obtain ⟨rfl, rfl⟩ := hR
          have hD := hS.tail
          refine dq hF rfl (wn rfl) rfl rfl (fun w => R.move (hF.ev rfl)) fun a hF => ?_
          refine dq hF rfl (wn rfl) rfl rfl (fun w => R.extract (hF.ev rfl) rfl) fun a hF => ?_
          refine dq hF rfl (wn rfl) rfl rfl (fun w => R.extract (hF.ev rfl) rfl) fun a hF => ?_
          refine dw rfl (wn rfl) (O.storeW sz29 (hF.ev rfl) (hF.ev rfl) (rfl) rfl (by simp [Value.oneCell']) hS (.t (.t (.t (.t (.t .h))))) (rfl) fun w hS => ?_)
          refine dq hF rfl (wn rfl) rfl rfl (fun w => R.assign (hF.ev rfl)) fun a hF => ?_
          refine d0 ?_
          refine then_n (hK15 _ _ ?_)
          refine wp_seq_k fun K16 hK16 => ?_
          refine wp_seq_k fun K17 hK17 => ?_
          refine wp_region_lit ?_
          refine sv' hF (wn rfl) rfl rfl (R.loadW agg29 (hF.ev rfl) hS (.t (.t (.t (.t .h)))) sz29 (rfl)) fun a hF => ?_
          refine sv' hF (wn rfl) rfl rfl (R.loadW agg29 (hF.ev rfl) hS (.t (.t (.t (.t (.t .h))))) sz29 (rfl)) fun a hF => ?_
          refine sv' hF (wn rfl) rfl rfl (R.as (u := .bool false) (R.neqW (x := if (sel n m k) ≤ (sel m n k) then (sel m n k) - (sel n m k) else 0) (y := if (sel n m k) ≤ (sel m n k) then (sel m n k) - (sel n m k) else 0) (hF.ev rfl) (hF.ev rfl) (fit_lt (fun _ => Nat.lt_of_le_of_lt (Nat.sub_le _ _) hx)) (fit_lt (fun _ => Nat.lt_of_le_of_lt (Nat.sub_le _ _) hx))) (congrArg Value.bool (decide_eq_false (fun h => h rfl)))) fun a hF => ?_
          refine sv' hF (wn rfl) rfl rfl (R.move (hF.ev rfl)) fun a hF => ?_
          refine sv' hF (wy hF rfl rfl rfl) rfl rfl (R.move (hF.ev rfl)) fun a hF => ?_
          refine sv' hF (wy hF rfl rfl rfl) rfl rfl (R.move (hF.ev rfl)) fun a hF => ?_
          refine sv' hF (wy hF rfl rfl rfl) rfl rfl (R.as (u := .bool false) (R.neq (p := if (sel n m k) ≤ (sel m n k) then 0 else 23) (q := if (sel n m k) ≤ (sel m n k) then 0 else 23) (hF.ev rfl) (hF.ev rfl)) (congrArg Value.bool (decide_eq_false (fun h => h rfl)))) fun a hF => ?_
          refine sv' hF (wn rfl) rfl rfl (R.pickF (hF.ev rfl) (hF.ev rfl)) fun a hF => ?_
          refine s0 ?_
          refine then_n (hK17 _ _ ?_)
          refine cF hF rfl ?_
          refine wp_skip ?_
          refine then_n (hK16 _ _ ?_)
          refine wp_seq_k fun K18 hK18 => ?_
          refine wp_drawS hS [(0, 0), (1, 0), (2, 0), (3, 1), (4, 0), (5, 0), (6, 0), (7, 1), (8, 2), (9, 0), (10, 0), (11, 0), (12, 3), (13, 0)] mix (by kernel_rfl) (hP.then.block.then.then.block.then) fun w hS => ?_
          have hD := hS
          refine dq hF rfl (wn rfl) rfl rfl (fun w => R.move (hF.ev rfl)) fun a hF => ?_
          refine dq hF rfl (wn rfl) rfl rfl (fun w => R.move (hF.ev rfl)) fun a hF => ?_
          refine dq hF rfl (wn rfl) rfl rfl (fun w => R.indexS Try.underlying26 sz29 (hF.ev rfl) (hF.ev rfl) (by omega) (by omega)) fun a hF => ?_
          refine dr hF rfl (wn rfl) rfl rfl hD (fun w hD => R.loadA (cs := wc (sel m n k)) agg29 (hF.ev rfl) hD (.t (.t .h)) sz29 rfl (pair_at hk2 (by omega))) fun a hF => ?_
          refine dq hF rfl (wn rfl) rfl rfl (fun w => R.move (hF.ev rfl)) fun a hF => ?_
          refine dq hF rfl (wn rfl) rfl rfl (fun w => R.move (hF.ev rfl)) fun a hF => ?_
          refine dq hF rfl (wn rfl) rfl rfl (fun w => R.indexS Try.underlying26 sz29 (hF.ev rfl) (hF.ev rfl) (by omega) (by omega)) fun a hF => ?_
          refine dr hF rfl (wn rfl) rfl rfl hD (fun w hD => R.loadA (cs := wc (sel n m k)) agg29 (hF.ev rfl) hD (.t (.t (.t .h))) sz29 rfl (pair_at hk2 (by omega))) fun a hF => ?_
          refine dl rfl (wn rfl) (O.call rfl rfl hF ent43 (hF.evs rfl) hS (mul_calls _ _ _ hx hy) fun v s97 a w hR hF hS => ⟨fun hD => hS.tail, ?_⟩)
          obtain ⟨rfl, rfl⟩ := hR
          have hD := hS.tail
          refine dq hF rfl (wn rfl) rfl rfl (fun w => R.move (hF.ev rfl)) fun a hF => ?_
          refine dq hF rfl (wn rfl) rfl rfl (fun w => R.extract (hF.ev rfl) rfl) fun a hF => ?_
          refine dq hF rfl (wn rfl) rfl rfl (fun w => R.extract (hF.ev rfl) rfl) fun a hF => ?_
          refine dw rfl (wn rfl) (O.storeW sz29 (hF.ev rfl) (hF.ev rfl) (rfl) rfl (by simp [Value.oneCell']) hS (.t (.t (.t (.t (.t .h))))) (rfl) fun w hS => ?_)
          refine dq hF rfl (wn rfl) rfl rfl (fun w => R.assign (hF.ev rfl)) fun a hF => ?_
          refine d0 ?_
          refine then_n (hK18 _ _ ?_)
          refine wp_seq_k fun K19 hK19 => ?_
          refine wp_drawS hS [(0, 0), (1, 0), (2, 0), (3, 1), (4, 0), (5, 0), (6, 0), (7, 1), (8, 2), (9, 0), (10, 0), (11, 0), (12, 3), (13, 0)] mix (by kernel_rfl) (hP.then.block.then.then.block.then) fun w hS => ?_
          have hD := hS
          refine dq hF rfl (wn rfl) rfl rfl (fun w => R.move (hF.ev rfl)) fun a hF => ?_
          refine dq hF rfl (wn rfl) rfl rfl (fun w => R.move (hF.ev rfl)) fun a hF => ?_
          refine dq hF rfl (wn rfl) rfl rfl (fun w => R.indexS Try.underlying26 sz29 (hF.ev rfl) (hF.ev rfl) (by omega) (by omega)) fun a hF => ?_
          refine dr hF rfl (wn rfl) rfl rfl hD (fun w hD => R.loadA (cs := wc (sel m n k)) agg29 (hF.ev rfl) hD (.t (.t (.t .h))) sz29 rfl (pair_at hk2 (by omega))) fun a hF => ?_
          refine dq hF rfl (wn rfl) rfl rfl (fun w => R.move (hF.ev rfl)) fun a hF => ?_
          refine dq hF rfl (wn rfl) rfl rfl (fun w => R.move (hF.ev rfl)) fun a hF => ?_
          refine dq hF rfl (wn rfl) rfl rfl (fun w => R.indexS Try.underlying26 sz29 (hF.ev rfl) (hF.ev rfl) (by omega) (by omega)) fun a hF => ?_
          refine dr hF rfl (wn rfl) rfl rfl hD (fun w hD => R.loadA (cs := wc (sel n m k)) agg29 (hF.ev rfl) hD (.t (.t (.t (.t .h)))) sz29 rfl (pair_at hk2 (by omega))) fun a hF => ?_
          refine dl rfl (wn rfl) (O.call rfl rfl hF ent44 (hF.evs rfl) hS (rmul_calls _ _ _ hx hy) fun v s109 a w hR hF hS => ⟨fun hD => hS.tail, ?_⟩)
          obtain ⟨rfl, rfl⟩ := hR
          have hD := hS.tail
          refine dq hF rfl (wn rfl) rfl rfl (fun w => R.move (hF.ev rfl)) fun a hF => ?_
          refine dq hF rfl (wn rfl) rfl rfl (fun w => R.extract (hF.ev rfl) rfl) fun a hF => ?_
          refine dq hF rfl (wn rfl) rfl rfl (fun w => R.extract (hF.ev rfl) rfl) fun a hF => ?_
          refine dw rfl (wn rfl) (O.storeW sz29 (hF.ev rfl) (hF.ev rfl) (rfl) rfl (by simp [Value.oneCell']) hS (.t (.t (.t (.t (.t (.t (.t .h))))))) (rfl) fun w hS => ?_)
          refine dq hF rfl (wn rfl) rfl rfl (fun w => R.assign (hF.ev rfl)) fun a hF => ?_
          refine d0 ?_
          refine then_n (hK19 _ _ ?_)
          refine wp_seq_k fun K20 hK20 => ?_
          refine wp_region_lit ?_
          refine sv' hF (wn rfl) rfl rfl (R.loadW agg29 (hF.ev rfl) hS (.t (.t (.t (.t (.t (.t .h)))))) sz29 (rfl)) fun a hF => ?_
          refine sv' hF (wn rfl) rfl rfl (R.loadW agg29 (hF.ev rfl) hS (.t (.t (.t (.t (.t (.t (.t .h))))))) sz29 (rfl)) fun a hF => ?_
          refine sv' hF (wn rfl) rfl rfl (R.as (u := .bool false) (R.neqW (x := if (sel m n k) * (sel n m k) < 115792089237316195423570985008687907853269984665640564039457584007913129639936 then (sel m n k) * (sel n m k) else 0) (y := if (sel m n k) * (sel n m k) < 115792089237316195423570985008687907853269984665640564039457584007913129639936 then (sel m n k) * (sel n m k) else 0) (hF.ev rfl) (hF.ev rfl) (fit_lt (fun h => h)) (fit_lt (fun h => h))) (congrArg Value.bool (decide_eq_false (fun h => h rfl)))) fun a hF => ?_
          refine sv' hF (wn rfl) rfl rfl (R.move (hF.ev rfl)) fun a hF => ?_
          refine sv' hF (wy hF rfl rfl rfl) rfl rfl (R.move (hF.ev rfl)) fun a hF => ?_
          refine sv' hF (wy hF rfl rfl rfl) rfl rfl (R.move (hF.ev rfl)) fun a hF => ?_
          refine sv' hF (wy hF rfl rfl rfl) rfl rfl (R.as (u := .bool false) (R.neq (p := if (sel m n k) * (sel n m k) < 115792089237316195423570985008687907853269984665640564039457584007913129639936 then 0 else 22) (q := if (sel m n k) * (sel n m k) < 115792089237316195423570985008687907853269984665640564039457584007913129639936 then 0 else 22) (hF.ev rfl) (hF.ev rfl)) (congrArg Value.bool (decide_eq_false (fun h => h rfl)))) fun a hF => ?_
          refine sv' hF (wn rfl) rfl rfl (R.pickF (hF.ev rfl) (hF.ev rfl)) fun a hF => ?_
          refine s0 ?_
          refine then_n (hK20 _ _ ?_)
          refine cF hF rfl ?_
          refine wp_skip ?_
          refine blk_n ?_
          refine then_n (hK9 _ _ ?_)
          refine wp_region_lit ?_
          refine sv' hF (wn rfl) rfl rfl (R.move (hF.ev rfl)) fun a hF => ?_
          refine sv' hF (wn rfl) rfl rfl (R.addI (hF.ev rfl) (hF.ev rfl) (by omega)) fun a hF => ?_
          refine sv' hF (wn rfl) rfl rfl (R.assign (hF.ev rfl)) fun a hF => ?_
          refine s0 ?_
          refine then_n (hKL1 (2 - (k + 1)) _ _ ?_ ?_)
          · omega
          · exact ⟨k + 1, rfl, hF.sub ⟨rfl, rfl, rfl, rfl, trivial⟩, hS.sel [4, 5] rfl rfl, by omega⟩
        refine wp_draw2S hS [(0, 0), (1, 0), (2, 0), (3, 1), (4, 0), (5, 0), (6, 0), (7, 1)] [[(8, 2), (9, 0), (10, 0), (11, 0), (12, 2), (13, 3), (14, 0)], [(12, 2), (8, 2), (9, 0), (10, 0), (11, 0), (13, 3), (14, 0)]] mix (by kernel_rfl) (hP.then.block.then.then.block.then) fun w hS => ?_
        have hD := hS
        refine dq hF rfl (wn rfl) rfl rfl (fun w => R.move (hF.ev rfl)) fun a hF => ?_
        refine dq hF rfl (wn rfl) rfl rfl (fun w => R.move (hF.ev rfl)) fun a hF => ?_
        refine dq hF rfl (wn rfl) rfl rfl (fun w => R.indexS Try.underlying26 sz29 (hF.ev rfl) (hF.ev rfl) (by omega) (by omega)) fun a hF => ?_
        refine dr hF rfl (wn rfl) rfl rfl hD (fun w hD => R.loadA (cs := wc (sel m n k)) agg29 (hF.ev rfl) hD .h sz29 rfl (pair_at hk2 (by omega))) fun a hF => ?_
        refine dq hF rfl (wn rfl) rfl rfl (fun w => R.move (hF.ev rfl)) fun a hF => ?_
        refine dq hF rfl (wn rfl) rfl rfl (fun w => R.move (hF.ev rfl)) fun a hF => ?_
        refine dq hF rfl (wn rfl) rfl rfl (fun w => R.indexS Try.underlying26 sz29 (hF.ev rfl) (hF.ev rfl) (by omega) (by omega)) fun a hF => ?_
        refine dr hF rfl (wn rfl) rfl rfl hD (fun w hD => R.loadA (cs := wc (sel n m k)) agg29 (hF.ev rfl) hD (.t .h) sz29 rfl (pair_at hk2 (by omega))) fun a hF => ?_
        refine d0 ?_
        refine alts2 ?_ ?_
        ·
          refine dl rfl (wn rfl) (O.call rfl rfl hF ent22 (hF.evs rfl) hS (radd_calls _ _ _ hx hy) fun v s45 a w hR hF hS => ⟨fun hD => hS.tail, ?_⟩)
          obtain ⟨rfl, rfl⟩ := hR
          have hD := hS.tail
          refine dq hF rfl (wn rfl) rfl rfl (fun w => R.move (hF.ev rfl)) fun a hF => ?_
          refine dq hF rfl (wn rfl) rfl rfl (fun w => R.extract (hF.ev rfl) rfl) fun a hF => ?_
          refine dq hF rfl (wn rfl) rfl rfl (fun w => R.extract (hF.ev rfl) rfl) fun a hF => ?_
          refine dl rfl (wn rfl) (O.alloc rfl rfl hF ze29 rfl hS fun b11 a w hF hS => ⟨fun hD => hS.tail.tail, ?_⟩)
          have hD := hS.tail.tail
          refine dw rfl (wn rfl) (O.storeW sz29 (hF.ev rfl) (hF.ev rfl) (rfl) rfl (by simp [Value.oneCell']) hS .h (rfl) fun w hS => ?_)
          refine dq hF rfl (wn rfl) rfl rfl (fun w => R.assign (hF.ev rfl)) fun a hF => ?_
          refine d0 ?_
          exact then_n (hK11' _ _ ⟨b9, b11, hF.sub ⟨rfl, rfl, rfl, rfl, rfl, rfl, rfl, rfl, trivial⟩, hS.sel [2, 3, 4, 0] rfl rfl⟩)
        ·
          refine dl rfl (wn rfl) (O.alloc rfl rfl hF ze29 rfl hS fun b11 a w hF hS => ⟨fun hD => hS.tail, ?_⟩)
          have hD := hS.tail
          refine dl rfl (wn rfl) (O.call rfl rfl hF ent22 (hF.evs rfl) hS (radd_calls _ _ _ hx hy) fun v s45 a w hR hF hS => ⟨fun hD => hS.tail.tail, ?_⟩)
          obtain ⟨rfl, rfl⟩ := hR
          have hD := hS.tail.tail
          refine dq hF rfl (wn rfl) rfl rfl (fun w => R.move (hF.ev rfl)) fun a hF => ?_
          refine dq hF rfl (wn rfl) rfl rfl (fun w => R.extract (hF.ev rfl) rfl) fun a hF => ?_
          refine dq hF rfl (wn rfl) rfl rfl (fun w => R.extract (hF.ev rfl) rfl) fun a hF => ?_
          refine dw rfl (wn rfl) (O.storeW sz29 (hF.ev rfl) (hF.ev rfl) (rfl) rfl (by simp [Value.oneCell']) hS (.t .h) (rfl) fun w hS => ?_)
          refine dq hF rfl (wn rfl) rfl rfl (fun w => R.assign (hF.ev rfl)) fun a hF => ?_
          refine d0 ?_
          exact then_n (hK11' _ _ ⟨b9, b11, hF.sub ⟨rfl, rfl, rfl, rfl, rfl, rfl, rfl, rfl, trivial⟩, hS.sel [2, 3, 4, 1] rfl rfl⟩)
      refine wp_draw2S hS [(0, 0), (1, 0), (2, 0), (3, 1), (4, 0), (5, 0), (6, 0), (7, 1)] [[(8, 2), (9, 0), (10, 0), (11, 0), (12, 2), (13, 3), (14, 0)], [(12, 2), (8, 2), (9, 0), (10, 0), (11, 0), (13, 3), (14, 0)]] mix (by kernel_rfl) (hP.then.block.then.then.block.then) fun w hS => ?_
      have hD := hS
      refine dq hF rfl (wn rfl) rfl rfl (fun w => R.move (hF.ev rfl)) fun a hF => ?_
      refine dq hF rfl (wn rfl) rfl rfl (fun w => R.move (hF.ev rfl)) fun a hF => ?_
      refine dq hF rfl (wn rfl) rfl rfl (fun w => R.indexS Try.underlying26 sz29 (hF.ev rfl) (hF.ev rfl) (by omega) (by omega)) fun a hF => ?_
      refine dr hF rfl (wn rfl) rfl rfl hD (fun w hD => R.loadA (cs := wc (sel m n k)) agg29 (hF.ev rfl) hD .h sz29 rfl (pair_at hk2 (by omega))) fun a hF => ?_
      refine dq hF rfl (wn rfl) rfl rfl (fun w => R.move (hF.ev rfl)) fun a hF => ?_
      refine dq hF rfl (wn rfl) rfl rfl (fun w => R.move (hF.ev rfl)) fun a hF => ?_
      refine dq hF rfl (wn rfl) rfl rfl (fun w => R.indexS Try.underlying26 sz29 (hF.ev rfl) (hF.ev rfl) (by omega) (by omega)) fun a hF => ?_
      refine dr hF rfl (wn rfl) rfl rfl hD (fun w hD => R.loadA (cs := wc (sel n m k)) agg29 (hF.ev rfl) hD (.t .h) sz29 rfl (pair_at hk2 (by omega))) fun a hF => ?_
      refine d0 ?_
      refine alts2 ?_ ?_
      ·
        refine dl rfl (wn rfl) (O.call rfl rfl hF ent41 (hF.evs rfl) hS (add_calls _ _ _ hx hy) fun v s33 a w hR hF hS => ⟨fun hD => hS.tail, ?_⟩)
        obtain ⟨rfl, rfl⟩ := hR
        have hD := hS.tail
        refine dq hF rfl (wn rfl) rfl rfl (fun w => R.move (hF.ev rfl)) fun a hF => ?_
        refine dq hF rfl (wn rfl) rfl rfl (fun w => R.extract (hF.ev rfl) rfl) fun a hF => ?_
        refine dq hF rfl (wn rfl) rfl rfl (fun w => R.extract (hF.ev rfl) rfl) fun a hF => ?_
        refine dl rfl (wn rfl) (O.alloc rfl rfl hF ze29 rfl hS fun b9 a w hF hS => ⟨fun hD => hS.tail.tail, ?_⟩)
        have hD := hS.tail.tail
        refine dw rfl (wn rfl) (O.storeW sz29 (hF.ev rfl) (hF.ev rfl) (rfl) rfl (by simp [Value.oneCell']) hS .h (rfl) fun w hS => ?_)
        refine dq hF rfl (wn rfl) rfl rfl (fun w => R.assign (hF.ev rfl)) fun a hF => ?_
        refine d0 ?_
        exact then_n (hK10' _ _ ⟨b9, hF.sub ⟨rfl, rfl, rfl, rfl, rfl, rfl, trivial⟩, hS.sel [2, 3, 0] rfl rfl⟩)
      ·
        refine dl rfl (wn rfl) (O.alloc rfl rfl hF ze29 rfl hS fun b9 a w hF hS => ⟨fun hD => hS.tail, ?_⟩)
        have hD := hS.tail
        refine dl rfl (wn rfl) (O.call rfl rfl hF ent41 (hF.evs rfl) hS (add_calls _ _ _ hx hy) fun v s33 a w hR hF hS => ⟨fun hD => hS.tail.tail, ?_⟩)
        obtain ⟨rfl, rfl⟩ := hR
        have hD := hS.tail.tail
        refine dq hF rfl (wn rfl) rfl rfl (fun w => R.move (hF.ev rfl)) fun a hF => ?_
        refine dq hF rfl (wn rfl) rfl rfl (fun w => R.extract (hF.ev rfl) rfl) fun a hF => ?_
        refine dq hF rfl (wn rfl) rfl rfl (fun w => R.extract (hF.ev rfl) rfl) fun a hF => ?_
        refine dw rfl (wn rfl) (O.storeW sz29 (hF.ev rfl) (hF.ev rfl) (rfl) rfl (by simp [Value.oneCell']) hS (.t .h) (rfl) fun w hS => ?_)
        refine dq hF rfl (wn rfl) rfl rfl (fun w => R.assign (hF.ev rfl)) fun a hF => ?_
        refine d0 ?_
        exact then_n (hK10' _ _ ⟨b9, hF.sub ⟨rfl, rfl, rfl, rfl, rfl, rfl, trivial⟩, hS.sel [2, 3, 1] rfl rfl⟩)
    ·
      refine wp_exit (then_x (then_x (blk_hit ?_)))
      refine then_n (hK5 _ _ ?_)
      refine wp_seq_k fun K21 hK21 => ?_
      refine wp_region_lit ?_
      refine sv' hF (wn rfl) rfl rfl (R.move (hF.ev rfl)) fun a hF => ?_
      refine sv' hF (wn rfl) rfl rfl (R.assign (hF.ev rfl)) fun a hF => ?_
      refine s0 ?_
      refine then_n (hK21 _ _ ?_)
      refine wp_ret (hR _ _ _ _ _ hF (run_results Try.results8 (.t hF rfl (.nil))) ?_)
      exact ⟨_, [], rfl, ⟨rfl, rfl⟩, hS.none⟩

end Go.Proofs.Ythgecfjpacebeaa
