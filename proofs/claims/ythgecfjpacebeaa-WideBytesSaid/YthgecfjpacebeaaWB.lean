/- The calls of WideParts, WideDivides, WideRing, WideOrders. -/
import Derived.Test.YthgecfjpacebeaaWA
namespace Go.Proofs.Ythgecfjpacebeaa
open Go Go.Fw Go.RowKit
attribute [local irreducible] Go.Oper.wp Go.Code.wp Go.wpList Go.Fw.WL Go.Calls
theorem add_fit {x y : Nat} (w : World) (hx : x < 115792089237316195423570985008687907853269984665640564039457584007913129639936) (hy : y < 115792089237316195423570985008687907853269984665640564039457584007913129639936) (h : x + y < 115792089237316195423570985008687907853269984665640564039457584007913129639936) : Ret Try.prog 41 [wv x, wv y] w [] (fun v s => v = .tuple #[wv (x + y), .int .i64 0] ∧ s = []) := by
  have g := add_calls x y w hx hy
  rw [addW, if_pos h, if_pos h] at g; exact g
theorem mul_fit {x y : Nat} (w : World) (hx : x < 115792089237316195423570985008687907853269984665640564039457584007913129639936) (hy : y < 115792089237316195423570985008687907853269984665640564039457584007913129639936) (h : x * y < 115792089237316195423570985008687907853269984665640564039457584007913129639936) : Ret Try.prog 43 [wv x, wv y] w [] (fun v s => v = .tuple #[wv (x * y), .int .i64 0] ∧ s = []) := by
  have g := mul_calls x y w hx hy
  rw [mulW, if_pos h, if_pos h] at g; exact g
theorem mulDiv_fit {x y z : Nat} (w : World) (hx : x < 115792089237316195423570985008687907853269984665640564039457584007913129639936) (hy : y < 115792089237316195423570985008687907853269984665640564039457584007913129639936) (hz : z < 115792089237316195423570985008687907853269984665640564039457584007913129639936) (h0 : ¬ z = 0) (h : x * y / z < 115792089237316195423570985008687907853269984665640564039457584007913129639936) : Ret Try.prog 52 [wv x, wv y, wv z] w [] (fun v s => v = .tuple #[wv (x * y / z), .int .i64 0] ∧ s = []) := by
  have g := mulDiv_calls x y z w hx hy hz
  rw [mulDivW, if_neg h0, if_neg h0, if_pos h, if_pos h] at g; exact g
theorem cmp_b (x y : Nat) : -1 ≤ cmpN x y ∧ cmpN x y ≤ 1 := by unfold cmpN; split <;> (try split) <;> omega
theorem cmp_back (x y : Nat) : cmpN y x = 0 - cmpN x y := by unfold cmpN; by_cases h1 : x < y <;> by_cases h2 : y < x <;> simp [h1, h2] <;> omega
theorem cmp_self (x : Nat) : cmpN x x = 0 := by simp [cmpN]
theorem cmp_is (x y : Nat) (h : x < y) : cmpN x y = -1 := by simp [cmpN, h]
theorem code_pos {p : Prop} [Decidable p] {e : Int} (he : e ≠ 0) : ((if p then (0 : Int) else e) = 0) ↔ p := by by_cases h : p <;> simp [h, he]
theorem code_neg {p : Prop} [Decidable p] {e : Int} (he : e ≠ 0) : ((if p then (0 : Int) else e) = e) ↔ ¬ p := by by_cases h : p <;> simp [h]; exact fun h => he h.symm

theorem wideParts_calls (m n q : Nat) (w0 : World) (hm : m < 115792089237316195423570985008687907853269984665640564039457584007913129639936) (hn : n < 115792089237316195423570985008687907853269984665640564039457584007913129639936) (hq : q < 115792089237316195423570985008687907853269984665640564039457584007913129639936) : Ret Try.prog 11 [wv m, wv n, wv q] w0 [] (fun v s => v = .bool true ∧ s = []) := by
  refine fn_start Try.func11 rfl Try.ntmps11 rfl [(0, wv m), (1, wv n), (2, wv q)] ⟨rfl, rfl, rfl, trivial⟩ ?_
  intro Q a hP hF hR hN
  have hS := St.start w0
  refine wp_seq_k fun K1 hK1 => ?_
  refine wp_region_lit ?_
  refine so (wn rfl) (O.box rfl rfl hF (hF.ev rfl) rfl hS fun b3 a w hF hS => ?_)
  refine so (wn rfl) (O.box rfl rfl hF (hF.ev rfl) rfl hS fun b4 a w hF hS => ?_)
  refine so (wn rfl) (O.box rfl rfl hF (hF.ev rfl) rfl hS fun b5 a w hF hS => ?_)
  refine sv' hF (wn rfl) rfl rfl (R.assign (hF.ev rfl)) fun a hF => ?_
  refine s0 ?_
  refine then_n (hK1 _ _ ?_)
  refine wp_seq_k fun K2 hK2 => ?_
  refine wp_region_lit ?_
  refine so (wn rfl) (O.call rfl rfl hF ent40 (hF.evs rfl) hS (known_calls _) fun v s18 a w hR hF hS => ?_)
  obtain ⟨rfl, rfl⟩ := hR
  refine sv' hF (wn rfl) rfl rfl (R.assign (hF.ev rfl)) fun a hF => ?_
  refine s0 ?_
  refine then_n (hK2 _ _ ?_)
  refine wp_seq_k fun K3 hK3 => ?_
  refine wp_region_lit ?_
  refine sv' hF (wn rfl) rfl rfl (R.loadW agg29 (hF.ev rfl) hS (.t (.t (.t .h))) sz29 (rfl)) fun a hF => ?_
  refine sv' hF (wn rfl) rfl rfl (R.loadW agg29 (hF.ev rfl) hS (.t (.t .h)) sz29 (rfl)) fun a hF => ?_
  refine so (wn rfl) (O.call rfl rfl hF ent50 (hF.evs rfl) hS (div_calls m n _ hm hn) fun v s22 a w hR hF hS => ?_)
  obtain ⟨rfl, rfl⟩ := hR
  refine sv' hF (wn rfl) rfl rfl (R.move (hF.ev rfl)) fun a hF => ?_
  refine sv' hF (wn rfl) rfl rfl (R.extract (hF.ev rfl) rfl) fun a hF => ?_
  refine sv' hF (wn rfl) rfl rfl (R.extract (hF.ev rfl) rfl) fun a hF => ?_
  refine sv' hF (wn rfl) rfl rfl (R.extract (hF.ev rfl) rfl) fun a hF => ?_
  refine so (wn rfl) (O.alloc rfl rfl hF ze29 rfl hS fun b8 a w hF hS => ?_)
  refine so (wn rfl) (O.alloc rfl rfl hF ze29 rfl hS fun b9 a w hF hS => ?_)
  refine so (wn rfl) (O.storeW sz29 (hF.ev rfl) (hF.ev rfl) (rfl) rfl (by simp [Value.oneCell']) hS (.t .h) (rfl) fun w hS => ?_)
  refine so (wn rfl) (O.storeW sz29 (hF.ev rfl) (hF.ev rfl) (rfl) rfl (by simp [Value.oneCell']) hS .h (rfl) fun w hS => ?_)
  refine sv' hF (wn rfl) rfl rfl (R.assign (hF.ev rfl)) fun a hF => ?_
  refine s0 ?_
  refine then_n (hK3 _ _ ?_)
  refine wp_seq_k fun K4 hK4 => ?_
  refine wp_region_lit ?_
  refine sv' hF (wn rfl) rfl rfl (R.loadW agg29 (hF.ev rfl) hS (.t (.t (.t (.t (.t (.t .h)))))) sz29 (rfl)) fun a hF => ?_
  refine sv' hF (wn rfl) rfl rfl (R.loadW agg29 (hF.ev rfl) hS (.t (.t (.t (.t (.t .h))))) sz29 (rfl)) fun a hF => ?_
  refine so (wn rfl) (O.call rfl rfl hF ent51 (hF.evs rfl) hS (rdiv_calls m n _ hm hn) fun v s29 a w hR hF hS => ?_)
  obtain ⟨rfl, rfl⟩ := hR
  refine sv' hF (wn rfl) rfl rfl (R.move (hF.ev rfl)) fun a hF => ?_
  refine sv' hF (wn rfl) rfl rfl (R.extract (hF.ev rfl) rfl) fun a hF => ?_
  refine sv' hF (wn rfl) rfl rfl (R.extract (hF.ev rfl) rfl) fun a hF => ?_
  refine sv' hF (wn rfl) rfl rfl (R.extract (hF.ev rfl) rfl) fun a hF => ?_
  refine so (wn rfl) (O.alloc rfl rfl hF ze29 rfl hS fun b11 a w hF hS => ?_)
  refine so (wn rfl) (O.alloc rfl rfl hF ze29 rfl hS fun b12 a w hF hS => ?_)
  refine so (wn rfl) (O.storeW sz29 (hF.ev rfl) (hF.ev rfl) (rfl) rfl (by simp [Value.oneCell']) hS (.t .h) (rfl) fun w hS => ?_)
  refine so (wn rfl) (O.storeW sz29 (hF.ev rfl) (hF.ev rfl) (rfl) rfl (by simp [Value.oneCell']) hS .h (rfl) fun w hS => ?_)
  refine sv' hF (wn rfl) rfl rfl (R.assign (hF.ev rfl)) fun a hF => ?_
  refine s0 ?_
  refine then_n (hK4 _ _ ?_)
  refine wp_seq_k fun K5 hK5 => ?_
  refine wp_region_lit ?_
  refine sv' hF (wn rfl) rfl rfl (R.loadW agg29 (hF.ev rfl) hS (.t (.t (.t (.t (.t (.t (.t (.t (.t .h))))))))) sz29 (rfl)) fun a hF => ?_
  refine sv' hF (wn rfl) rfl rfl (R.loadW agg29 (hF.ev rfl) hS (.t (.t (.t (.t (.t (.t (.t (.t .h)))))))) sz29 (rfl)) fun a hF => ?_
  refine sv' hF (wn rfl) rfl rfl (R.loadW agg29 (hF.ev rfl) hS (.t (.t (.t (.t (.t (.t (.t .h))))))) sz29 (rfl)) fun a hF => ?_
  refine so (wn rfl) (O.call rfl rfl hF ent52 (hF.evs rfl) hS (mulDiv_calls m n q _ hm hn hq) fun v s37 a w hR hF hS => ?_)
  obtain ⟨rfl, rfl⟩ := hR
  refine sv' hF (wn rfl) rfl rfl (R.move (hF.ev rfl)) fun a hF => ?_
  refine sv' hF (wn rfl) rfl rfl (R.extract (hF.ev rfl) rfl) fun a hF => ?_
  refine sv' hF (wn rfl) rfl rfl (R.extract (hF.ev rfl) rfl) fun a hF => ?_
  refine so (wn rfl) (O.alloc rfl rfl hF ze29 rfl hS fun b14 a w hF hS => ?_)
  refine so (wn rfl) (O.storeW sz29 (hF.ev rfl) (hF.ev rfl) (rfl) rfl (by simp [Value.oneCell']) hS .h (rfl) fun w hS => ?_)
  refine sv' hF (wn rfl) rfl rfl (R.assign (hF.ev rfl)) fun a hF => ?_
  refine s0 ?_
  refine then_n (hK5 _ _ ?_)
  refine wp_seq_k fun K6 hK6 => ?_
  refine wp_region_lit ?_
  refine sv' hF (wn rfl) rfl rfl (R.loadW agg29 (hF.ev rfl) hS (.t (.t (.t (.t (.t (.t (.t (.t (.t (.t (.t .h))))))))))) sz29 (rfl)) fun a hF => ?_
  refine sv' hF (wn rfl) rfl rfl (R.loadW agg29 (hF.ev rfl) hS (.t (.t (.t (.t (.t (.t (.t (.t (.t (.t .h)))))))))) sz29 (rfl)) fun a hF => ?_
  refine sv' hF (wn rfl) rfl rfl (R.loadW agg29 (hF.ev rfl) hS (.t (.t (.t (.t (.t (.t (.t (.t (.t .h))))))))) sz29 (rfl)) fun a hF => ?_
  refine so (wn rfl) (O.call rfl rfl hF ent53 (hF.evs rfl) hS (rmulDiv_calls m n q _ hm hn hq) fun v s44 a w hR hF hS => ?_)
  obtain ⟨rfl, rfl⟩ := hR
  refine sv' hF (wn rfl) rfl rfl (R.move (hF.ev rfl)) fun a hF => ?_
  refine sv' hF (wn rfl) rfl rfl (R.extract (hF.ev rfl) rfl) fun a hF => ?_
  refine sv' hF (wn rfl) rfl rfl (R.extract (hF.ev rfl) rfl) fun a hF => ?_
  refine so (wn rfl) (O.alloc rfl rfl hF ze29 rfl hS fun b16 a w hF hS => ?_)
  refine so (wn rfl) (O.storeW sz29 (hF.ev rfl) (hF.ev rfl) (rfl) rfl (by simp [Value.oneCell']) hS .h (rfl) fun w hS => ?_)
  refine sv' hF (wn rfl) rfl rfl (R.assign (hF.ev rfl)) fun a hF => ?_
  refine s0 ?_
  refine then_n (hK6 _ _ ?_)
  refine wp_seq_k fun K7 hK7 => ?_
  refine wp_region_lit ?_
  refine sv' hF (wn rfl) rfl rfl (R.move (hF.ev rfl)) fun a hF => ?_
  refine sv' hF (wn rfl) rfl rfl (R.move (hF.ev rfl)) fun a hF => ?_
  refine sv' hF (wy hF rfl rfl rfl) rfl rfl (R.loadW agg29 (hF.ev rfl) hS (.t (.t (.t (.t (.t (.t (.t (.t .h)))))))) sz29 (rfl)) fun a hF => ?_
  refine sv' hF (wy hF rfl rfl rfl) rfl rfl (R.loadW agg29 (hF.ev rfl) hS (.t (.t (.t (.t (.t .h))))) sz29 (rfl)) fun a hF => ?_
  refine sv' hF (wy hF rfl rfl rfl) rfl rfl (R.as (u := .bool true) (R.eqlW (x := if n = 0 then 0 else m / n) (y := if n = 0 then 0 else m / n) (hF.ev rfl) (hF.ev rfl) (by (split; decide; exact Nat.lt_of_le_of_lt (Nat.div_le_self _ _) hm)) (by (split; decide; exact Nat.lt_of_le_of_lt (Nat.div_le_self _ _) hm))) (congrArg Value.bool (decide_eq_true (rfl)))) fun a hF => ?_
  refine sv' hF (wn rfl) rfl rfl (R.pickT (hF.ev rfl) (hF.ev rfl)) fun a hF => ?_
  refine sv' hF (wn rfl) rfl rfl (R.move (hF.ev rfl)) fun a hF => ?_
  refine sv' hF (wy hF rfl rfl rfl) rfl rfl (R.loadW agg29 (hF.ev rfl) hS (.t (.t (.t (.t (.t (.t (.t .h))))))) sz29 (rfl)) fun a hF => ?_
  refine sv' hF (wy hF rfl rfl rfl) rfl rfl (R.loadW agg29 (hF.ev rfl) hS (.t (.t (.t (.t .h)))) sz29 (rfl)) fun a hF => ?_
  refine sv' hF (wy hF rfl rfl rfl) rfl rfl (R.as (u := .bool true) (R.eqlW (x := if n = 0 then 0 else m % n) (y := if n = 0 then 0 else m % n) (hF.ev rfl) (hF.ev rfl) (by (split; decide; exact Nat.lt_of_le_of_lt (Nat.mod_le _ _) hm)) (by (split; decide; exact Nat.lt_of_le_of_lt (Nat.mod_le _ _) hm))) (congrArg Value.bool (decide_eq_true (rfl)))) fun a hF => ?_
  refine sv' hF (wn rfl) rfl rfl (R.pickT (hF.ev rfl) (hF.ev rfl)) fun a hF => ?_
  refine sv' hF (wn rfl) rfl rfl (R.move (hF.ev rfl)) fun a hF => ?_
  refine sv' hF (wy hF rfl rfl rfl) rfl rfl (R.move (hF.ev rfl)) fun a hF => ?_
  refine sv' hF (wy hF rfl rfl rfl) rfl rfl (R.move (hF.ev rfl)) fun a hF => ?_
  refine sv' hF (wy hF rfl rfl rfl) rfl rfl (R.as (u := .bool true) (R.eql (p := if n = 0 then 24 else 0) (q := if n = 0 then 24 else 0) (hF.ev rfl) (hF.ev rfl)) (congrArg Value.bool (decide_eq_true (rfl)))) fun a hF => ?_
  refine sv' hF (wn rfl) rfl rfl (R.pickT (hF.ev rfl) (hF.ev rfl)) fun a hF => ?_
  refine sv' hF (wn rfl) rfl rfl (R.move (hF.ev rfl)) fun a hF => ?_
  refine sv' hF (wy hF rfl rfl rfl) rfl rfl (R.loadW agg29 (hF.ev rfl) hS (.t (.t .h)) sz29 (rfl)) fun a hF => ?_
  refine sv' hF (wy hF rfl rfl rfl) rfl rfl (R.loadW agg29 (hF.ev rfl) hS .h sz29 (rfl)) fun a hF => ?_
  refine sv' hF (wy hF rfl rfl rfl) rfl rfl (R.as (u := .bool true) (R.eqlW (x := if q = 0 then 0 else if m * n / q < 115792089237316195423570985008687907853269984665640564039457584007913129639936 then m * n / q else 0) (y := if q = 0 then 0 else if m * n / q < 115792089237316195423570985008687907853269984665640564039457584007913129639936 then m * n / q else 0) (hF.ev rfl) (hF.ev rfl) (by (split; decide; (split; assumption; decide))) (by (split; decide; (split; assumption; decide)))) (congrArg Value.bool (decide_eq_true (rfl)))) fun a hF => ?_
  refine sv' hF (wn rfl) rfl rfl (R.pickT (hF.ev rfl) (hF.ev rfl)) fun a hF => ?_
  refine sv' hF (wn rfl) rfl rfl (R.move (hF.ev rfl)) fun a hF => ?_
  refine sv' hF (wy hF rfl rfl rfl) rfl rfl (R.move (hF.ev rfl)) fun a hF => ?_
  refine sv' hF (wy hF rfl rfl rfl) rfl rfl (R.move (hF.ev rfl)) fun a hF => ?_
  refine sv' hF (wy hF rfl rfl rfl) rfl rfl (R.as (u := .bool true) (R.eql (p := if q = 0 then 24 else if m * n / q < 115792089237316195423570985008687907853269984665640564039457584007913129639936 then 0 else 22) (q := if q = 0 then 24 else if m * n / q < 115792089237316195423570985008687907853269984665640564039457584007913129639936 then 0 else 22) (hF.ev rfl) (hF.ev rfl)) (congrArg Value.bool (decide_eq_true (rfl)))) fun a hF => ?_
  refine sv' hF (wn rfl) rfl rfl (R.pickT (hF.ev rfl) (hF.ev rfl)) fun a hF => ?_
  refine sv' hF (wn rfl) rfl rfl (R.assign (hF.ev rfl)) fun a hF => ?_
  refine s0 ?_
  refine then_n (hK7 _ _ ?_)
  refine wp_ret (hR _ _ _ _ _ hF (run_results Try.results11 (.t hF rfl (.nil))) ?_)
  exact ⟨_, [], rfl, ⟨rfl, rfl⟩, hS.none⟩

theorem wideDivides_calls (m n : Nat) (w0 : World) (hm : m < 115792089237316195423570985008687907853269984665640564039457584007913129639936) (hn : n < 115792089237316195423570985008687907853269984665640564039457584007913129639936) : Ret Try.prog 12 [wv m, wv n] w0 [] (fun v s => v = .bool true ∧ s = []) := by
  refine fn_start Try.func12 rfl Try.ntmps12 rfl [(0, wv m), (1, wv n)] ⟨rfl, rfl, trivial⟩ ?_
  intro Q a hP hF hR hN
  have hS := St.start w0
  refine wp_seq_k fun K1 hK1 => ?_
  refine wp_region_lit ?_
  refine so (wn rfl) (O.box rfl rfl hF (hF.ev rfl) rfl hS fun b2 a w hF hS => ?_)
  refine so (wn rfl) (O.box rfl rfl hF (hF.ev rfl) rfl hS fun b3 a w hF hS => ?_)
  refine sv' hF (wn rfl) rfl rfl (R.assign (hF.ev rfl)) fun a hF => ?_
  refine s0 ?_
  refine then_n (hK1 _ _ ?_)
  refine wp_seq_k fun K2 hK2 => ?_
  refine wp_region_lit ?_
  refine so (wn rfl) (O.call rfl rfl hF ent40 (hF.evs rfl) hS (known_calls _) fun v s16 a w hR hF hS => ?_)
  obtain ⟨rfl, rfl⟩ := hR
  refine sv' hF (wn rfl) rfl rfl (R.assign (hF.ev rfl)) fun a hF => ?_
  refine s0 ?_
  refine then_n (hK2 _ _ ?_)
  refine wp_seq_k fun K3 hK3 => ?_
  refine wp_region_lit ?_
  refine sv' hF (wn rfl) rfl rfl (R.loadW agg29 (hF.ev rfl) hS (.t (.t .h)) sz29 (rfl)) fun a hF => ?_
  refine sv' hF (wn rfl) rfl rfl (R.loadW agg29 (hF.ev rfl) hS (.t .h) sz29 (rfl)) fun a hF => ?_
  refine so (wn rfl) (O.call rfl rfl hF ent50 (hF.evs rfl) hS (div_calls m n _ hm hn) fun v s20 a w hR hF hS => ?_)
  obtain ⟨rfl, rfl⟩ := hR
  refine sv' hF (wn rfl) rfl rfl (R.move (hF.ev rfl)) fun a hF => ?_
  refine sv' hF (wn rfl) rfl rfl (R.extract (hF.ev rfl) rfl) fun a hF => ?_
  refine sv' hF (wn rfl) rfl rfl (R.extract (hF.ev rfl) rfl) fun a hF => ?_
  refine sv' hF (wn rfl) rfl rfl (R.extract (hF.ev rfl) rfl) fun a hF => ?_
  refine so (wn rfl) (O.alloc rfl rfl hF ze29 rfl hS fun b6 a w hF hS => ?_)
  refine so (wn rfl) (O.alloc rfl rfl hF ze29 rfl hS fun b7 a w hF hS => ?_)
  refine so (wn rfl) (O.storeW sz29 (hF.ev rfl) (hF.ev rfl) (rfl) rfl (by simp [Value.oneCell']) hS (.t .h) (rfl) fun w hS => ?_)
  refine so (wn rfl) (O.storeW sz29 (hF.ev rfl) (hF.ev rfl) (rfl) rfl (by simp [Value.oneCell']) hS .h (rfl) fun w hS => ?_)
  refine sv' hF (wn rfl) rfl rfl (R.assign (hF.ev rfl)) fun a hF => ?_
  refine s0 ?_
  refine then_n (hK3 _ _ ?_)
  refine wp_seq_k fun K4 hK4 => ?_
  refine wp_seq_k fun K5 hK5 => ?_
  refine wp_region_lit ?_
  refine sv' hF (wn rfl) rfl rfl (R.loadW agg29 (hF.ev rfl) hS (.t (.t (.t (.t .h)))) sz29 (rfl)) fun a hF => ?_
  refine sv' hF (wn rfl) rfl rfl (R.buildArr (l := [_, _, _, _]) Try.underlying29 ze29 sz27 (hF.evp rfl) rfl) fun a hF => ?_
  refine sv' hF (wn rfl) rfl rfl (R.eqlW (x := n) (y := 0) (hF.ev rfl) (hF.ev rfl) hn (by decide)) fun a hF => ?_
  refine s0 ?_
  refine then_n (hK5 _ _ ?_)
  refine cD hF rfl (fun z => ?_) (fun z => ?_)
  ·
    simp only [if_pos z] at hF hS
    refine wp_seq_k fun K6 hK6 => ?_
    refine wp_region_lit ?_
    refine sv' hF (wn rfl) rfl rfl (R.move (hF.ev rfl)) fun a hF => ?_
    refine sv' hF (wn rfl) rfl rfl (R.move (hF.ev rfl)) fun a hF => ?_
    refine sv' hF (wy hF rfl rfl rfl) rfl rfl (R.move (hF.ev rfl)) fun a hF => ?_
    refine sv' hF (wy hF rfl rfl rfl) rfl rfl (R.as (u := .bool true) (R.eql (p := 24) (q := 24) (hF.ev rfl) (hF.ev rfl)) (congrArg Value.bool (decide_eq_true (rfl)))) fun a hF => ?_
    refine sv' hF (wn rfl) rfl rfl (R.pickT (hF.ev rfl) (hF.ev rfl)) fun a hF => ?_
    refine sv' hF (wn rfl) rfl rfl (R.move (hF.ev rfl)) fun a hF => ?_
    refine sv' hF (wy hF rfl rfl rfl) rfl rfl (R.loadW agg29 (hF.ev rfl) hS (.t .h) sz29 (rfl)) fun a hF => ?_
    refine sv' hF (wy hF rfl rfl rfl) rfl rfl (R.buildArr (l := wc 0) Try.underlying29 ze29 sz27 (hF.evp rfl) rfl) fun a hF => ?_
    refine sv' hF (wy hF rfl rfl rfl) rfl rfl (R.as (u := .bool true) (R.eqlW (x := 0) (y := 0) (hF.ev rfl) (hF.ev rfl) (by decide) (by decide)) (congrArg Value.bool (decide_eq_true (rfl)))) fun a hF => ?_
    refine sv' hF (wn rfl) rfl rfl (R.pickT (hF.ev rfl) (hF.ev rfl)) fun a hF => ?_
    refine sv' hF (wn rfl) rfl rfl (R.move (hF.ev rfl)) fun a hF => ?_
    refine sv' hF (wy hF rfl rfl rfl) rfl rfl (R.loadW agg29 (hF.ev rfl) hS .h sz29 (rfl)) fun a hF => ?_
    refine sv' hF (wy hF rfl rfl rfl) rfl rfl (R.buildArr (l := wc 0) Try.underlying29 ze29 sz27 (hF.evp rfl) rfl) fun a hF => ?_
    refine sv' hF (wy hF rfl rfl rfl) rfl rfl (R.as (u := .bool true) (R.eqlW (x := 0) (y := 0) (hF.ev rfl) (hF.ev rfl) (by decide) (by decide)) (congrArg Value.bool (decide_eq_true (rfl)))) fun a hF => ?_
    refine sv' hF (wn rfl) rfl rfl (R.pickT (hF.ev rfl) (hF.ev rfl)) fun a hF => ?_
    refine sv' hF (wn rfl) rfl rfl (R.assign (hF.ev rfl)) fun a hF => ?_
    refine s0 ?_
    refine then_n (hK6 _ _ ?_)
    refine wp_ret (then_r (hR _ _ _ _ _ hF (run_results Try.results12 (.t hF rfl (.nil))) ?_))
    exact ⟨_, [], rfl, ⟨rfl, rfl⟩, hS.none⟩
  ·
    simp only [if_neg z] at hF hS
    have hsum : m / n * n + m % n < 115792089237316195423570985008687907853269984665640564039457584007913129639936 := by rw [Nat.div_add_mod' m n]; exact hm
    have hback : m / n * n / n = m / n := Nat.mul_div_cancel _ (by omega)
    refine wp_skip ?_
    refine then_n (hK4 _ _ ?_)
    refine wp_seq_k fun K7 hK7 => ?_
    refine wp_region_lit ?_
    refine sv' hF (wn rfl) rfl rfl (R.loadW agg29 (hF.ev rfl) hS (.t .h) sz29 (rfl)) fun a hF => ?_
    refine sv' hF (wn rfl) rfl rfl (R.loadW agg29 (hF.ev rfl) hS (.t (.t (.t (.t .h)))) sz29 (rfl)) fun a hF => ?_
    refine so (wn rfl) (O.call rfl rfl hF ent43 (hF.evs rfl) hS (mul_fit _ (Nat.lt_of_le_of_lt (Nat.div_le_self _ _) hm) hn (Nat.lt_of_le_of_lt (Nat.div_mul_le_self m n) hm)) fun v s45 a w hR hF hS => ?_)
    obtain ⟨rfl, rfl⟩ := hR
    refine sv' hF (wn rfl) rfl rfl (R.move (hF.ev rfl)) fun a hF => ?_
    refine sv' hF (wn rfl) rfl rfl (R.extract (hF.ev rfl) rfl) fun a hF => ?_
    refine sv' hF (wn rfl) rfl rfl (R.extract (hF.ev rfl) rfl) fun a hF => ?_
    refine so (wn rfl) (O.alloc rfl rfl hF ze29 rfl hS fun b9 a w hF hS => ?_)
    refine so (wn rfl) (O.storeW sz29 (hF.ev rfl) (hF.ev rfl) (rfl) rfl (by simp [Value.oneCell']) hS .h (rfl) fun w hS => ?_)
    refine sv' hF (wn rfl) rfl rfl (R.assign (hF.ev rfl)) fun a hF => ?_
    refine s0 ?_
    refine then_n (hK7 _ _ ?_)
    refine wp_seq_k fun K8 hK8 => ?_
    refine wp_region_lit ?_
    refine sv' hF (wn rfl) rfl rfl (R.loadW agg29 (hF.ev rfl) hS .h sz29 (rfl)) fun a hF => ?_
    refine sv' hF (wn rfl) rfl rfl (R.loadW agg29 (hF.ev rfl) hS (.t (.t .h)) sz29 (rfl)) fun a hF => ?_
    refine so (wn rfl) (O.call rfl rfl hF ent41 (hF.evs rfl) hS (add_fit _ (Nat.lt_of_le_of_lt (Nat.div_mul_le_self m n) hm) (Nat.lt_of_le_of_lt (Nat.mod_le _ _) hm) hsum) fun v s51 a w hR hF hS => ?_)
    obtain ⟨rfl, rfl⟩ := hR
    refine sv' hF (wn rfl) rfl rfl (R.move (hF.ev rfl)) fun a hF => ?_
    refine sv' hF (wn rfl) rfl rfl (R.extract (hF.ev rfl) rfl) fun a hF => ?_
    refine sv' hF (wn rfl) rfl rfl (R.extract (hF.ev rfl) rfl) fun a hF => ?_
    refine so (wn rfl) (O.alloc rfl rfl hF ze29 rfl hS fun b11 a w hF hS => ?_)
    refine so (wn rfl) (O.storeW sz29 (hF.ev rfl) (hF.ev rfl) (rfl) rfl (by simp [Value.oneCell']) hS .h (rfl) fun w hS => ?_)
    refine sv' hF (wn rfl) rfl rfl (R.assign (hF.ev rfl)) fun a hF => ?_
    refine s0 ?_
    refine then_n (hK8 _ _ ?_)
    refine wp_seq_k fun K9 hK9 => ?_
    refine wp_region_lit ?_
    refine sv' hF (wn rfl) rfl rfl (R.loadW agg29 (hF.ev rfl) hS (.t (.t (.t (.t .h)))) sz29 (rfl)) fun a hF => ?_
    refine sv' hF (wn rfl) rfl rfl (R.loadW agg29 (hF.ev rfl) hS (.t (.t (.t (.t (.t (.t (.t (.t .h)))))))) sz29 (rfl)) fun a hF => ?_
    refine so (wn rfl) (O.call rfl rfl hF ent49 (hF.evs rfl) hS (cmp_calls (m % n) n _ (Nat.lt_of_le_of_lt (Nat.mod_le _ _) hm) hn) fun v s56 a w hR hF hS => ?_)
    obtain ⟨rfl, rfl⟩ := hR
    refine sv' hF (wn rfl) rfl rfl (R.assign (hF.ev rfl)) fun a hF => ?_
    refine s0 ?_
    refine then_n (hK9 _ _ ?_)
    refine wp_seq_k fun K10 hK10 => ?_
    refine wp_region_lit ?_
    refine sv' hF (wn rfl) rfl rfl (R.loadW agg29 (hF.ev rfl) hS (.t (.t (.t (.t (.t (.t .h)))))) sz29 (rfl)) fun a hF => ?_
    refine sv' hF (wn rfl) rfl rfl (R.loadW agg29 (hF.ev rfl) hS (.t (.t (.t (.t (.t (.t (.t (.t (.t .h))))))))) sz29 (rfl)) fun a hF => ?_
    refine sv' hF (wn rfl) rfl rfl (R.loadW agg29 (hF.ev rfl) hS (.t (.t (.t (.t (.t (.t (.t (.t (.t .h))))))))) sz29 (rfl)) fun a hF => ?_
    refine so (wn rfl) (O.call rfl rfl hF ent52 (hF.evs rfl) hS (mulDiv_fit _ (Nat.lt_of_le_of_lt (Nat.div_le_self _ _) hm) hn hn z (by rw [hback]; exact Nat.lt_of_le_of_lt (Nat.div_le_self _ _) hm)) fun v s61 a w hR hF hS => ?_)
    obtain ⟨rfl, rfl⟩ := hR
    refine sv' hF (wn rfl) rfl rfl (R.move (hF.ev rfl)) fun a hF => ?_
    refine sv' hF (wn rfl) rfl rfl (R.extract (hF.ev rfl) rfl) fun a hF => ?_
    refine sv' hF (wn rfl) rfl rfl (R.extract (hF.ev rfl) rfl) fun a hF => ?_
    refine so (wn rfl) (O.alloc rfl rfl hF ze29 rfl hS fun b14 a w hF hS => ?_)
    refine so (wn rfl) (O.storeW sz29 (hF.ev rfl) (hF.ev rfl) (rfl) rfl (by simp [Value.oneCell']) hS .h (rfl) fun w hS => ?_)
    refine sv' hF (wn rfl) rfl rfl (R.assign (hF.ev rfl)) fun a hF => ?_
    refine s0 ?_
    refine then_n (hK10 _ _ ?_)
    refine wp_seq_k fun K11 hK11 => ?_
    refine wp_region_lit ?_
    refine sv' hF (wn rfl) rfl rfl (R.move (hF.ev rfl)) fun a hF => ?_
    refine sv' hF (wn rfl) rfl rfl (R.move (hF.ev rfl)) fun a hF => ?_
    refine sv' hF (wy hF rfl rfl rfl) rfl rfl (R.move (hF.ev rfl)) fun a hF => ?_
    refine sv' hF (wy hF rfl rfl rfl) rfl rfl (R.as (u := .bool true) (R.eql (p := 0) (q := 0) (hF.ev rfl) (hF.ev rfl)) (congrArg Value.bool (decide_eq_true (rfl)))) fun a hF => ?_
    refine sv' hF (wn rfl) rfl rfl (R.pickT (hF.ev rfl) (hF.ev rfl)) fun a hF => ?_
    refine sv' hF (wn rfl) rfl rfl (R.move (hF.ev rfl)) fun a hF => ?_
    refine sv' hF (wy hF rfl rfl rfl) rfl rfl (R.move (hF.ev rfl)) fun a hF => ?_
    refine sv' hF (wy hF rfl rfl rfl) rfl rfl (R.as (u := .bool true) (R.eql (p := 0) (q := 0) (hF.ev rfl) (hF.ev rfl)) (congrArg Value.bool (decide_eq_true (rfl)))) fun a hF => ?_
    refine sv' hF (wn rfl) rfl rfl (R.pickT (hF.ev rfl) (hF.ev rfl)) fun a hF => ?_
    refine sv' hF (wn rfl) rfl rfl (R.move (hF.ev rfl)) fun a hF => ?_
    refine sv' hF (wy hF rfl rfl rfl) rfl rfl (R.move (hF.ev rfl)) fun a hF => ?_
    refine sv' hF (wy hF rfl rfl rfl) rfl rfl (R.as (u := .bool true) (R.eql (p := 0) (q := 0) (hF.ev rfl) (hF.ev rfl)) (congrArg Value.bool (decide_eq_true (rfl)))) fun a hF => ?_
    refine sv' hF (wn rfl) rfl rfl (R.pickT (hF.ev rfl) (hF.ev rfl)) fun a hF => ?_
    refine sv' hF (wn rfl) rfl rfl (R.move (hF.ev rfl)) fun a hF => ?_
    refine sv' hF (wy hF rfl rfl rfl) rfl rfl (R.loadW agg29 (hF.ev rfl) hS (.t (.t (.t .h))) sz29 (rfl)) fun a hF => ?_
    refine sv' hF (wy hF rfl rfl rfl) rfl rfl (R.loadW agg29 (hF.ev rfl) hS (.t (.t (.t (.t (.t (.t (.t (.t (.t (.t (.t (.t .h)))))))))))) sz29 (rfl)) fun a hF => ?_
    refine sv' hF (wy hF rfl rfl rfl) rfl rfl (R.as (u := .bool true) (R.eqlW (x := m / n * n + m % n) (y := m) (hF.ev rfl) (hF.ev rfl) (hsum) (hm)) (congrArg Value.bool (decide_eq_true (Nat.div_add_mod' m n)))) fun a hF => ?_
    refine sv' hF (wn rfl) rfl rfl (R.pickT (hF.ev rfl) (hF.ev rfl)) fun a hF => ?_
    refine sv' hF (wn rfl) rfl rfl (R.move (hF.ev rfl)) fun a hF => ?_
    refine sv' hF (wy hF rfl rfl rfl) rfl rfl (R.move (hF.ev rfl)) fun a hF => ?_
    refine sv' hF (wy hF rfl rfl rfl) rfl rfl (R.as (u := .bool true) (R.eql (p := cmpN (m % n) n) (q := -1) (hF.ev rfl) (hF.ev rfl)) (congrArg Value.bool (decide_eq_true (cmp_is _ _ (Nat.mod_lt _ (by omega)))))) fun a hF => ?_
    refine sv' hF (wn rfl) rfl rfl (R.pickT (hF.ev rfl) (hF.ev rfl)) fun a hF => ?_
    refine sv' hF (wn rfl) rfl rfl (R.move (hF.ev rfl)) fun a hF => ?_
    refine sv' hF (wy hF rfl rfl rfl) rfl rfl (R.move (hF.ev rfl)) fun a hF => ?_
    refine sv' hF (wy hF rfl rfl rfl) rfl rfl (R.as (u := .bool true) (R.eql (p := 0) (q := 0) (hF.ev rfl) (hF.ev rfl)) (congrArg Value.bool (decide_eq_true (rfl)))) fun a hF => ?_
    refine sv' hF (wn rfl) rfl rfl (R.pickT (hF.ev rfl) (hF.ev rfl)) fun a hF => ?_
    refine sv' hF (wn rfl) rfl rfl (R.move (hF.ev rfl)) fun a hF => ?_
    refine sv' hF (wy hF rfl rfl rfl) rfl rfl (R.loadW agg29 (hF.ev rfl) hS .h sz29 (rfl)) fun a hF => ?_
    refine sv' hF (wy hF rfl rfl rfl) rfl rfl (R.loadW agg29 (hF.ev rfl) hS (.t (.t (.t (.t (.t (.t (.t (.t .h)))))))) sz29 (rfl)) fun a hF => ?_
    refine sv' hF (wy hF rfl rfl rfl) rfl rfl (R.as (u := .bool true) (R.eqlW (x := m / n * n / n) (y := m / n) (hF.ev rfl) (hF.ev rfl) (by rw [hback]; exact Nat.lt_of_le_of_lt (Nat.div_le_self _ _) hm) (Nat.lt_of_le_of_lt (Nat.div_le_self _ _) hm)) (congrArg Value.bool (decide_eq_true (hback)))) fun a hF => ?_
    refine sv' hF (wn rfl) rfl rfl (R.pickT (hF.ev rfl) (hF.ev rfl)) fun a hF => ?_
    refine sv' hF (wn rfl) rfl rfl (R.assign (hF.ev rfl)) fun a hF => ?_
    refine s0 ?_
    refine then_n (hK11 _ _ ?_)
    refine wp_ret (hR _ _ _ _ _ hF (run_results Try.results12 (.t hF rfl (.nil))) ?_)
    exact ⟨_, [], rfl, ⟨rfl, rfl⟩, hS.none⟩

theorem wideRing_calls (m n q : Nat) (w0 : World) (hm : m < 115792089237316195423570985008687907853269984665640564039457584007913129639936) (hn : n < 115792089237316195423570985008687907853269984665640564039457584007913129639936) (hq : q < 115792089237316195423570985008687907853269984665640564039457584007913129639936) : Ret Try.prog 10 [wv m, wv n, wv q] w0 [] (fun v s => v = .bool true ∧ s = []) := by
  refine fn_start Try.func10 rfl Try.ntmps10 rfl [(0, wv m), (1, wv n), (2, wv q)] ⟨rfl, rfl, rfl, trivial⟩ ?_
  intro Q a hP hF hR hN
  have hS := St.start w0
  refine wp_seq_k fun K1 hK1 => ?_
  refine wp_region_lit ?_
  refine so (wn rfl) (O.box rfl rfl hF (hF.ev rfl) rfl hS fun b3 a w hF hS => ?_)
  refine so (wn rfl) (O.box rfl rfl hF (hF.ev rfl) rfl hS fun b4 a w hF hS => ?_)
  refine so (wn rfl) (O.box rfl rfl hF (hF.ev rfl) rfl hS fun b5 a w hF hS => ?_)
  refine sv' hF (wn rfl) rfl rfl (R.assign (hF.ev rfl)) fun a hF => ?_
  refine s0 ?_
  refine then_n (hK1 _ _ ?_)
  refine wp_seq_k fun K2 hK2 => ?_
  refine wp_region_lit ?_
  refine so (wn rfl) (O.call rfl rfl hF ent40 (hF.evs rfl) hS (known_calls _) fun v s25 a w hR hF hS => ?_)
  obtain ⟨rfl, rfl⟩ := hR
  refine sv' hF (wn rfl) rfl rfl (R.assign (hF.ev rfl)) fun a hF => ?_
  refine s0 ?_
  refine then_n (hK2 _ _ ?_)
  refine wp_seq_k fun K3 hK3 => ?_
  refine wp_region_lit ?_
  refine sv' hF (wn rfl) rfl rfl (R.loadW agg29 (hF.ev rfl) hS (.t (.t .h)) sz29 (rfl)) fun a hF => ?_
  refine sv' hF (wn rfl) rfl rfl (R.loadW agg29 (hF.ev rfl) hS (.t .h) sz29 (rfl)) fun a hF => ?_
  refine so (wn rfl) (O.call rfl rfl hF ent41 (hF.evs rfl) hS (add_calls n q _ hn hq) fun v s29 a w hR hF hS => ?_)
  obtain ⟨rfl, rfl⟩ := hR
  refine sv' hF (wn rfl) rfl rfl (R.move (hF.ev rfl)) fun a hF => ?_
  refine sv' hF (wn rfl) rfl rfl (R.extract (hF.ev rfl) rfl) fun a hF => ?_
  refine sv' hF (wn rfl) rfl rfl (R.extract (hF.ev rfl) rfl) fun a hF => ?_
  refine so (wn rfl) (O.alloc rfl rfl hF ze29 rfl hS fun b8 a w hF hS => ?_)
  refine so (wn rfl) (O.storeW sz29 (hF.ev rfl) (hF.ev rfl) (rfl) rfl (by simp [Value.oneCell']) hS .h (rfl) fun w hS => ?_)
  refine sv' hF (wn rfl) rfl rfl (R.assign (hF.ev rfl)) fun a hF => ?_
  refine s0 ?_
  refine then_n (hK3 _ _ ?_)
  refine wp_seq_k fun K4 hK4 => ?_
  refine wp_region_lit ?_
  refine sv' hF (wn rfl) rfl rfl (R.loadW agg29 (hF.ev rfl) hS (.t (.t (.t (.t (.t .h))))) sz29 (rfl)) fun a hF => ?_
  refine sv' hF (wn rfl) rfl rfl (R.loadW agg29 (hF.ev rfl) hS .h sz29 (rfl)) fun a hF => ?_
  refine so (wn rfl) (O.call rfl rfl hF ent43 (hF.evs rfl) hS (mul_calls m (if n + q < 115792089237316195423570985008687907853269984665640564039457584007913129639936 then n + q else 0) _ hm (fit_lt fun h => h)) fun v s35 a w hR hF hS => ?_)
  obtain ⟨rfl, rfl⟩ := hR
  refine sv' hF (wn rfl) rfl rfl (R.move (hF.ev rfl)) fun a hF => ?_
  refine sv' hF (wn rfl) rfl rfl (R.extract (hF.ev rfl) rfl) fun a hF => ?_
  refine sv' hF (wn rfl) rfl rfl (R.extract (hF.ev rfl) rfl) fun a hF => ?_
  refine so (wn rfl) (O.alloc rfl rfl hF ze29 rfl hS fun b10 a w hF hS => ?_)
  refine so (wn rfl) (O.storeW sz29 (hF.ev rfl) (hF.ev rfl) (rfl) rfl (by simp [Value.oneCell']) hS .h (rfl) fun w hS => ?_)
  refine sv' hF (wn rfl) rfl rfl (R.assign (hF.ev rfl)) fun a hF => ?_
  refine s0 ?_
  refine then_n (hK4 _ _ ?_)
  refine wp_seq_k fun K5 hK5 => ?_
  have hK5' : ∀ a w, (Fr 133 [(3, .pointer (some ⟨b3, 0, none⟩)), (4, .pointer (some ⟨b4, 0, none⟩)), (5, .pointer (some ⟨b5, 0, none⟩)), (7, .bool true)] a ∧ St w0 [] [[(b3, Cel (wc m) 29)], [(b4, Cel (wc n) 29)], [(b5, Cel (wc q) 29)]] w) → K5 a w := by
    rintro a w ⟨hF, hS⟩
    refine hK5 _ _ ?_
    refine wp_seq_k fun K6 hK6 => ?_
    refine wp_region_lit ?_
    refine sv' hF (wn rfl) rfl rfl (R.loadW agg29 (hF.ev rfl) hS .h sz29 (rfl)) fun a hF => ?_
    refine sv' hF (wn rfl) rfl rfl (R.loadW agg29 (hF.ev rfl) hS (.t .h) sz29 (rfl)) fun a hF => ?_
    refine so (wn rfl) (O.call rfl rfl hF ent49 (hF.evs rfl) hS (cmp_calls m n _ hm hn) fun v s79 a w hR hF hS => ?_)
    obtain ⟨rfl, rfl⟩ := hR
    refine sv' hF (wn rfl) rfl rfl (R.assign (hF.ev rfl)) fun a hF => ?_
    refine s0 ?_
    refine then_n (hK6 _ _ ?_)
    refine wp_seq_k fun K7 hK7 => ?_
    refine wp_region_lit ?_
    refine sv' hF (wn rfl) rfl rfl (R.loadW agg29 (hF.ev rfl) hS (.t .h) sz29 (rfl)) fun a hF => ?_
    refine sv' hF (wn rfl) rfl rfl (R.loadW agg29 (hF.ev rfl) hS (.t (.t .h)) sz29 (rfl)) fun a hF => ?_
    refine so (wn rfl) (O.call rfl rfl hF ent42 (hF.evs rfl) hS (sub_calls m n _ hm hn) fun v s83 a w hR hF hS => ?_)
    obtain ⟨rfl, rfl⟩ := hR
    refine sv' hF (wn rfl) rfl rfl (R.move (hF.ev rfl)) fun a hF => ?_
    refine sv' hF (wn rfl) rfl rfl (R.extract (hF.ev rfl) rfl) fun a hF => ?_
    refine sv' hF (wn rfl) rfl rfl (R.extract (hF.ev rfl) rfl) fun a hF => ?_
    refine so (wn rfl) (O.alloc rfl rfl hF ze29 rfl hS fun b19 a w hF hS => ?_)
    refine so (wn rfl) (O.storeW sz29 (hF.ev rfl) (hF.ev rfl) (rfl) rfl (by simp [Value.oneCell']) hS .h (rfl) fun w hS => ?_)
    refine sv' hF (wn rfl) rfl rfl (R.assign (hF.ev rfl)) fun a hF => ?_
    refine s0 ?_
    refine then_n (hK7 _ _ ?_)
    refine wp_seq_k fun K8 hK8 => ?_
    refine wp_region_lit ?_
    refine sv' hF (wn rfl) rfl rfl (R.loadW agg29 (hF.ev rfl) hS (.t (.t (.t (.t .h)))) sz29 (rfl)) fun a hF => ?_
    refine sv' hF (wn rfl) rfl rfl (R.loadW agg29 (hF.ev rfl) hS (.t (.t (.t .h))) sz29 (rfl)) fun a hF => ?_
    refine so (wn rfl) (O.call rfl rfl hF ent49 (hF.evs rfl) hS (cmp_calls n m _ hn hm) fun v s88 a w hR hF hS => ?_)
    obtain ⟨rfl, rfl⟩ := hR
    refine sv' hF (wn rfl) rfl rfl (R.assign (hF.ev rfl)) fun a hF => ?_
    refine s0 ?_
    refine then_n (hK8 _ _ ?_)
    refine wp_seq_k fun K9 hK9 => ?_
    refine wp_region_lit ?_
    refine sv' hF (wn rfl) rfl rfl (R.loadW agg29 (hF.ev rfl) hS (.t (.t (.t (.t .h)))) sz29 (rfl)) fun a hF => ?_
    refine sv' hF (wn rfl) rfl rfl (R.buildArr (l := wc 1) Try.underlying29 ze29 sz27 (hF.evp rfl) rfl) fun a hF => ?_
    refine so (wn rfl) (O.call rfl rfl hF ent43 (hF.evs rfl) hS (mul_fit (x := m) (y := 1) _ hm (by decide) (by omega)) fun v s92 a w hR hF hS => ?_)
    obtain ⟨rfl, rfl⟩ := hR
    refine sv' hF (wn rfl) rfl rfl (R.move (hF.ev rfl)) fun a hF => ?_
    refine sv' hF (wn rfl) rfl rfl (R.extract (hF.ev rfl) rfl) fun a hF => ?_
    refine sv' hF (wn rfl) rfl rfl (R.extract (hF.ev rfl) rfl) fun a hF => ?_
    refine so (wn rfl) (O.alloc rfl rfl hF ze29 rfl hS fun b22 a w hF hS => ?_)
    refine so (wn rfl) (O.storeW sz29 (hF.ev rfl) (hF.ev rfl) (rfl) rfl (by simp [Value.oneCell']) hS .h (rfl) fun w hS => ?_)
    refine sv' hF (wn rfl) rfl rfl (R.assign (hF.ev rfl)) fun a hF => ?_
    refine s0 ?_
    refine then_n (hK9 _ _ ?_)
    refine wp_seq_k fun K10 hK10 => ?_
    refine wp_region_lit ?_
    refine sv' hF (wn rfl) rfl rfl (R.loadW agg29 (hF.ev rfl) hS (.t (.t (.t (.t (.t (.t .h)))))) sz29 (rfl)) fun a hF => ?_
    refine sv' hF (wn rfl) rfl rfl (R.buildArr (l := wc 0) Try.underlying29 ze29 sz27 (hF.evp rfl) rfl) fun a hF => ?_
    refine so (wn rfl) (O.call rfl rfl hF ent43 (hF.evs rfl) hS (mul_fit (x := m) (y := 0) _ hm (by decide) (by omega)) fun v s98 a w hR hF hS => ?_)
    obtain ⟨rfl, rfl⟩ := hR
    refine sv' hF (wn rfl) rfl rfl (R.move (hF.ev rfl)) fun a hF => ?_
    refine sv' hF (wn rfl) rfl rfl (R.extract (hF.ev rfl) rfl) fun a hF => ?_
    refine sv' hF (wn rfl) rfl rfl (R.extract (hF.ev rfl) rfl) fun a hF => ?_
    refine so (wn rfl) (O.alloc rfl rfl hF ze29 rfl hS fun b23 a w hF hS => ?_)
    refine so (wn rfl) (O.storeW sz29 (hF.ev rfl) (hF.ev rfl) (rfl) rfl (by simp [Value.oneCell']) hS .h (rfl) fun w hS => ?_)
    refine sv' hF (wn rfl) rfl rfl (R.assign (hF.ev rfl)) fun a hF => ?_
    refine s0 ?_
    refine then_n (hK10 _ _ ?_)
    refine wp_seq_k fun K11 hK11 => ?_
    refine wp_region_lit ?_
    refine sv' hF (wn rfl) rfl rfl (R.move (hF.ev rfl)) fun a hF => ?_
    refine sv' hF (wn rfl) rfl rfl (R.move (hF.ev rfl)) fun a hF => ?_
    refine sv' hF (wy hF rfl rfl rfl) rfl rfl (R.move (hF.ev rfl)) fun a hF => ?_
    refine sv' hF (wy hF rfl rfl rfl) rfl rfl (R.as (u := .bool (decide (m < n))) (R.eql (p := if n ≤ m then 0 else 23) (q := 23) (hF.ev rfl) (hF.ev rfl)) (congrArg Value.bool (decide_eq_decide.2 ((code_neg (by decide)).trans Nat.not_le)))) fun a hF => ?_
    refine sv' hF (wy hF rfl rfl rfl) rfl rfl (R.move (hF.ev rfl)) fun a hF => ?_
    refine sv' hF (wy hF rfl rfl rfl) rfl rfl (R.as (u := .bool (decide (m < n))) (R.lss (p := cmpN m n) (q := 0) (hF.ev rfl) (hF.ev rfl)) (congrArg Value.bool (decide_eq_decide.2 (cmp_neg m n)))) fun a hF => ?_
    refine sv' hF (wy hF rfl rfl rfl) rfl rfl (R.as (u := .bool true) (R.eqlB (hF.ev rfl) (hF.ev rfl) Try.underlying4) (congrArg Value.bool (decide_eq_true rfl))) fun a hF => ?_
    refine sv' hF (wn rfl) rfl rfl (R.pickT (hF.ev rfl) (hF.ev rfl)) fun a hF => ?_
    refine sv' hF (wn rfl) rfl rfl (R.move (hF.ev rfl)) fun a hF => ?_
    refine sv' hF (wy hF rfl rfl rfl) rfl rfl (R.move (hF.ev rfl)) fun a hF => ?_
    refine sv' hF (wy hF rfl rfl rfl) rfl rfl (R.move (hF.ev rfl)) fun a hF => ?_
    refine sv' hF (wy hF rfl rfl rfl) rfl rfl (R.subI (p := 0) (q := cmpN m n) (hF.ev rfl) (hF.ev rfl) (by have := cmp_b m n; omega)) fun a hF => ?_
    refine sv' hF (wy hF rfl rfl rfl) rfl rfl (R.as (u := .bool true) (R.eql (p := cmpN n m) (q := 0 - cmpN m n) (hF.ev rfl) (hF.ev rfl)) (congrArg Value.bool (decide_eq_true (cmp_back m n)))) fun a hF => ?_
    refine sv' hF (wn rfl) rfl rfl (R.pickT (hF.ev rfl) (hF.ev rfl)) fun a hF => ?_
    refine sv' hF (wn rfl) rfl rfl (R.move (hF.ev rfl)) fun a hF => ?_
    refine sv' hF (wy hF rfl rfl rfl) rfl rfl (R.loadW agg29 (hF.ev rfl) hS (.t (.t .h)) sz29 (rfl)) fun a hF => ?_
    refine sv' hF (wy hF rfl rfl rfl) rfl rfl (R.loadW agg29 (hF.ev rfl) hS (.t (.t (.t (.t (.t (.t (.t (.t .h)))))))) sz29 (rfl)) fun a hF => ?_
    refine sv' hF (wy hF rfl rfl rfl) rfl rfl (R.as (u := .bool true) (R.eqlW (x := m * 1) (y := m) (hF.ev rfl) (hF.ev rfl) (by omega) (hm)) (congrArg Value.bool (decide_eq_true (Nat.mul_one m)))) fun a hF => ?_
    refine sv' hF (wn rfl) rfl rfl (R.pickT (hF.ev rfl) (hF.ev rfl)) fun a hF => ?_
    refine sv' hF (wn rfl) rfl rfl (R.move (hF.ev rfl)) fun a hF => ?_
    refine sv' hF (wy hF rfl rfl rfl) rfl rfl (R.move (hF.ev rfl)) fun a hF => ?_
    refine sv' hF (wy hF rfl rfl rfl) rfl rfl (R.as (u := .bool true) (R.eql (p := 0) (q := 0) (hF.ev rfl) (hF.ev rfl)) (congrArg Value.bool (decide_eq_true (rfl)))) fun a hF => ?_
    refine sv' hF (wn rfl) rfl rfl (R.pickT (hF.ev rfl) (hF.ev rfl)) fun a hF => ?_
    refine sv' hF (wn rfl) rfl rfl (R.move (hF.ev rfl)) fun a hF => ?_
    refine sv' hF (wy hF rfl rfl rfl) rfl rfl (R.loadW agg29 (hF.ev rfl) hS .h sz29 (rfl)) fun a hF => ?_
    refine sv' hF (wy hF rfl rfl rfl) rfl rfl (R.buildArr (l := wc 0) Try.underlying29 ze29 sz27 (hF.evp rfl) rfl) fun a hF => ?_
    refine sv' hF (wy hF rfl rfl rfl) rfl rfl (R.as (u := .bool true) (R.eqlW (x := m * 0) (y := 0) (hF.ev rfl) (hF.ev rfl) (by omega) (by decide)) (congrArg Value.bool (decide_eq_true (Nat.mul_zero m)))) fun a hF => ?_
    refine sv' hF (wn rfl) rfl rfl (R.pickT (hF.ev rfl) (hF.ev rfl)) fun a hF => ?_
    refine sv' hF (wn rfl) rfl rfl (R.move (hF.ev rfl)) fun a hF => ?_
    refine sv' hF (wy hF rfl rfl rfl) rfl rfl (R.move (hF.ev rfl)) fun a hF => ?_
    refine sv' hF (wy hF rfl rfl rfl) rfl rfl (R.as (u := .bool true) (R.eql (p := 0) (q := 0) (hF.ev rfl) (hF.ev rfl)) (congrArg Value.bool (decide_eq_true (rfl)))) fun a hF => ?_
    refine sv' hF (wn rfl) rfl rfl (R.pickT (hF.ev rfl) (hF.ev rfl)) fun a hF => ?_
    refine sv' hF (wn rfl) rfl rfl (R.assign (hF.ev rfl)) fun a hF => ?_
    refine s0 ?_
    refine then_n (hK11 _ _ ?_)
    refine wp_ret (hR _ _ _ _ _ hF (run_results Try.results10 (.t hF rfl (.nil))) ?_)
    exact ⟨_, [], rfl, ⟨rfl, rfl⟩, hS.none⟩
  refine wp_seq_k fun K12 hK12 => ?_
  have hK12' : ∀ a w, (∃ (b10 : Nat), Fr 133 [(3, .pointer (some ⟨b3, 0, none⟩)), (4, .pointer (some ⟨b4, 0, none⟩)), (5, .pointer (some ⟨b5, 0, none⟩)), (7, .bool true), (10, .pointer (some ⟨b10, 0, none⟩)), (43, .bool (decide (n + q < 115792089237316195423570985008687907853269984665640564039457584007913129639936 ∧ m * (if n + q < 115792089237316195423570985008687907853269984665640564039457584007913129639936 then n + q else 0) < 115792089237316195423570985008687907853269984665640564039457584007913129639936)))] a ∧ St w0 [] [[(b3, Cel (wc m) 29)], [(b4, Cel (wc n) 29)], [(b5, Cel (wc q) 29)], [(b10, Cel (wc (if m * (if n + q < 115792089237316195423570985008687907853269984665640564039457584007913129639936 then n + q else 0) < 115792089237316195423570985008687907853269984665640564039457584007913129639936 then m * (if n + q < 115792089237316195423570985008687907853269984665640564039457584007913129639936 then n + q else 0) else 0)) 29)]] w) → K12 a w := by
    rintro a w ⟨b10, hF, hS⟩
    refine hK12 _ _ ?_
    refine cD hF rfl (fun z => ?_) (fun z => ?_)
    ·
      obtain ⟨z1, z2⟩ := z
      simp only [if_pos z1] at z2 hS
      simp only [if_pos z2] at hS
      have hma := Nat.mul_add m n q
      have hmn : m * n < 115792089237316195423570985008687907853269984665640564039457584007913129639936 := by omega
      have hmq : m * q < 115792089237316195423570985008687907853269984665640564039457584007913129639936 := by omega
      have hms : m * n + m * q < 115792089237316195423570985008687907853269984665640564039457584007913129639936 := by omega
      refine wp_seq_k fun K13 hK13 => ?_
      refine wp_region_lit ?_
      refine sv' hF (wn rfl) rfl rfl (R.loadW agg29 (hF.ev rfl) hS .h sz29 (rfl)) fun a hF => ?_
      refine sv' hF (wn rfl) rfl rfl (R.loadW agg29 (hF.ev rfl) hS (.t .h) sz29 (rfl)) fun a hF => ?_
      refine so (wn rfl) (O.call rfl rfl hF ent43 (hF.evs rfl) hS (mul_fit _ hm hn hmn) fun v s47 a w hR hF hS => ?_)
      obtain ⟨rfl, rfl⟩ := hR
      refine sv' hF (wn rfl) rfl rfl (R.move (hF.ev rfl)) fun a hF => ?_
      refine sv' hF (wn rfl) rfl rfl (R.extract (hF.ev rfl) rfl) fun a hF => ?_
      refine sv' hF (wn rfl) rfl rfl (R.extract (hF.ev rfl) rfl) fun a hF => ?_
      refine so (wn rfl) (O.alloc rfl rfl hF ze29 rfl hS fun b12 a w hF hS => ?_)
      refine so (wn rfl) (O.storeW sz29 (hF.ev rfl) (hF.ev rfl) (rfl) rfl (by simp [Value.oneCell']) hS .h (rfl) fun w hS => ?_)
      refine sv' hF (wn rfl) rfl rfl (R.assign (hF.ev rfl)) fun a hF => ?_
      refine s0 ?_
      refine then_n (hK13 _ _ ?_)
      refine wp_seq_k fun K14 hK14 => ?_
      refine wp_region_lit ?_
      refine sv' hF (wn rfl) rfl rfl (R.loadW agg29 (hF.ev rfl) hS (.t (.t .h)) sz29 (rfl)) fun a hF => ?_
      refine sv' hF (wn rfl) rfl rfl (R.loadW agg29 (hF.ev rfl) hS (.t (.t (.t (.t .h)))) sz29 (rfl)) fun a hF => ?_
      refine so (wn rfl) (O.call rfl rfl hF ent43 (hF.evs rfl) hS (mul_fit _ hm hq hmq) fun v s53 a w hR hF hS => ?_)
      obtain ⟨rfl, rfl⟩ := hR
      refine sv' hF (wn rfl) rfl rfl (R.move (hF.ev rfl)) fun a hF => ?_
      refine sv' hF (wn rfl) rfl rfl (R.extract (hF.ev rfl) rfl) fun a hF => ?_
      refine sv' hF (wn rfl) rfl rfl (R.extract (hF.ev rfl) rfl) fun a hF => ?_
      refine so (wn rfl) (O.alloc rfl rfl hF ze29 rfl hS fun b14 a w hF hS => ?_)
      refine so (wn rfl) (O.storeW sz29 (hF.ev rfl) (hF.ev rfl) (rfl) rfl (by simp [Value.oneCell']) hS .h (rfl) fun w hS => ?_)
      refine sv' hF (wn rfl) rfl rfl (R.assign (hF.ev rfl)) fun a hF => ?_
      refine s0 ?_
      refine then_n (hK14 _ _ ?_)
      refine wp_seq_k fun K15 hK15 => ?_
      refine wp_region_lit ?_
      refine sv' hF (wn rfl) rfl rfl (R.loadW agg29 (hF.ev rfl) hS (.t (.t .h)) sz29 (rfl)) fun a hF => ?_
      refine sv' hF (wn rfl) rfl rfl (R.loadW agg29 (hF.ev rfl) hS .h sz29 (rfl)) fun a hF => ?_
      refine so (wn rfl) (O.call rfl rfl hF ent41 (hF.evs rfl) hS (add_fit _ hmn hmq hms) fun v s59 a w hR hF hS => ?_)
      obtain ⟨rfl, rfl⟩ := hR
      refine sv' hF (wn rfl) rfl rfl (R.move (hF.ev rfl)) fun a hF => ?_
      refine sv' hF (wn rfl) rfl rfl (R.extract (hF.ev rfl) rfl) fun a hF => ?_
      refine sv' hF (wn rfl) rfl rfl (R.extract (hF.ev rfl) rfl) fun a hF => ?_
      refine so (wn rfl) (O.alloc rfl rfl hF ze29 rfl hS fun b16 a w hF hS => ?_)
      refine so (wn rfl) (O.storeW sz29 (hF.ev rfl) (hF.ev rfl) (rfl) rfl (by simp [Value.oneCell']) hS .h (rfl) fun w hS => ?_)
      refine sv' hF (wn rfl) rfl rfl (R.assign (hF.ev rfl)) fun a hF => ?_
      refine s0 ?_
      refine then_n (hK15 _ _ ?_)
      refine wp_seq_k fun K16 hK16 => ?_
      refine wp_region_lit ?_
      refine sv' hF (wn rfl) rfl rfl (R.move (hF.ev rfl)) fun a hF => ?_
      refine sv' hF (wn rfl) rfl rfl (R.as (u := .bool false) (R.neq (p := 0) (q := 0) (hF.ev rfl) (hF.ev rfl)) (congrArg Value.bool (decide_eq_false (fun h => h rfl)))) fun a hF => ?_
      refine sv' hF (wn rfl) rfl rfl (R.move (hF.ev rfl)) fun a hF => ?_
      refine sv' hF (wy hF rfl rfl rfl) rfl rfl (R.move (hF.ev rfl)) fun a hF => ?_
      refine sv' hF (wy hF rfl rfl rfl) rfl rfl (R.as (u := .bool false) (R.neq (p := 0) (q := 0) (hF.ev rfl) (hF.ev rfl)) (congrArg Value.bool (decide_eq_false (fun h => h rfl)))) fun a hF => ?_
      refine sv' hF (wn rfl) rfl rfl (R.pickF (hF.ev rfl) (hF.ev rfl)) fun a hF => ?_
      refine sv' hF (wn rfl) rfl rfl (R.move (hF.ev rfl)) fun a hF => ?_
      refine sv' hF (wy hF rfl rfl rfl) rfl rfl (R.move (hF.ev rfl)) fun a hF => ?_
      refine sv' hF (wy hF rfl rfl rfl) rfl rfl (R.as (u := .bool false) (R.neq (p := 0) (q := 0) (hF.ev rfl) (hF.ev rfl)) (congrArg Value.bool (decide_eq_false (fun h => h rfl)))) fun a hF => ?_
      refine sv' hF (wn rfl) rfl rfl (R.pickF (hF.ev rfl) (hF.ev rfl)) fun a hF => ?_
      refine sv' hF (wn rfl) rfl rfl (R.move (hF.ev rfl)) fun a hF => ?_
      refine sv' hF (wy hF rfl rfl rfl) rfl rfl (R.loadW agg29 (hF.ev rfl) hS .h sz29 (rfl)) fun a hF => ?_
      refine sv' hF (wy hF rfl rfl rfl) rfl rfl (R.loadW agg29 (hF.ev rfl) hS (.t (.t (.t (.t (.t (.t (.t (.t (.t .h))))))))) sz29 (rfl)) fun a hF => ?_
      refine sv' hF (wy hF rfl rfl rfl) rfl rfl (R.as (u := .bool false) (R.neqW (x := m * n + m * q) (y := m * (n + q)) (hF.ev rfl) (hF.ev rfl) (hms) (z2)) (congrArg Value.bool (decide_eq_false (fun h => h ((Nat.mul_add _ _ _).symm))))) fun a hF => ?_
      refine sv' hF (wn rfl) rfl rfl (R.pickF (hF.ev rfl) (hF.ev rfl)) fun a hF => ?_
      refine s0 ?_
      refine then_n (hK16 _ _ ?_)
      refine cF hF rfl ?_
      refine wp_skip ?_
      exact then_n (hK5' _ _ ⟨hF.sub ⟨rfl, rfl, rfl, rfl, trivial⟩, hS.sel [6, 7, 8] rfl rfl⟩)
    ·
      refine wp_skip ?_
      exact then_n (hK5' _ _ ⟨hF.sub ⟨rfl, rfl, rfl, rfl, trivial⟩, hS.sel [0, 1, 2] rfl rfl⟩)
  refine wp_region_lit ?_
  refine sv' hF (wn rfl) rfl rfl (R.move (hF.ev rfl)) fun a hF => ?_
  refine sv' hF (wn rfl) rfl rfl (R.as (u := .bool (decide (n + q < 115792089237316195423570985008687907853269984665640564039457584007913129639936))) (R.eql (p := if n + q < 115792089237316195423570985008687907853269984665640564039457584007913129639936 then 0 else 22) (q := 0) (hF.ev rfl) (hF.ev rfl)) (congrArg Value.bool (decide_eq_decide.2 (code_pos (by decide))))) fun a hF => ?_
  refine sv' hF (wn rfl) rfl rfl (R.move (hF.ev rfl)) fun a hF => ?_
  refine hF.splitD (t := 40) rfl (fun h40 hF => ?_) (fun h40 hF => ?_)
  ·
    refine sv' hF (wy hF rfl rfl rfl) rfl rfl (R.move (hF.ev rfl)) fun a hF => ?_
    refine sv' hF (wy hF rfl rfl rfl) rfl rfl (R.as (u := .bool (decide (m * (if n + q < 115792089237316195423570985008687907853269984665640564039457584007913129639936 then n + q else 0) < 115792089237316195423570985008687907853269984665640564039457584007913129639936))) (R.eql (p := if m * (if n + q < 115792089237316195423570985008687907853269984665640564039457584007913129639936 then n + q else 0) < 115792089237316195423570985008687907853269984665640564039457584007913129639936 then 0 else 22) (q := 0) (hF.ev rfl) (hF.ev rfl)) (congrArg Value.bool (decide_eq_decide.2 (code_pos (by decide))))) fun a hF => ?_
    refine sv' hF (wn rfl) rfl rfl (R.pickT (hF.ev rfl) (hF.ev rfl)) fun a hF => ?_
    refine s0 ?_
    exact then_n (hK12' _ _ ⟨b10, hF.sub ⟨rfl, rfl, rfl, rfl, rfl, (congrArg (fun z => some (Value.bool z)) (by first | exact (decide_eq_false (fun h => by first | exact h40 h.1 | exact absurd h.1 h40)).symm | exact decide_eq_decide.2 ⟨fun h => ⟨h40, h⟩, fun h => h.2⟩)), trivial⟩, hS.sel [7, 6, 5, 0] rfl rfl⟩)
  ·
    refine sk hF (ws hF rfl rfl rfl rfl) rfl rfl fun a hF => ?_
    refine sk hF (ws hF rfl rfl rfl rfl) rfl rfl fun a hF => ?_
    refine sv' hF (wn rfl) rfl rfl (R.pickF (hF.ev rfl) (hF.ev rfl)) fun a hF => ?_
    refine s0 ?_
    exact then_n (hK12' _ _ ⟨b10, hF.sub ⟨rfl, rfl, rfl, rfl, rfl, (congrArg (fun z => some (Value.bool z)) (by first | exact (decide_eq_false (fun h => by first | exact h40 h.1 | exact absurd h.1 h40)).symm | exact decide_eq_decide.2 ⟨fun h => ⟨h40, h⟩, fun h => h.2⟩)), trivial⟩, hS.sel [7, 6, 5, 0] rfl rfl⟩)

theorem wideOrders_calls (m n q : Nat) (w0 : World) (hm : m < 115792089237316195423570985008687907853269984665640564039457584007913129639936) (hn : n < 115792089237316195423570985008687907853269984665640564039457584007913129639936) (hq : q < 18446744073709551616) : Ret Try.prog 13 [wv m, wv n, .int .u64 (q : Nat)] w0 [] (fun v s => v = .bool true ∧ s = []) := by
  refine fn_start Try.func13 rfl Try.ntmps13 rfl [(0, wv m), (1, wv n), (2, .int .u64 (q : Nat))] ⟨rfl, rfl, rfl, trivial⟩ ?_
  intro Q a hP hF hR hN
  have hS := St.start w0
  refine wp_seq_k fun K1 hK1 => ?_
  refine wp_region_lit ?_
  refine so (wn rfl) (O.box rfl rfl hF (hF.ev rfl) rfl hS fun b3 a w hF hS => ?_)
  refine so (wn rfl) (O.box rfl rfl hF (hF.ev rfl) rfl hS fun b4 a w hF hS => ?_)
  refine sv' hF (wn rfl) rfl rfl (R.assign (hF.ev rfl)) fun a hF => ?_
  refine s0 ?_
  refine then_n (hK1 _ _ ?_)
  refine wp_seq_k fun K2 hK2 => ?_
  refine wp_region_lit ?_
  refine so (wn rfl) (O.call rfl rfl hF ent40 (hF.evs rfl) hS (known_calls _) fun v s18 a w hR hF hS => ?_)
  obtain ⟨rfl, rfl⟩ := hR
  refine sv' hF (wn rfl) rfl rfl (R.assign (hF.ev rfl)) fun a hF => ?_
  refine s0 ?_
  refine then_n (hK2 _ _ ?_)
  refine wp_seq_k fun K3 hK3 => ?_
  refine wp_region_lit ?_
  refine sv' hF (wn rfl) rfl rfl (R.loadW agg29 (hF.ev rfl) hS (.t (.t .h)) sz29 (rfl)) fun a hF => ?_
  refine sv' hF (wn rfl) rfl rfl (R.loadW agg29 (hF.ev rfl) hS (.t .h) sz29 (rfl)) fun a hF => ?_
  refine so (wn rfl) (O.call rfl rfl hF ent49 (hF.evs rfl) hS (cmp_calls m n _ hm hn) fun v s21 a w hR hF hS => ?_)
  obtain ⟨rfl, rfl⟩ := hR
  refine sv' hF (wn rfl) rfl rfl (R.assign (hF.ev rfl)) fun a hF => ?_
  refine s0 ?_
  refine then_n (hK3 _ _ ?_)
  refine wp_seq_k fun K4 hK4 => ?_
  refine wp_region_lit ?_
  refine sv' hF (wn rfl) rfl rfl (R.loadW agg29 (hF.ev rfl) hS (.t (.t (.t .h))) sz29 (rfl)) fun a hF => ?_
  refine sv' hF (wn rfl) rfl rfl (R.loadW agg29 (hF.ev rfl) hS (.t (.t .h)) sz29 (rfl)) fun a hF => ?_
  refine so (wn rfl) (O.call rfl rfl hF ent31 (hF.evs rfl) hS (rcmp_calls m n _ hm hn) fun v s24 a w hR hF hS => ?_)
  obtain ⟨rfl, rfl⟩ := hR
  refine sv' hF (wn rfl) rfl rfl (R.assign (hF.ev rfl)) fun a hF => ?_
  refine s0 ?_
  refine then_n (hK4 _ _ ?_)
  refine wp_seq_k fun K5 hK5 => ?_
  refine wp_region_lit ?_
  refine sv' hF (wn rfl) rfl rfl (R.loadW agg29 (hF.ev rfl) hS (.t (.t (.t (.t .h)))) sz29 (rfl)) fun a hF => ?_
  refine sv' hF (wn rfl) rfl rfl (R.loadW agg29 (hF.ev rfl) hS (.t (.t (.t (.t .h)))) sz29 (rfl)) fun a hF => ?_
  refine so (wn rfl) (O.call rfl rfl hF ent49 (hF.evs rfl) hS (cmp_calls m m _ hm hm) fun v s27 a w hR hF hS => ?_)
  obtain ⟨rfl, rfl⟩ := hR
  refine sv' hF (wn rfl) rfl rfl (R.assign (hF.ev rfl)) fun a hF => ?_
  refine s0 ?_
  refine then_n (hK5 _ _ ?_)
  refine wp_seq_k fun K6 hK6 => ?_
  refine wp_region_lit ?_
  refine sv' hF (wn rfl) rfl rfl (R.loadW agg29 (hF.ev rfl) hS (.t (.t (.t (.t (.t .h))))) sz29 (rfl)) fun a hF => ?_
  refine so (wn rfl) (O.call rfl rfl hF ent54 (hF.evs rfl) hS (isZero_calls m _ hm) fun v s29 a w hR hF hS => ?_)
  obtain ⟨rfl, rfl⟩ := hR
  refine sv' hF (wn rfl) rfl rfl (R.assign (hF.ev rfl)) fun a hF => ?_
  refine s0 ?_
  refine then_n (hK6 _ _ ?_)
  refine wp_seq_k fun K7 hK7 => ?_
  refine wp_region_lit ?_
  refine sv' hF (wn rfl) rfl rfl (R.loadW agg29 (hF.ev rfl) hS (.t (.t (.t (.t (.t (.t .h)))))) sz29 (rfl)) fun a hF => ?_
  refine so (wn rfl) (O.call rfl rfl hF ent55 (hF.evs rfl) hS (risZero_calls m _ hm) fun v s31 a w hR hF hS => ?_)
  obtain ⟨rfl, rfl⟩ := hR
  refine sv' hF (wn rfl) rfl rfl (R.assign (hF.ev rfl)) fun a hF => ?_
  refine s0 ?_
  refine then_n (hK7 _ _ ?_)
  refine wp_seq_k fun K8 hK8 => ?_
  refine wp_region_lit ?_
  refine sv' hF (wn rfl) rfl rfl (R.loadW agg29 (hF.ev rfl) hS (.t (.t (.t (.t (.t (.t (.t .h))))))) sz29 (rfl)) fun a hF => ?_
  refine so (wn rfl) (O.call rfl rfl hF ent56 (hF.evs rfl) hS (bits_calls m _ hm) fun v s33 a w hR hF hS => ?_)
  obtain ⟨rfl, rfl⟩ := hR
  refine sv' hF (wn rfl) rfl rfl (R.assign (hF.ev rfl)) fun a hF => ?_
  refine s0 ?_
  refine then_n (hK8 _ _ ?_)
  refine wp_seq_k fun K9 hK9 => ?_
  refine wp_region_lit ?_
  refine sv' hF (wn rfl) rfl rfl (R.loadW agg29 (hF.ev rfl) hS (.t (.t (.t (.t (.t (.t (.t (.t .h)))))))) sz29 (rfl)) fun a hF => ?_
  refine so (wn rfl) (O.call rfl rfl hF ent57 (hF.evs rfl) hS (rbits_calls m _ hm) fun v s35 a w hR hF hS => ?_)
  obtain ⟨rfl, rfl⟩ := hR
  refine sv' hF (wn rfl) rfl rfl (R.assign (hF.ev rfl)) fun a hF => ?_
  refine s0 ?_
  refine then_n (hK9 _ _ ?_)
  refine wp_seq_k fun K10 hK10 => ?_
  refine wp_region_lit ?_
  refine sv' hF (wn rfl) rfl rfl (R.move (hF.ev rfl)) fun a hF => ?_
  refine so (wn rfl) (O.call rfl rfl hF ent58 (hF.evs rfl) hS (of_calls q _ hq) fun v s37 a w hR hF hS => ?_)
  obtain ⟨rfl, rfl⟩ := hR
  refine so (wn rfl) (O.alloc rfl rfl hF ze29 rfl hS fun b15 a w hF hS => ?_)
  refine so (wn rfl) (O.storeW sz29 (hF.ev rfl) (hF.ev rfl) (rfl) rfl (by simp [Value.oneCell']) hS .h (rfl) fun w hS => ?_)
  refine s0 ?_
  refine then_n (hK10 _ _ ?_)
  refine wp_seq_k fun K11 hK11 => ?_
  refine wp_region_lit ?_
  refine sv' hF (wn rfl) rfl rfl (R.move (hF.ev rfl)) fun a hF => ?_
  refine so (wn rfl) (O.call rfl rfl hF ent59 (hF.evs rfl) hS (rof_calls q _ hq) fun v s39 a w hR hF hS => ?_)
  obtain ⟨rfl, rfl⟩ := hR
  refine so (wn rfl) (O.alloc rfl rfl hF ze29 rfl hS fun b16 a w hF hS => ?_)
  refine so (wn rfl) (O.storeW sz29 (hF.ev rfl) (hF.ev rfl) (rfl) rfl (by simp [Value.oneCell']) hS .h (rfl) fun w hS => ?_)
  refine s0 ?_
  refine then_n (hK11 _ _ ?_)
  refine wp_seq_k fun K12 hK12 => ?_
  refine wp_region_lit ?_
  refine sv' hF (wn rfl) rfl rfl (R.buildArr (l := wc 0) Try.underlying29 ze29 sz27 (hF.evp rfl) rfl) fun a hF => ?_
  refine so (wn rfl) (O.call rfl rfl hF ent54 (hF.evs rfl) hS (isZero_calls 0 _ (by decide)) fun v s41 a w hR hF hS => ?_)
  obtain ⟨rfl, rfl⟩ := hR
  refine sv' hF (wn rfl) rfl rfl (R.assign (hF.ev rfl)) fun a hF => ?_
  refine s0 ?_
  refine then_n (hK12 _ _ ?_)
  refine wp_seq_k fun K13 hK13 => ?_
  refine wp_region_lit ?_
  refine sv' hF (wn rfl) rfl rfl (R.move (hF.ev rfl)) fun a hF => ?_
  refine sv' hF (wn rfl) rfl rfl (R.move (hF.ev rfl)) fun a hF => ?_
  refine sv' hF (wy hF rfl rfl rfl) rfl rfl (R.move (hF.ev rfl)) fun a hF => ?_
  refine sv' hF (wy hF rfl rfl rfl) rfl rfl (R.move (hF.ev rfl)) fun a hF => ?_
  refine sv' hF (wy hF rfl rfl rfl) rfl rfl (R.as (u := .bool true) (R.eql (p := cmpN m n) (q := cmpN m n) (hF.ev rfl) (hF.ev rfl)) (congrArg Value.bool (decide_eq_true (rfl)))) fun a hF => ?_
  refine sv' hF (wn rfl) rfl rfl (R.pickT (hF.ev rfl) (hF.ev rfl)) fun a hF => ?_
  refine sv' hF (wn rfl) rfl rfl (R.move (hF.ev rfl)) fun a hF => ?_
  refine sv' hF (wy hF rfl rfl rfl) rfl rfl (R.move (hF.ev rfl)) fun a hF => ?_
  refine sv' hF (wy hF rfl rfl rfl) rfl rfl (R.as (u := .bool true) (R.eql (p := cmpN m m) (q := 0) (hF.ev rfl) (hF.ev rfl)) (congrArg Value.bool (decide_eq_true (cmp_self m)))) fun a hF => ?_
  refine sv' hF (wn rfl) rfl rfl (R.pickT (hF.ev rfl) (hF.ev rfl)) fun a hF => ?_
  refine sv' hF (wn rfl) rfl rfl (R.move (hF.ev rfl)) fun a hF => ?_
  refine sv' hF (wy hF rfl rfl rfl) rfl rfl (R.move (hF.ev rfl)) fun a hF => ?_
  refine sv' hF (wy hF rfl rfl rfl) rfl rfl (R.move (hF.ev rfl)) fun a hF => ?_
  refine sv' hF (wy hF rfl rfl rfl) rfl rfl (R.as (u := .bool true) (R.eqlB (hF.ev rfl) (hF.ev rfl) Try.underlying4) (congrArg Value.bool (decide_eq_true rfl))) fun a hF => ?_
  refine sv' hF (wn rfl) rfl rfl (R.pickT (hF.ev rfl) (hF.ev rfl)) fun a hF => ?_
  refine sv' hF (wn rfl) rfl rfl (R.move (hF.ev rfl)) fun a hF => ?_
  refine sv' hF (wy hF rfl rfl rfl) rfl rfl (R.move (hF.ev rfl)) fun a hF => ?_
  refine sv' hF (wy hF rfl rfl rfl) rfl rfl (R.move (hF.ev rfl)) fun a hF => ?_
  refine sv' hF (wy hF rfl rfl rfl) rfl rfl (R.as (u := .bool true) (R.eql (p := ((bl m).length : Int)) (q := ((bl m).length : Int)) (hF.ev rfl) (hF.ev rfl)) (congrArg Value.bool (decide_eq_true (rfl)))) fun a hF => ?_
  refine sv' hF (wn rfl) rfl rfl (R.pickT (hF.ev rfl) (hF.ev rfl)) fun a hF => ?_
  refine sv' hF (wn rfl) rfl rfl (R.move (hF.ev rfl)) fun a hF => ?_
  refine sv' hF (wy hF rfl rfl rfl) rfl rfl (R.loadW agg29 (hF.ev rfl) hS (.t (.t (.t .h))) sz29 (rfl)) fun a hF => ?_
  refine sv' hF (wy hF rfl rfl rfl) rfl rfl (R.loadW agg29 (hF.ev rfl) hS (.t .h) sz29 (rfl)) fun a hF => ?_
  refine sv' hF (wy hF rfl rfl rfl) rfl rfl (R.as (u := .bool true) (R.eqlW (x := q) (y := q) (hF.ev rfl) (hF.ev rfl) (Nat.lt_trans hq (by decide)) (Nat.lt_trans hq (by decide))) (congrArg Value.bool (decide_eq_true (rfl)))) fun a hF => ?_
  refine sv' hF (wn rfl) rfl rfl (R.pickT (hF.ev rfl) (hF.ev rfl)) fun a hF => ?_
  refine sv' hF (wn rfl) rfl rfl (R.move (hF.ev rfl)) fun a hF => ?_
  refine sv' hF (wy hF rfl rfl rfl) rfl rfl (R.move (hF.ev rfl)) fun a hF => ?_
  refine sv' hF (wn rfl) rfl rfl (R.pickT (hF.ev rfl) (hF.ev rfl)) fun a hF => ?_
  refine sv' hF (wn rfl) rfl rfl (R.assign (hF.ev rfl)) fun a hF => ?_
  refine s0 ?_
  refine then_n (hK13 _ _ ?_)
  refine wp_ret (hR _ _ _ _ _ hF (run_results Try.results13 (.t hF rfl (.nil))) ?_)
  exact ⟨_, [], rfl, ⟨rfl, rfl⟩, hS.none⟩

end Go.Proofs.Ythgecfjpacebeaa
