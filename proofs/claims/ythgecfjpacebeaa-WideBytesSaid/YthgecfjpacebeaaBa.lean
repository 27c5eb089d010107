/- The calls of bits.Mul64, product, narrow, wide.Mul. -/
import Derived.Test.YthgecfjpacebeaaBb
namespace Go.Proofs.Ythgecfjpacebeaa
open Go Go.Fw Go.RowKit
attribute [local irreducible] Go.Oper.wp Go.Code.wp Go.wpList Go.Fw.WL Go.Calls
theorem mul64_law (x y : Nat) (hx : x < 18446744073709551616) (hy : y < 18446744073709551616) :
    (((x / 2 ^ 32 * (y / 2 ^ 32)) % 18446744073709551616 + ((x / 2 ^ 32 * (y % 4294967296)) % 18446744073709551616 + (x % 4294967296 * (y % 4294967296)) % 18446744073709551616 / 2 ^ 32) % 18446744073709551616 / 2 ^ 32) % 18446744073709551616 +
      ((((x / 2 ^ 32 * (y % 4294967296)) % 18446744073709551616 + (x % 4294967296 * (y % 4294967296)) % 18446744073709551616 / 2 ^ 32) % 18446744073709551616) % 4294967296 + (x % 4294967296 * (y / 2 ^ 32)) % 18446744073709551616) % 18446744073709551616 / 2 ^ 32) % 18446744073709551616 = x * y / 18446744073709551616 := by
  have e : x * y = (x % 4294967296 + 4294967296 * (x / 4294967296)) * (y % 4294967296 + 4294967296 * (y / 4294967296)) := by
    rw [Nat.mod_add_div, Nat.mod_add_div]
  have r : ∀ a b c d : Nat, (a + 4294967296 * b) * (c + 4294967296 * d) = a * c + 4294967296 * (a * d + b * c) + 18446744073709551616 * (b * d) := by grind
  rw [e, r]
  have ha : x % 4294967296 ≤ 4294967295 := by omega
  have hb : x / 4294967296 ≤ 4294967295 := by omega
  have hc : y % 4294967296 ≤ 4294967295 := by omega
  have hd : y / 4294967296 ≤ 4294967295 := by omega
  have e32 : (2 : Nat) ^ 32 = 4294967296 := by decide
  rw [e32]
  generalize x % 4294967296 = a at *
  generalize x / 4294967296 = b at *
  generalize y % 4294967296 = c at *
  generalize y / 4294967296 = d at *
  have h1 : a * c ≤ 4294967295 * 4294967295 := Nat.mul_le_mul ha hc
  have h2 : b * c ≤ 4294967295 * 4294967295 := Nat.mul_le_mul hb hc
  have h3 : a * d ≤ 4294967295 * 4294967295 := Nat.mul_le_mul ha hd
  have h4 : b * d ≤ 4294967295 * 4294967295 := Nat.mul_le_mul hb hd
  generalize a * c = p at *
  generalize b * c = q at *
  generalize a * d = r' at *
  generalize b * d = s at *
  omega
theorem and32 (x : Nat) : x &&& 4294967295 = x % 4294967296 := by
  have := Nat.and_two_pow_sub_one_eq_mod x 32
  simpa using this

theorem mul64_calls (x y : Nat) (w0 : World) (hx : x < 18446744073709551616) (hy : y < 18446744073709551616) : Ret Try.prog 109 [.int .u64 (x : Nat), .int .u64 (y : Nat)] w0 [] (fun v s => v = .tuple #[.int .u64 ((x * y / 18446744073709551616 : Nat) : Int), .int .u64 ((x * y % 18446744073709551616 : Nat) : Int)] ∧ s = []) := by
  refine fn_start Try.func109 rfl Try.ntmps109 rfl [(0, .int .u64 (x : Nat)), (1, .int .u64 (y : Nat))] ⟨rfl, rfl, trivial⟩ ?_
  intro Q a hP hF hR hN
  have hS := St.start w0
  refine wp_seq_k fun K1 hK1 => ?_
  refine wp_region_lit ?_
  refine sv' hF (wn rfl) rfl rfl (R.assign (hF.ev rfl)) fun a hF => ?_
  refine sv' hF (wn rfl) rfl rfl (R.assign (hF.ev rfl)) fun a hF => ?_
  refine s0 ?_
  refine then_n (hK1 _ _ ?_)
  refine wp_seq_k fun K2 hK2 => ?_
  refine wp_region_lit ?_
  refine sv' hF (wn rfl) rfl rfl (R.move (hF.ev rfl)) fun a hF => ?_
  refine sv' hF (wn rfl) rfl rfl (R.as (R.andU (q := 4294967295) (hF.ev rfl) (hF.ev rfl) (by omega) (by decide)) (by rw [and32])) fun a hF => ?_
  refine sv' hF (wn rfl) rfl rfl (R.assign (hF.ev rfl)) fun a hF => ?_
  refine s0 ?_
  refine then_n (hK2 _ _ ?_)
  refine wp_seq_k fun K3 hK3 => ?_
  refine wp_region_lit ?_
  refine sv' hF (wn rfl) rfl rfl (R.move (hF.ev rfl)) fun a hF => ?_
  refine sv' hF (wn rfl) rfl rfl (R.shrU (m := 32) (hF.ev rfl) (hF.ev rfl) (by decide)) fun a hF => ?_
  refine sv' hF (wn rfl) rfl rfl (R.assign (hF.ev rfl)) fun a hF => ?_
  refine s0 ?_
  refine then_n (hK3 _ _ ?_)
  refine wp_seq_k fun K4 hK4 => ?_
  refine wp_region_lit ?_
  refine sv' hF (wn rfl) rfl rfl (R.move (hF.ev rfl)) fun a hF => ?_
  refine sv' hF (wn rfl) rfl rfl (R.as (R.andU (q := 4294967295) (hF.ev rfl) (hF.ev rfl) (by omega) (by decide)) (by rw [and32])) fun a hF => ?_
  refine sv' hF (wn rfl) rfl rfl (R.assign (hF.ev rfl)) fun a hF => ?_
  refine s0 ?_
  refine then_n (hK4 _ _ ?_)
  refine wp_seq_k fun K5 hK5 => ?_
  refine wp_region_lit ?_
  refine sv' hF (wn rfl) rfl rfl (R.move (hF.ev rfl)) fun a hF => ?_
  refine sv' hF (wn rfl) rfl rfl (R.shrU (m := 32) (hF.ev rfl) (hF.ev rfl) (by decide)) fun a hF => ?_
  refine sv' hF (wn rfl) rfl rfl (R.assign (hF.ev rfl)) fun a hF => ?_
  refine s0 ?_
  refine then_n (hK5 _ _ ?_)
  refine wp_seq_k fun K6 hK6 => ?_
  refine wp_region_lit ?_
  refine sv' hF (wn rfl) rfl rfl (R.move (hF.ev rfl)) fun a hF => ?_
  refine sv' hF (wn rfl) rfl rfl (R.move (hF.ev rfl)) fun a hF => ?_
  refine sv' hF (wn rfl) rfl rfl (R.mulU (hF.ev rfl) (hF.ev rfl)) fun a hF => ?_
  refine sv' hF (wn rfl) rfl rfl (R.assign (hF.ev rfl)) fun a hF => ?_
  refine s0 ?_
  refine then_n (hK6 _ _ ?_)
  refine wp_seq_k fun K7 hK7 => ?_
  refine wp_region_lit ?_
  refine sv' hF (wn rfl) rfl rfl (R.move (hF.ev rfl)) fun a hF => ?_
  refine sv' hF (wn rfl) rfl rfl (R.move (hF.ev rfl)) fun a hF => ?_
  refine sv' hF (wn rfl) rfl rfl (R.mulU (hF.ev rfl) (hF.ev rfl)) fun a hF => ?_
  refine sv' hF (wn rfl) rfl rfl (R.move (hF.ev rfl)) fun a hF => ?_
  refine sv' hF (wn rfl) rfl rfl (R.shrU (m := 32) (hF.ev rfl) (hF.ev rfl) (by decide)) fun a hF => ?_
  refine sv' hF (wn rfl) rfl rfl (R.addU (hF.ev rfl) (hF.ev rfl)) fun a hF => ?_
  refine sv' hF (wn rfl) rfl rfl (R.assign (hF.ev rfl)) fun a hF => ?_
  refine s0 ?_
  refine then_n (hK7 _ _ ?_)
  refine wp_seq_k fun K8 hK8 => ?_
  refine wp_region_lit ?_
  refine sv' hF (wn rfl) rfl rfl (R.move (hF.ev rfl)) fun a hF => ?_
  refine sv' hF (wn rfl) rfl rfl (R.as (R.andU (q := 4294967295) (hF.ev rfl) (hF.ev rfl) (Nat.mod_lt _ (by decide)) (by decide)) (by rw [and32])) fun a hF => ?_
  refine sv' hF (wn rfl) rfl rfl (R.assign (hF.ev rfl)) fun a hF => ?_
  refine s0 ?_
  refine then_n (hK8 _ _ ?_)
  refine wp_seq_k fun K9 hK9 => ?_
  refine wp_region_lit ?_
  refine sv' hF (wn rfl) rfl rfl (R.move (hF.ev rfl)) fun a hF => ?_
  refine sv' hF (wn rfl) rfl rfl (R.shrU (m := 32) (hF.ev rfl) (hF.ev rfl) (by decide)) fun a hF => ?_
  refine sv' hF (wn rfl) rfl rfl (R.assign (hF.ev rfl)) fun a hF => ?_
  refine s0 ?_
  refine then_n (hK9 _ _ ?_)
  refine wp_seq_k fun K10 hK10 => ?_
  refine wp_region_lit ?_
  refine sv' hF (wn rfl) rfl rfl (R.move (hF.ev rfl)) fun a hF => ?_
  refine sv' hF (wn rfl) rfl rfl (R.move (hF.ev rfl)) fun a hF => ?_
  refine sv' hF (wn rfl) rfl rfl (R.move (hF.ev rfl)) fun a hF => ?_
  refine sv' hF (wn rfl) rfl rfl (R.mulU (hF.ev rfl) (hF.ev rfl)) fun a hF => ?_
  refine sv' hF (wn rfl) rfl rfl (R.addU (hF.ev rfl) (hF.ev rfl)) fun a hF => ?_
  refine sv' hF (wn rfl) rfl rfl (R.assign (hF.ev rfl)) fun a hF => ?_
  refine s0 ?_
  refine then_n (hK10 _ _ ?_)
  refine wp_seq_k fun K11 hK11 => ?_
  refine wp_region_lit ?_
  refine sv' hF (wn rfl) rfl rfl (R.move (hF.ev rfl)) fun a hF => ?_
  refine sv' hF (wn rfl) rfl rfl (R.move (hF.ev rfl)) fun a hF => ?_
  refine sv' hF (wn rfl) rfl rfl (R.mulU (hF.ev rfl) (hF.ev rfl)) fun a hF => ?_
  refine sv' hF (wn rfl) rfl rfl (R.move (hF.ev rfl)) fun a hF => ?_
  refine sv' hF (wn rfl) rfl rfl (R.addU (hF.ev rfl) (hF.ev rfl)) fun a hF => ?_
  refine sv' hF (wn rfl) rfl rfl (R.move (hF.ev rfl)) fun a hF => ?_
  refine sv' hF (wn rfl) rfl rfl (R.shrU (m := 32) (hF.ev rfl) (hF.ev rfl) (by decide)) fun a hF => ?_
  refine sv' hF (wn rfl) rfl rfl (R.addU (hF.ev rfl) (hF.ev rfl)) fun a hF => ?_
  refine sv' hF (wn rfl) rfl rfl (R.assign (hF.ev rfl)) fun a hF => ?_
  refine s0 ?_
  refine then_n (hK11 _ _ ?_)
  refine wp_seq_k fun K12 hK12 => ?_
  refine wp_region_lit ?_
  refine sv' hF (wn rfl) rfl rfl (R.move (hF.ev rfl)) fun a hF => ?_
  refine sv' hF (wn rfl) rfl rfl (R.move (hF.ev rfl)) fun a hF => ?_
  refine sv' hF (wn rfl) rfl rfl (R.mulU (hF.ev rfl) (hF.ev rfl)) fun a hF => ?_
  refine sv' hF (wn rfl) rfl rfl (R.assign (hF.ev rfl)) fun a hF => ?_
  refine s0 ?_
  refine then_n (hK12 _ _ ?_)
  refine wp_ret (hR _ _ _ _ _ hF (run_results Try.results109 (.t hF rfl (.t hF rfl (.nil)))) ?_)
  refine ⟨_, [], rfl, ⟨?_, rfl⟩, hS.none⟩
  rw [← mul64_law x y hx hy]
  rfl

theorem product_calls (x y : Nat) (w0 : World) (hx : x < 115792089237316195423570985008687907853269984665640564039457584007913129639936) (hy : y < 115792089237316195423570985008687907853269984665640564039457584007913129639936) : Ret Try.prog 98 [wv x, wv y] w0 [] (fun v s => v = .agg (cells8 (dg (x * y))).toArray ∧ s = []) := by
  refine fn_start Try.func98 rfl Try.ntmps98 rfl [(0, wv x), (1, wv y)] ⟨rfl, rfl, trivial⟩ ?_
  intro Q a hP hF hR hN
  have hS := St.start w0
  refine wp_seq_k fun K1 hK1 => ?_
  refine wp_region_lit ?_
  refine so (wn rfl) (O.box rfl rfl hF (hF.ev rfl) rfl hS fun b2 a w hF hS => ?_)
  refine so (wn rfl) (O.box rfl rfl hF (hF.ev rfl) rfl hS fun b3 a w hF hS => ?_)
  refine so (wn rfl) (O.alloc rfl rfl hF ze123 rfl hS fun b4 a w hF hS => ?_)
  rw [show Cel [.int .u64 0, .int .u64 0, .int .u64 0, .int .u64 0, .int .u64 0, .int .u64 0, .int .u64 0, .int .u64 0] 123 = Cel (cells8 (fun _ => 0)) 123 from rfl] at hS
  refine s0 ?_
  refine then_n (hK1 _ _ ?_)
  refine wp_seq_k fun K2 hK2 => ?_
  refine wp_region_lit ?_
  refine so (wn rfl) (O.alloc rfl rfl hF ze123 rfl hS fun b5 a w hF hS => ?_)
  rw [show Cel [.int .u64 0, .int .u64 0, .int .u64 0, .int .u64 0, .int .u64 0, .int .u64 0, .int .u64 0, .int .u64 0] 123 = Cel (cells8 (fun _ => 0)) 123 from rfl] at hS
  refine s0 ?_
  refine then_n (hK2 _ _ ?_)
  refine wp_seq_k fun K3 hK3 => ?_
  refine wp_seq_k fun K4 hK4 => ?_
  refine wp_region_lit ?_
  refine sv' hF (wn rfl) rfl rfl (R.loadW agg29 (hF.ev rfl) hS (.t (.t (.t .h))) sz29 (rfl)) fun a hF => ?_
  refine sv' hF (wn rfl) rfl rfl (R.move (hF.ev rfl)) fun a hF => ?_
  refine s0 ?_
  refine then_n (hK4 _ _ ?_)
  refine wp_block ?_
  refine wp_loop_N (fun g a w => ∃ (i : Nat) (f : Nat → Nat), 4 - i = g ∧ Fr 65 [(3, .pointer (some ⟨b3, 0, none⟩)), (4, .pointer (some ⟨b4, 0, none⟩)), (5, .pointer (some ⟨b5, 0, none⟩)), (14, wv x), (15, .int .i64 (i : Nat))] a ∧ St w0 [] [[(b5, Cel (cells8 f) 123)], [(b4, Cel (cells8 (fun _ => 0)) 123)], [(b3, Cel (wc y) 29)]] w ∧ (i ≤ 4) ∧ (val8 f 8 = x % 18446744073709551616 ^ i * y) ∧ (∀ k, f k < 18446744073709551616) ∧ (∀ k, i + 4 ≤ k → f k = 0)) (4 - 0) ?_ ?_
  · exact ⟨0, fun _ => 0, rfl, hF.sub ⟨rfl, rfl, rfl, rfl, rfl, trivial⟩, hS.sel [0, 1, 2] rfl rfl, by omega, by simp [val8, Nat.mod_one], fun _ => (by decide : (0 : Nat) < 18446744073709551616), fun _ _ => rfl⟩
  · rintro KL1 g a w ⟨i, f, hg1, hF, hS, hi, hv, hf, hz⟩ hKL1
    refine wp_seq_k fun K5 hK5 => ?_
    refine wp_region_lit ?_
    refine sv' hF (wn rfl) rfl rfl (R.lss (hF.ev rfl) (hF.ev rfl)) fun a hF => ?_
    refine s0 ?_
    refine then_n (hK5 _ _ ?_)
    refine wp_seq_k fun K6 hK6 => ?_
    refine cD hF rfl (fun c1 => ?_) (fun c1 => ?_)
    ·
      refine wp_skip ?_
      refine then_n (hK6 _ _ ?_)
      refine wp_seq_k fun K7 hK7 => ?_
      refine wp_block ?_
      refine wp_seq_k fun K8 hK8 => ?_
      refine wp_region_lit ?_
      refine sv' hF (wn rfl) rfl rfl (R.move (hF.ev rfl)) fun a hF => ?_
      refine sv' hF (wn rfl) rfl rfl (R.index1 Try.underlying29 one27 sz27 (hF.ev rfl) (hF.ev rfl) (by omega) (by omega) (wc_at' x i (by omega))) fun a hF => ?_
      refine sv' hF (wn rfl) rfl rfl (R.assign (hF.ev rfl)) fun a hF => ?_
      refine sv' hF (wn rfl) rfl rfl (R.assign (hF.ev rfl)) fun a hF => ?_
      refine s0 ?_
      refine then_n (hK8 _ _ ?_)
      refine wp_seq_k fun K9 hK9 => ?_
      refine wp_region_lit ?_
      refine sv' hF (wn rfl) rfl rfl (R.assign (hF.ev rfl)) fun a hF => ?_
      refine s0 ?_
      refine then_n (hK9 _ _ ?_)
      refine wp_seq_k fun K10 hK10 => ?_
      refine wp_seq_k fun K11 hK11 => ?_
      refine wp_region_lit ?_
      refine sv' hF (wn rfl) rfl rfl (R.loadW agg29 (hF.ev rfl) hS (.t (.t .h)) sz29 (rfl)) fun a hF => ?_
      refine sv' hF (wn rfl) rfl rfl (R.move (hF.ev rfl)) fun a hF => ?_
      refine s0 ?_
      refine then_n (hK11 _ _ ?_)
      refine wp_block ?_
      refine wp_loop_N (fun g a w => ∃ (j : Nat) (c : Nat) (f : Nat → Nat), 4 - j = g ∧ Fr 65 [(3, .pointer (some ⟨b3, 0, none⟩)), (4, .pointer (some ⟨b4, 0, none⟩)), (5, .pointer (some ⟨b5, 0, none⟩)), (14, wv x), (15, .int .i64 (i : Nat)), (6, .int .i64 (i : Nat)), (7, .int .u64 ((dg x i : Nat) : Int)), (8, .int .u64 ((c : Nat) : Int)), (19, wv y), (20, .int .i64 (j : Nat))] a ∧ St w0 [] [[(b5, Cel (cells8 f) 123)], [(b4, Cel (cells8 (fun _ => 0)) 123)], [(b3, Cel (wc y) 29)]] w ∧ (j ≤ 4) ∧ (val8 f 8 + c * 18446744073709551616 ^ (i + j) = x % 18446744073709551616 ^ i * y + dg x i * (y % 18446744073709551616 ^ j) * 18446744073709551616 ^ i) ∧ (c < 18446744073709551616) ∧ (∀ k, f k < 18446744073709551616) ∧ (∀ k, i + 4 ≤ k → f k = 0)) (4 - 0) ?_ ?_
      · exact ⟨0, 0, f, rfl, hF.sub ⟨rfl, rfl, rfl, rfl, rfl, rfl, rfl, rfl, rfl, rfl, trivial⟩, hS.sel [0, 1, 2] rfl rfl, by omega, by rw [hv]; simp [Nat.mod_one], by decide, hf, hz⟩
      · rintro KL2 g a w ⟨j, c, f, hg2, hF, hS, hj, inv, hcl, hf, hz⟩ hKL2
        refine wp_seq_k fun K12 hK12 => ?_
        refine wp_region_lit ?_
        refine sv' hF (wn rfl) rfl rfl (R.lss (hF.ev rfl) (hF.ev rfl)) fun a hF => ?_
        refine s0 ?_
        refine then_n (hK12 _ _ ?_)
        refine wp_seq_k fun K13 hK13 => ?_
        refine cD hF rfl (fun c2 => ?_) (fun c2 => ?_)
        ·
          have hma := muladd (dg x i * dg y j) (f (i + j)) c (dg_mul_le x y i j) (hf _) hcl
          refine wp_skip ?_
          refine then_n (hK13 _ _ ?_)
          refine wp_seq_k fun K14 hK14 => ?_
          refine wp_block ?_
          refine wp_seq_k fun K15 hK15 => ?_
          refine wp_region_lit ?_
          refine sv' hF (wn rfl) rfl rfl (R.move (hF.ev rfl)) fun a hF => ?_
          refine sv' hF (wn rfl) rfl rfl (R.index1 Try.underlying29 one27 sz27 (hF.ev rfl) (hF.ev rfl) (by omega) (by omega) (wc_at' y j (by omega))) fun a hF => ?_
          refine sv' hF (wn rfl) rfl rfl (R.assign (hF.ev rfl)) fun a hF => ?_
          refine sv' hF (wn rfl) rfl rfl (R.assign (hF.ev rfl)) fun a hF => ?_
          refine s0 ?_
          refine then_n (hK15 _ _ ?_)
          refine wp_seq_k fun K16 hK16 => ?_
          refine wp_region_lit ?_
          refine sv' hF (wn rfl) rfl rfl (R.move (hF.ev rfl)) fun a hF => ?_
          refine sv' hF (wn rfl) rfl rfl (R.move (hF.ev rfl)) fun a hF => ?_
          refine so (wn rfl) (O.call rfl rfl hF ent109 (hF.evs rfl) hS (mul64_calls (dg x i) (dg y j) _ (dg_lt _ _) (dg_lt _ _)) fun v s27 a w hR hF hS => ?_)
          obtain ⟨rfl, rfl⟩ := hR
          refine sv' hF (wn rfl) rfl rfl (R.move (hF.ev rfl)) fun a hF => ?_
          refine sv' hF (wn rfl) rfl rfl (R.extract (hF.ev rfl) rfl) fun a hF => ?_
          refine sv' hF (wn rfl) rfl rfl (R.extract (hF.ev rfl) rfl) fun a hF => ?_
          refine sv' hF (wn rfl) rfl rfl (R.assign (hF.ev rfl)) fun a hF => ?_
          refine sv' hF (wn rfl) rfl rfl (R.assign (hF.ev rfl)) fun a hF => ?_
          refine s0 ?_
          refine then_n (hK16 _ _ ?_)
          refine wp_seq_k fun K17 hK17 => ?_
          refine wp_region_lit ?_
          refine sv' hF (wn rfl) rfl rfl (R.assign (hF.ev rfl)) fun a hF => ?_
          refine s0 ?_
          refine then_n (hK17 _ _ ?_)
          refine wp_seq_k fun K18 hK18 => ?_
          refine wp_region_lit ?_
          refine sv' hF (wn rfl) rfl rfl (R.move (hF.ev rfl)) fun a hF => ?_
          refine sv' hF (wn rfl) rfl rfl (R.move (hF.ev rfl)) fun a hF => ?_
          refine sv' hF (wn rfl) rfl rfl (R.move (hF.ev rfl)) fun a hF => ?_
          refine sv' hF (wn rfl) rfl rfl (R.addI (hF.ev rfl) (hF.ev rfl) (by omega)) fun a hF => ?_
          refine sv' hF (wn rfl) rfl rfl (R.indexA Try.underlying123 sz27 (hF.ev rfl) (hF.ev rfl) (by omega) (by omega)) fun a hF => ?_
          refine sv' hF (wn rfl) rfl rfl (R.load one27 (hF.ev rfl) hS (.t .h) (cells8_at (k := i + j) (by simp; omega) (by omega))) fun a hF => ?_
          refine sv' hF (wn rfl) rfl rfl (R.extern (hF.evs rfl) (x95 (dg x i * dg y j % 18446744073709551616) (f (i + j)) 0 (by decide) w)) fun a hF => ?_
          refine sv' hF (wn rfl) rfl rfl (R.move (hF.ev rfl)) fun a hF => ?_
          refine sv' hF (wn rfl) rfl rfl (R.extract (hF.ev rfl) rfl) fun a hF => ?_
          refine sv' hF (wn rfl) rfl rfl (R.extract (hF.ev rfl) rfl) fun a hF => ?_
          refine sv' hF (wn rfl) rfl rfl (R.assign (hF.ev rfl)) fun a hF => ?_
          refine sv' hF (wn rfl) rfl rfl (R.assign (hF.ev rfl)) fun a hF => ?_
          refine s0 ?_
          refine then_n (hK18 _ _ ?_)
          refine wp_seq_k fun K19 hK19 => ?_
          refine wp_region_lit ?_
          refine sv' hF (wn rfl) rfl rfl (R.move (hF.ev rfl)) fun a hF => ?_
          refine sv' hF (wn rfl) rfl rfl (R.move (hF.ev rfl)) fun a hF => ?_
          refine sv' hF (wn rfl) rfl rfl (R.addU (hF.ev rfl) (hF.ev rfl)) fun a hF => ?_
          refine sv' hF (wn rfl) rfl rfl (R.assign (hF.ev rfl)) fun a hF => ?_
          refine s0 ?_
          refine then_n (hK19 _ _ ?_)
          refine wp_seq_k fun K20 hK20 => ?_
          refine wp_region_lit ?_
          refine sv' hF (wn rfl) rfl rfl (R.move (hF.ev rfl)) fun a hF => ?_
          refine sv' hF (wn rfl) rfl rfl (R.move (hF.ev rfl)) fun a hF => ?_
          refine sv' hF (wn rfl) rfl rfl (R.extern (hF.evs rfl) (x95 ((dg x i * dg y j % 18446744073709551616 + f (i + j) + 0) % 18446744073709551616) c 0 (by decide) w)) fun a hF => ?_
          refine sv' hF (wn rfl) rfl rfl (R.move (hF.ev rfl)) fun a hF => ?_
          refine sv' hF (wn rfl) rfl rfl (R.extract (hF.ev rfl) rfl) fun a hF => ?_
          refine sv' hF (wn rfl) rfl rfl (R.extract (hF.ev rfl) rfl) fun a hF => ?_
          refine sv' hF (wn rfl) rfl rfl (R.assign (hF.ev rfl)) fun a hF => ?_
          refine sv' hF (wn rfl) rfl rfl (R.assign (hF.ev rfl)) fun a hF => ?_
          refine s0 ?_
          refine then_n (hK20 _ _ ?_)
          refine wp_seq_k fun K21 hK21 => ?_
          refine wp_region_lit ?_
          refine sv' hF (wn rfl) rfl rfl (R.move (hF.ev rfl)) fun a hF => ?_
          refine sv' hF (wn rfl) rfl rfl (R.move (hF.ev rfl)) fun a hF => ?_
          refine sv' hF (wn rfl) rfl rfl (R.addU (hF.ev rfl) (hF.ev rfl)) fun a hF => ?_
          refine sv' hF (wn rfl) rfl rfl (R.assign (hF.ev rfl)) fun a hF => ?_
          refine s0 ?_
          refine then_n (hK21 _ _ ?_)
          refine wp_seq_k fun K22 hK22 => ?_
          refine wp_region_lit ?_
          refine sv' hF (wn rfl) rfl rfl (R.move (hF.ev rfl)) fun a hF => ?_
          refine sv' hF (wn rfl) rfl rfl (R.move (hF.ev rfl)) fun a hF => ?_
          refine sv' hF (wn rfl) rfl rfl (R.addI (hF.ev rfl) (hF.ev rfl) (by omega)) fun a hF => ?_
          refine sv' hF (wn rfl) rfl rfl (R.move (hF.ev rfl)) fun a hF => ?_
          refine sv' hF (wn rfl) rfl rfl (R.indexA Try.underlying123 sz27 (hF.ev rfl) (hF.ev rfl) (by omega) (by omega)) fun a hF => ?_
          refine so (wn rfl) (O.store sz27 (hF.ev rfl) (hF.ev rfl) rfl rfl hS (.t .h) (cells8_set (k := i + j) (by simp; omega)) (by rw [length_cells8]; simp; omega) fun w hS => ?_)
          refine s0 ?_
          refine then_n (hK22 _ _ ?_)
          refine wp_region_lit ?_
          refine sv' hF (wn rfl) rfl rfl (R.move (hF.ev rfl)) fun a hF => ?_
          refine sv' hF (wn rfl) rfl rfl (R.assign (hF.ev rfl)) fun a hF => ?_
          refine s0 ?_
          refine blk_n ?_
          refine then_n (hK14 _ _ ?_)
          refine wp_region_lit ?_
          refine sv' hF (wn rfl) rfl rfl (R.addI (hF.ev rfl) (hF.ev rfl) (by omega)) fun a hF => ?_
          refine sv' hF (wn rfl) rfl rfl (R.move (hF.ev rfl)) fun a hF => ?_
          refine s0 ?_
          refine then_n (hKL2 (4 - (j + 1)) _ _ ?_ ?_)
          · omega
          · exact ⟨j + 1, _, _, rfl, hF.sub ⟨rfl, rfl, rfl, rfl, rfl, rfl, rfl, rfl, rfl, rfl, trivial⟩, hS.sel [1, 2, 3] rfl rfl, by omega, prod_step (by omega) inv hma.1, hma.2, upd8_lt hf (Nat.mod_lt _ (by decide)), fun k hk => by rw [upd8, if_neg (by omega)]; exact hz k hk⟩
        ·
          obtain rfl : j = 4 := by omega
          refine wp_exit (then_x (then_x (blk_hit ?_)))
          refine then_n (hK10 _ _ ?_)
          refine wp_region_lit ?_
          refine sv' hF (wn rfl) rfl rfl (R.move (hF.ev rfl)) fun a hF => ?_
          refine sv' hF (wn rfl) rfl rfl (R.addI (hF.ev rfl) (hF.ev rfl) (by omega)) fun a hF => ?_
          refine sv' hF (wn rfl) rfl rfl (R.move (hF.ev rfl)) fun a hF => ?_
          refine sv' hF (wn rfl) rfl rfl (R.indexA Try.underlying123 sz27 (hF.ev rfl) (hF.ev rfl) (by omega) (by omega)) fun a hF => ?_
          refine so (wn rfl) (O.store sz27 (hF.ev rfl) (hF.ev rfl) rfl rfl hS .h (cells8_set (k := i + 4) (by simp; omega)) (by rw [length_cells8]; simp; omega) fun w hS => ?_)
          refine s0 ?_
          refine blk_n ?_
          refine then_n (hK7 _ _ ?_)
          refine wp_region_lit ?_
          refine sv' hF (wn rfl) rfl rfl (R.addI (hF.ev rfl) (hF.ev rfl) (by omega)) fun a hF => ?_
          refine sv' hF (wn rfl) rfl rfl (R.move (hF.ev rfl)) fun a hF => ?_
          refine s0 ?_
          refine then_n (hKL1 (4 - (i + 1)) _ _ ?_ ?_)
          · omega
          · exact ⟨i + 1, _, rfl, hF.sub ⟨rfl, rfl, rfl, rfl, rfl, trivial⟩, hS.sel [0, 1, 2] rfl rfl, by omega, prod_row (by omega) (by simpa using hy) (hz (i + 4) (by omega)) inv, upd8_lt hf hcl, fun k hk => by rw [upd8, if_neg (by omega)]; exact hz k (by omega)⟩
    ·
      obtain rfl : i = 4 := by omega
      refine wp_exit (then_x (then_x (blk_hit ?_)))
      refine then_n (hK3 _ _ ?_)
      refine wp_seq_k fun K23 hK23 => ?_
      refine wp_region_lit ?_
      refine sv' hF (wn rfl) rfl rfl (R.loadW agg123 (hF.ev rfl) hS .h sz123 (length_cells8 _)) fun a hF => ?_
      refine so (wn rfl) (O.storeW sz123 (hF.ev rfl) (hF.ev rfl) (length_cells8 _) rfl (one_cells8 _) hS (.t .h) ((length_cells8 _).trans (length_cells8 _).symm) fun w hS => ?_)
      refine s0 ?_
      refine then_n (hK23 _ _ ?_)
      refine wp_ret (hR _ _ _ _ _ hF (run_results Try.results98 (.cw hF rfl agg123 hS (.t .h) sz123 (length_cells8 _) (.nil))) ?_)
      have e : cells8 f = cells8 (dg (x * y)) := by rw [cells8_eq f hf, hv, Nat.mod_eq_of_lt (show x < 18446744073709551616 ^ 4 by simpa using hx)]
      exact ⟨_, [], rfl, ⟨by rw [e]; rfl, rfl⟩, hS.none⟩

section
variable {P : Program} {w : World} {ρ : Operand → Value} {dst : Option Tmp} {ty : TypeId} {pos : String} {af : Array Edge} {g : Option (Nat × Bool)} {x y : Operand} {T E : TypeId} {b n sz c : Nat} {k : IntKind} {p : Int}
theorem R.sliceArr (hT : P.underlying T = some (.array n E)) (hs : szT P E sz) (hx : ρ x = .pointer (some ⟨b, 0, none⟩)) (hy : ρ y = .int k p) (h0 : 0 ≤ p) (h1 : p ≤ n) :
    (execOp ρ ⟨dst, .slice T x none (some y) none, ty, pos, af, g⟩).run P w = .ok (.value (.slice (some ⟨b, 0, none⟩) p.toNat n)) w := by
  have e : (if n = 0 then (⟨b, 0, none⟩ : Addr) else (⟨b, 0, none⟩ : Addr).add (0 * sz)) = ⟨b, 0, none⟩ := by simp [Addr.add]
  simp only [execOp, hx, hy, Option.map_none, Option.map_some, Instr.sliceAt, Instr.sureAddr, run_underlying hT, Instr.sliceBounds, Instr.sliceBound, asIntOf, run_sizeOf' hs, h0, h1, and_self, if_true,
    Sem.run_bind, Sem.run_pure, Result.andThen_ok, e, Nat.sub_zero]
theorem R.arrAt (hT : P.underlying T = some (.array n E)) (hx : ρ x = .slice (some ⟨b, 0, none⟩) c sz) (h : n ≤ c) :
    (execOp ρ ⟨dst, .sliceToArrayPointer T x, ty, pos, af, g⟩).run P w = .ok (.value (.pointer (some ⟨b, 0, none⟩))) w := by
  have h' : ¬ c < n := by omega
  simp only [execOp, hx, Instr.arrayAt, run_underlying hT, h', if_false, Sem.run_bind, Sem.run_pure, Result.andThen_ok]
end
theorem or_0 (a b : Nat) : a ||| b = 0 ↔ a = 0 ∧ b = 0 := Nat.or_eq_zero_iff
theorem or_u64 {a b : Nat} (ha : a < 18446744073709551616) (hb : b < 18446744073709551616) : a ||| b < 18446744073709551616 := Nat.or_lt_two_pow (n := 64) ha hb
theorem narrow_law (z : Nat) (hz : z < 13407807929942597099574024998205846127479365820592393377723561443721764030073546976801874298166903427690031858186486050853753882811946569946433649006084096) : ¬ (((dg z 4 ||| dg z 5 ||| dg z 6 ||| dg z 7 : Nat) : Int) = 0) ↔ ¬ z < 115792089237316195423570985008687907853269984665640564039457584007913129639936 := by
  have h : dg z 4 ||| dg z 5 ||| dg z 6 ||| dg z 7 = 0 ↔ z < 115792089237316195423570985008687907853269984665640564039457584007913129639936 := by
    rw [or_0, or_0, or_0]
    unfold dg
    constructor
    · rintro ⟨⟨⟨h4, h5⟩, h6⟩, h7⟩
      have e4 : (18446744073709551616 : Nat) ^ 4 = 115792089237316195423570985008687907853269984665640564039457584007913129639936 := by decide
      have e5 : (18446744073709551616 : Nat) ^ 5 = 115792089237316195423570985008687907853269984665640564039457584007913129639936 * 18446744073709551616 := by decide
      have e6 : (18446744073709551616 : Nat) ^ 6 = 115792089237316195423570985008687907853269984665640564039457584007913129639936 * 18446744073709551616 * 18446744073709551616 := by decide
      have e7 : (18446744073709551616 : Nat) ^ 7 = 115792089237316195423570985008687907853269984665640564039457584007913129639936 * 18446744073709551616 * 18446744073709551616 * 18446744073709551616 := by decide
      rw [e4] at h4; rw [e5, ← Nat.div_div_eq_div_mul] at h5; rw [e6, ← Nat.div_div_eq_div_mul, ← Nat.div_div_eq_div_mul] at h6; rw [e7, ← Nat.div_div_eq_div_mul, ← Nat.div_div_eq_div_mul, ← Nat.div_div_eq_div_mul] at h7
      have : z / 115792089237316195423570985008687907853269984665640564039457584007913129639936 = 0 := by omega
      omega
    · intro h
      have hp : ∀ k, 4 ≤ k → z / 18446744073709551616 ^ k = 0 := fun k hk => Nat.div_eq_of_lt (Nat.lt_of_lt_of_le h (by
        have : (115792089237316195423570985008687907853269984665640564039457584007913129639936 : Nat) = 18446744073709551616 ^ 4 := by decide
        rw [this]; exact Nat.pow_le_pow_right (by decide) hk))
      rw [hp 4 (by omega), hp 5 (by omega), hp 6 (by omega), hp 7 (by omega)]
      simp
  rw [← h]
  omega
theorem wc_cells8 (z : Nat) (j : Nat) (v : Value) (h : (wc z)[j]? = some v) : (cells8 (dg z))[0 + j]? = some v := by
  have hj : j < 4 := (List.getElem?_eq_some_iff.1 h).1
  rw [Nat.zero_add, cells8_at rfl (by omega), ← h]
  have : j = 0 ∨ j = 1 ∨ j = 2 ∨ j = 3 := by omega
  rcases this with rfl | rfl | rfl | rfl <;> rfl

theorem narrow_calls (z : Nat) (w0 : World) (hz : z < 13407807929942597099574024998205846127479365820592393377723561443721764030073546976801874298166903427690031858186486050853753882811946569946433649006084096) : Ret Try.prog 97 [.agg (cells8 (dg z)).toArray] w0 [] (fun v s => v = .tuple #[wv (if z < 115792089237316195423570985008687907853269984665640564039457584007913129639936 then z else 0), .int .i64 (if z < 115792089237316195423570985008687907853269984665640564039457584007913129639936 then 0 else 22)] ∧ s = []) := by
  refine fn_start Try.func97 rfl Try.ntmps97 rfl [(0, .agg (cells8 (dg z)).toArray)] ⟨rfl, trivial⟩ ?_
  intro Q a hP hF hR hN
  have hS := St.start w0
  refine wp_seq_k fun K1 hK1 => ?_
  refine wp_region_lit ?_
  refine so (wn rfl) (O.box rfl rfl hF (hF.ev rfl) rfl hS fun b1 a w hF hS => ?_)
  refine so (wn rfl) (O.alloc rfl rfl hF ze29 rfl hS fun b2 a w hF hS => ?_)
  refine sv' hF (wn rfl) rfl rfl (R.assign (hF.ev rfl)) fun a hF => ?_
  refine s0 ?_
  refine then_n (hK1 _ _ ?_)
  refine wp_seq_k fun K2 hK2 => ?_
  refine wp_seq_k fun K3 hK3 => ?_
  refine wp_region_lit ?_
  refine sv' hF (wn rfl) rfl rfl (R.indexA Try.underlying123 sz27 (hF.ev rfl) (hF.ev rfl) (by omega) (by omega)) fun a hF => ?_
  refine sv' hF (wn rfl) rfl rfl (R.load one27 (hF.ev rfl) hS (.t .h) (cells8_at (k := 4) (by simp) (by decide))) fun a hF => ?_
  refine sv' hF (wn rfl) rfl rfl (R.indexA Try.underlying123 sz27 (hF.ev rfl) (hF.ev rfl) (by omega) (by omega)) fun a hF => ?_
  refine sv' hF (wn rfl) rfl rfl (R.load one27 (hF.ev rfl) hS (.t .h) (cells8_at (k := 5) (by simp) (by decide))) fun a hF => ?_
  refine sv' hF (wn rfl) rfl rfl (R.orU (hF.ev rfl) (hF.ev rfl) (dg_lt _ _) (dg_lt _ _)) fun a hF => ?_
  refine sv' hF (wn rfl) rfl rfl (R.indexA Try.underlying123 sz27 (hF.ev rfl) (hF.ev rfl) (by omega) (by omega)) fun a hF => ?_
  refine sv' hF (wn rfl) rfl rfl (R.load one27 (hF.ev rfl) hS (.t .h) (cells8_at (k := 6) (by simp) (by decide))) fun a hF => ?_
  refine sv' hF (wn rfl) rfl rfl (R.orU (hF.ev rfl) (hF.ev rfl) (or_u64 (dg_lt _ _) (dg_lt _ _)) (dg_lt _ _)) fun a hF => ?_
  refine sv' hF (wn rfl) rfl rfl (R.indexA Try.underlying123 sz27 (hF.ev rfl) (hF.ev rfl) (by omega) (by omega)) fun a hF => ?_
  refine sv' hF (wn rfl) rfl rfl (R.load one27 (hF.ev rfl) hS (.t .h) (cells8_at (k := 7) (by simp) (by decide))) fun a hF => ?_
  refine sv' hF (wn rfl) rfl rfl (R.orU (hF.ev rfl) (hF.ev rfl) (or_u64 (or_u64 (dg_lt _ _) (dg_lt _ _)) (dg_lt _ _)) (dg_lt _ _)) fun a hF => ?_
  refine sv' hF (wn rfl) rfl rfl (R.neq (hF.ev rfl) (hF.ev rfl)) fun a hF => ?_
  refine s0 ?_
  refine then_n (hK3 _ _ ?_)
  refine cD hF rfl (fun c1 => ?_) (fun c1 => ?_)
  ·
    have c1 := (narrow_law z hz).1 c1
    refine wp_seq_k fun K4 hK4 => ?_
    refine wp_region_lit ?_
    refine sv' hF (wn rfl) rfl rfl (R.buildArr (l := [_, _, _, _]) Try.underlying29 ze29 sz27 (hF.evp rfl) rfl) fun a hF => ?_
    refine so (wn rfl) (O.storeW sz29 (hF.ev rfl) (hF.ev rfl) (rfl) rfl (by simp [Value.oneCell']) hS .h (rfl) fun w hS => ?_)
    refine sv' hF (wn rfl) rfl rfl (R.assign (hF.ev rfl)) fun a hF => ?_
    refine s0 ?_
    refine then_n (hK4 _ _ ?_)
    refine wp_ret (then_r (hR _ _ _ _ _ hF (run_results Try.results97 (.cw hF rfl agg29 hS .h sz29 (rfl) (.t hF rfl (.nil)))) ?_))
    exact ⟨_, [], rfl, ⟨by simp only [if_neg c1]; rfl, rfl⟩, hS.none⟩
  ·
    have c1 := Classical.not_not.1 (fun h => c1 ((narrow_law z hz).2 h))
    refine wp_skip ?_
    refine then_n (hK2 _ _ ?_)
    refine wp_seq_k fun K5 hK5 => ?_
    refine wp_region_lit ?_
    refine sv' hF (wn rfl) rfl rfl (R.sliceArr Try.underlying123 sz27 (hF.ev rfl) (hF.ev rfl) (by decide) (by decide)) fun a hF => ?_
    refine sv' hF (wn rfl) rfl rfl (R.arrAt Try.underlying29 (hF.ev rfl) (by decide)) fun a hF => ?_
    refine sv' hF (wn rfl) rfl rfl (R.loadA (cs := wc z) agg29 (hF.ev rfl) hS (.t .h) sz29 rfl (wc_cells8 z)) fun a hF => ?_
    refine so (wn rfl) (O.storeW sz29 (hF.ev rfl) (hF.ev rfl) (rfl) rfl (by simp [Value.oneCell']) hS .h (rfl) fun w hS => ?_)
    refine sv' hF (wn rfl) rfl rfl (R.assign (hF.ev rfl)) fun a hF => ?_
    refine s0 ?_
    refine then_n (hK5 _ _ ?_)
    refine wp_ret (hR _ _ _ _ _ hF (run_results Try.results97 (.cw hF rfl agg29 hS .h sz29 (rfl) (.t hF rfl (.nil)))) ?_)
    exact ⟨_, [], rfl, ⟨by simp only [if_pos c1]; rfl, rfl⟩, hS.none⟩

def mulW (x y : Nat) : Value := .tuple #[wv (if x * y < 115792089237316195423570985008687907853269984665640564039457584007913129639936 then x * y else 0), .int .i64 (if x * y < 115792089237316195423570985008687907853269984665640564039457584007913129639936 then 0 else 22)]
theorem mul_512 {x y : Nat} (hx : x < 115792089237316195423570985008687907853269984665640564039457584007913129639936) (hy : y < 115792089237316195423570985008687907853269984665640564039457584007913129639936) : x * y < 13407807929942597099574024998205846127479365820592393377723561443721764030073546976801874298166903427690031858186486050853753882811946569946433649006084096 := by
  have h1 : x * y ≤ x * 115792089237316195423570985008687907853269984665640564039457584007913129639936 := Nat.mul_le_mul_left _ (by omega)
  omega

theorem mul_calls (x y : Nat) (w0 : World) (hx : x < 115792089237316195423570985008687907853269984665640564039457584007913129639936) (hy : y < 115792089237316195423570985008687907853269984665640564039457584007913129639936) : Ret Try.prog 43 [wv x, wv y] w0 [] (fun v s => v = mulW x y ∧ s = []) := by
  refine fn_start Try.func43 rfl Try.ntmps43 rfl [(0, wv x), (1, wv y)] ⟨rfl, rfl, trivial⟩ ?_
  intro Q a hP hF hR hN
  have hS := St.start w0
  refine wp_seq_k fun K1 hK1 => ?_
  refine wp_region_lit ?_
  refine so (wn rfl) (O.box rfl rfl hF (hF.ev rfl) rfl hS fun b2 a w hF hS => ?_)
  refine so (wn rfl) (O.box rfl rfl hF (hF.ev rfl) rfl hS fun b3 a w hF hS => ?_)
  refine so (wn rfl) (O.alloc rfl rfl hF ze29 rfl hS fun b4 a w hF hS => ?_)
  refine sv' hF (wn rfl) rfl rfl (R.assign (hF.ev rfl)) fun a hF => ?_
  refine s0 ?_
  refine then_n (hK1 _ _ ?_)
  refine wp_seq_k fun K2 hK2 => ?_
  refine wp_region_lit ?_
  refine sv' hF (wn rfl) rfl rfl (R.loadW agg29 (hF.ev rfl) hS (.t (.t .h)) sz29 (rfl)) fun a hF => ?_
  refine sv' hF (wn rfl) rfl rfl (R.loadW agg29 (hF.ev rfl) hS (.t .h) sz29 (rfl)) fun a hF => ?_
  refine so (wn rfl) (O.call rfl rfl hF ent98 (hF.evs rfl) hS (product_calls x y _ hx hy) fun v s8 a w hR hF hS => ?_)
  obtain ⟨rfl, rfl⟩ := hR
  refine so (wn rfl) (O.call rfl rfl hF ent97 (hF.evs rfl) hS (narrow_calls (x * y) _ (mul_512 hx hy)) fun v s9 a w hR hF hS => ?_)
  obtain ⟨rfl, rfl⟩ := hR
  refine sv' hF (wn rfl) rfl rfl (R.extract (hF.ev rfl) rfl) fun a hF => ?_
  refine sv' hF (wn rfl) rfl rfl (R.extract (hF.ev rfl) rfl) fun a hF => ?_
  refine so (wn rfl) (O.storeW sz29 (hF.ev rfl) (hF.ev rfl) (rfl) rfl (by simp [Value.oneCell']) hS (.t (.t .h)) (rfl) fun w hS => ?_)
  refine sv' hF (wn rfl) rfl rfl (R.assign (hF.ev rfl)) fun a hF => ?_
  refine s0 ?_
  refine then_n (hK2 _ _ ?_)
  refine wp_ret (hR _ _ _ _ _ hF (run_results Try.results43 (.cw hF rfl agg29 hS (.t (.t .h)) sz29 (rfl) (.t hF rfl (.nil)))) ?_)
  exact ⟨_, [], rfl, ⟨rfl, rfl⟩, hS.none⟩

end Go.Proofs.Ythgecfjpacebeaa
