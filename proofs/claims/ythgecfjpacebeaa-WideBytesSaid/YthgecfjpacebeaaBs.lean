/- The calls of bits.Div64. -/
import Derived.Test.YthgecfjpacebeaaBr
namespace Go.Proofs.Ythgecfjpacebeaa
open Go Go.Fw Go.RowKit
attribute [local irreducible] Go.Oper.wp Go.Code.wp Go.wpList Go.Fw.WL Go.Calls
theorem and32n (x : Nat) : x &&& 4294967295 = x % 4294967296 := by
  rw [show (4294967295 : Nat) = 2 ^ 32 - 1 from rfl, Nat.and_two_pow_sub_one_eq_mod]
theorem div64_aux {N v y q r : Nat} (hy : 0 < y) (h1 : N = r * 4294967296 + v + y * (q * 4294967296)) : N / y = q * 4294967296 + (r * 4294967296 + v) / y ∧ N % y = (r * 4294967296 + v) % y := by
  rw [h1, Nat.add_mul_div_left _ _ hy, Nat.add_mul_mod_self_left]
  exact ⟨Nat.add_comm _ _, rfl⟩
theorem div64_law {hi lo y : Nat} (hy : 0 < y) : (hi * 18446744073709551616 + lo) / y = (hi * 4294967296 + lo / 4294967296) / y * 4294967296 + ((hi * 4294967296 + lo / 4294967296) % y * 4294967296 + lo % 4294967296) / y ∧
    (hi * 18446744073709551616 + lo) % y = ((hi * 4294967296 + lo / 4294967296) % y * 4294967296 + lo % 4294967296) % y := by
  refine div64_aux hy ?_
  have h1 := Nat.div_add_mod (hi * 4294967296 + lo / 4294967296) y
  have h2 : y * ((hi * 4294967296 + lo / 4294967296) / y * 4294967296) = y * ((hi * 4294967296 + lo / 4294967296) / y) * 4294967296 := by rw [Nat.mul_assoc]
  omega
theorem q_exit {u v y q r : Nat} (_hy : 9223372036854775808 ≤ y) (hv : v < 4294967296) (hu : u < y) (hq : q * (y / 4294967296) + r = u) (hge : (u * 4294967296 + v) / y ≤ q) (hq1 : q ≤ 4294967297) (hc : 4294967296 ≤ q ∨ 4294967296 * r + v < q * (y % 4294967296))
    (hr : 4294967296 ≤ r + y / 4294967296) : q - 1 = (u * 4294967296 + v) / y := by
  have e : y / 4294967296 * 4294967296 + y % 4294967296 = y := by omega
  rw [← e] at hge ⊢
  obtain ⟨h1, h2⟩ := knuth_more hv (by omega) hq hc
  have h2 : (u * 4294967296 + v) / (y / 4294967296 * 4294967296 + y % 4294967296) ≤ q - 1 ∧ 1 ≤ q := by
    have h5 : (u * 4294967296 + v) / (y / 4294967296 * 4294967296 + y % 4294967296) < q := Nat.lt_of_le_of_ne hge (by
      intro h6
      omega)
    omega
  have h3 : (q - 1) * (y / 4294967296) + (r + y / 4294967296) = u := by
    obtain ⟨m, rfl⟩ : ∃ m, q = m + 1 := ⟨q - 1, by omega⟩
    simp only [Nat.add_sub_cancel]
    rw [Nat.add_mul] at hq
    omega
  refine (knuth_end h3 h2.1 (by omega) ?_).symm
  have h4 : (q - 1) * (y % 4294967296) ≤ 4294967296 * (y % 4294967296) := Nat.mul_le_mul_right _ (by omega)
  omega
theorem q_stop {u v y q r : Nat} (hy : 9223372036854775808 ≤ y) (hq : q * (y / 4294967296) + r = u) (hge : (u * 4294967296 + v) / y ≤ q) (hc : ¬ (4294967296 ≤ q ∨ 4294967296 * r + v < q * (y % 4294967296))) : q = (u * 4294967296 + v) / y := by
  have e : y / 4294967296 * 4294967296 + y % 4294967296 = y := by omega
  rw [← e] at hge ⊢
  exact (knuth_end hq hge (by omega) (by omega)).symm
theorem q_next {u v y q r : Nat} (hv : v < 4294967296) (hu : u < y) (hq : q * (y / 4294967296) + r = u) (hge : (u * 4294967296 + v) / y ≤ q) (hc : 4294967296 ≤ q ∨ 4294967296 * r + v < q * (y % 4294967296)) : (u * 4294967296 + v) / y ≤ q - 1 ∧ (q - 1) * (y / 4294967296) + (r + y / 4294967296) = u ∧ 1 ≤ q := by
  have e : y / 4294967296 * 4294967296 + y % 4294967296 = y := by omega
  rw [← e] at hge ⊢
  obtain ⟨h1, h2⟩ := knuth_more hv (by omega) hq hc
  have e2 := e
  refine ⟨?_, ?_, h2⟩
  · simpa using h1
  · have e3 : (y / 4294967296 * 4294967296 + y % 4294967296) / 4294967296 = y / 4294967296 := by omega
    rw [e3]
    obtain ⟨m, rfl⟩ : ∃ m, q = m + 1 := ⟨q - 1, by omega⟩
    simp only [Nat.add_sub_cancel]
    rw [Nat.add_mul] at hq
    omega
theorem q_start {u v y : Nat} (hy : 9223372036854775808 ≤ y) (hv : v < 4294967296) (hu : u < y) : u / (y / 4294967296) * (y / 4294967296) + u % (y / 4294967296) = u ∧ (u * 4294967296 + v) / y ≤ u / (y / 4294967296) ∧ u / (y / 4294967296) ≤ 4294967297 := by
  have e : y / 4294967296 * 4294967296 + y % 4294967296 = y := by omega
  refine ⟨by have := Nat.div_add_mod u (y / 4294967296); rw [Nat.mul_comm]; exact this, ?_, knuth_first (by omega) (by omega : y % 4294967296 < 4294967296) (by omega)⟩
  have := knuth_ge (u := u) (v := v) (yn1 := y / 4294967296) (yn0 := y % 4294967296) (by omega) hv
  rw [e] at this
  exact this
theorem rest_is {a v p R : Nat} (h : a + v = p + R) (hR : R < 18446744073709551616) : ((a % 18446744073709551616 + v) % 18446744073709551616 + 18446744073709551616 - p % 18446744073709551616) % 18446744073709551616 = R := by omega
theorem sum_is {a b : Nat} (h : a * 4294967296 + b < 18446744073709551616) : (a * 4294967296 % 18446744073709551616 + b) % 18446744073709551616 = a * 4294967296 + b := by omega
theorem rest_of {u v y : Nat} : u * 4294967296 + v = (u * 4294967296 + v) / y * y + (u * 4294967296 + v) % y := by
  have := Nat.div_add_mod (u * 4294967296 + v) y
  rw [Nat.mul_comm ((u * 4294967296 + v) / y) y]; omega

theorem div64_calls (hi lo y : Nat) (w0 : World) (hhi : hi < y) (hlo : lo < 18446744073709551616) (hy2 : 9223372036854775808 ≤ y) (hy : y < 18446744073709551616) : Ret Try.prog 100 [.int .u64 ((hi : Nat) : Int), .int .u64 ((lo : Nat) : Int), .int .u64 ((y : Nat) : Int)] w0 [] (fun v s => v = .tuple #[.int .u64 (((hi * 18446744073709551616 + lo) / y : Nat) : Int), .int .u64 (((hi * 18446744073709551616 + lo) % y : Nat) : Int)] ∧ s = []) := by
  refine fn_start Try.func100 rfl Try.ntmps100 rfl [(0, .int .u64 ((hi : Nat) : Int)), (1, .int .u64 ((lo : Nat) : Int)), (2, .int .u64 ((y : Nat) : Int))] ⟨rfl, rfl, rfl, trivial⟩ ?_
  intro Q a hP hF hR hN
  have hS := St.start w0
  have hhB : hi < 18446744073709551616 := Nat.lt_trans hhi hy
  have e64 : (bl y).length = 64 := by
    have h1 := len64 hy
    have h2 : ¬ (bl y).length ≤ 63 := fun h => by have := (length_bl_lt y 63).1 h; omega
    omega
  have hv1 : lo / 4294967296 < 4294967296 := by omega
  have hv0 : lo % 4294967296 < 4294967296 := by omega
  have hR1 : ((hi * 4294967296 + lo / 4294967296) % y) < y := Nat.mod_lt _ (by omega)
  have hNq : (hi * 18446744073709551616 + lo) / y < 18446744073709551616 := by
    rw [Nat.div_lt_iff_lt_mul (by omega)]
    have : (hi + 1) * 18446744073709551616 ≤ y * 18446744073709551616 := Nat.mul_le_mul_right _ hhi
    rw [Nat.mul_comm 18446744073709551616 y]
    omega
  refine wp_seq_k fun K1 hK1 => ?_
  refine wp_region_lit ?_
  refine sv' hF (wn rfl) rfl rfl (R.assign (hF.ev rfl)) fun a hF => ?_
  refine sv' hF (wn rfl) rfl rfl (R.assign (hF.ev rfl)) fun a hF => ?_
  refine s0 ?_
  refine then_n (hK1 _ _ ?_)
  refine wp_seq_k fun K2 hK2 => ?_
  refine wp_seq_k fun K3 hK3 => ?_
  refine wp_region_lit ?_
  refine sv' hF (wn rfl) rfl rfl (R.move (hF.ev rfl)) fun a hF => ?_
  refine sv' hF (wn rfl) rfl rfl (R.eql (hF.ev rfl) (hF.ev rfl)) fun a hF => ?_
  refine s0 ?_
  refine then_n (hK3 _ _ ?_)
  refine cD hF rfl (fun z0 => ?_) (fun z0 => ?_)
  ·
    exfalso; omega
  ·
    refine wp_skip ?_
    refine then_n (hK2 _ _ ?_)
    refine wp_seq_k fun K4 hK4 => ?_
    refine wp_seq_k fun K5 hK5 => ?_
    refine wp_region_lit ?_
    refine sv' hF (wn rfl) rfl rfl (R.move (hF.ev rfl)) fun a hF => ?_
    refine sv' hF (wn rfl) rfl rfl (R.move (hF.ev rfl)) fun a hF => ?_
    refine sv' hF (wn rfl) rfl rfl (R.leq (hF.ev rfl) (hF.ev rfl)) fun a hF => ?_
    refine s0 ?_
    refine then_n (hK5 _ _ ?_)
    refine cD hF rfl (fun z1 => ?_) (fun z1 => ?_)
    ·
      exfalso; omega
    ·
      refine wp_skip ?_
      refine then_n (hK4 _ _ ?_)
      refine wp_seq_k fun K6 hK6 => ?_
      refine wp_seq_k fun K7 hK7 => ?_
      refine wp_region_lit ?_
      refine sv' hF (wn rfl) rfl rfl (R.move (hF.ev rfl)) fun a hF => ?_
      refine sv' hF (wn rfl) rfl rfl (R.eql (hF.ev rfl) (hF.ev rfl)) fun a hF => ?_
      refine s0 ?_
      refine then_n (hK7 _ _ ?_)
      refine cD hF rfl (fun z2 => ?_) (fun z2 => ?_)
      ·
        refine wp_seq_k fun K8 hK8 => ?_
        refine wp_drawS hS [(0, 0), (1, 0), (2, 0), (3, 0), (4, 0), (5, 0), (6, 0), (7, 0)] mix (by kernel_rfl) (hP.then.then) fun w hS => ?_
        have hD := hS
        refine dq hF rfl (wn rfl) rfl rfl (fun w => R.move (hF.ev rfl)) fun a hF => ?_
        refine dq hF rfl (wn rfl) rfl rfl (fun w => R.move (hF.ev rfl)) fun a hF => ?_
        refine dq hF rfl (wn rfl) rfl rfl (fun w => R.quoU (hF.ev rfl) (hF.ev rfl) (by omega) (by omega)) fun a hF => ?_
        refine dq hF rfl (wn rfl) rfl rfl (fun w => R.move (hF.ev rfl)) fun a hF => ?_
        refine dq hF rfl (wn rfl) rfl rfl (fun w => R.move (hF.ev rfl)) fun a hF => ?_
        refine dq hF rfl (wn rfl) rfl rfl (fun w => R.remU (hF.ev rfl) (hF.ev rfl) (by omega)) fun a hF => ?_
        refine dq hF rfl (wn rfl) rfl rfl (fun w => R.assign (hF.ev rfl)) fun a hF => ?_
        refine dq hF rfl (wn rfl) rfl rfl (fun w => R.assign (hF.ev rfl)) fun a hF => ?_
        refine d0 ?_
        refine then_n (hK8 _ _ ?_)
        refine wp_ret (then_r (hR _ _ _ _ _ hF (run_results Try.results100 (.t hF rfl (.t hF rfl (.nil)))) ?_))
        exact ⟨_, [], rfl, ⟨by (have h0 : hi = 0 := by omega); subst h0; simp only [Nat.zero_mul, Nat.zero_add]; rfl, rfl⟩, hS.none⟩
      ·
        refine wp_skip ?_
        refine then_n (hK6 _ _ ?_)
        refine wp_seq_k fun K9 hK9 => ?_
        refine wp_region_lit ?_
        refine sv' hF (wn rfl) rfl rfl (R.move (hF.ev rfl)) fun a hF => ?_
        refine so (wn rfl) (O.call rfl rfl hF ent110 (hF.evs rfl) hS (lz64_calls y _ hy) fun v s35 a w hR hF hS => ?_)
        obtain ⟨rfl, rfl⟩ := hR
        refine sv' hF (wn rfl) rfl rfl (R.as (u := .int .u64 ((0 : Nat) : Int)) (R.convU Try.underlying3 Try.underlying133 (hF.ev rfl)) (by rw [e64])) fun a hF => ?_
        refine sv' hF (wn rfl) rfl rfl (R.assign (hF.ev rfl)) fun a hF => ?_
        refine s0 ?_
        refine then_n (hK9 _ _ ?_)
        refine wp_seq_k fun K10 hK10 => ?_
        refine wp_region_lit ?_
        refine sv' hF (wn rfl) rfl rfl (R.move (hF.ev rfl)) fun a hF => ?_
        refine sv' hF (wn rfl) rfl rfl (R.move (hF.ev rfl)) fun a hF => ?_
        refine sv' hF (wn rfl) rfl rfl (R.as (u := .int .u64 ((y : Nat) : Int)) (R.shlU (m := 0) (hF.ev rfl) (hF.ev rfl) (by decide)) (by rw [Nat.pow_zero, Nat.mul_one, Nat.mod_eq_of_lt hy])) fun a hF => ?_
        refine sv' hF (wn rfl) rfl rfl (R.assign (hF.ev rfl)) fun a hF => ?_
        refine s0 ?_
        refine then_n (hK10 _ _ ?_)
        refine wp_seq_k fun K11 hK11 => ?_
        refine wp_region_lit ?_
        refine sv' hF (wn rfl) rfl rfl (R.move (hF.ev rfl)) fun a hF => ?_
        refine sv' hF (wn rfl) rfl rfl (R.as (u := .int .u64 (((y / 4294967296) : Nat) : Int)) (R.shrU (m := 32) (hF.ev rfl) (hF.ev rfl) (by decide)) (rfl)) fun a hF => ?_
        refine sv' hF (wn rfl) rfl rfl (R.assign (hF.ev rfl)) fun a hF => ?_
        refine s0 ?_
        refine then_n (hK11 _ _ ?_)
        refine wp_seq_k fun K12 hK12 => ?_
        refine wp_region_lit ?_
        refine sv' hF (wn rfl) rfl rfl (R.move (hF.ev rfl)) fun a hF => ?_
        refine sv' hF (wn rfl) rfl rfl (R.as (u := .int .u64 (((y % 4294967296) : Nat) : Int)) (R.andU (q := 4294967295) (hF.ev rfl) (hF.ev rfl) hy (by decide)) (by rw [and32n])) fun a hF => ?_
        refine sv' hF (wn rfl) rfl rfl (R.assign (hF.ev rfl)) fun a hF => ?_
        refine s0 ?_
        refine then_n (hK12 _ _ ?_)
        refine wp_seq_k fun K13 hK13 => ?_
        refine wp_region_lit ?_
        refine sv' hF (wn rfl) rfl rfl (R.move (hF.ev rfl)) fun a hF => ?_
        refine sv' hF (wn rfl) rfl rfl (R.move (hF.ev rfl)) fun a hF => ?_
        refine sv' hF (wn rfl) rfl rfl (R.as (u := .int .u64 ((hi : Nat) : Int)) (R.shlU (m := 0) (hF.ev rfl) (hF.ev rfl) (by decide)) (by rw [Nat.pow_zero, Nat.mul_one, Nat.mod_eq_of_lt hhB])) fun a hF => ?_
        refine sv' hF (wn rfl) rfl rfl (R.move (hF.ev rfl)) fun a hF => ?_
        refine sv' hF (wn rfl) rfl rfl (R.move (hF.ev rfl)) fun a hF => ?_
        refine sv' hF (wn rfl) rfl rfl (R.as (u := .int .u64 ((64 : Nat) : Int)) (R.subU (p := 64) (q := 0) (hF.ev rfl) (hF.ev rfl) (by decide)) (rfl)) fun a hF => ?_
        refine sv' hF (wn rfl) rfl rfl (R.as (u := .int .u64 ((0 : Nat) : Int)) (R.shrU (m := 64) (hF.ev rfl) (hF.ev rfl) (by decide)) (by rw [Nat.div_eq_of_lt (show lo < 2 ^ 64 from hlo)])) fun a hF => ?_
        refine sv' hF (wn rfl) rfl rfl (R.as (u := .int .u64 ((hi : Nat) : Int)) (R.orU (q := 0) (hF.ev rfl) (hF.ev rfl) hhB (by decide)) (by rw [Nat.or_zero])) fun a hF => ?_
        refine sv' hF (wn rfl) rfl rfl (R.assign (hF.ev rfl)) fun a hF => ?_
        refine s0 ?_
        refine then_n (hK13 _ _ ?_)
        refine wp_seq_k fun K14 hK14 => ?_
        refine wp_region_lit ?_
        refine sv' hF (wn rfl) rfl rfl (R.move (hF.ev rfl)) fun a hF => ?_
        refine sv' hF (wn rfl) rfl rfl (R.move (hF.ev rfl)) fun a hF => ?_
        refine sv' hF (wn rfl) rfl rfl (R.as (u := .int .u64 ((lo : Nat) : Int)) (R.shlU (m := 0) (hF.ev rfl) (hF.ev rfl) (by decide)) (by rw [Nat.pow_zero, Nat.mul_one, Nat.mod_eq_of_lt hlo])) fun a hF => ?_
        refine sv' hF (wn rfl) rfl rfl (R.assign (hF.ev rfl)) fun a hF => ?_
        refine s0 ?_
        refine then_n (hK14 _ _ ?_)
        refine wp_seq_k fun K15 hK15 => ?_
        refine wp_region_lit ?_
        refine sv' hF (wn rfl) rfl rfl (R.move (hF.ev rfl)) fun a hF => ?_
        refine sv' hF (wn rfl) rfl rfl (R.as (u := .int .u64 ((lo / 4294967296 : Nat) : Int)) (R.shrU (m := 32) (hF.ev rfl) (hF.ev rfl) (by decide)) (rfl)) fun a hF => ?_
        refine sv' hF (wn rfl) rfl rfl (R.assign (hF.ev rfl)) fun a hF => ?_
        refine s0 ?_
        refine then_n (hK15 _ _ ?_)
        refine wp_seq_k fun K16 hK16 => ?_
        refine wp_region_lit ?_
        refine sv' hF (wn rfl) rfl rfl (R.move (hF.ev rfl)) fun a hF => ?_
        refine sv' hF (wn rfl) rfl rfl (R.as (u := .int .u64 ((lo % 4294967296 : Nat) : Int)) (R.andU (q := 4294967295) (hF.ev rfl) (hF.ev rfl) hlo (by decide)) (by rw [and32n])) fun a hF => ?_
        refine sv' hF (wn rfl) rfl rfl (R.assign (hF.ev rfl)) fun a hF => ?_
        refine s0 ?_
        refine then_n (hK16 _ _ ?_)
        refine wp_seq_k fun K17 hK17 => ?_
        refine wp_region_lit ?_
        refine sv' hF (wn rfl) rfl rfl (R.move (hF.ev rfl)) fun a hF => ?_
        refine sv' hF (wn rfl) rfl rfl (R.move (hF.ev rfl)) fun a hF => ?_
        refine sv' hF (wn rfl) rfl rfl (R.quoU (hF.ev rfl) (hF.ev rfl) (by omega) (by omega)) fun a hF => ?_
        refine sv' hF (wn rfl) rfl rfl (R.assign (hF.ev rfl)) fun a hF => ?_
        refine s0 ?_
        refine then_n (hK17 _ _ ?_)
        refine wp_seq_k fun K18 hK18 => ?_
        refine wp_region_lit ?_
        refine sv' hF (wn rfl) rfl rfl (R.move (hF.ev rfl)) fun a hF => ?_
        refine sv' hF (wn rfl) rfl rfl (R.move (hF.ev rfl)) fun a hF => ?_
        refine sv' hF (wn rfl) rfl rfl (R.move (hF.ev rfl)) fun a hF => ?_
        refine sv' hF (wn rfl) rfl rfl (R.mulU (hF.ev rfl) (hF.ev rfl)) fun a hF => ?_
        refine sv' hF (wn rfl) rfl rfl (R.as (u := .int .u64 ((hi % (y / 4294967296) : Nat) : Int)) (R.subU (hF.ev rfl) (hF.ev rfl) (by omega)) (congrArg (fun z : Nat => Value.int .u64 (z : Int)) (by have := (q_start hy2 hv1 hhi).1; omega))) fun a hF => ?_
        refine sv' hF (wn rfl) rfl rfl (R.assign (hF.ev rfl)) fun a hF => ?_
        refine s0 ?_
        refine then_n (hK18 _ _ ?_)
        refine wp_seq_k fun K19 hK19 => ?_
        have hK19' : ∀ a w, (Fr 135 [(2, .int .u64 ((y : Nat) : Int)), (8, .int .u64 ((0 : Nat) : Int)), (9, .int .u64 (((y / 4294967296) : Nat) : Int)), (10, .int .u64 (((y % 4294967296) : Nat) : Int)), (11, .int .u64 ((hi : Nat) : Int)), (13, .int .u64 ((lo / 4294967296 : Nat) : Int)), (14, .int .u64 ((lo % 4294967296 : Nat) : Int)), (15, .int .u64 ((((hi * 4294967296 + lo / 4294967296) / y) : Nat) : Int))] a ∧ St w0 [] [] w) → K19 a w := by
          rintro a w ⟨hF, hS⟩
          refine hK19 _ _ ?_
          refine wp_seq_k fun K20 hK20 => ?_
          refine wp_region_lit ?_
          refine sv' hF (wn rfl) rfl rfl (R.move (hF.ev rfl)) fun a hF => ?_
          refine sv' hF (wn rfl) rfl rfl (R.mulU (q := 4294967296) (hF.ev rfl) (hF.ev rfl)) fun a hF => ?_
          refine sv' hF (wn rfl) rfl rfl (R.move (hF.ev rfl)) fun a hF => ?_
          refine sv' hF (wn rfl) rfl rfl (R.addU (hF.ev rfl) (hF.ev rfl)) fun a hF => ?_
          refine sv' hF (wn rfl) rfl rfl (R.move (hF.ev rfl)) fun a hF => ?_
          refine sv' hF (wn rfl) rfl rfl (R.move (hF.ev rfl)) fun a hF => ?_
          refine sv' hF (wn rfl) rfl rfl (R.mulU (hF.ev rfl) (hF.ev rfl)) fun a hF => ?_
          refine sv' hF (wn rfl) rfl rfl (R.as (u := .int .u64 ((((hi * 4294967296 + lo / 4294967296) % y) : Nat) : Int)) (R.subU (hF.ev rfl) (hF.ev rfl) (by omega)) (congrArg (fun z : Nat => Value.int .u64 (z : Int)) (rest_is rest_of (by omega)))) fun a hF => ?_
          refine sv' hF (wn rfl) rfl rfl (R.assign (hF.ev rfl)) fun a hF => ?_
          refine s0 ?_
          refine then_n (hK20 _ _ ?_)
          refine wp_seq_k fun K21 hK21 => ?_
          refine wp_region_lit ?_
          refine sv' hF (wn rfl) rfl rfl (R.move (hF.ev rfl)) fun a hF => ?_
          refine sv' hF (wn rfl) rfl rfl (R.move (hF.ev rfl)) fun a hF => ?_
          refine sv' hF (wn rfl) rfl rfl (R.quoU (hF.ev rfl) (hF.ev rfl) (by omega) (by omega)) fun a hF => ?_
          refine sv' hF (wn rfl) rfl rfl (R.assign (hF.ev rfl)) fun a hF => ?_
          refine s0 ?_
          refine then_n (hK21 _ _ ?_)
          refine wp_seq_k fun K22 hK22 => ?_
          refine wp_region_lit ?_
          refine sv' hF (wn rfl) rfl rfl (R.move (hF.ev rfl)) fun a hF => ?_
          refine sv' hF (wn rfl) rfl rfl (R.move (hF.ev rfl)) fun a hF => ?_
          refine sv' hF (wn rfl) rfl rfl (R.move (hF.ev rfl)) fun a hF => ?_
          refine sv' hF (wn rfl) rfl rfl (R.mulU (hF.ev rfl) (hF.ev rfl)) fun a hF => ?_
          refine sv' hF (wn rfl) rfl rfl (R.as (u := .int .u64 ((((hi * 4294967296 + lo / 4294967296) % y) % (y / 4294967296) : Nat) : Int)) (R.subU (hF.ev rfl) (hF.ev rfl) (by omega)) (congrArg (fun z : Nat => Value.int .u64 (z : Int)) (by have := (q_start hy2 hv0 hR1).1; omega))) fun a hF => ?_
          refine sv' hF (wn rfl) rfl rfl (R.assign (hF.ev rfl)) fun a hF => ?_
          refine s0 ?_
          refine then_n (hK22 _ _ ?_)
          refine wp_seq_k fun K23 hK23 => ?_
          have hK23' : ∀ a w, (Fr 135 [(2, .int .u64 ((y : Nat) : Int)), (8, .int .u64 ((0 : Nat) : Int)), (9, .int .u64 (((y / 4294967296) : Nat) : Int)), (10, .int .u64 (((y % 4294967296) : Nat) : Int)), (14, .int .u64 ((lo % 4294967296 : Nat) : Int)), (15, .int .u64 ((((hi * 4294967296 + lo / 4294967296) / y) : Nat) : Int)), (17, .int .u64 ((((hi * 4294967296 + lo / 4294967296) % y) : Nat) : Int)), (18, .int .u64 ((((((hi * 4294967296 + lo / 4294967296) % y) * 4294967296 + lo % 4294967296) / y) : Nat) : Int))] a ∧ St w0 [] [] w) → K23 a w := by
            rintro a w ⟨hF, hS⟩
            refine hK23 _ _ ?_
            refine wp_seq_k fun K24 hK24 => ?_
            refine wp_region_lit ?_
            refine sv' hF (wn rfl) rfl rfl (R.move (hF.ev rfl)) fun a hF => ?_
            refine sv' hF (wn rfl) rfl rfl (R.mulU (q := 4294967296) (hF.ev rfl) (hF.ev rfl)) fun a hF => ?_
            refine sv' hF (wn rfl) rfl rfl (R.move (hF.ev rfl)) fun a hF => ?_
            refine sv' hF (wn rfl) rfl rfl (R.as (u := .int .u64 (((hi * 18446744073709551616 + lo) / y : Nat) : Int)) (R.addU (hF.ev rfl) (hF.ev rfl)) (congrArg (fun z : Nat => Value.int .u64 (z : Int)) (by rw [(div64_law (show 0 < y by omega)).1] at hNq ⊢; exact sum_is hNq))) fun a hF => ?_
            refine sv' hF (wn rfl) rfl rfl (R.move (hF.ev rfl)) fun a hF => ?_
            refine sv' hF (wn rfl) rfl rfl (R.mulU (q := 4294967296) (hF.ev rfl) (hF.ev rfl)) fun a hF => ?_
            refine sv' hF (wn rfl) rfl rfl (R.move (hF.ev rfl)) fun a hF => ?_
            refine sv' hF (wn rfl) rfl rfl (R.addU (hF.ev rfl) (hF.ev rfl)) fun a hF => ?_
            refine sv' hF (wn rfl) rfl rfl (R.move (hF.ev rfl)) fun a hF => ?_
            refine sv' hF (wn rfl) rfl rfl (R.move (hF.ev rfl)) fun a hF => ?_
            refine sv' hF (wn rfl) rfl rfl (R.mulU (hF.ev rfl) (hF.ev rfl)) fun a hF => ?_
            refine sv' hF (wn rfl) rfl rfl (R.as (u := .int .u64 (((hi * 18446744073709551616 + lo) % y : Nat) : Int)) (R.subU (hF.ev rfl) (hF.ev rfl) (by omega)) (congrArg (fun z : Nat => Value.int .u64 (z : Int)) (by rw [(div64_law (show 0 < y by omega)).2]; exact rest_is rest_of (Nat.lt_trans (Nat.mod_lt _ (by omega)) hy)))) fun a hF => ?_
            refine sv' hF (wn rfl) rfl rfl (R.move (hF.ev rfl)) fun a hF => ?_
            refine sv' hF (wn rfl) rfl rfl (R.as (u := .int .u64 (((hi * 18446744073709551616 + lo) % y : Nat) : Int)) (R.shrU (m := 0) (hF.ev rfl) (hF.ev rfl) (by decide)) (by rw [Nat.pow_zero, Nat.div_one])) fun a hF => ?_
            refine sv' hF (wn rfl) rfl rfl (R.assign (hF.ev rfl)) fun a hF => ?_
            refine sv' hF (wn rfl) rfl rfl (R.assign (hF.ev rfl)) fun a hF => ?_
            refine s0 ?_
            refine then_n (hK24 _ _ ?_)
            refine wp_ret (hR _ _ _ _ _ hF (run_results Try.results100 (.t hF rfl (.t hF rfl (.nil)))) ?_)
            exact ⟨_, [], rfl, ⟨rfl, rfl⟩, hS.none⟩
          refine wp_block ?_
          refine wp_loop_N (fun g a w => ∃ (q : Nat) (r : Nat), q = g ∧ Fr 135 [(2, .int .u64 ((y : Nat) : Int)), (8, .int .u64 ((0 : Nat) : Int)), (9, .int .u64 (((y / 4294967296) : Nat) : Int)), (10, .int .u64 (((y % 4294967296) : Nat) : Int)), (14, .int .u64 ((lo % 4294967296 : Nat) : Int)), (15, .int .u64 ((((hi * 4294967296 + lo / 4294967296) / y) : Nat) : Int)), (17, .int .u64 ((((hi * 4294967296 + lo / 4294967296) % y) : Nat) : Int)), (18, .int .u64 ((q : Nat) : Int)), (16, .int .u64 ((r : Nat) : Int))] a ∧ St w0 [] [] w ∧ (q * (y / 4294967296) + r = ((hi * 4294967296 + lo / 4294967296) % y)) ∧ ((((hi * 4294967296 + lo / 4294967296) % y) * 4294967296 + lo % 4294967296) / y ≤ q) ∧ (q ≤ 4294967297) ∧ (r < 4294967296)) (((hi * 4294967296 + lo / 4294967296) % y) / (y / 4294967296)) ?_ ?_
          · exact ⟨((hi * 4294967296 + lo / 4294967296) % y) / (y / 4294967296), ((hi * 4294967296 + lo / 4294967296) % y) % (y / 4294967296), rfl, hF.sub ⟨rfl, rfl, rfl, rfl, rfl, rfl, rfl, rfl, rfl, trivial⟩, hS.sel [] rfl rfl, (q_start hy2 hv0 hR1).1, (q_start hy2 hv0 hR1).2.1, (q_start hy2 hv0 hR1).2.2, by have := Nat.mod_lt ((hi * 4294967296 + lo / 4294967296) % y) (show 0 < (y / 4294967296) by omega); omega⟩
          · rintro KL1 g a w ⟨q, r, hg1, hF, hS, hq, hge, hqm, hr⟩ hKL1
            refine wp_seq_k fun K25 hK25 => ?_
            refine wp_seq_k fun K26 hK26 => ?_
            have hK26' : ∀ a w, (Fr 135 [(2, .int .u64 ((y : Nat) : Int)), (8, .int .u64 ((0 : Nat) : Int)), (9, .int .u64 (((y / 4294967296) : Nat) : Int)), (10, .int .u64 (((y % 4294967296) : Nat) : Int)), (14, .int .u64 ((lo % 4294967296 : Nat) : Int)), (15, .int .u64 ((((hi * 4294967296 + lo / 4294967296) / y) : Nat) : Int)), (17, .int .u64 ((((hi * 4294967296 + lo / 4294967296) % y) : Nat) : Int)), (18, .int .u64 ((q : Nat) : Int)), (16, .int .u64 ((r : Nat) : Int)), (113, .bool (decide (4294967296 ≤ q ∨ 4294967296 * r + lo % 4294967296 < q * (y % 4294967296))))] a ∧ St w0 [] [] w) → K26 a w := by
              rintro a w ⟨hF, hS⟩
              refine hK26 _ _ ?_
              refine cD hF rfl (fun z4 => ?_) (fun z4 => ?_)
              ·
                have hn := q_next hv0 hR1 hq hge (by omega)
                refine wp_skip ?_
                refine then_n (hK25 _ _ ?_)
                refine wp_block ?_
                refine wp_seq_k fun K27 hK27 => ?_
                refine wp_region_lit ?_
                refine sv' hF (wn rfl) rfl rfl (R.move (hF.ev rfl)) fun a hF => ?_
                refine sv' hF (wn rfl) rfl rfl (R.as (u := .int .u64 ((q - 1 : Nat) : Int)) (R.subU (q := 1) (hF.ev rfl) (hF.ev rfl) (by decide)) (congrArg (fun z : Nat => Value.int .u64 (z : Int)) (by omega))) fun a hF => ?_
                refine sv' hF (wn rfl) rfl rfl (R.assign (hF.ev rfl)) fun a hF => ?_
                refine s0 ?_
                refine then_n (hK27 _ _ ?_)
                refine wp_seq_k fun K28 hK28 => ?_
                refine wp_region_lit ?_
                refine sv' hF (wn rfl) rfl rfl (R.move (hF.ev rfl)) fun a hF => ?_
                refine sv' hF (wn rfl) rfl rfl (R.move (hF.ev rfl)) fun a hF => ?_
                refine sv' hF (wn rfl) rfl rfl (R.as (u := .int .u64 ((r + (y / 4294967296) : Nat) : Int)) (R.addU (hF.ev rfl) (hF.ev rfl)) (congrArg (fun z : Nat => Value.int .u64 (z : Int)) (by omega))) fun a hF => ?_
                refine sv' hF (wn rfl) rfl rfl (R.assign (hF.ev rfl)) fun a hF => ?_
                refine s0 ?_
                refine then_n (hK28 _ _ ?_)
                refine wp_seq_k fun K29 hK29 => ?_
                refine wp_region_lit ?_
                refine sv' hF (wn rfl) rfl rfl (R.move (hF.ev rfl)) fun a hF => ?_
                refine sv' hF (wn rfl) rfl rfl (R.geq (hF.ev rfl) (hF.ev rfl)) fun a hF => ?_
                refine s0 ?_
                refine then_n (hK29 _ _ ?_)
                refine cD hF rfl (fun z6 => ?_) (fun z6 => ?_)
                ·
                  refine wp_exit (blk_miss rfl (then_x (blk_hit ?_)))
                  exact then_n (hK23' _ _ ⟨hF.sub ⟨rfl, rfl, rfl, rfl, rfl, rfl, rfl, (congrArg (fun z : Nat => some (Value.int .u64 (z : Int))) (q_exit hy2 hv0 hR1 hq hge hqm (by omega) (by omega))), trivial⟩, hS.sel [] rfl rfl⟩)
                ·
                  refine wp_skip ?_
                  refine blk_n ?_
                  refine then_n (hKL1 (q - 1) _ _ ?_ ?_)
                  · omega
                  · exact ⟨q - 1, r + (y / 4294967296), rfl, hF.sub ⟨rfl, rfl, rfl, rfl, rfl, rfl, rfl, rfl, rfl, trivial⟩, hS.sel [] rfl rfl, hn.2.1, hn.1, by omega, by omega⟩
              ·
                refine wp_exit (then_x (then_x (blk_hit ?_)))
                exact then_n (hK23' _ _ ⟨hF.sub ⟨rfl, rfl, rfl, rfl, rfl, rfl, rfl, (congrArg (fun z : Nat => some (Value.int .u64 (z : Int))) (q_stop hy2 hq hge (by omega))), trivial⟩, hS.sel [] rfl rfl⟩)
            refine wp_region_lit ?_
            refine sv' hF (wn rfl) rfl rfl (R.move (hF.ev rfl)) fun a hF => ?_
            refine sv' hF (wn rfl) rfl rfl (R.geq (hF.ev rfl) (hF.ev rfl)) fun a hF => ?_
            refine sv' hF (wn rfl) rfl rfl (R.move (hF.ev rfl)) fun a hF => ?_
            refine hF.splitD (t := 104) rfl (fun h104 hF => ?_) (fun h104 hF => ?_)
            ·
              refine sk hF (ws hF rfl rfl rfl rfl) rfl rfl fun a hF => ?_
              refine sk hF (ws hF rfl rfl rfl rfl) rfl rfl fun a hF => ?_
              refine sk hF (ws hF rfl rfl rfl rfl) rfl rfl fun a hF => ?_
              refine sk hF (ws hF rfl rfl rfl rfl) rfl rfl fun a hF => ?_
              refine sk hF (ws hF rfl rfl rfl rfl) rfl rfl fun a hF => ?_
              refine sk hF (ws hF rfl rfl rfl rfl) rfl rfl fun a hF => ?_
              refine sk hF (ws hF rfl rfl rfl rfl) rfl rfl fun a hF => ?_
              refine sk hF (ws hF rfl rfl rfl rfl) rfl rfl fun a hF => ?_
              refine sv' hF (wn rfl) rfl rfl (R.pickT (hF.ev rfl) (hF.ev rfl)) fun a hF => ?_
              refine s0 ?_
              exact then_n (hK26' _ _ ⟨hF.sub ⟨rfl, rfl, rfl, rfl, rfl, rfl, rfl, rfl, rfl, (congrArg (fun z => some (Value.bool z)) (by first | exact (decide_eq_true (by omega)).symm | exact decide_eq_decide.2 (by omega))), trivial⟩, hS.sel [] rfl rfl⟩)
            ·
              have hqy : q * (y % 4294967296) ≤ 4294967295 * 4294967295 := Nat.mul_le_mul (by omega) (by omega)
              refine sv' hF (wy hF rfl rfl rfl) rfl rfl (R.move (hF.ev rfl)) fun a hF => ?_
              refine sv' hF (wy hF rfl rfl rfl) rfl rfl (R.move (hF.ev rfl)) fun a hF => ?_
              refine sv' hF (wy hF rfl rfl rfl) rfl rfl (R.mulU (hF.ev rfl) (hF.ev rfl)) fun a hF => ?_
              refine sv' hF (wy hF rfl rfl rfl) rfl rfl (R.move (hF.ev rfl)) fun a hF => ?_
              refine sv' hF (wy hF rfl rfl rfl) rfl rfl (R.mulU (p := 4294967296) (hF.ev rfl) (hF.ev rfl)) fun a hF => ?_
              refine sv' hF (wy hF rfl rfl rfl) rfl rfl (R.move (hF.ev rfl)) fun a hF => ?_
              refine sv' hF (wy hF rfl rfl rfl) rfl rfl (R.addU (hF.ev rfl) (hF.ev rfl)) fun a hF => ?_
              refine sv' hF (wy hF rfl rfl rfl) rfl rfl (R.gtr (hF.ev rfl) (hF.ev rfl)) fun a hF => ?_
              refine sv' hF (wn rfl) rfl rfl (R.pickF (hF.ev rfl) (hF.ev rfl)) fun a hF => ?_
              refine s0 ?_
              exact then_n (hK26' _ _ ⟨hF.sub ⟨rfl, rfl, rfl, rfl, rfl, rfl, rfl, rfl, rfl, (congrArg (fun z => some (Value.bool z)) (by first | exact (decide_eq_true (by omega)).symm | exact decide_eq_decide.2 (by omega))), trivial⟩, hS.sel [] rfl rfl⟩)
        refine wp_block ?_
        refine wp_loop_N (fun g a w => ∃ (q : Nat) (r : Nat), q = g ∧ Fr 135 [(2, .int .u64 ((y : Nat) : Int)), (8, .int .u64 ((0 : Nat) : Int)), (9, .int .u64 (((y / 4294967296) : Nat) : Int)), (10, .int .u64 (((y % 4294967296) : Nat) : Int)), (11, .int .u64 ((hi : Nat) : Int)), (12, .int .u64 ((lo : Nat) : Int)), (13, .int .u64 ((lo / 4294967296 : Nat) : Int)), (14, .int .u64 ((lo % 4294967296 : Nat) : Int)), (15, .int .u64 ((q : Nat) : Int)), (16, .int .u64 ((r : Nat) : Int))] a ∧ St w0 [] [] w ∧ (q * (y / 4294967296) + r = hi) ∧ ((hi * 4294967296 + lo / 4294967296) / y ≤ q) ∧ (q ≤ 4294967297) ∧ (r < 4294967296)) (hi / (y / 4294967296)) ?_ ?_
        · exact ⟨hi / (y / 4294967296), hi % (y / 4294967296), rfl, hF.sub ⟨rfl, rfl, rfl, rfl, rfl, rfl, rfl, rfl, rfl, rfl, trivial⟩, hS.sel [] rfl rfl, (q_start hy2 hv1 hhi).1, (q_start hy2 hv1 hhi).2.1, (q_start hy2 hv1 hhi).2.2, by have := Nat.mod_lt hi (show 0 < (y / 4294967296) by omega); omega⟩
        · rintro KL2 g a w ⟨q, r, hg2, hF, hS, hq, hge, hqm, hr⟩ hKL2
          refine wp_seq_k fun K30 hK30 => ?_
          refine wp_seq_k fun K31 hK31 => ?_
          have hK31' : ∀ a w, (Fr 135 [(2, .int .u64 ((y : Nat) : Int)), (8, .int .u64 ((0 : Nat) : Int)), (9, .int .u64 (((y / 4294967296) : Nat) : Int)), (10, .int .u64 (((y % 4294967296) : Nat) : Int)), (11, .int .u64 ((hi : Nat) : Int)), (12, .int .u64 ((lo : Nat) : Int)), (13, .int .u64 ((lo / 4294967296 : Nat) : Int)), (14, .int .u64 ((lo % 4294967296 : Nat) : Int)), (15, .int .u64 ((q : Nat) : Int)), (16, .int .u64 ((r : Nat) : Int)), (78, .bool (decide (4294967296 ≤ q ∨ 4294967296 * r + lo / 4294967296 < q * (y % 4294967296))))] a ∧ St w0 [] [] w) → K31 a w := by
            rintro a w ⟨hF, hS⟩
            refine hK31 _ _ ?_
            refine cD hF rfl (fun z3 => ?_) (fun z3 => ?_)
            ·
              have hn := q_next hv1 hhi hq hge (by omega)
              refine wp_skip ?_
              refine then_n (hK30 _ _ ?_)
              refine wp_block ?_
              refine wp_seq_k fun K32 hK32 => ?_
              refine wp_region_lit ?_
              refine sv' hF (wn rfl) rfl rfl (R.move (hF.ev rfl)) fun a hF => ?_
              refine sv' hF (wn rfl) rfl rfl (R.as (u := .int .u64 ((q - 1 : Nat) : Int)) (R.subU (q := 1) (hF.ev rfl) (hF.ev rfl) (by decide)) (congrArg (fun z : Nat => Value.int .u64 (z : Int)) (by omega))) fun a hF => ?_
              refine sv' hF (wn rfl) rfl rfl (R.assign (hF.ev rfl)) fun a hF => ?_
              refine s0 ?_
              refine then_n (hK32 _ _ ?_)
              refine wp_seq_k fun K33 hK33 => ?_
              refine wp_region_lit ?_
              refine sv' hF (wn rfl) rfl rfl (R.move (hF.ev rfl)) fun a hF => ?_
              refine sv' hF (wn rfl) rfl rfl (R.move (hF.ev rfl)) fun a hF => ?_
              refine sv' hF (wn rfl) rfl rfl (R.as (u := .int .u64 ((r + (y / 4294967296) : Nat) : Int)) (R.addU (hF.ev rfl) (hF.ev rfl)) (congrArg (fun z : Nat => Value.int .u64 (z : Int)) (by omega))) fun a hF => ?_
              refine sv' hF (wn rfl) rfl rfl (R.assign (hF.ev rfl)) fun a hF => ?_
              refine s0 ?_
              refine then_n (hK33 _ _ ?_)
              refine wp_seq_k fun K34 hK34 => ?_
              refine wp_region_lit ?_
              refine sv' hF (wn rfl) rfl rfl (R.move (hF.ev rfl)) fun a hF => ?_
              refine sv' hF (wn rfl) rfl rfl (R.geq (hF.ev rfl) (hF.ev rfl)) fun a hF => ?_
              refine s0 ?_
              refine then_n (hK34 _ _ ?_)
              refine cD hF rfl (fun z5 => ?_) (fun z5 => ?_)
              ·
                refine wp_exit (blk_miss rfl (then_x (blk_hit ?_)))
                exact then_n (hK19' _ _ ⟨hF.sub ⟨rfl, rfl, rfl, rfl, rfl, rfl, rfl, (congrArg (fun z : Nat => some (Value.int .u64 (z : Int))) (q_exit hy2 hv1 hhi hq hge hqm (by omega) (by omega))), trivial⟩, hS.sel [] rfl rfl⟩)
              ·
                refine wp_skip ?_
                refine blk_n ?_
                refine then_n (hKL2 (q - 1) _ _ ?_ ?_)
                · omega
                · exact ⟨q - 1, r + (y / 4294967296), rfl, hF.sub ⟨rfl, rfl, rfl, rfl, rfl, rfl, rfl, rfl, rfl, rfl, trivial⟩, hS.sel [] rfl rfl, hn.2.1, hn.1, by omega, by omega⟩
            ·
              refine wp_exit (then_x (then_x (blk_hit ?_)))
              exact then_n (hK19' _ _ ⟨hF.sub ⟨rfl, rfl, rfl, rfl, rfl, rfl, rfl, (congrArg (fun z : Nat => some (Value.int .u64 (z : Int))) (q_stop hy2 hq hge (by omega))), trivial⟩, hS.sel [] rfl rfl⟩)
          refine wp_region_lit ?_
          refine sv' hF (wn rfl) rfl rfl (R.move (hF.ev rfl)) fun a hF => ?_
          refine sv' hF (wn rfl) rfl rfl (R.geq (hF.ev rfl) (hF.ev rfl)) fun a hF => ?_
          refine sv' hF (wn rfl) rfl rfl (R.move (hF.ev rfl)) fun a hF => ?_
          refine hF.splitD (t := 69) rfl (fun h69 hF => ?_) (fun h69 hF => ?_)
          ·
            refine sk hF (ws hF rfl rfl rfl rfl) rfl rfl fun a hF => ?_
            refine sk hF (ws hF rfl rfl rfl rfl) rfl rfl fun a hF => ?_
            refine sk hF (ws hF rfl rfl rfl rfl) rfl rfl fun a hF => ?_
            refine sk hF (ws hF rfl rfl rfl rfl) rfl rfl fun a hF => ?_
            refine sk hF (ws hF rfl rfl rfl rfl) rfl rfl fun a hF => ?_
            refine sk hF (ws hF rfl rfl rfl rfl) rfl rfl fun a hF => ?_
            refine sk hF (ws hF rfl rfl rfl rfl) rfl rfl fun a hF => ?_
            refine sk hF (ws hF rfl rfl rfl rfl) rfl rfl fun a hF => ?_
            refine sv' hF (wn rfl) rfl rfl (R.pickT (hF.ev rfl) (hF.ev rfl)) fun a hF => ?_
            refine s0 ?_
            exact then_n (hK31' _ _ ⟨hF.sub ⟨rfl, rfl, rfl, rfl, rfl, rfl, rfl, rfl, rfl, rfl, (congrArg (fun z => some (Value.bool z)) (by first | exact (decide_eq_true (by omega)).symm | exact decide_eq_decide.2 (by omega))), trivial⟩, hS.sel [] rfl rfl⟩)
          ·
            have hqy : q * (y % 4294967296) ≤ 4294967295 * 4294967295 := Nat.mul_le_mul (by omega) (by omega)
            refine sv' hF (wy hF rfl rfl rfl) rfl rfl (R.move (hF.ev rfl)) fun a hF => ?_
            refine sv' hF (wy hF rfl rfl rfl) rfl rfl (R.move (hF.ev rfl)) fun a hF => ?_
            refine sv' hF (wy hF rfl rfl rfl) rfl rfl (R.mulU (hF.ev rfl) (hF.ev rfl)) fun a hF => ?_
            refine sv' hF (wy hF rfl rfl rfl) rfl rfl (R.move (hF.ev rfl)) fun a hF => ?_
            refine sv' hF (wy hF rfl rfl rfl) rfl rfl (R.mulU (p := 4294967296) (hF.ev rfl) (hF.ev rfl)) fun a hF => ?_
            refine sv' hF (wy hF rfl rfl rfl) rfl rfl (R.move (hF.ev rfl)) fun a hF => ?_
            refine sv' hF (wy hF rfl rfl rfl) rfl rfl (R.addU (hF.ev rfl) (hF.ev rfl)) fun a hF => ?_
            refine sv' hF (wy hF rfl rfl rfl) rfl rfl (R.gtr (hF.ev rfl) (hF.ev rfl)) fun a hF => ?_
            refine sv' hF (wn rfl) rfl rfl (R.pickF (hF.ev rfl) (hF.ev rfl)) fun a hF => ?_
            refine s0 ?_
            exact then_n (hK31' _ _ ⟨hF.sub ⟨rfl, rfl, rfl, rfl, rfl, rfl, rfl, rfl, rfl, rfl, (congrArg (fun z => some (Value.bool z)) (by first | exact (decide_eq_true (by omega)).symm | exact decide_eq_decide.2 (by omega))), trivial⟩, hS.sel [] rfl rfl⟩)

end Go.Proofs.Ythgecfjpacebeaa
