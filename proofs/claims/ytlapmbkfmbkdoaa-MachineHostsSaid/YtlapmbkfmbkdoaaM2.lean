/- Texts Bb Ba Bc Bd Be Bf Bg Bh Bi Bj in one. -/
import Derived.Test.YtlapmbkfmbkdoaaM1
import Derived.Scope
/- Sums and products in parts of 64 bits. No condition beyond each lemma own. -/
namespace Go.Fw
open Go.RowKit
def val8 (f : Nat → Nat) : Nat → Nat
  | 0 => 0
  | n + 1 => val8 f n + f n * 18446744073709551616 ^ n
def cells8 (f : Nat → Nat) : List Value := (List.range 8).map fun k => .int .u64 ((f k : Nat) : Int)
def upd8 (f : Nat → Nat) (k v : Nat) : Nat → Nat := fun m => if m = k then v else f m
theorem val8_upd (f : Nat → Nat) (k v : Nat) : ∀ n, val8 (upd8 f k v) n + (if k < n then f k * 18446744073709551616 ^ k else 0) = val8 f n + (if k < n then v * 18446744073709551616 ^ k else 0)
  | 0 => by simp [val8]
  | n + 1 => by
    have ih := val8_upd f k v n
    simp only [val8]
    by_cases h : n = k
    · subst h
      rw [if_pos (by omega), if_pos (by omega)]
      rw [if_neg (by omega), if_neg (by omega)] at ih
      have : upd8 f n v n = v := by simp [upd8]
      rw [this]; omega
    · have : upd8 f k v n = f n := by simp [upd8, h]
      rw [this]
      by_cases h2 : k < n
      · rw [if_pos (by omega), if_pos (by omega)]
        rw [if_pos h2, if_pos h2] at ih
        omega
      · rw [if_neg (by omega), if_neg (by omega)]
        rw [if_neg h2, if_neg h2] at ih
        omega
theorem muladd (m f c : Nat) (hm : m ≤ 18446744073709551615 * 18446744073709551615) (hf : f < 18446744073709551616) (hc : c < 18446744073709551616) :
    f + m + c = ((m % 18446744073709551616 + f + 0) % 18446744073709551616 + c + 0) % 18446744073709551616 + 18446744073709551616 * (((m / 18446744073709551616 + (m % 18446744073709551616 + f + 0) / 18446744073709551616) % 18446744073709551616 + ((m % 18446744073709551616 + f + 0) % 18446744073709551616 + c + 0) / 18446744073709551616) % 18446744073709551616) ∧
    ((m / 18446744073709551616 + (m % 18446744073709551616 + f + 0) / 18446744073709551616) % 18446744073709551616 + ((m % 18446744073709551616 + f + 0) % 18446744073709551616 + c + 0) / 18446744073709551616) % 18446744073709551616 < 18446744073709551616 := by
  omega
theorem prod_step {f : Nat → Nat} {i j a b c lo c' : Nat} (hij : i + j < 8) (inv : val8 f 8 + c * 18446744073709551616 ^ (i + j) = a % 18446744073709551616 ^ i * b + dg a i * (b % 18446744073709551616 ^ j) * 18446744073709551616 ^ i) (hs : f (i + j) + dg a i * dg b j + c = lo + 18446744073709551616 * c') :
    val8 (upd8 f (i + j) lo) 8 + c' * 18446744073709551616 ^ (i + (j + 1)) = a % 18446744073709551616 ^ i * b + dg a i * (b % 18446744073709551616 ^ (j + 1)) * 18446744073709551616 ^ i := by
  have h1 := val8_upd f (i + j) lo 8
  rw [if_pos hij, if_pos hij] at h1
  have h2 : b % 18446744073709551616 ^ (j + 1) = b % 18446744073709551616 ^ j + 18446744073709551616 ^ j * dg b j := Nat.mod_pow_succ
  rw [h2, ← Nat.add_assoc i j 1, Nat.pow_succ, Nat.pow_add] at *
  generalize val8 (upd8 f (i + j) lo) 8 = N at *
  generalize val8 f 8 = O at *
  generalize f (i + j) = u at *
  generalize dg a i = x at *
  generalize dg b j = y at *
  generalize a % 18446744073709551616 ^ i * b = A at *
  generalize b % 18446744073709551616 ^ j = R at *
  generalize 18446744073709551616 ^ i = p at *
  generalize 18446744073709551616 ^ j = q at *
  have h3 : (u + x * y + c) * (p * q) = (lo + 18446744073709551616 * c') * (p * q) := by rw [hs]
  have e1 : (u + x * y + c) * (p * q) = u * (p * q) + x * y * (p * q) + c * (p * q) := by grind
  have e2 : (lo + 18446744073709551616 * c') * (p * q) = lo * (p * q) + c' * (p * q * 18446744073709551616) := by grind
  have e3 : x * (R + q * y) * p = x * R * p + x * y * (p * q) := by grind
  rw [e1, e2] at h3
  rw [e3]
  omega
theorem prod_row {f : Nat → Nat} {i a b c : Nat} (hi : i < 4) (hb : b < 18446744073709551616 ^ 4) (hz : f (i + 4) = 0) (inv : val8 f 8 + c * 18446744073709551616 ^ (i + 4) = a % 18446744073709551616 ^ i * b + dg a i * (b % 18446744073709551616 ^ 4) * 18446744073709551616 ^ i) :
    val8 (upd8 f (i + 4) c) 8 = a % 18446744073709551616 ^ (i + 1) * b := by
  have h1 := val8_upd f (i + 4) c 8
  rw [if_pos (by omega), if_pos (by omega), hz, Nat.zero_mul, Nat.add_zero] at h1
  have h2 : a % 18446744073709551616 ^ (i + 1) = a % 18446744073709551616 ^ i + 18446744073709551616 ^ i * dg a i := Nat.mod_pow_succ
  rw [h1, inv, h2, Nat.mod_eq_of_lt hb]
  grind
theorem val8_lt (f : Nat → Nat) (hf : ∀ k, f k < 18446744073709551616) : ∀ n, val8 f n < 18446744073709551616 ^ n
  | 0 => by simp [val8]
  | n + 1 => by
    have ih := val8_lt f hf n
    have h1 : f n * 18446744073709551616 ^ n ≤ 18446744073709551615 * 18446744073709551616 ^ n := Nat.mul_le_mul_right _ (by have := hf n; omega)
    simp only [val8, Nat.pow_succ]
    omega
theorem dg_val8 (f : Nat → Nat) (hf : ∀ k, f k < 18446744073709551616) : ∀ n k, k < n → dg (val8 f n) k = f k
  | 0, k, h => by omega
  | n + 1, k, h => by
    have hl := val8_lt f hf n
    have hp : 0 < 18446744073709551616 ^ n := Nat.pow_pos (by decide)
    unfold dg
    by_cases hk : k = n
    · subst hk
      simp only [val8]
      rw [Nat.add_mul_div_right _ _ hp, Nat.div_eq_of_lt hl, Nat.zero_add, Nat.mod_eq_of_lt (hf k)]
    · have ih := dg_val8 f hf n k (by omega)
      unfold dg at ih
      simp only [val8]
      obtain ⟨t, rfl⟩ : ∃ t, n = k + 1 + t := ⟨n - (k + 1), by omega⟩
      rw [show f (k + 1 + t) * 18446744073709551616 ^ (k + 1 + t) = 18446744073709551616 ^ k * (18446744073709551616 * (18446744073709551616 ^ t * f (k + 1 + t))) from by rw [Nat.pow_add, Nat.pow_succ]; grind, Nat.add_mul_div_left _ _ (Nat.pow_pos (by decide)), Nat.add_mul_mod_self_left]
      exact ih
theorem cells8_eq (f : Nat → Nat) (hf : ∀ k, f k < 18446744073709551616) : cells8 f = cells8 (dg (val8 f 8)) := by
  unfold cells8
  refine List.map_congr_left fun k hk => ?_
  rw [dg_val8 f hf 8 k (by simpa using hk)]
theorem cells8_at {f : Nat → Nat} {k off : Nat} (ho : off = k) (h : k < 8) : (cells8 f)[off]? = some (.int .u64 ((f k : Nat) : Int)) := by
  subst ho; unfold cells8; rw [List.getElem?_map, List.getElem?_range h]; rfl
theorem cells8_set {f : Nat → Nat} {k off v : Nat} (ho : off = k) : (cells8 f).set off (.int .u64 ((v : Nat) : Int)) = cells8 (upd8 f k v) := by
  subst ho
  apply List.ext_getElem?
  intro m
  rw [List.getElem?_set]
  simp only [cells8, List.length_map, List.length_range, List.getElem?_map]
  by_cases hm : m < 8
  · rw [List.getElem?_range hm]
    by_cases e : off = m
    · subst e; simp [hm, upd8]
    · simp [e, upd8, Ne.symm e]
  · by_cases e : off = m
    · subst e; simp [hm]
    · simp [e, List.getElem?_eq_none (l := List.range 8) (i := m) (by simpa using hm)]
theorem one_cells8 (f : Nat → Nat) : ∀ v ∈ cells8 f, v.oneCell' = true := by
  intro v hv
  obtain ⟨k, _, rfl⟩ := List.mem_map.1 hv
  rfl
theorem length_cells8 (f : Nat → Nat) : (cells8 f).length = 8 := by simp [cells8]
theorem upd8_lt {f : Nat → Nat} {k v : Nat} (hf : ∀ k, f k < 18446744073709551616) (hv : v < 18446744073709551616) : ∀ m, upd8 f k v m < 18446744073709551616 := by
  intro m; unfold upd8; split
  · exact hv
  · exact hf m
theorem wc_at' (x k : Nat) (h : k < 4) : (wc x)[((k : Nat) : Int).toNat]? = some (.int .u64 ((dg x k : Nat) : Int)) := by
  have : k = 0 ∨ k = 1 ∨ k = 2 ∨ k = 3 := by omega
  rcases this with rfl | rfl | rfl | rfl <;> rfl
theorem dg_mul_le (a b i j : Nat) : dg a i * dg b j ≤ 18446744073709551615 * 18446744073709551615 := Nat.mul_le_mul (by have := dg_lt a i; omega) (by have := dg_lt b j; omega)

end Go.Fw

/- The calls of bits.Mul64, product, narrow, wide.Mul. -/
namespace Go.Proofs.Ytlapmbkfmbkdoaa
open Go Go.Fw Go.RowKit
attribute [local irreducible] Go.Oper.wp Go.Code.wp Go.wpList Go.Fw.WL Go.Calls
theorem mul64_law (x y : Nat) (hx : x < 18446744073709551616) (hy : y < 18446744073709551616) :
    (((x / 2 ^ 32 * (y / 2 ^ 32)) % 18446744073709551616 + ((x / 2 ^ 32 * (y % 4294967296)) % 18446744073709551616 + (x % 4294967296 * (y % 4294967296)) % 18446744073709551616 / 2 ^ 32) % 18446744073709551616 / 2 ^ 32) % 18446744073709551616 +
      ((((x / 2 ^ 32 * (y % 4294967296)) % 18446744073709551616 + (x % 4294967296 * (y % 4294967296)) % 18446744073709551616 / 2 ^ 32) % 18446744073709551616) % 4294967296 + (x % 4294967296 * (y / 2 ^ 32)) % 18446744073709551616) % 18446744073709551616 / 2 ^ 32) % 18446744073709551616 = x * y / 18446744073709551616 := by
  have e : x * y = (x % 4294967296 + 4294967296 * (x / 4294967296)) * (y % 4294967296 + 4294967296 * (y / 4294967296)) := by
    rw [Nat.mod_add_div, Nat.mod_add_div]
  have r : ∀ a b c d : Nat, (a + 4294967296 * b) * (c + 4294967296 * d) = a * c + 4294967296 * (a * d + b * c) + 18446744073709551616 * (b * d) := by grind
  rw [e, r]
  have ha : x % 4294967296 ≤ 4294967295 := by omega
  have hb : x / 4294967296 ≤ 4294967295 := by omega
  have hc : y % 4294967296 ≤ 4294967295 := by omega
  have hd : y / 4294967296 ≤ 4294967295 := by omega
  have e32 : (2 : Nat) ^ 32 = 4294967296 := by decide
  rw [e32]
  generalize x % 4294967296 = a at *
  generalize x / 4294967296 = b at *
  generalize y % 4294967296 = c at *
  generalize y / 4294967296 = d at *
  have h1 : a * c ≤ 4294967295 * 4294967295 := Nat.mul_le_mul ha hc
  have h2 : b * c ≤ 4294967295 * 4294967295 := Nat.mul_le_mul hb hc
  have h3 : a * d ≤ 4294967295 * 4294967295 := Nat.mul_le_mul ha hd
  have h4 : b * d ≤ 4294967295 * 4294967295 := Nat.mul_le_mul hb hd
  generalize a * c = p at *
  generalize b * c = q at *
  generalize a * d = r' at *
  generalize b * d = s at *
  omega
theorem and32 (x : Nat) : x &&& 4294967295 = x % 4294967296 := by
  have := Nat.and_two_pow_sub_one_eq_mod x 32
  simpa using this

theorem mul64_calls (x y : Nat) (w0 : World) (hx : x < 18446744073709551616) (hy : y < 18446744073709551616) : Ret Try.prog 99 [.int .u64 (x : Nat), .int .u64 (y : Nat)] w0 [] (fun v s => v = .tuple #[.int .u64 ((x * y / 18446744073709551616 : Nat) : Int), .int .u64 ((x * y % 18446744073709551616 : Nat) : Int)] ∧ s = []) := by
  refine fn_start Try.func99 rfl Try.ntmps99 rfl [(0, .int .u64 (x : Nat)), (1, .int .u64 (y : Nat))] ⟨rfl, rfl, trivial⟩ ?_
  intro Q a hP hF hR hN
  have hS := St.start w0
  refine wp_seq_k fun K1 hK1 => ?_
  refine wp_region_lit ?_
  refine sv' hF (wn rfl) rfl rfl (R.assign (hF.ev rfl)) fun a hF => ?_
  refine sv' hF (wn rfl) rfl rfl (R.assign (hF.ev rfl)) fun a hF => ?_
  refine s0 ?_
  refine then_n (hK1 _ _ ?_)
  refine wp_seq_k fun K2 hK2 => ?_
  refine wp_region_lit ?_
  refine sv' hF (wn rfl) rfl rfl (R.move (hF.ev rfl)) fun a hF => ?_
  refine sv' hF (wn rfl) rfl rfl (R.as (R.andU (q := 4294967295) (hF.ev rfl) (hF.ev rfl) (by omega) (by decide)) (by rw [and32])) fun a hF => ?_
  refine sv' hF (wn rfl) rfl rfl (R.assign (hF.ev rfl)) fun a hF => ?_
  refine s0 ?_
  refine then_n (hK2 _ _ ?_)
  refine wp_seq_k fun K3 hK3 => ?_
  refine wp_region_lit ?_
  refine sv' hF (wn rfl) rfl rfl (R.move (hF.ev rfl)) fun a hF => ?_
  refine sv' hF (wn rfl) rfl rfl (R.shrU (m := 32) (hF.ev rfl) (hF.ev rfl) (by decide)) fun a hF => ?_
  refine sv' hF (wn rfl) rfl rfl (R.assign (hF.ev rfl)) fun a hF => ?_
  refine s0 ?_
  refine then_n (hK3 _ _ ?_)
  refine wp_seq_k fun K4 hK4 => ?_
  refine wp_region_lit ?_
  refine sv' hF (wn rfl) rfl rfl (R.move (hF.ev rfl)) fun a hF => ?_
  refine sv' hF (wn rfl) rfl rfl (R.as (R.andU (q := 4294967295) (hF.ev rfl) (hF.ev rfl) (by omega) (by decide)) (by rw [and32])) fun a hF => ?_
  refine sv' hF (wn rfl) rfl rfl (R.assign (hF.ev rfl)) fun a hF => ?_
  refine s0 ?_
  refine then_n (hK4 _ _ ?_)
  refine wp_seq_k fun K5 hK5 => ?_
  refine wp_region_lit ?_
  refine sv' hF (wn rfl) rfl rfl (R.move (hF.ev rfl)) fun a hF => ?_
  refine sv' hF (wn rfl) rfl rfl (R.shrU (m := 32) (hF.ev rfl) (hF.ev rfl) (by decide)) fun a hF => ?_
  refine sv' hF (wn rfl) rfl rfl (R.assign (hF.ev rfl)) fun a hF => ?_
  refine s0 ?_
  refine then_n (hK5 _ _ ?_)
  refine wp_seq_k fun K6 hK6 => ?_
  refine wp_region_lit ?_
  refine sv' hF (wn rfl) rfl rfl (R.move (hF.ev rfl)) fun a hF => ?_
  refine sv' hF (wn rfl) rfl rfl (R.move (hF.ev rfl)) fun a hF => ?_
  refine sv' hF (wn rfl) rfl rfl (R.mulU (hF.ev rfl) (hF.ev rfl)) fun a hF => ?_
  refine sv' hF (wn rfl) rfl rfl (R.assign (hF.ev rfl)) fun a hF => ?_
  refine s0 ?_
  refine then_n (hK6 _ _ ?_)
  refine wp_seq_k fun K7 hK7 => ?_
  refine wp_region_lit ?_
  refine sv' hF (wn rfl) rfl rfl (R.move (hF.ev rfl)) fun a hF => ?_
  refine sv' hF (wn rfl) rfl rfl (R.move (hF.ev rfl)) fun a hF => ?_
  refine sv' hF (wn rfl) rfl rfl (R.mulU (hF.ev rfl) (hF.ev rfl)) fun a hF => ?_
  refine sv' hF (wn rfl) rfl rfl (R.move (hF.ev rfl)) fun a hF => ?_
  refine sv' hF (wn rfl) rfl rfl (R.shrU (m := 32) (hF.ev rfl) (hF.ev rfl) (by decide)) fun a hF => ?_
  refine sv' hF (wn rfl) rfl rfl (R.addU (hF.ev rfl) (hF.ev rfl)) fun a hF => ?_
  refine sv' hF (wn rfl) rfl rfl (R.assign (hF.ev rfl)) fun a hF => ?_
  refine s0 ?_
  refine then_n (hK7 _ _ ?_)
  refine wp_seq_k fun K8 hK8 => ?_
  refine wp_region_lit ?_
  refine sv' hF (wn rfl) rfl rfl (R.move (hF.ev rfl)) fun a hF => ?_
  refine sv' hF (wn rfl) rfl rfl (R.as (R.andU (q := 4294967295) (hF.ev rfl) (hF.ev rfl) (Nat.mod_lt _ (by decide)) (by decide)) (by rw [and32])) fun a hF => ?_
  refine sv' hF (wn rfl) rfl rfl (R.assign (hF.ev rfl)) fun a hF => ?_
  refine s0 ?_
  refine then_n (hK8 _ _ ?_)
  refine wp_seq_k fun K9 hK9 => ?_
  refine wp_region_lit ?_
  refine sv' hF (wn rfl) rfl rfl (R.move (hF.ev rfl)) fun a hF => ?_
  refine sv' hF (wn rfl) rfl rfl (R.shrU (m := 32) (hF.ev rfl) (hF.ev rfl) (by decide)) fun a hF => ?_
  refine sv' hF (wn rfl) rfl rfl (R.assign (hF.ev rfl)) fun a hF => ?_
  refine s0 ?_
  refine then_n (hK9 _ _ ?_)
  refine wp_seq_k fun K10 hK10 => ?_
  refine wp_region_lit ?_
  refine sv' hF (wn rfl) rfl rfl (R.move (hF.ev rfl)) fun a hF => ?_
  refine sv' hF (wn rfl) rfl rfl (R.move (hF.ev rfl)) fun a hF => ?_
  refine sv' hF (wn rfl) rfl rfl (R.move (hF.ev rfl)) fun a hF => ?_
  refine sv' hF (wn rfl) rfl rfl (R.mulU (hF.ev rfl) (hF.ev rfl)) fun a hF => ?_
  refine sv' hF (wn rfl) rfl rfl (R.addU (hF.ev rfl) (hF.ev rfl)) fun a hF => ?_
  refine sv' hF (wn rfl) rfl rfl (R.assign (hF.ev rfl)) fun a hF => ?_
  refine s0 ?_
  refine then_n (hK10 _ _ ?_)
  refine wp_seq_k fun K11 hK11 => ?_
  refine wp_region_lit ?_
  refine sv' hF (wn rfl) rfl rfl (R.move (hF.ev rfl)) fun a hF => ?_
  refine sv' hF (wn rfl) rfl rfl (R.move (hF.ev rfl)) fun a hF => ?_
  refine sv' hF (wn rfl) rfl rfl (R.mulU (hF.ev rfl) (hF.ev rfl)) fun a hF => ?_
  refine sv' hF (wn rfl) rfl rfl (R.move (hF.ev rfl)) fun a hF => ?_
  refine sv' hF (wn rfl) rfl rfl (R.addU (hF.ev rfl) (hF.ev rfl)) fun a hF => ?_
  refine sv' hF (wn rfl) rfl rfl (R.move (hF.ev rfl)) fun a hF => ?_
  refine sv' hF (wn rfl) rfl rfl (R.shrU (m := 32) (hF.ev rfl) (hF.ev rfl) (by decide)) fun a hF => ?_
  refine sv' hF (wn rfl) rfl rfl (R.addU (hF.ev rfl) (hF.ev rfl)) fun a hF => ?_
  refine sv' hF (wn rfl) rfl rfl (R.assign (hF.ev rfl)) fun a hF => ?_
  refine s0 ?_
  refine then_n (hK11 _ _ ?_)
  refine wp_seq_k fun K12 hK12 => ?_
  refine wp_region_lit ?_
  refine sv' hF (wn rfl) rfl rfl (R.move (hF.ev rfl)) fun a hF => ?_
  refine sv' hF (wn rfl) rfl rfl (R.move (hF.ev rfl)) fun a hF => ?_
  refine sv' hF (wn rfl) rfl rfl (R.mulU (hF.ev rfl) (hF.ev rfl)) fun a hF => ?_
  refine sv' hF (wn rfl) rfl rfl (R.assign (hF.ev rfl)) fun a hF => ?_
  refine s0 ?_
  refine then_n (hK12 _ _ ?_)
  refine wp_ret (hR _ _ _ _ _ hF (run_results Try.results99 (.t hF rfl (.t hF rfl (.nil)))) ?_)
  refine ⟨_, [], rfl, ⟨?_, rfl⟩, hS.none⟩
  rw [← mul64_law x y hx hy]
  rfl

theorem product_calls (x y : Nat) (w0 : World) (hx : x < 115792089237316195423570985008687907853269984665640564039457584007913129639936) (hy : y < 115792089237316195423570985008687907853269984665640564039457584007913129639936) : Ret Try.prog 95 [wv x, wv y] w0 [] (fun v s => v = .agg (cells8 (dg (x * y))).toArray ∧ s = []) := by
  refine fn_start Try.func95 rfl Try.ntmps95 rfl [(0, wv x), (1, wv y)] ⟨rfl, rfl, trivial⟩ ?_
  intro Q a hP hF hR hN
  have hS := St.start w0
  refine wp_seq_k fun K1 hK1 => ?_
  refine wp_region_lit ?_
  refine so (wn rfl) (O.box rfl rfl hF (hF.ev rfl) rfl hS fun b2 a w hF hS => ?_)
  refine so (wn rfl) (O.box rfl rfl hF (hF.ev rfl) rfl hS fun b3 a w hF hS => ?_)
  refine so (wn rfl) (O.alloc rfl rfl hF ze121 rfl hS fun b4 a w hF hS => ?_)
  rw [show Cel [.int .u64 0, .int .u64 0, .int .u64 0, .int .u64 0, .int .u64 0, .int .u64 0, .int .u64 0, .int .u64 0] 121 = Cel (cells8 (fun _ => 0)) 121 from rfl] at hS
  refine s0 ?_
  refine then_n (hK1 _ _ ?_)
  refine wp_seq_k fun K2 hK2 => ?_
  refine wp_region_lit ?_
  refine so (wn rfl) (O.alloc rfl rfl hF ze121 rfl hS fun b5 a w hF hS => ?_)
  rw [show Cel [.int .u64 0, .int .u64 0, .int .u64 0, .int .u64 0, .int .u64 0, .int .u64 0, .int .u64 0, .int .u64 0] 121 = Cel (cells8 (fun _ => 0)) 121 from rfl] at hS
  refine s0 ?_
  refine then_n (hK2 _ _ ?_)
  refine wp_seq_k fun K3 hK3 => ?_
  refine wp_seq_k fun K4 hK4 => ?_
  refine wp_region_lit ?_
  refine sv' hF (wn rfl) rfl rfl (R.loadW agg31 (hF.ev rfl) hS (.t (.t (.t .h))) sz31 (rfl)) fun a hF => ?_
  refine sv' hF (wn rfl) rfl rfl (R.move (hF.ev rfl)) fun a hF => ?_
  refine s0 ?_
  refine then_n (hK4 _ _ ?_)
  refine wp_block ?_
  refine wp_loop_N (fun g a w => ∃ (i : Nat) (f : Nat → Nat), 4 - i = g ∧ Fr 65 [(3, .pointer (some ⟨b3, 0, none⟩)), (4, .pointer (some ⟨b4, 0, none⟩)), (5, .pointer (some ⟨b5, 0, none⟩)), (14, wv x), (15, .int .i64 (i : Nat))] a ∧ St w0 [] [[(b5, Cel (cells8 f) 121)], [(b4, Cel (cells8 (fun _ => 0)) 121)], [(b3, Cel (wc y) 31)]] w ∧ (i ≤ 4) ∧ (val8 f 8 = x % 18446744073709551616 ^ i * y) ∧ (∀ k, f k < 18446744073709551616) ∧ (∀ k, i + 4 ≤ k → f k = 0)) (4 - 0) ?_ ?_
  · exact ⟨0, fun _ => 0, rfl, hF.sub ⟨rfl, rfl, rfl, rfl, rfl, trivial⟩, hS.sel [0, 1, 2] rfl rfl, by omega, by simp [val8, Nat.mod_one], fun _ => (by decide : (0 : Nat) < 18446744073709551616), fun _ _ => rfl⟩
  · rintro KL1 g a w ⟨i, f, hg1, hF, hS, hi, hv, hf, hz⟩ hKL1
    refine wp_seq_k fun K5 hK5 => ?_
    refine wp_region_lit ?_
    refine sv' hF (wn rfl) rfl rfl (R.lss (hF.ev rfl) (hF.ev rfl)) fun a hF => ?_
    refine s0 ?_
    refine then_n (hK5 _ _ ?_)
    refine wp_seq_k fun K6 hK6 => ?_
    refine cD hF rfl (fun c1 => ?_) (fun c1 => ?_)
    ·
      refine wp_skip ?_
      refine then_n (hK6 _ _ ?_)
      refine wp_seq_k fun K7 hK7 => ?_
      refine wp_block ?_
      refine wp_seq_k fun K8 hK8 => ?_
      refine wp_region_lit ?_
      refine sv' hF (wn rfl) rfl rfl (R.move (hF.ev rfl)) fun a hF => ?_
      refine sv' hF (wn rfl) rfl rfl (R.index1 Try.underlying31 one29 sz29 (hF.ev rfl) (hF.ev rfl) (by omega) (by omega) (wc_at' x i (by omega))) fun a hF => ?_
      refine sv' hF (wn rfl) rfl rfl (R.assign (hF.ev rfl)) fun a hF => ?_
      refine sv' hF (wn rfl) rfl rfl (R.assign (hF.ev rfl)) fun a hF => ?_
      refine s0 ?_
      refine then_n (hK8 _ _ ?_)
      refine wp_seq_k fun K9 hK9 => ?_
      refine wp_region_lit ?_
      refine sv' hF (wn rfl) rfl rfl (R.assign (hF.ev rfl)) fun a hF => ?_
      refine s0 ?_
      refine then_n (hK9 _ _ ?_)
      refine wp_seq_k fun K10 hK10 => ?_
      refine wp_seq_k fun K11 hK11 => ?_
      refine wp_region_lit ?_
      refine sv' hF (wn rfl) rfl rfl (R.loadW agg31 (hF.ev rfl) hS (.t (.t .h)) sz31 (rfl)) fun a hF => ?_
      refine sv' hF (wn rfl) rfl rfl (R.move (hF.ev rfl)) fun a hF => ?_
      refine s0 ?_
      refine then_n (hK11 _ _ ?_)
      refine wp_block ?_
      refine wp_loop_N (fun g a w => ∃ (j : Nat) (c : Nat) (f : Nat → Nat), 4 - j = g ∧ Fr 65 [(3, .pointer (some ⟨b3, 0, none⟩)), (4, .pointer (some ⟨b4, 0, none⟩)), (5, .pointer (some ⟨b5, 0, none⟩)), (14, wv x), (15, .int .i64 (i : Nat)), (6, .int .i64 (i : Nat)), (7, .int .u64 ((dg x i : Nat) : Int)), (8, .int .u64 ((c : Nat) : Int)), (19, wv y), (20, .int .i64 (j : Nat))] a ∧ St w0 [] [[(b5, Cel (cells8 f) 121)], [(b4, Cel (cells8 (fun _ => 0)) 121)], [(b3, Cel (wc y) 31)]] w ∧ (j ≤ 4) ∧ (val8 f 8 + c * 18446744073709551616 ^ (i + j) = x % 18446744073709551616 ^ i * y + dg x i * (y % 18446744073709551616 ^ j) * 18446744073709551616 ^ i) ∧ (c < 18446744073709551616) ∧ (∀ k, f k < 18446744073709551616) ∧ (∀ k, i + 4 ≤ k → f k = 0)) (4 - 0) ?_ ?_
      · exact ⟨0, 0, f, rfl, hF.sub ⟨rfl, rfl, rfl, rfl, rfl, rfl, rfl, rfl, rfl, rfl, trivial⟩, hS.sel [0, 1, 2] rfl rfl, by omega, by rw [hv]; simp [Nat.mod_one], by decide, hf, hz⟩
      · rintro KL2 g a w ⟨j, c, f, hg2, hF, hS, hj, inv, hcl, hf, hz⟩ hKL2
        refine wp_seq_k fun K12 hK12 => ?_
        refine wp_region_lit ?_
        refine sv' hF (wn rfl) rfl rfl (R.lss (hF.ev rfl) (hF.ev rfl)) fun a hF => ?_
        refine s0 ?_
        refine then_n (hK12 _ _ ?_)
        refine wp_seq_k fun K13 hK13 => ?_
        refine cD hF rfl (fun c2 => ?_) (fun c2 => ?_)
        ·
          have hma := muladd (dg x i * dg y j) (f (i + j)) c (dg_mul_le x y i j) (hf _) hcl
          refine wp_skip ?_
          refine then_n (hK13 _ _ ?_)
          refine wp_seq_k fun K14 hK14 => ?_
          refine wp_block ?_
          refine wp_seq_k fun K15 hK15 => ?_
          refine wp_region_lit ?_
          refine sv' hF (wn rfl) rfl rfl (R.move (hF.ev rfl)) fun a hF => ?_
          refine sv' hF (wn rfl) rfl rfl (R.index1 Try.underlying31 one29 sz29 (hF.ev rfl) (hF.ev rfl) (by omega) (by omega) (wc_at' y j (by omega))) fun a hF => ?_
          refine sv' hF (wn rfl) rfl rfl (R.assign (hF.ev rfl)) fun a hF => ?_
          refine sv' hF (wn rfl) rfl rfl (R.assign (hF.ev rfl)) fun a hF => ?_
          refine s0 ?_
          refine then_n (hK15 _ _ ?_)
          refine wp_seq_k fun K16 hK16 => ?_
          refine wp_region_lit ?_
          refine sv' hF (wn rfl) rfl rfl (R.move (hF.ev rfl)) fun a hF => ?_
          refine sv' hF (wn rfl) rfl rfl (R.move (hF.ev rfl)) fun a hF => ?_
          refine so (wn rfl) (O.call rfl rfl hF ent99 (hF.evs rfl) hS (mul64_calls (dg x i) (dg y j) _ (dg_lt _ _) (dg_lt _ _)) fun v s27 a w hR hF hS => ?_)
          obtain ⟨rfl, rfl⟩ := hR
          refine sv' hF (wn rfl) rfl rfl (R.move (hF.ev rfl)) fun a hF => ?_
          refine sv' hF (wn rfl) rfl rfl (R.extract (hF.ev rfl) rfl) fun a hF => ?_
          refine sv' hF (wn rfl) rfl rfl (R.extract (hF.ev rfl) rfl) fun a hF => ?_
          refine sv' hF (wn rfl) rfl rfl (R.assign (hF.ev rfl)) fun a hF => ?_
          refine sv' hF (wn rfl) rfl rfl (R.assign (hF.ev rfl)) fun a hF => ?_
          refine s0 ?_
          refine then_n (hK16 _ _ ?_)
          refine wp_seq_k fun K17 hK17 => ?_
          refine wp_region_lit ?_
          refine sv' hF (wn rfl) rfl rfl (R.assign (hF.ev rfl)) fun a hF => ?_
          refine s0 ?_
          refine then_n (hK17 _ _ ?_)
          refine wp_seq_k fun K18 hK18 => ?_
          refine wp_region_lit ?_
          refine sv' hF (wn rfl) rfl rfl (R.move (hF.ev rfl)) fun a hF => ?_
          refine sv' hF (wn rfl) rfl rfl (R.move (hF.ev rfl)) fun a hF => ?_
          refine sv' hF (wn rfl) rfl rfl (R.move (hF.ev rfl)) fun a hF => ?_
          refine sv' hF (wn rfl) rfl rfl (R.addI (hF.ev rfl) (hF.ev rfl) (by omega)) fun a hF => ?_
          refine sv' hF (wn rfl) rfl rfl (R.indexA Try.underlying121 sz29 (hF.ev rfl) (hF.ev rfl) (by omega) (by omega)) fun a hF => ?_
          refine sv' hF (wn rfl) rfl rfl (R.load one29 (hF.ev rfl) hS (.t .h) (cells8_at (k := i + j) (by simp; omega) (by omega))) fun a hF => ?_
          refine sv' hF (wn rfl) rfl rfl (R.extern (hF.evs rfl) (x95 (dg x i * dg y j % 18446744073709551616) (f (i + j)) 0 (by decide) w)) fun a hF => ?_
          refine sv' hF (wn rfl) rfl rfl (R.move (hF.ev rfl)) fun a hF => ?_
          refine sv' hF (wn rfl) rfl rfl (R.extract (hF.ev rfl) rfl) fun a hF => ?_
          refine sv' hF (wn rfl) rfl rfl (R.extract (hF.ev rfl) rfl) fun a hF => ?_
          refine sv' hF (wn rfl) rfl rfl (R.assign (hF.ev rfl)) fun a hF => ?_
          refine sv' hF (wn rfl) rfl rfl (R.assign (hF.ev rfl)) fun a hF => ?_
          refine s0 ?_
          refine then_n (hK18 _ _ ?_)
          refine wp_seq_k fun K19 hK19 => ?_
          refine wp_region_lit ?_
          refine sv' hF (wn rfl) rfl rfl (R.move (hF.ev rfl)) fun a hF => ?_
          refine sv' hF (wn rfl) rfl rfl (R.move (hF.ev rfl)) fun a hF => ?_
          refine sv' hF (wn rfl) rfl rfl (R.addU (hF.ev rfl) (hF.ev rfl)) fun a hF => ?_
          refine sv' hF (wn rfl) rfl rfl (R.assign (hF.ev rfl)) fun a hF => ?_
          refine s0 ?_
          refine then_n (hK19 _ _ ?_)
          refine wp_seq_k fun K20 hK20 => ?_
          refine wp_region_lit ?_
          refine sv' hF (wn rfl) rfl rfl (R.move (hF.ev rfl)) fun a hF => ?_
          refine sv' hF (wn rfl) rfl rfl (R.move (hF.ev rfl)) fun a hF => ?_
          refine sv' hF (wn rfl) rfl rfl (R.extern (hF.evs rfl) (x95 ((dg x i * dg y j % 18446744073709551616 + f (i + j) + 0) % 18446744073709551616) c 0 (by decide) w)) fun a hF => ?_
          refine sv' hF (wn rfl) rfl rfl (R.move (hF.ev rfl)) fun a hF => ?_
          refine sv' hF (wn rfl) rfl rfl (R.extract (hF.ev rfl) rfl) fun a hF => ?_
          refine sv' hF (wn rfl) rfl rfl (R.extract (hF.ev rfl) rfl) fun a hF => ?_
          refine sv' hF (wn rfl) rfl rfl (R.assign (hF.ev rfl)) fun a hF => ?_
          refine sv' hF (wn rfl) rfl rfl (R.assign (hF.ev rfl)) fun a hF => ?_
          refine s0 ?_
          refine then_n (hK20 _ _ ?_)
          refine wp_seq_k fun K21 hK21 => ?_
          refine wp_region_lit ?_
          refine sv' hF (wn rfl) rfl rfl (R.move (hF.ev rfl)) fun a hF => ?_
          refine sv' hF (wn rfl) rfl rfl (R.move (hF.ev rfl)) fun a hF => ?_
          refine sv' hF (wn rfl) rfl rfl (R.addU (hF.ev rfl) (hF.ev rfl)) fun a hF => ?_
          refine sv' hF (wn rfl) rfl rfl (R.assign (hF.ev rfl)) fun a hF => ?_
          refine s0 ?_
          refine then_n (hK21 _ _ ?_)
          refine wp_seq_k fun K22 hK22 => ?_
          refine wp_region_lit ?_
          refine sv' hF (wn rfl) rfl rfl (R.move (hF.ev rfl)) fun a hF => ?_
          refine sv' hF (wn rfl) rfl rfl (R.move (hF.ev rfl)) fun a hF => ?_
          refine sv' hF (wn rfl) rfl rfl (R.addI (hF.ev rfl) (hF.ev rfl) (by omega)) fun a hF => ?_
          refine sv' hF (wn rfl) rfl rfl (R.move (hF.ev rfl)) fun a hF => ?_
          refine sv' hF (wn rfl) rfl rfl (R.indexA Try.underlying121 sz29 (hF.ev rfl) (hF.ev rfl) (by omega) (by omega)) fun a hF => ?_
          refine so (wn rfl) (O.store sz29 (hF.ev rfl) (hF.ev rfl) rfl rfl hS (.t .h) (cells8_set (k := i + j) (by simp; omega)) (by rw [length_cells8]; simp; omega) fun w hS => ?_)
          refine s0 ?_
          refine then_n (hK22 _ _ ?_)
          refine wp_region_lit ?_
          refine sv' hF (wn rfl) rfl rfl (R.move (hF.ev rfl)) fun a hF => ?_
          refine sv' hF (wn rfl) rfl rfl (R.assign (hF.ev rfl)) fun a hF => ?_
          refine s0 ?_
          refine blk_n ?_
          refine then_n (hK14 _ _ ?_)
          refine wp_region_lit ?_
          refine sv' hF (wn rfl) rfl rfl (R.addI (hF.ev rfl) (hF.ev rfl) (by omega)) fun a hF => ?_
          refine sv' hF (wn rfl) rfl rfl (R.move (hF.ev rfl)) fun a hF => ?_
          refine s0 ?_
          refine then_n (hKL2 (4 - (j + 1)) _ _ ?_ ?_)
          · omega
          · exact ⟨j + 1, _, _, rfl, hF.sub ⟨rfl, rfl, rfl, rfl, rfl, rfl, rfl, rfl, rfl, rfl, trivial⟩, hS.sel [1, 2, 3] rfl rfl, by omega, prod_step (by omega) inv hma.1, hma.2, upd8_lt hf (Nat.mod_lt _ (by decide)), fun k hk => by rw [upd8, if_neg (by omega)]; exact hz k hk⟩
        ·
          obtain rfl : j = 4 := by omega
          refine wp_exit (then_x (then_x (blk_hit ?_)))
          refine then_n (hK10 _ _ ?_)
          refine wp_region_lit ?_
          refine sv' hF (wn rfl) rfl rfl (R.move (hF.ev rfl)) fun a hF => ?_
          refine sv' hF (wn rfl) rfl rfl (R.addI (hF.ev rfl) (hF.ev rfl) (by omega)) fun a hF => ?_
          refine sv' hF (wn rfl) rfl rfl (R.move (hF.ev rfl)) fun a hF => ?_
          refine sv' hF (wn rfl) rfl rfl (R.indexA Try.underlying121 sz29 (hF.ev rfl) (hF.ev rfl) (by omega) (by omega)) fun a hF => ?_
          refine so (wn rfl) (O.store sz29 (hF.ev rfl) (hF.ev rfl) rfl rfl hS .h (cells8_set (k := i + 4) (by simp; omega)) (by rw [length_cells8]; simp; omega) fun w hS => ?_)
          refine s0 ?_
          refine blk_n ?_
          refine then_n (hK7 _ _ ?_)
          refine wp_region_lit ?_
          refine sv' hF (wn rfl) rfl rfl (R.addI (hF.ev rfl) (hF.ev rfl) (by omega)) fun a hF => ?_
          refine sv' hF (wn rfl) rfl rfl (R.move (hF.ev rfl)) fun a hF => ?_
          refine s0 ?_
          refine then_n (hKL1 (4 - (i + 1)) _ _ ?_ ?_)
          · omega
          · exact ⟨i + 1, _, rfl, hF.sub ⟨rfl, rfl, rfl, rfl, rfl, trivial⟩, hS.sel [0, 1, 2] rfl rfl, by omega, prod_row (by omega) (by simpa using hy) (hz (i + 4) (by omega)) inv, upd8_lt hf hcl, fun k hk => by rw [upd8, if_neg (by omega)]; exact hz k (by omega)⟩
    ·
      obtain rfl : i = 4 := by omega
      refine wp_exit (then_x (then_x (blk_hit ?_)))
      refine then_n (hK3 _ _ ?_)
      refine wp_seq_k fun K23 hK23 => ?_
      refine wp_region_lit ?_
      refine sv' hF (wn rfl) rfl rfl (R.loadW agg121 (hF.ev rfl) hS .h sz121 (length_cells8 _)) fun a hF => ?_
      refine so (wn rfl) (O.storeW sz121 (hF.ev rfl) (hF.ev rfl) (length_cells8 _) rfl (one_cells8 _) hS (.t .h) ((length_cells8 _).trans (length_cells8 _).symm) fun w hS => ?_)
      refine s0 ?_
      refine then_n (hK23 _ _ ?_)
      refine wp_ret (hR _ _ _ _ _ hF (run_results Try.results95 (.cw hF rfl agg121 hS (.t .h) sz121 (length_cells8 _) (.nil))) ?_)
      have e : cells8 f = cells8 (dg (x * y)) := by rw [cells8_eq f hf, hv, Nat.mod_eq_of_lt (show x < 18446744073709551616 ^ 4 by simpa using hx)]
      exact ⟨_, [], rfl, ⟨by rw [e]; rfl, rfl⟩, hS.none⟩

section
variable {P : Program} {w : World} {ρ : Operand → Value} {dst : Option Tmp} {ty : TypeId} {pos : String} {af : Array Edge} {g : Option (Nat × Bool)} {x y : Operand} {T E : TypeId} {b n sz c : Nat} {k : IntKind} {p : Int}
theorem R.sliceArr (hT : P.underlying T = some (.array n E)) (hs : szT P E sz) (hx : ρ x = .pointer (some ⟨b, 0, none⟩)) (hy : ρ y = .int k p) (h0 : 0 ≤ p) (h1 : p ≤ n) :
    (execOp ρ ⟨dst, .slice T x none (some y) none, ty, pos, af, g⟩).run P w = .ok (.value (.slice (some ⟨b, 0, none⟩) p.toNat n)) w := by
  have e : (if n = 0 then (⟨b, 0, none⟩ : Addr) else (⟨b, 0, none⟩ : Addr).add (0 * sz)) = ⟨b, 0, none⟩ := by simp [Addr.add]
  simp only [execOp, hx, hy, Option.map_none, Option.map_some, Instr.sliceAt, Instr.sureAddr, run_underlying hT, Instr.sliceBounds, Instr.sliceBound, asIntOf, run_sizeOf' hs, h0, h1, and_self, if_true,
    Sem.run_bind, Sem.run_pure, Result.andThen_ok, e, Nat.sub_zero]
theorem R.arrAt (hT : P.underlying T = some (.array n E)) (hx : ρ x = .slice (some ⟨b, 0, none⟩) c sz) (h : n ≤ c) :
    (execOp ρ ⟨dst, .sliceToArrayPointer T x, ty, pos, af, g⟩).run P w = .ok (.value (.pointer (some ⟨b, 0, none⟩))) w := by
  have h' : ¬ c < n := by omega
  simp only [execOp, hx, Instr.arrayAt, run_underlying hT, h', if_false, Sem.run_bind, Sem.run_pure, Result.andThen_ok]
end
theorem or_0 (a b : Nat) : a ||| b = 0 ↔ a = 0 ∧ b = 0 := Nat.or_eq_zero_iff
theorem or_u64 {a b : Nat} (ha : a < 18446744073709551616) (hb : b < 18446744073709551616) : a ||| b < 18446744073709551616 := Nat.or_lt_two_pow (n := 64) ha hb
theorem narrow_law (z : Nat) (hz : z < 13407807929942597099574024998205846127479365820592393377723561443721764030073546976801874298166903427690031858186486050853753882811946569946433649006084096) : ¬ (((dg z 4 ||| dg z 5 ||| dg z 6 ||| dg z 7 : Nat) : Int) = 0) ↔ ¬ z < 115792089237316195423570985008687907853269984665640564039457584007913129639936 := by
  have h : dg z 4 ||| dg z 5 ||| dg z 6 ||| dg z 7 = 0 ↔ z < 115792089237316195423570985008687907853269984665640564039457584007913129639936 := by
    rw [or_0, or_0, or_0]
    unfold dg
    constructor
    · rintro ⟨⟨⟨h4, h5⟩, h6⟩, h7⟩
      have e4 : (18446744073709551616 : Nat) ^ 4 = 115792089237316195423570985008687907853269984665640564039457584007913129639936 := by decide
      have e5 : (18446744073709551616 : Nat) ^ 5 = 115792089237316195423570985008687907853269984665640564039457584007913129639936 * 18446744073709551616 := by decide
      have e6 : (18446744073709551616 : Nat) ^ 6 = 115792089237316195423570985008687907853269984665640564039457584007913129639936 * 18446744073709551616 * 18446744073709551616 := by decide
      have e7 : (18446744073709551616 : Nat) ^ 7 = 115792089237316195423570985008687907853269984665640564039457584007913129639936 * 18446744073709551616 * 18446744073709551616 * 18446744073709551616 := by decide
      rw [e4] at h4; rw [e5, ← Nat.div_div_eq_div_mul] at h5; rw [e6, ← Nat.div_div_eq_div_mul, ← Nat.div_div_eq_div_mul] at h6; rw [e7, ← Nat.div_div_eq_div_mul, ← Nat.div_div_eq_div_mul, ← Nat.div_div_eq_div_mul] at h7
      have : z / 115792089237316195423570985008687907853269984665640564039457584007913129639936 = 0 := by omega
      omega
    · intro h
      have hp : ∀ k, 4 ≤ k → z / 18446744073709551616 ^ k = 0 := fun k hk => Nat.div_eq_of_lt (Nat.lt_of_lt_of_le h (by
        have : (115792089237316195423570985008687907853269984665640564039457584007913129639936 : Nat) = 18446744073709551616 ^ 4 := by decide
        rw [this]; exact Nat.pow_le_pow_right (by decide) hk))
      rw [hp 4 (by omega), hp 5 (by omega), hp 6 (by omega), hp 7 (by omega)]
      simp
  rw [← h]
  omega
theorem wc_cells8 (z : Nat) (j : Nat) (v : Value) (h : (wc z)[j]? = some v) : (cells8 (dg z))[0 + j]? = some v := by
  have hj : j < 4 := (List.getElem?_eq_some_iff.1 h).1
  rw [Nat.zero_add, cells8_at rfl (by omega), ← h]
  have : j = 0 ∨ j = 1 ∨ j = 2 ∨ j = 3 := by omega
  rcases this with rfl | rfl | rfl | rfl <;> rfl

theorem narrow_calls (z : Nat) (w0 : World) (hz : z < 13407807929942597099574024998205846127479365820592393377723561443721764030073546976801874298166903427690031858186486050853753882811946569946433649006084096) : Ret Try.prog 94 [.agg (cells8 (dg z)).toArray] w0 [] (fun v s => v = .tuple #[wv (if z < 115792089237316195423570985008687907853269984665640564039457584007913129639936 then z else 0), .int .i64 (if z < 115792089237316195423570985008687907853269984665640564039457584007913129639936 then 0 else 22)] ∧ s = []) := by
  refine fn_start Try.func94 rfl Try.ntmps94 rfl [(0, .agg (cells8 (dg z)).toArray)] ⟨rfl, trivial⟩ ?_
  intro Q a hP hF hR hN
  have hS := St.start w0
  refine wp_seq_k fun K1 hK1 => ?_
  refine wp_region_lit ?_
  refine so (wn rfl) (O.box rfl rfl hF (hF.ev rfl) rfl hS fun b1 a w hF hS => ?_)
  refine so (wn rfl) (O.alloc rfl rfl hF ze31 rfl hS fun b2 a w hF hS => ?_)
  refine sv' hF (wn rfl) rfl rfl (R.assign (hF.ev rfl)) fun a hF => ?_
  refine s0 ?_
  refine then_n (hK1 _ _ ?_)
  refine wp_seq_k fun K2 hK2 => ?_
  refine wp_seq_k fun K3 hK3 => ?_
  refine wp_region_lit ?_
  refine sv' hF (wn rfl) rfl rfl (R.indexA Try.underlying121 sz29 (hF.ev rfl) (hF.ev rfl) (by omega) (by omega)) fun a hF => ?_
  refine sv' hF (wn rfl) rfl rfl (R.load one29 (hF.ev rfl) hS (.t .h) (cells8_at (k := 4) (by simp) (by decide))) fun a hF => ?_
  refine sv' hF (wn rfl) rfl rfl (R.indexA Try.underlying121 sz29 (hF.ev rfl) (hF.ev rfl) (by omega) (by omega)) fun a hF => ?_
  refine sv' hF (wn rfl) rfl rfl (R.load one29 (hF.ev rfl) hS (.t .h) (cells8_at (k := 5) (by simp) (by decide))) fun a hF => ?_
  refine sv' hF (wn rfl) rfl rfl (R.orU (hF.ev rfl) (hF.ev rfl) (dg_lt _ _) (dg_lt _ _)) fun a hF => ?_
  refine sv' hF (wn rfl) rfl rfl (R.indexA Try.underlying121 sz29 (hF.ev rfl) (hF.ev rfl) (by omega) (by omega)) fun a hF => ?_
  refine sv' hF (wn rfl) rfl rfl (R.load one29 (hF.ev rfl) hS (.t .h) (cells8_at (k := 6) (by simp) (by decide))) fun a hF => ?_
  refine sv' hF (wn rfl) rfl rfl (R.orU (hF.ev rfl) (hF.ev rfl) (or_u64 (dg_lt _ _) (dg_lt _ _)) (dg_lt _ _)) fun a hF => ?_
  refine sv' hF (wn rfl) rfl rfl (R.indexA Try.underlying121 sz29 (hF.ev rfl) (hF.ev rfl) (by omega) (by omega)) fun a hF => ?_
  refine sv' hF (wn rfl) rfl rfl (R.load one29 (hF.ev rfl) hS (.t .h) (cells8_at (k := 7) (by simp) (by decide))) fun a hF => ?_
  refine sv' hF (wn rfl) rfl rfl (R.orU (hF.ev rfl) (hF.ev rfl) (or_u64 (or_u64 (dg_lt _ _) (dg_lt _ _)) (dg_lt _ _)) (dg_lt _ _)) fun a hF => ?_
  refine sv' hF (wn rfl) rfl rfl (R.neq (hF.ev rfl) (hF.ev rfl)) fun a hF => ?_
  refine s0 ?_
  refine then_n (hK3 _ _ ?_)
  refine cD hF rfl (fun c1 => ?_) (fun c1 => ?_)
  ·
    have c1 := (narrow_law z hz).1 c1
    refine wp_seq_k fun K4 hK4 => ?_
    refine wp_region_lit ?_
    refine sv' hF (wn rfl) rfl rfl (R.buildArr (l := [_, _, _, _]) Try.underlying31 ze31 sz29 (hF.evp rfl) rfl) fun a hF => ?_
    refine so (wn rfl) (O.storeW sz31 (hF.ev rfl) (hF.ev rfl) (rfl) rfl (by simp [Value.oneCell']) hS .h (rfl) fun w hS => ?_)
    refine sv' hF (wn rfl) rfl rfl (R.assign (hF.ev rfl)) fun a hF => ?_
    refine s0 ?_
    refine then_n (hK4 _ _ ?_)
    refine wp_ret (then_r (hR _ _ _ _ _ hF (run_results Try.results94 (.cw hF rfl agg31 hS .h sz31 (rfl) (.t hF rfl (.nil)))) ?_))
    exact ⟨_, [], rfl, ⟨by simp only [if_neg c1]; rfl, rfl⟩, hS.none⟩
  ·
    have c1 := Classical.not_not.1 (fun h => c1 ((narrow_law z hz).2 h))
    refine wp_skip ?_
    refine then_n (hK2 _ _ ?_)
    refine wp_seq_k fun K5 hK5 => ?_
    refine wp_region_lit ?_
    refine sv' hF (wn rfl) rfl rfl (R.sliceArr Try.underlying121 sz29 (hF.ev rfl) (hF.ev rfl) (by decide) (by decide)) fun a hF => ?_
    refine sv' hF (wn rfl) rfl rfl (R.arrAt Try.underlying31 (hF.ev rfl) (by decide)) fun a hF => ?_
    refine sv' hF (wn rfl) rfl rfl (R.loadA (cs := wc z) agg31 (hF.ev rfl) hS (.t .h) sz31 rfl (wc_cells8 z)) fun a hF => ?_
    refine so (wn rfl) (O.storeW sz31 (hF.ev rfl) (hF.ev rfl) (rfl) rfl (by simp [Value.oneCell']) hS .h (rfl) fun w hS => ?_)
    refine sv' hF (wn rfl) rfl rfl (R.assign (hF.ev rfl)) fun a hF => ?_
    refine s0 ?_
    refine then_n (hK5 _ _ ?_)
    refine wp_ret (hR _ _ _ _ _ hF (run_results Try.results94 (.cw hF rfl agg31 hS .h sz31 (rfl) (.t hF rfl (.nil)))) ?_)
    exact ⟨_, [], rfl, ⟨by simp only [if_pos c1]; rfl, rfl⟩, hS.none⟩

def mulW (x y : Nat) : Value := .tuple #[wv (if x * y < 115792089237316195423570985008687907853269984665640564039457584007913129639936 then x * y else 0), .int .i64 (if x * y < 115792089237316195423570985008687907853269984665640564039457584007913129639936 then 0 else 22)]
theorem mul_512 {x y : Nat} (hx : x < 115792089237316195423570985008687907853269984665640564039457584007913129639936) (hy : y < 115792089237316195423570985008687907853269984665640564039457584007913129639936) : x * y < 13407807929942597099574024998205846127479365820592393377723561443721764030073546976801874298166903427690031858186486050853753882811946569946433649006084096 := by
  have h1 : x * y ≤ x * 115792089237316195423570985008687907853269984665640564039457584007913129639936 := Nat.mul_le_mul_left _ (by omega)
  omega

theorem mul_calls (x y : Nat) (w0 : World) (hx : x < 115792089237316195423570985008687907853269984665640564039457584007913129639936) (hy : y < 115792089237316195423570985008687907853269984665640564039457584007913129639936) : Ret Try.prog 83 [wv x, wv y] w0 [] (fun v s => v = mulW x y ∧ s = []) := by
  refine fn_start Try.func83 rfl Try.ntmps83 rfl [(0, wv x), (1, wv y)] ⟨rfl, rfl, trivial⟩ ?_
  intro Q a hP hF hR hN
  have hS := St.start w0
  refine wp_seq_k fun K1 hK1 => ?_
  refine wp_region_lit ?_
  refine so (wn rfl) (O.box rfl rfl hF (hF.ev rfl) rfl hS fun b2 a w hF hS => ?_)
  refine so (wn rfl) (O.box rfl rfl hF (hF.ev rfl) rfl hS fun b3 a w hF hS => ?_)
  refine so (wn rfl) (O.alloc rfl rfl hF ze31 rfl hS fun b4 a w hF hS => ?_)
  refine sv' hF (wn rfl) rfl rfl (R.assign (hF.ev rfl)) fun a hF => ?_
  refine s0 ?_
  refine then_n (hK1 _ _ ?_)
  refine wp_seq_k fun K2 hK2 => ?_
  refine wp_region_lit ?_
  refine sv' hF (wn rfl) rfl rfl (R.loadW agg31 (hF.ev rfl) hS (.t (.t .h)) sz31 (rfl)) fun a hF => ?_
  refine sv' hF (wn rfl) rfl rfl (R.loadW agg31 (hF.ev rfl) hS (.t .h) sz31 (rfl)) fun a hF => ?_
  refine so (wn rfl) (O.call rfl rfl hF ent95 (hF.evs rfl) hS (product_calls x y _ hx hy) fun v s8 a w hR hF hS => ?_)
  obtain ⟨rfl, rfl⟩ := hR
  refine so (wn rfl) (O.call rfl rfl hF ent94 (hF.evs rfl) hS (narrow_calls (x * y) _ (mul_512 hx hy)) fun v s9 a w hR hF hS => ?_)
  obtain ⟨rfl, rfl⟩ := hR
  refine sv' hF (wn rfl) rfl rfl (R.extract (hF.ev rfl) rfl) fun a hF => ?_
  refine sv' hF (wn rfl) rfl rfl (R.extract (hF.ev rfl) rfl) fun a hF => ?_
  refine so (wn rfl) (O.storeW sz31 (hF.ev rfl) (hF.ev rfl) (rfl) rfl (by simp [Value.oneCell']) hS (.t (.t .h)) (rfl) fun w hS => ?_)
  refine sv' hF (wn rfl) rfl rfl (R.assign (hF.ev rfl)) fun a hF => ?_
  refine s0 ?_
  refine then_n (hK2 _ _ ?_)
  refine wp_ret (hR _ _ _ _ _ hF (run_results Try.results83 (.cw hF rfl agg31 hS (.t (.t .h)) sz31 (rfl) (.t hF rfl (.nil)))) ?_)
  exact ⟨_, [], rfl, ⟨rfl, rfl⟩, hS.none⟩

end Go.Proofs.Ytlapmbkfmbkdoaa

/- Products of binary digits. No condition beyond each lemma's own. -/
namespace Go.Fw
open Go.RowKit
def valF (f : Nat → Nat) : Nat → Nat
  | 0 => 0
  | n + 1 => valF f n + f n * 2 ^ n
def intsF (n : Nat) (f : Nat → Nat) : List Value := ints ((List.range n).map f)
theorem val_range (f : Nat → Nat) : ∀ n, val ((List.range n).map f) = valF f n
  | 0 => rfl
  | n + 1 => by rw [List.range_succ, List.map_append, List.map_singleton, val_snoc, val_range f n, valF]; simp; grind
theorem valF_upd (f : Nat → Nat) (k v : Nat) : ∀ n, valF (upd8 f k v) n + (if k < n then f k * 2 ^ k else 0) = valF f n + (if k < n then v * 2 ^ k else 0)
  | 0 => by simp [valF]
  | n + 1 => by
    have ih := valF_upd f k v n
    simp only [valF]
    by_cases h : n = k
    · subst h
      rw [if_pos (by omega), if_pos (by omega)]
      rw [if_neg (by omega), if_neg (by omega)] at ih
      have : upd8 f n v n = v := by simp [upd8]
      rw [this]; omega
    · have : upd8 f k v n = f n := by simp [upd8, h]
      rw [this]
      by_cases h2 : k < n
      · rw [if_pos (by omega), if_pos (by omega)]
        rw [if_pos h2, if_pos h2] at ih
        omega
      · rw [if_neg (by omega), if_neg (by omega)]
        rw [if_neg h2, if_neg h2] at ih
        omega
theorem valF_0 : ∀ n, valF (fun _ => 0) n = 0
  | 0 => rfl
  | n + 1 => by simp [valF, valF_0 n]
theorem length_intsF (n : Nat) (f : Nat → Nat) : (intsF n f).length = n := by simp [intsF, ints]
theorem intsF_at {n : Nat} {f : Nat → Nat} {k off : Nat} (ho : off = k) (h : k < n) : (intsF n f)[off]? = some (.int .i64 ((f k : Nat) : Int)) := by
  subst ho; simp [intsF, ints, h]
theorem intsF_set {n : Nat} {f : Nat → Nat} {k off v : Nat} {u : Value} (ho : off = k) (hu : u = .int .i64 ((v : Nat) : Int)) : (intsF n f).set off u = intsF n (upd8 f k v) := by
  subst ho hu
  apply List.ext_getElem?
  intro m
  rw [List.getElem?_set]
  simp only [intsF, ints, List.length_map, List.length_range, List.getElem?_map]
  by_cases hm : m < n
  · rw [List.getElem?_range hm]
    by_cases e : off = m
    · subst e; simp [hm, upd8]
    · simp [e, upd8, Ne.symm e]
  · by_cases e : off = m
    · subst e; simp [hm]
    · simp [e, List.getElem?_eq_none (l := List.range n) (i := m) (by simpa using hm)]
theorem zeros_intsF (n : Nat) : zeros [.int .i64 0] n = intsF n (fun _ => 0) := by rw [zeros_1]; simp [intsF, ints, List.map_const']
/-- one bit of b in the row of a's bit i -/
theorem times_step {f : Nat → Nat} {N i j a b : Nat} (hN : i + j < N) (inv : valF f N = a % 2 ^ i * b + (b % 2 ^ j) * 2 ^ i) :
    valF (upd8 f (i + j) (f (i + j) + bit b j)) N = a % 2 ^ i * b + (b % 2 ^ (j + 1)) * 2 ^ i := by
  have h := valF_upd f (i + j) (f (i + j) + bit b j) N
  rw [if_pos hN, if_pos hN] at h
  rw [mod_pow_succ b j, Nat.add_mul, Nat.pow_add] at *
  have e : (2 ^ j * bit b j) * 2 ^ i = bit b j * (2 ^ i * 2 ^ j) := by grind
  rw [e]
  omega
theorem times_row1 {a b i m : Nat} (hb : b < 2 ^ m) (h1 : bit a i = 1) : a % 2 ^ i * b + (b % 2 ^ m) * 2 ^ i = a % 2 ^ (i + 1) * b := by
  rw [mod_pow_succ a i, h1, Nat.mod_eq_of_lt hb]; grind
theorem times_row0 {a b i : Nat} (h0 : bit a i = 0) : a % 2 ^ i * b = a % 2 ^ (i + 1) * b := by
  rw [mod_pow_succ a i, h0]; simp
/-- a carry -/
theorem carry_step {f : Nat → Nat} {N k : Nat} (hk : k + 1 < N) : valF (upd8 (upd8 f (k + 1) (f (k + 1) + f k / 2)) k (f k % 2)) N = valF f N := by
  have h1 := valF_upd f (k + 1) (f (k + 1) + f k / 2) N
  have h2 := valF_upd (upd8 f (k + 1) (f (k + 1) + f k / 2)) k (f k % 2) N
  rw [if_pos hk, if_pos hk] at h1
  rw [if_pos (by omega), if_pos (by omega)] at h2
  have e : upd8 f (k + 1) (f (k + 1) + f k / 2) k = f k := by simp [upd8]
  rw [e] at h2
  rw [Nat.add_mul, Nat.pow_succ] at h1
  have h3 : f k * 2 ^ k = (f k % 2) * 2 ^ k + (f k / 2) * (2 ^ k * 2) := by
    have := Nat.mod_add_div (f k) 2
    generalize f k % 2 = r at *
    generalize f k / 2 = q at *
    rw [← this]; grind
  omega
theorem valF_ge (f : Nat → Nat) (n : Nat) : f n * 2 ^ n ≤ valF f (n + 1) := by simp only [valF]; omega
end Go.Fw
namespace Go.Fw
theorem times_end {f : Nat → Nat} {x y k : Nat} (hk : k = (bl x).length + (bl y).length) (hv : valF f (k + 1) = x * y) (hf : ∀ m, m < k → f m ≤ 1) : Bits ((List.range (k + 1)).map f) ∧ val ((List.range (k + 1)).map f) = x * y := by
  refine ⟨?_, by rw [val_range, hv]⟩
  have h1 : x < 2 ^ (bl x).length := (length_bl_lt x _).1 (Nat.le_refl _)
  have h2 : y < 2 ^ (bl y).length := (length_bl_lt y _).1 (Nat.le_refl _)
  have h3 : x * y < 2 ^ k := by
    rw [hk, Nat.pow_add]
    exact Nat.mul_lt_mul_of_lt_of_le h1 (Nat.le_of_lt h2) (Nat.pow_pos (by decide))
  have h4 := valF_ge f k
  rw [hv] at h4
  have h5 : f k = 0 := by
    rcases Nat.eq_zero_or_pos (f k) with h | h
    · exact h
    · have : 1 * 2 ^ k ≤ f k * 2 ^ k := Nat.mul_le_mul_right _ h
      omega
  intro b hb
  obtain ⟨m, hm, rfl⟩ := List.mem_map.1 hb
  have := List.mem_range.1 hm
  by_cases e : m = k
  · subst e; omega
  · exact hf m (by omega)
end Go.Fw

/- The calls of the reference's product. -/
namespace Go.Proofs.Ytlapmbkfmbkdoaa
open Go Go.Fw Go.RowKit
attribute [local irreducible] Go.Oper.wp Go.Code.wp Go.wpList Go.Fw.WL Go.Calls
theorem own_fullN {f : Nat → Nat} (b : Nat) {n : Nat} (h : n ≤ 9223372036854775807) : OwnS [(b, Cel (intsF n f) 3)] (some ⟨b, 0, none⟩) n n (ints ((List.range n).map f)) 3 1 := by
  have := own_full b ((List.range n).map f) (by simpa using h)
  simpa [intsF] using this

end Go.Proofs.Ytlapmbkfmbkdoaa

/- Numbers part by part from the top; a scope through which no goto goes. No condition beyond each lemma's own. -/
namespace Go.Fw
open Go.RowKit
theorem div_dg (x k : Nat) (h : 0 < k) : x / 18446744073709551616 ^ (k - 1) = 18446744073709551616 * (x / 18446744073709551616 ^ k) + dg x (k - 1) := by
  obtain ⟨m, rfl⟩ : ∃ m, k = m + 1 := ⟨k - 1, by omega⟩
  simp only [Nat.add_sub_cancel, dg, Nat.pow_succ, ← Nat.div_div_eq_div_mul]
  omega
theorem lt_of_dg {x y k : Nat} (h : 0 < k) (he : x / 18446744073709551616 ^ k = y / 18446744073709551616 ^ k) (hl : dg x (k - 1) < dg y (k - 1)) : x < y := by
  have h1 := div_dg x k h
  have h2 := div_dg y k h
  rw [he] at h1
  exact Nat.lt_of_not_le fun hle => by
    have := Nat.div_le_div_right (c := 18446744073709551616 ^ (k - 1)) hle
    omega
theorem same_dg {x y k : Nat} (h : 0 < k) (he : x / 18446744073709551616 ^ k = y / 18446744073709551616 ^ k) (hl : dg x (k - 1) = dg y (k - 1)) : x / 18446744073709551616 ^ (k - 1) = y / 18446744073709551616 ^ (k - 1) := by
  rw [div_dg x k h, div_dg y k h, he, hl]
theorem wc_dn (x k : Nat) (h0 : 0 < k) (h : k ≤ 4) : (wc x)[0 + ((k : Nat) - 1 : Int).toNat * 1]? = some (.int .u64 ((dg x (k - 1) : Nat) : Int)) := by
  have : k = 1 ∨ k = 2 ∨ k = 3 ∨ k = 4 := by omega
  rcases this with rfl | rfl | rfl | rfl <;> rfl
section
variable {Q : Exit → Act → World → Prop} {a : Act} {w : World}
theorem sc_n (h : Q .normal a w) : Exit.noGoto Q .normal a w := h
theorem sc_x {id : Nat} (h : Q (.exit id) a w) : Exit.noGoto Q (.exit id) a w := h
theorem sc_r (h : Q .ret a w) : Exit.noGoto Q .ret a w := h
theorem PanicOk.noGoto (h : PanicOk Q) : PanicOk (Exit.noGoto Q) := fun c a d v w hh => h c a d v w hh
end
end Go.Fw

/- The calls of wide.Cmp, divided, Div. -/
namespace Go.Proofs.Ytlapmbkfmbkdoaa
open Go Go.Fw Go.RowKit
attribute [local irreducible] Go.Oper.wp Go.Code.wp Go.wpList Go.Fw.WL Go.Calls
theorem cmp_calls (x y : Nat) (w0 : World) (hx : x < 115792089237316195423570985008687907853269984665640564039457584007913129639936) (hy : y < 115792089237316195423570985008687907853269984665640564039457584007913129639936) : Ret Try.prog 86 [wv x, wv y] w0 [] (fun v s => v = .int .i64 (cmpN x y) ∧ s = []) := by
  refine fn_start Try.func86 rfl Try.ntmps86 rfl [(0, wv x), (1, wv y)] ⟨rfl, rfl, trivial⟩ ?_
  intro Q a hP hF hR hN
  have hS := St.start w0
  refine wp_seq_k fun K1 hK1 => ?_
  refine wp_region_lit ?_
  refine so (wn rfl) (O.box rfl rfl hF (hF.ev rfl) rfl hS fun b2 a w hF hS => ?_)
  refine so (wn rfl) (O.box rfl rfl hF (hF.ev rfl) rfl hS fun b3 a w hF hS => ?_)
  refine sv' hF (wn rfl) rfl rfl (R.assign (hF.ev rfl)) fun a hF => ?_
  refine s0 ?_
  refine then_n (hK1 _ _ ?_)
  refine wp_seq_k fun K2 hK2 => ?_
  refine wp_seq_k fun K3 hK3 => ?_
  refine wp_region_lit ?_
  refine sv' hF (wn rfl) rfl rfl (R.assign (hF.ev rfl)) fun a hF => ?_
  refine s0 ?_
  refine then_n (hK3 _ _ ?_)
  refine wp_block ?_
  refine wp_loop_N (fun g a w => ∃ (k : Nat), k = g ∧ Fr 26 [(2, .pointer (some ⟨b2, 0, none⟩)), (3, .pointer (some ⟨b3, 0, none⟩)), (5, .int .i64 ((k : Nat) - 1 : Int))] a ∧ St w0 [] [[(b3, Cel (wc y) 31)], [(b2, Cel (wc x) 31)]] w ∧ (k ≤ 4) ∧ (x / 18446744073709551616 ^ k = y / 18446744073709551616 ^ k)) (4) ?_ ?_
  · exact ⟨4, rfl, hF.sub ⟨rfl, rfl, rfl, trivial⟩, hS.sel [0, 1] rfl rfl, by omega, by rw [Nat.div_eq_of_lt (by simpa using hx), Nat.div_eq_of_lt (by simpa using hy)]⟩
  · rintro KL1 g a w ⟨k, hg1, hF, hS, hk, he⟩ hKL1
    refine wp_seq_k fun K4 hK4 => ?_
    refine wp_seq_k fun K5 hK5 => ?_
    refine wp_region_lit ?_
    refine sv' hF (wn rfl) rfl rfl (R.move (hF.ev rfl)) fun a hF => ?_
    refine sv' hF (wn rfl) rfl rfl (R.geq (hF.ev rfl) (hF.ev rfl)) fun a hF => ?_
    refine s0 ?_
    refine then_n (hK5 _ _ ?_)
    refine cD hF rfl (fun c1 => ?_) (fun c1 => ?_)
    ·
      refine wp_skip ?_
      refine then_n (hK4 _ _ ?_)
      refine wp_seq_k fun K6 hK6 => ?_
      refine wp_block ?_
      refine wp_block ?_
      refine wp_seq_k fun K7 hK7 => ?_
      refine wp_drawS hS [(0, 0), (1, 0), (2, 1), (3, 0), (4, 0), (5, 1), (6, 0), (7, 0)] mix (by kernel_rfl) (hP.then.block.then.then.block.block.then) fun w hS => ?_
      have hD := hS
      refine dq hF rfl (wn rfl) rfl rfl (fun w => R.move (hF.ev rfl)) fun a hF => ?_
      refine dq hF rfl (wn rfl) rfl rfl (fun w => R.indexA Try.underlying31 sz29 (hF.ev rfl) (hF.ev rfl) (by omega) (by omega)) fun a hF => ?_
      refine dr hF rfl (wn rfl) rfl rfl hD (fun w hD => R.load one29 (hF.ev rfl) hD (.t .h) (wc_dn x k (by omega) hk)) fun a hF => ?_
      refine dq hF rfl (wn rfl) rfl rfl (fun w => R.move (hF.ev rfl)) fun a hF => ?_
      refine dq hF rfl (wn rfl) rfl rfl (fun w => R.indexA Try.underlying31 sz29 (hF.ev rfl) (hF.ev rfl) (by omega) (by omega)) fun a hF => ?_
      refine dr hF rfl (wn rfl) rfl rfl hD (fun w hD => R.load one29 (hF.ev rfl) hD .h (wc_dn y k (by omega) hk)) fun a hF => ?_
      refine dq hF rfl (wn rfl) rfl rfl (fun w => R.lss (hF.ev rfl) (hF.ev rfl)) fun a hF => ?_
      refine dq hF rfl (wn rfl) rfl rfl (fun w => R.assign (hF.ev rfl)) fun a hF => ?_
      refine d0 ?_
      refine then_n (hK7 _ _ ?_)
      refine cD hF rfl (fun c2 => ?_) (fun c2 => ?_)
      ·
        have e : x < y := lt_of_dg (by omega) he (by omega)
        refine wp_seq_k fun K8 hK8 => ?_
        refine wp_region_lit ?_
        refine sv' hF (wn rfl) rfl rfl (R.assign (hF.ev rfl)) fun a hF => ?_
        refine s0 ?_
        refine then_n (hK8 _ _ ?_)
        refine wp_ret (blk_r (blk_r (then_r (then_r (blk_r (then_r (hR _ _ _ _ _ hF (run_results Try.results86 (.t hF rfl (.nil))) ?_)))))))
        exact ⟨_, [], rfl, ⟨by simp only [cmpN, if_pos e]; rfl, rfl⟩, hS.none⟩
      ·
        refine wp_seq_k fun K9 hK9 => ?_
        refine wp_drawS hS [(0, 0), (1, 0), (2, 1), (3, 0), (4, 0), (5, 1), (6, 0), (7, 0)] mix (by kernel_rfl) (hP.then.block.then.then.block.block.then) fun w hS => ?_
        have hD := hS
        refine dq hF rfl (wn rfl) rfl rfl (fun w => R.move (hF.ev rfl)) fun a hF => ?_
        refine dq hF rfl (wn rfl) rfl rfl (fun w => R.indexA Try.underlying31 sz29 (hF.ev rfl) (hF.ev rfl) (by omega) (by omega)) fun a hF => ?_
        refine dr hF rfl (wn rfl) rfl rfl hD (fun w hD => R.load one29 (hF.ev rfl) hD (.t .h) (wc_dn x k (by omega) hk)) fun a hF => ?_
        refine dq hF rfl (wn rfl) rfl rfl (fun w => R.move (hF.ev rfl)) fun a hF => ?_
        refine dq hF rfl (wn rfl) rfl rfl (fun w => R.indexA Try.underlying31 sz29 (hF.ev rfl) (hF.ev rfl) (by omega) (by omega)) fun a hF => ?_
        refine dr hF rfl (wn rfl) rfl rfl hD (fun w hD => R.load one29 (hF.ev rfl) hD .h (wc_dn y k (by omega) hk)) fun a hF => ?_
        refine dq hF rfl (wn rfl) rfl rfl (fun w => R.gtr (hF.ev rfl) (hF.ev rfl)) fun a hF => ?_
        refine dq hF rfl (wn rfl) rfl rfl (fun w => R.assign (hF.ev rfl)) fun a hF => ?_
        refine d0 ?_
        refine then_n (hK9 _ _ ?_)
        refine cD hF rfl (fun c3 => ?_) (fun c3 => ?_)
        ·
          have e : y < x := lt_of_dg (by omega) he.symm (by omega)
          refine wp_seq_k fun K10 hK10 => ?_
          refine wp_region_lit ?_
          refine sv' hF (wn rfl) rfl rfl (R.assign (hF.ev rfl)) fun a hF => ?_
          refine s0 ?_
          refine then_n (hK10 _ _ ?_)
          refine wp_ret (blk_r (blk_r (then_r (then_r (blk_r (then_r (hR _ _ _ _ _ hF (run_results Try.results86 (.t hF rfl (.nil))) ?_)))))))
          exact ⟨_, [], rfl, ⟨by simp only [cmpN, if_pos e, if_neg (show ¬ x < y by omega)]; rfl, rfl⟩, hS.none⟩
        ·
          refine wp_skip ?_
          refine blk_n ?_
          refine blk_n ?_
          refine then_n (hK6 _ _ ?_)
          refine wp_region_lit ?_
          refine sv' hF (wn rfl) rfl rfl (R.move (hF.ev rfl)) fun a hF => ?_
          refine sv' hF (wn rfl) rfl rfl (R.subI (hF.ev rfl) (hF.ev rfl) (by omega)) fun a hF => ?_
          refine sv' hF (wn rfl) rfl rfl (R.assign (hF.ev rfl)) fun a hF => ?_
          refine s0 ?_
          refine then_n (hKL1 (k - 1) _ _ ?_ ?_)
          · omega
          · exact ⟨k - 1, rfl, hF.sub ⟨rfl, rfl, (congrArg (fun z => some (Value.int .i64 z)) (by omega)), trivial⟩, hS.sel [0, 1] rfl rfl, by omega, same_dg (by omega) he (by omega)⟩
    ·
      obtain rfl : k = 0 := by omega
      have e : x = y := by simpa using he
      refine wp_exit (then_x (then_x (blk_hit ?_)))
      refine then_n (hK2 _ _ ?_)
      refine wp_seq_k fun K11 hK11 => ?_
      refine wp_region_lit ?_
      refine sv' hF (wn rfl) rfl rfl (R.assign (hF.ev rfl)) fun a hF => ?_
      refine s0 ?_
      refine then_n (hK11 _ _ ?_)
      refine wp_ret (hR _ _ _ _ _ hF (run_results Try.results86 (.t hF rfl (.nil))) ?_)
      exact ⟨_, [], rfl, ⟨by subst e; simp only [cmpN, Nat.lt_irrefl, if_false]; rfl, rfl⟩, hS.none⟩

end Go.Proofs.Ytlapmbkfmbkdoaa

/- Division bit by bit, in parts of 64 bits. No condition beyond each lemma's own. -/
namespace Go.Fw
open Go.RowKit
def cells4 (f : Nat → Nat) : List Value := (List.range 4).map fun k => .int .u64 ((f k : Nat) : Int)
theorem cells4_dg (x : Nat) : cells4 (dg x) = wc x := rfl
theorem length_cells4 (f : Nat → Nat) : (cells4 f).length = 4 := by simp [cells4]
theorem cells4_at {f : Nat → Nat} {k off : Nat} (ho : off = k) (h : k < 4) : (cells4 f)[off]? = some (.int .u64 ((f k : Nat) : Int)) := by
  subst ho; unfold cells4; rw [List.getElem?_map, List.getElem?_range h]; rfl
theorem cells4_set {f : Nat → Nat} {k off v : Nat} (ho : off = k) : (cells4 f).set off (.int .u64 ((v : Nat) : Int)) = cells4 (upd8 f k v) := by
  subst ho
  apply List.ext_getElem?
  intro m
  rw [List.getElem?_set]
  simp only [cells4, List.length_map, List.length_range, List.getElem?_map]
  by_cases hm : m < 4
  · rw [List.getElem?_range hm]
    by_cases e : off = m
    · subst e; simp [hm, upd8]
    · simp [e, upd8, Ne.symm e]
  · by_cases e : off = m
    · subst e; simp [hm]
    · simp [e, List.getElem?_eq_none (l := List.range 4) (i := m) (by simpa using hm)]
theorem cells4_congr {f g : Nat → Nat} (h : ∀ k, k < 4 → f k = g k) : cells4 f = cells4 g := by
  unfold cells4
  refine List.map_congr_left fun k hk => ?_
  rw [h k (by simpa using hk)]
theorem cells8_congr {f g : Nat → Nat} (h : ∀ k, k < 8 → f k = g k) : cells8 f = cells8 g := by
  unfold cells8
  refine List.map_congr_left fun k hk => ?_
  rw [h k (by simpa using hk)]

/-! ### shifts -/
theorem or_even {x c : Nat} (hx : x % 2 = 0) (hc : c ≤ 1) : x ||| c = x + c := by
  obtain ⟨h, rfl⟩ : ∃ h, x = 2 ^ 1 * h := ⟨x / 2, by omega⟩
  exact (Nat.two_pow_add_eq_or_of_lt (by omega) h).symm
theorem dg_dbl (L k : Nat) (h : 0 < k) : dg (2 * L) k = (dg L k * 2 ^ 1 % 18446744073709551616) ||| (dg L (k - 1) / 2 ^ 63) := by
  have e63 : (2 : Nat) ^ 63 = 9223372036854775808 := by decide
  have hr := dg_lt L (k - 1)
  rw [or_even (by omega) (by rw [e63]; omega), e63]
  have h1 := div_dg L k h
  obtain ⟨m, rfl⟩ : ∃ m, k = m + 1 := ⟨k - 1, by omega⟩
  simp only [Nat.add_sub_cancel] at h1 hr ⊢
  have h2 : dg L (m + 1) = L / 18446744073709551616 ^ (m + 1) % 18446744073709551616 := rfl
  have h3 : dg (2 * L) (m + 1) = 2 * L / 18446744073709551616 ^ m / 18446744073709551616 % 18446744073709551616 := by
    unfold dg; rw [Nat.pow_succ, Nat.div_div_eq_div_mul]
  rw [h2, h3]
  have hp : 0 < 18446744073709551616 ^ m := Nat.pow_pos (by decide)
  have h4 : 2 * L / 18446744073709551616 ^ m = 2 * (L / 18446744073709551616 ^ m) + 2 * (L % 18446744073709551616 ^ m) / 18446744073709551616 ^ m := by
    have := Nat.div_add_mod L (18446744073709551616 ^ m)
    generalize L / 18446744073709551616 ^ m = q at *
    have h5 : L % 18446744073709551616 ^ m = L % 18446744073709551616 ^ m := rfl
    generalize hr : L % 18446744073709551616 ^ m = r at *
    generalize 18446744073709551616 ^ m = p at *
    rw [← this, show 2 * (p * q + r) = 2 * r + p * (2 * q) from by grind, Nat.add_mul_div_left _ _ hp]
    omega
  have h6 : 2 * (L % 18446744073709551616 ^ m) / 18446744073709551616 ^ m ≤ 1 := by
    have := Nat.mod_lt L hp
    have : 2 * (L % 18446744073709551616 ^ m) / 18446744073709551616 ^ m < 2 := by rw [Nat.div_lt_iff_lt_mul hp]; omega
    omega
  rw [h4, h1]
  generalize 2 * (L % 18446744073709551616 ^ m) / 18446744073709551616 ^ m = c at *
  generalize L / 18446744073709551616 ^ (m + 1) = U at *
  generalize dg L m = r at *
  omega
theorem dg_dbl0 (L b : Nat) (hb : b ≤ 1) : dg (2 * L + b) 0 = (dg L 0 * 2 ^ 1 % 18446744073709551616) ||| b := by
  rw [or_even (by omega) hb, dg0, dg0]; omega
theorem dg_dblS (L b k : Nat) (hb : b ≤ 1) (h : 0 < k) : dg (2 * L + b) k = dg (2 * L) k := by
  obtain ⟨m, rfl⟩ : ∃ m, k = m + 1 := ⟨k - 1, by omega⟩
  unfold dg
  rw [Nat.pow_succ, Nat.mul_comm (18446744073709551616 ^ m) 18446744073709551616, ← Nat.div_div_eq_div_mul, ← Nat.div_div_eq_div_mul]
  congr 2
  omega
theorem top_dbl (L : Nat) (hL : L < 115792089237316195423570985008687907853269984665640564039457584007913129639936) : dg L 3 / 2 ^ 63 = if 2 * L < 115792089237316195423570985008687907853269984665640564039457584007913129639936 then 0 else 1 := by
  rw [dg3]
  have e63 : (2 : Nat) ^ 63 = 9223372036854775808 := by decide
  rw [e63]
  split <;> omega
/-- what stands in the shifted number, the parts above k done -/
def shl4 (L k : Nat) : Nat → Nat := fun m => if k < m then dg (2 * L) m else dg L m
theorem shl4_3 (L : Nat) : cells4 (shl4 L 3) = wc L := cells4_congr fun k hk => by unfold shl4; rw [if_neg (by omega)]
theorem shl4_step (L k : Nat) (h : 0 < k) : upd8 (shl4 L k) k ((shl4 L k k * 2 ^ 1 % 18446744073709551616) ||| (shl4 L k (k - 1) / 2 ^ 63)) = shl4 L (k - 1) := by
  have e1 : shl4 L k k = dg L k := by unfold shl4; rw [if_neg (by omega)]
  have e2 : shl4 L k (k - 1) = dg L (k - 1) := by unfold shl4; rw [if_neg (by omega)]
  rw [e1, e2, ← dg_dbl L k h]
  funext m
  unfold upd8 shl4
  by_cases hm : m = k
  · subst hm; rw [if_pos rfl, if_pos (by omega)]
  · rw [if_neg hm]
    by_cases h2 : k < m
    · rw [if_pos h2, if_pos (by omega)]
    · rw [if_neg h2, if_neg (by omega)]
theorem shl4_0 (L b : Nat) (hb : b ≤ 1) : cells4 (upd8 (shl4 L 0) 0 ((shl4 L 0 0 * 2 ^ 1 % 18446744073709551616) ||| b)) = wc (2 * L + b) := by
  have e1 : shl4 L 0 0 = dg L 0 := by unfold shl4; rw [if_neg (by omega)]
  rw [e1, ← dg_dbl0 L b hb, ← cells4_dg]
  refine cells4_congr fun k _ => ?_
  unfold upd8 shl4
  by_cases hk : k = 0
  · subst hk; rw [if_pos rfl]
  · rw [if_neg hk, if_pos (by omega), dg_dblS L b k hb (by omega)]
/-- what stands in a difference that is made in place, the parts below k done -/
def sub4 (x y k : Nat) : Nat → Nat := fun m => if m < k then dg (x + 115792089237316195423570985008687907853269984665640564039457584007913129639936 - y) m else dg x m
theorem sub4_0 (x y : Nat) : cells4 (sub4 x y 0) = wc x := cells4_congr fun k _ => by unfold sub4; rw [if_neg (by omega)]
theorem sub4_step (x y k : Nat) : upd8 (sub4 x y k) k (dg (x + 115792089237316195423570985008687907853269984665640564039457584007913129639936 - y) k) = sub4 x y (k + 1) := by
  funext m
  unfold upd8 sub4
  by_cases hm : m = k
  · subst hm; rw [if_pos rfl, if_pos (by omega)]
  · rw [if_neg hm]
    by_cases h2 : m < k
    · rw [if_pos h2, if_pos (by omega)]
    · rw [if_neg h2, if_neg (by omega)]
theorem sub4_4 (x y : Nat) : cells4 (sub4 x y 4) = wc (x + 115792089237316195423570985008687907853269984665640564039457584007913129639936 - y) := cells4_congr fun k hk => by unfold sub4; rw [if_pos hk]

/-! ### the quotient's bits -/
theorem or_bit {x k : Nat} (hx : x % 2 ^ (k + 1) = 0) : x ||| 2 ^ k = x + 2 ^ k := by
  have : x = 2 ^ (k + 1) * (x / 2 ^ (k + 1)) := by have := Nat.div_add_mod x (2 ^ (k + 1)); omega
  rw [this]
  exact (Nat.two_pow_add_eq_or_of_lt (Nat.pow_lt_pow_right (by decide) (by omega)) _).symm
theorem B_pow (i : Nat) : (18446744073709551616 : Nat) ^ i = 2 ^ (64 * i) := by
  rw [Nat.pow_mul]
theorem dg_qbit (a i k m : Nat) (hk : k < 64) : dg (a * 2 ^ (64 * i + k + 1) + 2 ^ (64 * i + k)) m = if m = i then dg (a * 2 ^ (64 * i + k + 1)) i ||| 2 ^ k else dg (a * 2 ^ (64 * i + k + 1)) m := by
  have hp : ∀ n : Nat, 0 < 2 ^ n := fun n => Nat.pow_pos (by decide)
  have e64 : (18446744073709551616 : Nat) = 2 ^ 64 := by decide
  have hdiv : a * 2 ^ (64 * i + k + 1) / 2 ^ (64 * i) = a * 2 ^ (k + 1) := by
    rw [show 64 * i + k + 1 = (k + 1) + 64 * i from by omega, Nat.pow_add, ← Nat.mul_assoc, Nat.mul_div_cancel _ (hp _)]
  have hdiv2 : (a * 2 ^ (64 * i + k + 1) + 2 ^ (64 * i + k)) / 2 ^ (64 * i) = a * 2 ^ (k + 1) + 2 ^ k := by
    have e1 : (2 : Nat) ^ (64 * i + k + 1) = 2 ^ (k + 1) * 2 ^ (64 * i) := by rw [← Nat.pow_add]; congr 1; omega
    have e2 : (2 : Nat) ^ (64 * i + k) = 2 ^ k * 2 ^ (64 * i) := by rw [← Nat.pow_add]; congr 1; omega
    rw [e1, e2, ← Nat.mul_assoc, ← Nat.add_mul, Nat.mul_div_cancel _ (hp _)]
  have hmod : (a * 2 ^ (k + 1)) % 2 ^ 64 % 2 ^ (k + 1) = 0 := by
    rw [Nat.mod_mod_of_dvd _ (Nat.pow_dvd_pow 2 (by omega)), Nat.mul_mod_left]
  have hlt : (a * 2 ^ (k + 1)) % 2 ^ 64 + 2 ^ k < 2 ^ 64 := by
    have h1 := Nat.mod_lt (a * 2 ^ (k + 1)) (hp 64)
    obtain ⟨t, ht⟩ : ∃ t, (2 : Nat) ^ 64 = 2 ^ (k + 1) * t := ⟨2 ^ (64 - (k + 1)), by rw [← Nat.pow_add]; congr 1; omega⟩
    obtain ⟨u, hu⟩ : ∃ u, (a * 2 ^ (k + 1)) % 2 ^ 64 = 2 ^ (k + 1) * u := ⟨_, by have := Nat.div_add_mod ((a * 2 ^ (k + 1)) % 2 ^ 64) (2 ^ (k + 1)); rw [hmod] at this; exact this.symm⟩
    rw [hu, ht] at h1 ⊢
    have hut : u < t := Nat.lt_of_mul_lt_mul_left h1
    have h2 : 2 ^ (k + 1) * (u + 1) ≤ 2 ^ (k + 1) * t := Nat.mul_le_mul_left _ hut
    have h3 : (2 : Nat) ^ k < 2 ^ (k + 1) := Nat.pow_lt_pow_right (by decide) (by omega)
    rw [Nat.mul_add, Nat.mul_one] at h2
    omega
  unfold dg
  rw [B_pow m, B_pow i, e64]
  by_cases hm : m = i
  · subst hm
    rw [if_pos rfl, hdiv, hdiv2, or_bit hmod, Nat.add_mod, Nat.mod_eq_of_lt (b := 2 ^ 64) (a := 2 ^ k) (Nat.pow_lt_pow_right (by decide) hk), Nat.mod_eq_of_lt hlt]
  · rw [if_neg hm]
    by_cases h2 : m < i
    · obtain ⟨s, rfl⟩ : ∃ s, i = m + 1 + s := ⟨i - (m + 1), by omega⟩
      have e1 : a * 2 ^ (64 * (m + 1 + s) + k + 1) = a * 2 ^ (64 * s + k + 1) * 2 ^ 64 * 2 ^ (64 * m) := by
        rw [Nat.mul_assoc, Nat.mul_assoc, ← Nat.pow_add, ← Nat.pow_add]; congr 2; omega
      have e2 : (2 : Nat) ^ (64 * (m + 1 + s) + k) = 2 ^ (64 * s + k) * 2 ^ 64 * 2 ^ (64 * m) := by
        rw [Nat.mul_assoc, ← Nat.pow_add, ← Nat.pow_add]; congr 1; omega
      rw [e1, e2, ← Nat.add_mul, Nat.mul_div_cancel _ (hp _), Nat.mul_div_cancel _ (hp _), ← Nat.add_mul, Nat.mul_mod_left, Nat.mul_mod_left]
    · obtain ⟨s, rfl⟩ : ∃ s, m = i + 1 + s := ⟨m - (i + 1), by omega⟩
      have e3 : (2 : Nat) ^ (64 * (i + 1 + s)) = 2 ^ (64 * i) * (2 ^ 64 * 2 ^ (64 * s)) := by
        rw [← Nat.pow_add, ← Nat.pow_add]; congr 1; omega
      have chain : ∀ Z : Nat, Z / (2 ^ (64 * i) * (2 ^ 64 * 2 ^ (64 * s))) = Z / 2 ^ (64 * i) / 2 ^ 64 / 2 ^ (64 * s) := fun Z => by rw [Nat.div_div_eq_div_mul, Nat.div_div_eq_div_mul]
      rw [e3, chain, chain, hdiv, hdiv2]
      congr 2
      have h4 := Nat.div_add_mod (a * 2 ^ (k + 1)) (2 ^ 64)
      generalize hX : a * 2 ^ (k + 1) = X at *
      rw [← h4, Nat.add_assoc, Nat.mul_add_div (hp 64), Nat.mul_add_div (hp 64), Nat.div_eq_of_lt hlt, Nat.div_eq_of_lt (Nat.mod_lt _ (hp 64))]
/-- one more bit of what is divided -/
theorem div_bit_step {H y b L : Nat} (hy : 0 < y) (hL : L = H % y) (hb : b ≤ 1) :
    (2 * L + b < y → (2 * H + b) / y = 2 * (H / y) ∧ (2 * H + b) % y = 2 * L + b) ∧
    (y ≤ 2 * L + b → (2 * H + b) / y = 2 * (H / y) + 1 ∧ (2 * H + b) % y = 2 * L + b - y) := by
  have h1 := Nat.div_add_mod H y
  have hlt := Nat.mod_lt H hy
  rw [← hL] at h1 hlt
  have e : 2 * H + b = (2 * L + b) + y * (2 * (H / y)) := by
    rw [show y * (2 * (H / y)) = 2 * (y * (H / y)) from by rw [Nat.mul_left_comm]]
    omega
  constructor
  · intro h
    rw [e, Nat.add_mul_div_left _ _ hy, Nat.div_eq_of_lt h, Nat.add_mul_mod_self_left, Nat.mod_eq_of_lt h]
    exact ⟨by omega, rfl⟩
  · intro h
    have e2 : (2 * L + b) + y * (2 * (H / y)) = (2 * L + b - y) + y * (2 * (H / y) + 1) := by rw [Nat.mul_add y _ 1]; omega
    have h2 : 2 * L + b - y < y := by omega
    rw [e, e2, Nat.add_mul_div_left _ _ hy, Nat.div_eq_of_lt h2, Nat.add_mul_mod_self_left, Nat.mod_eq_of_lt h2]
    exact ⟨by omega, rfl⟩
/-! ### the state of a division, all bits from P on done -/
def LL (D y P : Nat) : Nat := D / 2 ^ P % y
def QQ (D y P : Nat) : Nat := D / 2 ^ P / y * 2 ^ P
theorem LL_lt (D P : Nat) {y : Nat} (hy : 0 < y) : LL D y P < y := Nat.mod_lt _ hy
theorem LL_top {D y P : Nat} (h : D < 2 ^ P) : LL D y P = 0 := by simp [LL, Nat.div_eq_of_lt h]
theorem QQ_top {D y P : Nat} (h : D < 2 ^ P) : QQ D y P = 0 := by simp [QQ, Nat.div_eq_of_lt h]
theorem LL_0 (D y : Nat) : LL D y 0 = D % y := by simp [LL]
theorem QQ_0 (D y : Nat) : QQ D y 0 = D / y := by simp [QQ]
theorem div_next (D P : Nat) : D / 2 ^ P = 2 * (D / 2 ^ (P + 1)) + bit D P := by
  have := div_bit D (P + 1) (by omega)
  simpa using this
theorem LL_lo {D y P : Nat} (hy : 0 < y) (h : 2 * LL D y (P + 1) + bit D P < y) : LL D y P = 2 * LL D y (P + 1) + bit D P := by
  have := ((div_bit_step (H := D / 2 ^ (P + 1)) hy rfl (bit_le D P)).1 h).2
  unfold LL at *; rw [div_next D P]; exact this
theorem QQ_lo {D y P : Nat} (hy : 0 < y) (h : 2 * LL D y (P + 1) + bit D P < y) : QQ D y P = QQ D y (P + 1) := by
  have := ((div_bit_step (H := D / 2 ^ (P + 1)) hy rfl (bit_le D P)).1 h).1
  unfold QQ; rw [div_next D P, this, Nat.pow_succ]; grind
theorem LL_hi {D y P : Nat} (hy : 0 < y) (h : y ≤ 2 * LL D y (P + 1) + bit D P) : LL D y P = 2 * LL D y (P + 1) + bit D P - y := by
  have := ((div_bit_step (H := D / 2 ^ (P + 1)) hy rfl (bit_le D P)).2 h).2
  unfold LL at *; rw [div_next D P]; exact this
theorem QQ_hi {D y P : Nat} (hy : 0 < y) (h : y ≤ 2 * LL D y (P + 1) + bit D P) : QQ D y P = QQ D y (P + 1) + 2 ^ P := by
  have := ((div_bit_step (H := D / 2 ^ (P + 1)) hy rfl (bit_le D P)).2 h).1
  unfold QQ; rw [div_next D P, this, Nat.pow_succ]; grind
/-- a part that is nought where nothing is left -/
theorem skip_part {D y i : Nat} (hd : dg D i = 0) (hl : LL D y (64 * (i + 1)) = 0) : LL D y (64 * i) = 0 ∧ QQ D y (64 * i) = QQ D y (64 * (i + 1)) := by
  have h1 := div_dg D (i + 1) (by omega)
  simp only [Nat.add_sub_cancel, hd, Nat.add_zero, B_pow] at h1
  unfold LL QQ at *
  rw [h1]
  have h2 := Nat.div_add_mod (D / 2 ^ (64 * (i + 1))) y
  rw [hl, Nat.add_zero] at h2
  have e64 : (18446744073709551616 : Nat) = 2 ^ 64 := by decide
  by_cases hy : y = 0
  · subst hy
    simp only [Nat.mod_zero] at hl
    rw [hl]; simp
  · generalize D / 2 ^ (64 * (i + 1)) / y = q at *
    rw [← h2, ← Nat.mul_assoc, Nat.mul_comm 18446744073709551616 y, Nat.mul_assoc, Nat.mul_mod_right, Nat.mul_div_cancel_left _ (Nat.pos_of_ne_zero hy)]
    refine ⟨rfl, ?_⟩
    rw [e64, show 64 * (i + 1) = 64 + 64 * i from by omega, Nat.pow_add]
    generalize (2 : Nat) ^ 64 = u
    generalize (2 : Nat) ^ (64 * i) = v
    grind
end Go.Fw

/- The calls of divided. -/
namespace Go.Proofs.Ytlapmbkfmbkdoaa
open Go Go.Fw Go.RowKit
attribute [local irreducible] Go.Oper.wp Go.Code.wp Go.wpList Go.Fw.WL Go.Calls
theorem shl4_lt (L k m : Nat) : shl4 L k m < 18446744073709551616 := by unfold shl4; split <;> exact dg_lt _ _
theorem wc_mod (n : Nat) : wc (n % 115792089237316195423570985008687907853269984665640564039457584007913129639936) = wc n := by
  simp only [wc, dg0, dg1, dg2, dg3]
  have h0 : n % 115792089237316195423570985008687907853269984665640564039457584007913129639936 % 18446744073709551616 = n % 18446744073709551616 := by omega
  have h1 : n % 115792089237316195423570985008687907853269984665640564039457584007913129639936 / 18446744073709551616 % 18446744073709551616 = n / 18446744073709551616 % 18446744073709551616 := by omega
  have h2 : n % 115792089237316195423570985008687907853269984665640564039457584007913129639936 / 340282366920938463463374607431768211456 % 18446744073709551616 = n / 340282366920938463463374607431768211456 % 18446744073709551616 := by omega
  have h3 : n % 115792089237316195423570985008687907853269984665640564039457584007913129639936 / 6277101735386680763835789423207666416102355444464034512896 % 18446744073709551616 = n / 6277101735386680763835789423207666416102355444464034512896 % 18446744073709551616 := by omega
  rw [h0, h1, h2, h3]
theorem sub4_end (n y : Nat) (_hn : n < 2 * 115792089237316195423570985008687907853269984665640564039457584007913129639936) (hy : y < 115792089237316195423570985008687907853269984665640564039457584007913129639936) (h : y ≤ n) (_hl : n < 2 * y) : wc (n % 115792089237316195423570985008687907853269984665640564039457584007913129639936 + 115792089237316195423570985008687907853269984665640564039457584007913129639936 - y) = wc (n - y) := by
  have e : (n % 115792089237316195423570985008687907853269984665640564039457584007913129639936 + 115792089237316195423570985008687907853269984665640564039457584007913129639936 - y) % 115792089237316195423570985008687907853269984665640564039457584007913129639936 = (n - y) % 115792089237316195423570985008687907853269984665640564039457584007913129639936 := by omega
  rw [← wc_mod (n % 115792089237316195423570985008687907853269984665640564039457584007913129639936 + 115792089237316195423570985008687907853269984665640564039457584007913129639936 - y), ← wc_mod (n - y), e]
theorem p64 {k : Nat} (h : k < 64) : 2 ^ k < 18446744073709551616 := by
  have : (2 : Nat) ^ k < 2 ^ 64 := Nat.pow_lt_pow_right (by decide) h
  exact this
theorem pow_half (e : Nat) : (2 : Nat) ^ (e * 8) = 2 ^ (e * 4) * 2 ^ (e * 4) := by rw [← Nat.pow_add]; congr 1; omega
theorem pow512 : (2 : Nat) ^ (64 * 8) = 13407807929942597099574024998205846127479365820592393377723561443721764030073546976801874298166903427690031858186486050853753882811946569946433649006084096 := (pow_half 64).trans (by rw [show (2 : Nat) ^ (64 * 4) = 115792089237316195423570985008687907853269984665640564039457584007913129639936 from by decide])
theorem cmp_neg (x y : Nat) : cmpN x y < 0 ↔ x < y := by unfold cmpN; by_cases h1 : x < y <;> by_cases h2 : y < x <;> simp [h1, h2]
theorem bit_at (D i k : Nat) (hk : k < 64) : dg D i / 2 ^ k % 2 = bit D (64 * i + k) := by
  have := bit_dg D (64 * i + k)
  rw [show (64 * i + k) / 64 = i from by omega, show (64 * i + k) % 64 = k from by omega] at this
  exact this
theorem q_cells (a i k : Nat) (hk : k < 64) : cells8 (upd8 (dg (a * 2 ^ (64 * i + k + 1))) i (dg (a * 2 ^ (64 * i + k + 1)) i ||| 2 ^ k)) = cells8 (dg (a * 2 ^ (64 * i + k + 1) + 2 ^ (64 * i + k))) :=
  cells8_congr fun m _ => by rw [dg_qbit a i k m hk]; rfl

theorem divided_calls (D y : Nat) (w0 : World) (hD0 : D < 13407807929942597099574024998205846127479365820592393377723561443721764030073546976801874298166903427690031858186486050853753882811946569946433649006084096) (hy0 : 0 < y) (hy : y < 115792089237316195423570985008687907853269984665640564039457584007913129639936) : Ret Try.prog 96 [.agg (cells8 (dg D)).toArray, wv y] w0 [] (fun v s => v = .tuple #[.agg (cells8 (dg (D / y))).toArray, wv (D % y)] ∧ s = []) := by
  refine fn_start Try.func96 rfl Try.ntmps96 rfl [(0, .agg (cells8 (dg D)).toArray), (1, wv y)] ⟨rfl, rfl, trivial⟩ ?_
  intro Q a hP hF hR hN
  have hS := St.start w0
  refine wp_seq_k fun K1 hK1 => ?_
  refine wp_region_lit ?_
  refine so (wn rfl) (O.box rfl rfl hF (hF.ev rfl) rfl hS fun b2 a w hF hS => ?_)
  refine so (wn rfl) (O.box rfl rfl hF (hF.ev rfl) rfl hS fun b3 a w hF hS => ?_)
  refine so (wn rfl) (O.alloc rfl rfl hF ze121 rfl hS fun b4 a w hF hS => ?_)
  rw [show Cel [.int .u64 0, .int .u64 0, .int .u64 0, .int .u64 0, .int .u64 0, .int .u64 0, .int .u64 0, .int .u64 0] 121 = Cel (cells8 (dg 0)) 121 from rfl] at hS
  refine so (wn rfl) (O.alloc rfl rfl hF ze31 rfl hS fun b5 a w hF hS => ?_)
  rw [show Cel [.int .u64 0, .int .u64 0, .int .u64 0, .int .u64 0] 31 = Cel (wc 0) 31 from rfl] at hS
  refine s0 ?_
  refine then_n (hK1 _ _ ?_)
  refine wp_scope_straight ?_
  refine wp_seq_k fun K2 hK2 => ?_
  refine wp_region_lit ?_
  refine so (wn rfl) (O.alloc rfl rfl hF ze121 rfl hS fun b6 a w hF hS => ?_)
  rw [show Cel [.int .u64 0, .int .u64 0, .int .u64 0, .int .u64 0, .int .u64 0, .int .u64 0, .int .u64 0, .int .u64 0] 121 = Cel (cells8 (dg 0)) 121 from rfl] at hS
  refine s0 ?_
  refine then_n (hK2 _ _ ?_)
  refine wp_seq_k fun K3 hK3 => ?_
  refine wp_region_lit ?_
  refine so (wn rfl) (O.alloc rfl rfl hF ze31 rfl hS fun b7 a w hF hS => ?_)
  rw [show Cel [.int .u64 0, .int .u64 0, .int .u64 0, .int .u64 0] 31 = Cel (wc 0) 31 from rfl] at hS
  refine s0 ?_
  refine then_n (hK3 _ _ ?_)
  refine wp_seq_k fun K4 hK4 => ?_
  refine wp_label ?_
  refine then_n (hK4 _ _ ?_)
  refine wp_seq_k fun K5 hK5 => ?_
  refine wp_seq_k fun K6 hK6 => ?_
  refine wp_region_lit ?_
  refine sv' hF (wn rfl) rfl rfl (R.assign (hF.ev rfl)) fun a hF => ?_
  refine s0 ?_
  refine then_n (hK6 _ _ ?_)
  refine wp_block ?_
  refine wp_loop_N (fun g a w => ∃ (p : Nat), p = g ∧ Fr 95 [(2, .pointer (some ⟨b2, 0, none⟩)), (3, .pointer (some ⟨b3, 0, none⟩)), (4, .pointer (some ⟨b4, 0, none⟩)), (5, .pointer (some ⟨b5, 0, none⟩)), (6, .pointer (some ⟨b6, 0, none⟩)), (7, .pointer (some ⟨b7, 0, none⟩)), (8, .int .i64 ((p : Nat) - 1 : Int))] a ∧ St w0 [] [[(b7, Cel (wc (LL D y (64 * p))) 31)], [(b6, Cel (cells8 (dg (QQ D y (64 * p)))) 121)], [(b5, Cel (wc 0) 31)], [(b4, Cel (cells8 (dg (0))) 121)], [(b3, Cel (wc y) 31)], [(b2, Cel (cells8 (dg (D))) 121)]] w ∧ (p ≤ 8)) (8) ?_ ?_
  · exact ⟨8, rfl, hF.sub ⟨rfl, rfl, rfl, rfl, rfl, rfl, rfl, trivial⟩, hS.sel [0, 1, 2, 3, 4, 5] rfl (by rw [LL_top (show D < 2 ^ (64 * 8) from pow512 ▸ hD0), QQ_top (show D < 2 ^ (64 * 8) from pow512 ▸ hD0)]; rfl), by omega⟩
  · rintro KL1 g a w ⟨p, hg1, hF, hS, hp⟩ hKL1
    refine wp_seq_k fun K7 hK7 => ?_
    refine wp_seq_k fun K8 hK8 => ?_
    refine wp_region_lit ?_
    refine sv' hF (wn rfl) rfl rfl (R.move (hF.ev rfl)) fun a hF => ?_
    refine sv' hF (wn rfl) rfl rfl (R.geq (hF.ev rfl) (hF.ev rfl)) fun a hF => ?_
    refine s0 ?_
    refine then_n (hK8 _ _ ?_)
    refine cD hF rfl (fun c1 => ?_) (fun c1 => ?_)
    ·
      refine wp_skip ?_
      refine then_n (hK7 _ _ ?_)
      refine wp_seq_k fun K9 hK9 => ?_
      refine wp_block ?_
      refine wp_seq_k fun K10 hK10 => ?_
      have hK10' : ∀ a w, (Fr 95 [(2, .pointer (some ⟨b2, 0, none⟩)), (3, .pointer (some ⟨b3, 0, none⟩)), (4, .pointer (some ⟨b4, 0, none⟩)), (5, .pointer (some ⟨b5, 0, none⟩)), (6, .pointer (some ⟨b6, 0, none⟩)), (7, .pointer (some ⟨b7, 0, none⟩)), (8, .int .i64 ((p : Nat) - 1 : Int))] a ∧ St w0 [] [[(b7, Cel (wc (LL D y (64 * p))) 31)], [(b6, Cel (cells8 (dg (QQ D y (64 * p)))) 121)], [(b5, Cel (wc 0) 31)], [(b4, Cel (cells8 (dg (0))) 121)], [(b3, Cel (wc y) 31)], [(b2, Cel (cells8 (dg (D))) 121)]] w) → K10 a w := by
        rintro a w ⟨hF, hS⟩
        refine hK10 _ _ ?_
        refine wp_seq_k fun K11 hK11 => ?_
        refine wp_region_lit ?_
        refine sv' hF (wn rfl) rfl rfl (R.assign (hF.ev rfl)) fun a hF => ?_
        refine s0 ?_
        refine then_n (hK11 _ _ ?_)
        refine wp_block ?_
        refine wp_loop_N (fun g a w => ∃ (k : Nat), k = g ∧ Fr 95 [(2, .pointer (some ⟨b2, 0, none⟩)), (3, .pointer (some ⟨b3, 0, none⟩)), (4, .pointer (some ⟨b4, 0, none⟩)), (5, .pointer (some ⟨b5, 0, none⟩)), (6, .pointer (some ⟨b6, 0, none⟩)), (7, .pointer (some ⟨b7, 0, none⟩)), (8, .int .i64 ((p : Nat) - 1 : Int)), (9, .int .i64 ((k : Nat) - 1 : Int))] a ∧ St w0 [] [[(b7, Cel (wc (LL D y ((64 * (p - 1) + k)))) 31)], [(b6, Cel (cells8 (dg (QQ D y ((64 * (p - 1) + k))))) 121)], [(b5, Cel (wc 0) 31)], [(b4, Cel (cells8 (dg (0))) 121)], [(b3, Cel (wc y) 31)], [(b2, Cel (cells8 (dg (D))) 121)]] w ∧ (k ≤ 64)) (64) ?_ ?_
        · exact ⟨64, rfl, hF.sub ⟨rfl, rfl, rfl, rfl, rfl, rfl, rfl, rfl, trivial⟩, hS.sel [0, 1, 2, 3, 4, 5] rfl (by rw [show 64 * (p - 1) + 64 = 64 * p from by omega]; rfl), by omega⟩
        · rintro KL2 g a w ⟨k, hg2, hF, hS, hk⟩ hKL2
          refine wp_seq_k fun K12 hK12 => ?_
          refine wp_seq_k fun K13 hK13 => ?_
          refine wp_region_lit ?_
          refine sv' hF (wn rfl) rfl rfl (R.move (hF.ev rfl)) fun a hF => ?_
          refine sv' hF (wn rfl) rfl rfl (R.geq (hF.ev rfl) (hF.ev rfl)) fun a hF => ?_
          refine s0 ?_
          refine then_n (hK13 _ _ ?_)
          refine cD hF rfl (fun c3 => ?_) (fun c3 => ?_)
          ·
            have hLy := LL_lt D (64 * (p - 1) + k) hy0
            have hbit := bit_le D (64 * (p - 1) + (k - 1))
            have ht := top_dbl (LL D y (64 * (p - 1) + k)) (Nat.lt_trans hLy hy)
            have eP : 64 * (p - 1) + k = 64 * (p - 1) + (k - 1) + 1 := by omega
            refine wp_skip ?_
            refine then_n (hK12 _ _ ?_)
            refine wp_seq_k fun K14 hK14 => ?_
            refine wp_block ?_
            refine wp_seq_k fun K15 hK15 => ?_
            refine wp_region_lit ?_
            refine sv' hF (wn rfl) rfl rfl (R.indexA Try.underlying31 sz29 (hF.ev rfl) (hF.ev rfl) (by omega) (by omega)) fun a hF => ?_
            refine sv' hF (wn rfl) rfl rfl (R.load one29 (hF.ev rfl) hS .h (rfl)) fun a hF => ?_
            refine sv' hF (wn rfl) rfl rfl (R.shrU (m := 63) (hF.ev rfl) (hF.ev rfl) (by decide)) fun a hF => ?_
            refine sv' hF (wn rfl) rfl rfl (R.assign (hF.ev rfl)) fun a hF => ?_
            refine s0 ?_
            refine then_n (hK15 _ _ ?_)
            refine wp_seq_k fun K16 hK16 => ?_
            refine wp_seq_k fun K17 hK17 => ?_
            refine wp_region_lit ?_
            refine sv' hF (wn rfl) rfl rfl (R.assign (hF.ev rfl)) fun a hF => ?_
            refine s0 ?_
            refine then_n (hK17 _ _ ?_)
            refine wp_block ?_
            refine wp_loop_N (fun g a w => ∃ (j : Nat), j = g ∧ Fr 95 [(2, .pointer (some ⟨b2, 0, none⟩)), (3, .pointer (some ⟨b3, 0, none⟩)), (4, .pointer (some ⟨b4, 0, none⟩)), (5, .pointer (some ⟨b5, 0, none⟩)), (6, .pointer (some ⟨b6, 0, none⟩)), (7, .pointer (some ⟨b7, 0, none⟩)), (8, .int .i64 ((p : Nat) - 1 : Int)), (9, .int .i64 ((k : Nat) - 1 : Int)), (10, .int .u64 ((dg (LL D y (64 * (p - 1) + k)) 3 / 2 ^ 63 : Nat) : Int)), (11, .int .i64 (j : Nat))] a ∧ St w0 [] [[(b7, Cel (cells4 (shl4 (LL D y (64 * (p - 1) + k)) j)) 31)], [(b6, Cel (cells8 (dg (QQ D y ((64 * (p - 1) + k))))) 121)], [(b5, Cel (wc 0) 31)], [(b4, Cel (cells8 (dg (0))) 121)], [(b3, Cel (wc y) 31)], [(b2, Cel (cells8 (dg (D))) 121)]] w ∧ (j ≤ 3)) (3) ?_ ?_
            · exact ⟨3, rfl, hF.sub ⟨rfl, rfl, rfl, rfl, rfl, rfl, rfl, rfl, rfl, rfl, trivial⟩, hS.sel [0, 1, 2, 3, 4, 5] rfl (by rw [shl4_3]; rfl), by omega⟩
            · rintro KL3 g a w ⟨j, hg3, hF, hS, hj⟩ hKL3
              refine wp_seq_k fun K18 hK18 => ?_
              refine wp_seq_k fun K19 hK19 => ?_
              refine wp_region_lit ?_
              refine sv' hF (wn rfl) rfl rfl (R.move (hF.ev rfl)) fun a hF => ?_
              refine sv' hF (wn rfl) rfl rfl (R.gtr (hF.ev rfl) (hF.ev rfl)) fun a hF => ?_
              refine s0 ?_
              refine then_n (hK19 _ _ ?_)
              refine cD hF rfl (fun c4 => ?_) (fun c4 => ?_)
              ·
                refine wp_skip ?_
                refine then_n (hK18 _ _ ?_)
                refine wp_seq_k fun K20 hK20 => ?_
                refine wp_block ?_
                refine wp_drawS hS [(0, 0), (1, 0), (2, 0), (3, 1), (4, 0), (5, 0), (6, 0), (7, 0), (8, 1), (9, 0), (10, 0), (11, 0), (12, 3)] mix (by kernel_rfl) (hP.noGoto.then.block.then.then.block.block.then.then.block.then.block.then.then.block) fun w hS => ?_
                have hD := hS
                refine dq hF rfl (wn rfl) rfl rfl (fun w => R.move (hF.ev rfl)) fun a hF => ?_
                refine dq hF rfl (wn rfl) rfl rfl (fun w => R.move (hF.ev rfl)) fun a hF => ?_
                refine dq hF rfl (wn rfl) rfl rfl (fun w => R.indexA Try.underlying31 sz29 (hF.ev rfl) (hF.ev rfl) (by omega) (by omega)) fun a hF => ?_
                refine dr hF rfl (wn rfl) rfl rfl hD (fun w hD => R.load one29 (hF.ev rfl) hD .h (cells4_at (k := j) (by omega) (by omega))) fun a hF => ?_
                refine dq hF rfl (wn rfl) rfl rfl (fun w => R.shlU (m := 1) (hF.ev rfl) (hF.ev rfl) (by decide)) fun a hF => ?_
                refine dq hF rfl (wn rfl) rfl rfl (fun w => R.move (hF.ev rfl)) fun a hF => ?_
                refine dq hF rfl (wn rfl) rfl rfl (fun w => R.subI (hF.ev rfl) (hF.ev rfl) (by omega)) fun a hF => ?_
                refine dq hF rfl (wn rfl) rfl rfl (fun w => R.indexA Try.underlying31 sz29 (hF.ev rfl) (hF.ev rfl) (by omega) (by omega)) fun a hF => ?_
                refine dr hF rfl (wn rfl) rfl rfl hD (fun w hD => R.load one29 (hF.ev rfl) hD .h (cells4_at (k := j - 1) (by omega) (by omega))) fun a hF => ?_
                refine dq hF rfl (wn rfl) rfl rfl (fun w => R.shrU (m := 63) (hF.ev rfl) (hF.ev rfl) (by decide)) fun a hF => ?_
                refine dq hF rfl (wn rfl) rfl rfl (fun w => R.orU (hF.ev rfl) (hF.ev rfl) (Nat.mod_lt _ (by decide)) (Nat.lt_of_le_of_lt (Nat.div_le_self _ _) (shl4_lt _ _ _))) fun a hF => ?_
                refine dq hF rfl (wn rfl) rfl rfl (fun w => R.indexA Try.underlying31 sz29 (hF.ev rfl) (hF.ev rfl) (by omega) (by omega)) fun a hF => ?_
                refine dw rfl (wn rfl) (O.store sz29 (hF.ev rfl) (hF.ev rfl) rfl rfl hS .h (cells4_set (k := j) (by omega)) (by rw [length_cells4]; omega) fun w hS => ?_)
                refine d0 ?_
                refine blk_n ?_
                refine then_n (hK20 _ _ ?_)
                refine wp_region_lit ?_
                refine sv' hF (wn rfl) rfl rfl (R.move (hF.ev rfl)) fun a hF => ?_
                refine sv' hF (wn rfl) rfl rfl (R.subI (hF.ev rfl) (hF.ev rfl) (by omega)) fun a hF => ?_
                refine sv' hF (wn rfl) rfl rfl (R.assign (hF.ev rfl)) fun a hF => ?_
                refine s0 ?_
                refine then_n (hKL3 (j - 1) _ _ ?_ ?_)
                · omega
                · exact ⟨j - 1, rfl, hF.sub ⟨rfl, rfl, rfl, rfl, rfl, rfl, rfl, rfl, rfl, (congrArg (fun z => some (Value.int .i64 z)) (by omega)), trivial⟩, hS.sel [0, 1, 2, 3, 4, 5] rfl (by rw [← shl4_step _ j (by omega)]; rfl), by omega⟩
              ·
                obtain rfl : j = 0 := by omega
                refine wp_exit (then_x (then_x (blk_hit ?_)))
                refine then_n (hK16 _ _ ?_)
                refine wp_seq_k fun K21 hK21 => ?_
                refine wp_drawS hS [(0, 0), (1, 1), (2, 0), (3, 0), (4, 0), (5, 1), (6, 0), (7, 0), (8, 0), (9, 0), (10, 0), (11, 3)] mix (by kernel_rfl) (hP.noGoto.then.block.then.then.block.block.then.then.block.then) fun w hS => ?_
                have hD := hS
                refine dq hF rfl (wn rfl) rfl rfl (fun w => R.indexA Try.underlying31 sz29 (hF.ev rfl) (hF.ev rfl) (by omega) (by omega)) fun a hF => ?_
                refine dr hF rfl (wn rfl) rfl rfl hD (fun w hD => R.load one29 (hF.ev rfl) hD .h (cells4_at (k := 0) (by simp) (by omega))) fun a hF => ?_
                refine dq hF rfl (wn rfl) rfl rfl (fun w => R.shlU (m := 1) (hF.ev rfl) (hF.ev rfl) (by decide)) fun a hF => ?_
                refine dq hF rfl (wn rfl) rfl rfl (fun w => R.move (hF.ev rfl)) fun a hF => ?_
                refine dq hF rfl (wn rfl) rfl rfl (fun w => R.indexA Try.underlying121 sz29 (hF.ev rfl) (hF.ev rfl) (by omega) (by omega)) fun a hF => ?_
                refine dr hF rfl (wn rfl) rfl rfl hD (fun w hD => R.load one29 (hF.ev rfl) hD (.t (.t (.t (.t (.t .h))))) (cells8_at (k := p - 1) (by omega) (by omega))) fun a hF => ?_
                refine dq hF rfl (wn rfl) rfl rfl (fun w => R.move (hF.ev rfl)) fun a hF => ?_
                refine dq hF rfl (wn rfl) rfl rfl (fun w => R.shrU (m := k - 1) (hF.ev rfl) ((hF.ev rfl).trans (congrArg (Value.int .i64) (by omega))) (by omega)) fun a hF => ?_
                refine dq hF rfl (wn rfl) rfl rfl (fun w => R.as (R.andU (q := 1) (hF.ev rfl) (hF.ev rfl) (Nat.lt_of_le_of_lt (Nat.div_le_self _ _) (dg_lt _ _)) (by decide)) (by rw [Nat.and_one_is_mod, bit_at D (p - 1) (k - 1) (by omega)])) fun a hF => ?_
                refine dq hF rfl (wn rfl) rfl rfl (fun w => R.orU (hF.ev rfl) (hF.ev rfl) (Nat.mod_lt _ (by decide)) (Nat.lt_of_le_of_lt (bit_le _ _) (by decide))) fun a hF => ?_
                refine dq hF rfl (wn rfl) rfl rfl (fun w => R.indexA Try.underlying31 sz29 (hF.ev rfl) (hF.ev rfl) (by omega) (by omega)) fun a hF => ?_
                refine dw rfl (wn rfl) (O.store sz29 (hF.ev rfl) (hF.ev rfl) rfl rfl hS .h ((cells4_set (k := 0) (by simp)).trans (shl4_0 _ _ (bit_le _ _))) (by rw [length_cells4]; simp) fun w hS => ?_)
                refine d0 ?_
                refine then_n (hK21 _ _ ?_)
                refine wp_seq_k fun K22 hK22 => ?_
                have hK22' : ∀ a w, (Fr 95 [(2, .pointer (some ⟨b2, 0, none⟩)), (3, .pointer (some ⟨b3, 0, none⟩)), (4, .pointer (some ⟨b4, 0, none⟩)), (5, .pointer (some ⟨b5, 0, none⟩)), (6, .pointer (some ⟨b6, 0, none⟩)), (7, .pointer (some ⟨b7, 0, none⟩)), (8, .int .i64 ((p : Nat) - 1 : Int)), (9, .int .i64 ((k : Nat) - 1 : Int))] a ∧ St w0 [] [[(b7, Cel (wc (2 * LL D y (64 * (p - 1) + k) + bit D (64 * (p - 1) + (k - 1)))) 31)], [(b6, Cel (cells8 (dg (QQ D y ((64 * (p - 1) + k))))) 121)], [(b5, Cel (wc 0) 31)], [(b4, Cel (cells8 (dg (0))) 121)], [(b3, Cel (wc y) 31)], [(b2, Cel (cells8 (dg (D))) 121)]] w ∧ (y ≤ 2 * LL D y (64 * (p - 1) + k) + bit D (64 * (p - 1) + (k - 1)))) → K22 a w := by
                  rintro a w ⟨hF, hS, hle⟩
                  refine hK22 _ _ ?_
                  refine wp_seq_k fun K23 hK23 => ?_
                  refine wp_region_lit ?_
                  refine sv' hF (wn rfl) rfl rfl (R.assign (hF.ev rfl)) fun a hF => ?_
                  refine s0 ?_
                  refine then_n (hK23 _ _ ?_)
                  refine wp_seq_k fun K24 hK24 => ?_
                  refine wp_seq_k fun K25 hK25 => ?_
                  refine wp_region_lit ?_
                  refine sv' hF (wn rfl) rfl rfl (R.move (hF.ev rfl)) fun a hF => ?_
                  refine s0 ?_
                  refine then_n (hK25 _ _ ?_)
                  refine wp_block ?_
                  refine wp_loop_N (fun g a w => ∃ (j : Nat), 4 - j = g ∧ Fr 95 [(2, .pointer (some ⟨b2, 0, none⟩)), (3, .pointer (some ⟨b3, 0, none⟩)), (4, .pointer (some ⟨b4, 0, none⟩)), (5, .pointer (some ⟨b5, 0, none⟩)), (6, .pointer (some ⟨b6, 0, none⟩)), (7, .pointer (some ⟨b7, 0, none⟩)), (8, .int .i64 ((p : Nat) - 1 : Int)), (9, .int .i64 ((k : Nat) - 1 : Int)), (12, .int .u64 ((bw ((2 * LL D y (64 * (p - 1) + k) + bit D (64 * (p - 1) + (k - 1))) % 115792089237316195423570985008687907853269984665640564039457584007913129639936) y j : Nat) : Int)), (69, .int .i64 (j : Nat))] a ∧ St w0 [] [[(b7, Cel (cells4 (sub4 ((2 * LL D y (64 * (p - 1) + k) + bit D (64 * (p - 1) + (k - 1))) % 115792089237316195423570985008687907853269984665640564039457584007913129639936) y j)) 31)], [(b6, Cel (cells8 (dg (QQ D y ((64 * (p - 1) + k))))) 121)], [(b5, Cel (wc 0) 31)], [(b4, Cel (cells8 (dg (0))) 121)], [(b3, Cel (wc y) 31)], [(b2, Cel (cells8 (dg (D))) 121)]] w ∧ (j ≤ 4)) (4 - 0) ?_ ?_
                  · exact ⟨0, rfl, hF.sub ⟨rfl, rfl, rfl, rfl, rfl, rfl, rfl, rfl, (by rw [bw_0]; rfl), rfl, trivial⟩, hS.sel [0, 1, 2, 3, 4, 5] rfl (by rw [sub4_0, wc_mod]; rfl), by omega⟩
                  · rintro KL4 g a w ⟨j, hg4, hF, hS, hj⟩ hKL4
                    refine wp_seq_k fun K26 hK26 => ?_
                    refine wp_region_lit ?_
                    refine sv' hF (wn rfl) rfl rfl (R.lss (hF.ev rfl) (hF.ev rfl)) fun a hF => ?_
                    refine s0 ?_
                    refine then_n (hK26 _ _ ?_)
                    refine wp_seq_k fun K27 hK27 => ?_
                    refine cD hF rfl (fun c6 => ?_) (fun c6 => ?_)
                    ·
                      refine wp_skip ?_
                      refine then_n (hK27 _ _ ?_)
                      refine wp_seq_k fun K28 hK28 => ?_
                      refine wp_block ?_
                      refine wp_seq_k fun K29 hK29 => ?_
                      refine wp_region_lit ?_
                      refine sv' hF (wn rfl) rfl rfl (R.move (hF.ev rfl)) fun a hF => ?_
                      refine sv' hF (wn rfl) rfl rfl (R.assign (hF.ev rfl)) fun a hF => ?_
                      refine s0 ?_
                      refine then_n (hK29 _ _ ?_)
                      refine wp_drawS hS [(0, 0), (1, 0), (2, 0), (3, 1), (4, 0), (5, 0), (6, 1), (7, 0), (8, 0), (9, 0), (10, 0), (11, 0), (12, 0), (13, 3), (14, 0)] mix (by kernel_rfl) (hP.noGoto.then.block.then.then.block.block.then.then.block.then.block.then.then.block) fun w hS => ?_
                      have hD := hS
                      refine dq hF rfl (wn rfl) rfl rfl (fun w => R.move (hF.ev rfl)) fun a hF => ?_
                      refine dq hF rfl (wn rfl) rfl rfl (fun w => R.move (hF.ev rfl)) fun a hF => ?_
                      refine dq hF rfl (wn rfl) rfl rfl (fun w => R.indexA Try.underlying31 sz29 (hF.ev rfl) (hF.ev rfl) (by omega) (by omega)) fun a hF => ?_
                      refine dr hF rfl (wn rfl) rfl rfl hD (fun w hD => R.load one29 (hF.ev rfl) hD .h (show _ = some (Value.int .u64 ((dg ((2 * LL D y (64 * (p - 1) + k) + bit D (64 * (p - 1) + (k - 1))) % 115792089237316195423570985008687907853269984665640564039457584007913129639936) j : Nat) : Int)) from by rw [cells4_at (k := j) (by omega) (by omega)]; simp [sub4])) fun a hF => ?_
                      refine dq hF rfl (wn rfl) rfl rfl (fun w => R.move (hF.ev rfl)) fun a hF => ?_
                      refine dq hF rfl (wn rfl) rfl rfl (fun w => R.indexA Try.underlying31 sz29 (hF.ev rfl) (hF.ev rfl) (by omega) (by omega)) fun a hF => ?_
                      refine dr hF rfl (wn rfl) rfl rfl hD (fun w hD => R.load one29 (hF.ev rfl) hD (.t (.t (.t (.t .h)))) (wc_at y j (by omega))) fun a hF => ?_
                      refine dq hF rfl (wn rfl) rfl rfl (fun w => R.move (hF.ev rfl)) fun a hF => ?_
                      refine dq hF rfl (wn rfl) rfl rfl (fun w => R.extern (hF.evs rfl) (x96 (dg ((2 * LL D y (64 * (p - 1) + k) + bit D (64 * (p - 1) + (k - 1))) % 115792089237316195423570985008687907853269984665640564039457584007913129639936) j) (dg y j) (bw ((2 * LL D y (64 * (p - 1) + k) + bit D (64 * (p - 1) + (k - 1))) % 115792089237316195423570985008687907853269984665640564039457584007913129639936) y j) (bw_le _ _ _) w)) fun a hF => ?_
                      refine dq hF rfl (wn rfl) rfl rfl (fun w => R.move (hF.ev rfl)) fun a hF => ?_
                      refine dq hF rfl (wn rfl) rfl rfl (fun w => R.extract (hF.ev rfl) rfl) fun a hF => ?_
                      refine dq hF rfl (wn rfl) rfl rfl (fun w => R.extract (hF.ev rfl) rfl) fun a hF => ?_
                      refine dq hF rfl (wn rfl) rfl rfl (fun w => R.indexA Try.underlying31 sz29 (hF.ev rfl) (hF.ev rfl) (by omega) (by omega)) fun a hF => ?_
                      refine dw rfl (wn rfl) (O.store sz29 (hF.ev rfl) (hF.ev rfl) rfl rfl hS .h ((congrArg (fun z => List.set (cells4 (sub4 ((2 * LL D y (64 * (p - 1) + k) + bit D (64 * (p - 1) + (k - 1))) % 115792089237316195423570985008687907853269984665640564039457584007913129639936) y j)) _ (Value.int .u64 ((z : Nat) : Int))) (dg_sub ((2 * LL D y (64 * (p - 1) + k) + bit D (64 * (p - 1) + (k - 1))) % 115792089237316195423570985008687907853269984665640564039457584007913129639936) y j (by omega) hy).symm).trans (cells4_set (k := j) (by omega))) (by rw [length_cells4]; omega) fun w hS => ?_)
                      refine dq hF rfl (wn rfl) rfl rfl (fun w => R.assign (hF.ev rfl)) fun a hF => ?_
                      refine d0 ?_
                      refine blk_n ?_
                      refine then_n (hK28 _ _ ?_)
                      refine wp_region_lit ?_
                      refine sv' hF (wn rfl) rfl rfl (R.addI (hF.ev rfl) (hF.ev rfl) (by omega)) fun a hF => ?_
                      refine sv' hF (wn rfl) rfl rfl (R.move (hF.ev rfl)) fun a hF => ?_
                      refine s0 ?_
                      refine then_n (hKL4 (4 - (j + 1)) _ _ ?_ ?_)
                      · omega
                      · exact ⟨j + 1, rfl, hF.sub ⟨rfl, rfl, rfl, rfl, rfl, rfl, rfl, rfl, (by rw [bw_succ]; rfl), rfl, trivial⟩, hS.sel [0, 1, 2, 3, 4, 5] rfl (by rw [← sub4_step]; rfl), by omega⟩
                    ·
                      obtain rfl : j = 4 := by omega
                      rw [sub4_4, sub4_end _ y (by omega) hy hle (by omega)] at hS
                      rw [eP] at hS hle
                      rw [show QQ D y (64 * (p - 1) + (k - 1) + 1) = D / 2 ^ (64 * (p - 1) + (k - 1) + 1) / y * 2 ^ (64 * (p - 1) + (k - 1) + 1) from rfl] at hS
                      refine wp_exit (then_x (then_x (blk_hit ?_)))
                      refine then_n (hK24 _ _ ?_)
                      refine wp_drawS hS [(0, 0), (1, 0), (2, 1), (3, 0), (4, 0), (5, 0), (6, 0), (7, 3)] mix (by kernel_rfl) (hP.noGoto.then.block.then.then.block.block.then.then.block) fun w hS => ?_
                      have hD := hS
                      refine dq hF rfl (wn rfl) rfl rfl (fun w => R.move (hF.ev rfl)) fun a hF => ?_
                      refine dq hF rfl (wn rfl) rfl rfl (fun w => R.indexA Try.underlying121 sz29 (hF.ev rfl) (hF.ev rfl) (by omega) (by omega)) fun a hF => ?_
                      refine dr hF rfl (wn rfl) rfl rfl hD (fun w hD => R.load one29 (hF.ev rfl) hD (.t .h) (cells8_at (k := p - 1) (by omega) (by omega))) fun a hF => ?_
                      refine dq hF rfl (wn rfl) rfl rfl (fun w => R.move (hF.ev rfl)) fun a hF => ?_
                      refine dq hF rfl (wn rfl) rfl rfl (fun w => R.as (R.shlU (p := 1) (m := k - 1) (hF.ev rfl) ((hF.ev rfl).trans (congrArg (Value.int .i64) (by omega))) (by omega)) (by rw [Nat.one_mul, Nat.mod_eq_of_lt (p64 (k := k - 1) (by omega))])) fun a hF => ?_
                      refine dq hF rfl (wn rfl) rfl rfl (fun w => R.orU (hF.ev rfl) (hF.ev rfl) (dg_lt _ _) (p64 (by omega))) fun a hF => ?_
                      refine dq hF rfl (wn rfl) rfl rfl (fun w => R.indexA Try.underlying121 sz29 (hF.ev rfl) (hF.ev rfl) (by omega) (by omega)) fun a hF => ?_
                      refine dw rfl (wn rfl) (O.store sz29 (hF.ev rfl) (hF.ev rfl) rfl rfl hS (.t .h) ((cells8_set (k := p - 1) (by omega)).trans (q_cells _ _ (k - 1) (by omega))) (by rw [length_cells8]; omega) fun w hS => ?_)
                      rw [show D / 2 ^ (64 * (p - 1) + (k - 1) + 1) / y * 2 ^ (64 * (p - 1) + (k - 1) + 1) + 2 ^ (64 * (p - 1) + (k - 1)) = QQ D y (64 * (p - 1) + (k - 1)) from (QQ_hi hy0 hle).symm, ← LL_hi hy0 hle] at hS
                      refine d0 ?_
                      refine blk_n ?_
                      refine then_n (hK14 _ _ ?_)
                      refine wp_region_lit ?_
                      refine sv' hF (wn rfl) rfl rfl (R.move (hF.ev rfl)) fun a hF => ?_
                      refine sv' hF (wn rfl) rfl rfl (R.subI (hF.ev rfl) (hF.ev rfl) (by omega)) fun a hF => ?_
                      refine sv' hF (wn rfl) rfl rfl (R.assign (hF.ev rfl)) fun a hF => ?_
                      refine s0 ?_
                      refine then_n (hKL2 (k - 1) _ _ ?_ ?_)
                      · omega
                      · exact ⟨k - 1, rfl, hF.sub ⟨rfl, rfl, rfl, rfl, rfl, rfl, rfl, (congrArg (fun z => some (Value.int .i64 z)) (by omega)), trivial⟩, hS.sel [0, 1, 2, 3, 4, 5] rfl rfl, by omega⟩
                refine wp_seq_k fun K30 hK30 => ?_
                refine wp_region_lit ?_
                refine sv' hF (wn rfl) rfl rfl (R.move (hF.ev rfl)) fun a hF => ?_
                refine sv' hF (wn rfl) rfl rfl (R.eql (hF.ev rfl) (hF.ev rfl)) fun a hF => ?_
                refine sv' hF (wn rfl) rfl rfl (R.move (hF.ev rfl)) fun a hF => ?_
                refine hF.splitD (t := 63) rfl (fun h63 hF => ?_) (fun h63 hF => ?_)
                ·
                  have h2L : 2 * LL D y (64 * (p - 1) + k) + bit D (64 * (p - 1) + (k - 1)) < 115792089237316195423570985008687907853269984665640564039457584007913129639936 := by (split at ht <;> omega)
                  refine sv' hF (wy hF rfl rfl rfl) rfl rfl (R.loadW agg31 (hF.ev rfl) hS .h sz31 (rfl)) fun a hF => ?_
                  refine sv' hF (wy hF rfl rfl rfl) rfl rfl (R.loadW agg31 (hF.ev rfl) hS (.t (.t (.t (.t .h)))) sz31 (rfl)) fun a hF => ?_
                  refine so (wy hF rfl rfl rfl) (O.call rfl rfl hF ent86 (hF.evs rfl) hS (cmp_calls (2 * LL D y (64 * (p - 1) + k) + bit D (64 * (p - 1) + (k - 1))) y _ h2L hy) fun v s66 a w hR hF hS => ?_)
                  obtain ⟨rfl, rfl⟩ := hR
                  refine sv' hF (wy hF rfl rfl rfl) rfl rfl (R.lss (hF.ev rfl) (hF.ev rfl)) fun a hF => ?_
                  refine sv' hF (wn rfl) rfl rfl (R.pickT (hF.ev rfl) (hF.ev rfl)) fun a hF => ?_
                  refine s0 ?_
                  refine then_n (hK30 _ _ ?_)
                  refine cD hF rfl (fun c5 => ?_) (fun c5 => ?_)
                  ·
                    have hlo := (cmp_neg _ _).1 c5
                    rw [eP] at hS hlo
                    rw [← LL_lo hy0 hlo, ← QQ_lo hy0 hlo] at hS
                    refine wp_exit (then_x (blk_hit ?_))
                    refine then_n (hK14 _ _ ?_)
                    refine wp_region_lit ?_
                    refine sv' hF (wn rfl) rfl rfl (R.move (hF.ev rfl)) fun a hF => ?_
                    refine sv' hF (wn rfl) rfl rfl (R.subI (hF.ev rfl) (hF.ev rfl) (by omega)) fun a hF => ?_
                    refine sv' hF (wn rfl) rfl rfl (R.assign (hF.ev rfl)) fun a hF => ?_
                    refine s0 ?_
                    refine then_n (hKL2 (k - 1) _ _ ?_ ?_)
                    · omega
                    · exact ⟨k - 1, rfl, hF.sub ⟨rfl, rfl, rfl, rfl, rfl, rfl, rfl, (congrArg (fun z => some (Value.int .i64 z)) (by omega)), trivial⟩, hS.sel [1, 2, 3, 4, 5, 6] rfl rfl, by omega⟩
                  ·
                    have hle : y ≤ 2 * LL D y (64 * (p - 1) + k) + bit D (64 * (p - 1) + (k - 1)) := Nat.le_of_not_lt fun h => c5 ((cmp_neg _ _).2 h)
                    refine wp_skip ?_
                    exact then_n (hK22' _ _ ⟨hF.sub ⟨rfl, rfl, rfl, rfl, rfl, rfl, rfl, rfl, trivial⟩, hS.sel [1, 2, 3, 4, 5, 6] rfl rfl, hle⟩)
                ·
                  have hle : y ≤ 2 * LL D y (64 * (p - 1) + k) + bit D (64 * (p - 1) + (k - 1)) := by (split at ht <;> omega)
                  refine sk hF (ws hF rfl rfl rfl rfl) rfl rfl fun a hF => ?_
                  refine sk hF (ws hF rfl rfl rfl rfl) rfl rfl fun a hF => ?_
                  refine sk hF (ws hF rfl rfl rfl rfl) rfl rfl fun a hF => ?_
                  refine sk hF (ws hF rfl rfl rfl rfl) rfl rfl fun a hF => ?_
                  refine sv' hF (wn rfl) rfl rfl (R.pickF (hF.ev rfl) (hF.ev rfl)) fun a hF => ?_
                  refine s0 ?_
                  refine then_n (hK30 _ _ ?_)
                  refine cF hF rfl ?_
                  refine wp_skip ?_
                  exact then_n (hK22' _ _ ⟨hF.sub ⟨rfl, rfl, rfl, rfl, rfl, rfl, rfl, rfl, trivial⟩, hS.sel [0, 1, 2, 3, 4, 5] rfl rfl, hle⟩)
          ·
            obtain rfl : k = 0 := by omega
            refine wp_exit (then_x (then_x (blk_hit ?_)))
            refine blk_n ?_
            refine then_n (hK9 _ _ ?_)
            refine wp_region_lit ?_
            refine sv' hF (wn rfl) rfl rfl (R.move (hF.ev rfl)) fun a hF => ?_
            refine sv' hF (wn rfl) rfl rfl (R.subI (hF.ev rfl) (hF.ev rfl) (by omega)) fun a hF => ?_
            refine sv' hF (wn rfl) rfl rfl (R.assign (hF.ev rfl)) fun a hF => ?_
            refine s0 ?_
            refine then_n (hKL1 (p - 1) _ _ ?_ ?_)
            · omega
            · exact ⟨p - 1, rfl, hF.sub ⟨rfl, rfl, rfl, rfl, rfl, rfl, (congrArg (fun z => some (Value.int .i64 z)) (by omega)), trivial⟩, hS.sel [0, 1, 2, 3, 4, 5] rfl rfl, by omega⟩
      refine wp_seq_k fun K31 hK31 => ?_
      refine wp_region_lit ?_
      refine sv' hF (wn rfl) rfl rfl (R.move (hF.ev rfl)) fun a hF => ?_
      refine sv' hF (wn rfl) rfl rfl (R.indexA Try.underlying121 sz29 (hF.ev rfl) (hF.ev rfl) (by omega) (by omega)) fun a hF => ?_
      refine sv' hF (wn rfl) rfl rfl (R.load one29 (hF.ev rfl) hS (.t (.t (.t (.t (.t .h))))) (cells8_at (k := p - 1) (by omega) (by omega))) fun a hF => ?_
      refine sv' hF (wn rfl) rfl rfl (R.eql (hF.ev rfl) (hF.ev rfl)) fun a hF => ?_
      refine sv' hF (wn rfl) rfl rfl (R.move (hF.ev rfl)) fun a hF => ?_
      refine hF.splitD (t := 22) rfl (fun h22 hF => ?_) (fun h22 hF => ?_)
      ·
        refine sv' hF (wy hF rfl rfl rfl) rfl rfl (R.loadW agg31 (hF.ev rfl) hS .h sz31 (rfl)) fun a hF => ?_
        refine sv' hF (wy hF rfl rfl rfl) rfl rfl (R.buildArr (l := wc 0) Try.underlying31 ze31 sz29 (hF.evp rfl) rfl) fun a hF => ?_
        refine sv' hF (wy hF rfl rfl rfl) rfl rfl (R.eqlW (x := LL D y (64 * p)) (y := 0) (hF.ev rfl) (hF.ev rfl) (Nat.lt_trans (LL_lt _ _ hy0) hy) (by decide)) fun a hF => ?_
        refine sv' hF (wn rfl) rfl rfl (R.pickT (hF.ev rfl) (hF.ev rfl)) fun a hF => ?_
        refine s0 ?_
        refine then_n (hK31 _ _ ?_)
        refine cD hF rfl (fun c2 => ?_) (fun c2 => ?_)
        ·
          obtain ⟨e1, e2⟩ := skip_part (D := D) (y := y) (i := p - 1) (by omega) (by rw [show p - 1 + 1 = p from by omega]; exact c2)
          rw [show p - 1 + 1 = p from by omega] at e2
          have e3 : LL D y (64 * p) = LL D y (64 * (p - 1)) := by rw [c2, e1]
          rw [e3, ← e2] at hS
          refine wp_exit (then_x (blk_hit ?_))
          refine then_n (hK9 _ _ ?_)
          refine wp_region_lit ?_
          refine sv' hF (wn rfl) rfl rfl (R.move (hF.ev rfl)) fun a hF => ?_
          refine sv' hF (wn rfl) rfl rfl (R.subI (hF.ev rfl) (hF.ev rfl) (by omega)) fun a hF => ?_
          refine sv' hF (wn rfl) rfl rfl (R.assign (hF.ev rfl)) fun a hF => ?_
          refine s0 ?_
          refine then_n (hKL1 (p - 1) _ _ ?_ ?_)
          · omega
          · exact ⟨p - 1, rfl, hF.sub ⟨rfl, rfl, rfl, rfl, rfl, rfl, (congrArg (fun z => some (Value.int .i64 z)) (by omega)), trivial⟩, hS.sel [0, 1, 2, 3, 4, 5] rfl rfl, by omega⟩
        ·
          refine wp_skip ?_
          exact then_n (hK10' _ _ ⟨hF.sub ⟨rfl, rfl, rfl, rfl, rfl, rfl, rfl, trivial⟩, hS.sel [0, 1, 2, 3, 4, 5] rfl rfl⟩)
      ·
        refine sk hF (ws hF rfl rfl rfl rfl) rfl rfl fun a hF => ?_
        refine sk hF (ws hF rfl rfl rfl rfl) rfl rfl fun a hF => ?_
        refine sk hF (ws hF rfl rfl rfl rfl) rfl rfl fun a hF => ?_
        refine sv' hF (wn rfl) rfl rfl (R.pickF (hF.ev rfl) (hF.ev rfl)) fun a hF => ?_
        refine s0 ?_
        refine then_n (hK31 _ _ ?_)
        refine cF hF rfl ?_
        refine wp_skip ?_
        exact then_n (hK10' _ _ ⟨hF.sub ⟨rfl, rfl, rfl, rfl, rfl, rfl, rfl, trivial⟩, hS.sel [0, 1, 2, 3, 4, 5] rfl rfl⟩)
    ·
      obtain rfl : p = 0 := by omega
      rw [show 64 * 0 = 0 from rfl, LL_0, QQ_0] at hS
      refine wp_exit (then_x (then_x (blk_hit ?_)))
      refine then_n (hK5 _ _ ?_)
      refine wp_seq_k fun K32 hK32 => ?_
      refine wp_drawG hS (hS.sel [0, 1] rfl rfl) [(0, 1), (1, 1), (2, 2), (3, 2)] mix (by kernel_rfl) (hP.noGoto.then) fun w hS hD => ?_
      refine dr hF rfl (wn rfl) rfl rfl hD (fun w hD => R.loadW agg121 (hF.ev rfl) hD (.t .h) sz121 (length_cells8 _)) fun a hF => ?_
      refine dr hF rfl (wn rfl) rfl rfl hD (fun w hD => R.loadW agg31 (hF.ev rfl) hD .h sz31 (rfl)) fun a hF => ?_
      refine dl rfl (wn rfl) (O.storeW sz121 (hF.ev rfl) (hF.ev rfl) (length_cells8 _) rfl (one_cells8 _) hS (.t (.t (.t .h))) ((length_cells8 _).trans (length_cells8 _).symm) fun w hS => ⟨fun hD => hS.sel [0, 1] rfl rfl, ?_⟩)
      have hD := hS.sel [0, 1] rfl rfl
      refine dl rfl (wn rfl) (O.storeW sz31 (hF.ev rfl) (hF.ev rfl) (rfl) rfl (by simp [Value.oneCell']) hS (.t (.t .h)) (rfl) fun w hS => ⟨fun hD => hS.sel [0, 1] rfl rfl, ?_⟩)
      have hD := hS.sel [0, 1] rfl rfl
      refine d0 ?_
      refine then_n (hK32 _ _ ?_)
      refine wp_ret (sc_r (hR _ _ _ _ _ hF (run_results Try.results96 (.cw hF rfl agg121 hS (.t (.t (.t .h))) sz121 (rfl) (.cw hF rfl agg31 hS (.t (.t .h)) sz31 (rfl) (.nil)))) ?_))
      exact ⟨_, [], rfl, ⟨rfl, rfl⟩, hS.none⟩

end Go.Proofs.Ytlapmbkfmbkdoaa

/- The calls of Of, the reference's Of, top, the reference's IsZero, Bits. -/
namespace Go.Proofs.Ytlapmbkfmbkdoaa
open Go Go.Fw Go.RowKit
attribute [local irreducible] Go.Oper.wp Go.Code.wp Go.wpList Go.Fw.WL Go.Calls
theorem of_wc {n : Nat} (h : n < 18446744073709551616) : wc n = [.int .u64 (n : Int), .int .u64 0, .int .u64 0, .int .u64 0] := by
  have h0 : dg n 0 = n := by rw [dg0]; omega
  have h1 : dg n 1 = 0 := by rw [dg1]; omega
  have h2 : dg n 2 = 0 := by rw [dg2]; omega
  have h3 : dg n 3 = 0 := by rw [dg3]; omega
  simp only [wc, h0, h1, h2, h3]; rfl

theorem of_calls (n : Nat) (w0 : World) (hn : n < 18446744073709551616) : Ret Try.prog 97 [.int .u64 (n : Nat)] w0 [] (fun v s => v = wv n ∧ s = []) := by
  refine fn_start Try.func97 rfl Try.ntmps97 rfl [(0, .int .u64 (n : Nat))] ⟨rfl, trivial⟩ ?_
  intro Q a hP hF hR hN
  have hS := St.start w0
  refine wp_seq_k fun K1 hK1 => ?_
  refine wp_region_lit ?_
  refine so (wn rfl) (O.alloc rfl rfl hF ze31 rfl hS fun b2 a w hF hS => ?_)
  refine s0 ?_
  refine then_n (hK1 _ _ ?_)
  refine wp_seq_k fun K2 hK2 => ?_
  refine wp_region_lit ?_
  refine sv' hF (wn rfl) rfl rfl (R.move (hF.ev rfl)) fun a hF => ?_
  refine sv' hF (wn rfl) rfl rfl (R.buildArr (l := [_, _, _, _]) Try.underlying31 ze31 sz29 (hF.evp rfl) rfl) fun a hF => ?_
  refine so (wn rfl) (O.storeW sz31 (hF.ev rfl) (hF.ev rfl) (rfl) rfl (by simp [Value.oneCell']) hS .h (rfl) fun w hS => ?_)
  refine s0 ?_
  refine then_n (hK2 _ _ ?_)
  refine wp_ret (hR _ _ _ _ _ hF (run_results Try.results97 (.cw hF rfl agg31 hS .h sz31 (rfl) (.nil))) ?_)
  exact ⟨_, [], rfl, ⟨by rw [wv, of_wc hn]; rfl, rfl⟩, hS.none⟩

end Go.Proofs.Ytlapmbkfmbkdoaa

/- Long division of binary digits. No condition beyond each lemma's own. -/
namespace Go.Fw
open Go.RowKit
/-- the next number, its first k + 1 digits: a bit ahead of the old ones -/
def nxt (L b k : Nat) : Nat → Nat := fun j => if j = 0 then b else if j ≤ k then bit L (j - 1) else 0
theorem nxt_0 (L b : Nat) : upd8 (fun _ => 0) 0 b = nxt L b 0 := by
  funext j; unfold upd8 nxt
  by_cases h : j = 0
  · simp [h]
  · rw [if_neg h, if_neg h, if_neg (by omega)]
theorem nxt_step (L b k : Nat) : upd8 (nxt L b k) (k + 1) (bit L k) = nxt L b (k + 1) := by
  funext j; unfold upd8 nxt
  by_cases h : j = k + 1
  · subst h; rw [if_pos rfl, if_neg (by omega), if_pos (Nat.le_refl _), Nat.add_sub_cancel]
  · rw [if_neg h]
    by_cases h0 : j = 0
    · rw [if_pos h0, if_pos h0]
    · rw [if_neg h0, if_neg h0]
      by_cases h2 : j ≤ k
      · rw [if_pos h2, if_pos (by omega)]
      · rw [if_neg h2, if_neg (by omega)]
theorem nxt_val (L b k : Nat) : ∀ m, m ≤ k → valF (nxt L b k) (m + 1) = b + 2 * (L % 2 ^ m)
  | 0, _ => by simp [valF, nxt, Nat.mod_one]
  | m + 1, h => by
    have ih := nxt_val L b k m (by omega)
    have e : nxt L b k (m + 1) = bit L m := by unfold nxt; rw [if_neg (by omega), if_pos h, Nat.add_sub_cancel]
    rw [valF, ih, e, mod_pow_succ L m, Nat.pow_succ]
    grind
theorem nxt_end (L b : Nat) (hb : b ≤ 1) : Bits ((List.range ((bl L).length + 1)).map (nxt L b (bl L).length)) ∧ val ((List.range ((bl L).length + 1)).map (nxt L b (bl L).length)) = 2 * L + b := by
  constructor
  · intro x hx
    obtain ⟨j, _, rfl⟩ := List.mem_map.1 hx
    unfold nxt
    split
    · exact hb
    · split
      · exact bit_le _ _
      · omega
  · rw [val_range, nxt_val L b _ _ (Nat.le_refl _), mod_all]; omega
/-- the quotient's digits, those from p on -/
def quo (x y p : Nat) : Nat → Nat := fun j => if p ≤ j then bit (x / y) j else 0
theorem quo_hi {x y p : Nat} (hy : 0 < y) (h : y ≤ 2 * LL x y (p + 1) + bit x p) : upd8 (quo x y (p + 1)) p 1 = quo x y p := by
  funext j; unfold upd8 quo
  by_cases e : j = p
  · subst e
    rw [if_pos rfl, if_pos (Nat.le_refl _)]
    have h1 := ((div_bit_step (H := x / 2 ^ (j + 1)) hy rfl (bit_le x j)).2 h).1
    rw [← div_next] at h1
    unfold bit
    rw [Nat.div_div_eq_div_mul, Nat.mul_comm, ← Nat.div_div_eq_div_mul, h1]; omega
  · rw [if_neg e]
    by_cases h2 : p ≤ j
    · rw [if_pos h2, if_pos (by omega)]
    · rw [if_neg h2, if_neg (by omega)]
theorem quo_lo {x y p : Nat} (hy : 0 < y) (h : 2 * LL x y (p + 1) + bit x p < y) : quo x y (p + 1) = quo x y p := by
  funext j; unfold quo
  by_cases e : j = p
  · subst e
    rw [if_neg (by omega), if_pos (Nat.le_refl _)]
    have h1 := ((div_bit_step (H := x / 2 ^ (j + 1)) hy rfl (bit_le x j)).1 h).1
    rw [← div_next] at h1
    unfold bit
    rw [Nat.div_div_eq_div_mul, Nat.mul_comm, ← Nat.div_div_eq_div_mul, h1]; omega
  · by_cases h2 : p ≤ j
    · rw [if_pos h2, if_pos (by omega)]
    · rw [if_neg h2, if_neg (by omega)]
theorem quo_end (x y : Nat) : Bits ((List.range (bl x).length).map (quo x y 0)) ∧ val ((List.range (bl x).length).map (quo x y 0)) = x / y := by
  have e : quo x y 0 = bit (x / y) := by funext j; simp [quo]
  rw [e]
  refine ⟨bits_range _ _, ?_⟩
  rw [val_bits, Nat.mod_eq_of_lt (Nat.lt_of_le_of_lt (Nat.div_le_self x y) ((length_bl_lt x _).1 (Nat.le_refl _)))]
end Go.Fw
