/- The calls of bits.Len64, wide.Bits. -/
import Derived.Test.YthgecfjpacebeaaBp
namespace Go.Proofs.Ythgecfjpacebeaa
open Go Go.Fw Go.RowKit
attribute [local irreducible] Go.Oper.wp Go.Code.wp Go.wpList Go.Fw.WL Go.Calls
def okTab (s : ByteArray) : Bool := Nat.beq s.size 256 && (List.range 256).all fun v => match s.data[v]? with
  | some u => Nat.blt v (2 ^ u.toNat) && (Nat.beq u.toNat 0 || Nat.ble (2 ^ (u.toNat - 1)) v)
  | none => false
theorem len_is {v n : Nat} (h1 : v < 2 ^ n) (h2 : n = 0 ∨ 2 ^ (n - 1) ≤ v) : (bl v).length = n := by
  have g1 := (length_bl_lt v n).2 h1
  rcases h2 with rfl | h2
  · omega
  · by_cases h : (bl v).length ≤ n - 1
    · have := (length_bl_lt v (n - 1)).1 h; omega
    · omega
theorem R.lenTab {ρ : Operand → Value} {dst : Option Tmp} {ty : TypeId} {pos : String} {af : Array Edge} {g : Option (Nat × Bool)} {x y : Operand} {w : World} {s : ByteArray} {v : Nat} (hx : ρ x = .string s) (hs : okTab s = true) (hy : ρ y = .int .u8 ((v : Nat) : Int)) (hv : v < 256) :
    (execOp ρ ⟨dst, .index 9 x y, ty, pos, af, g⟩).run Try.prog w = .ok (.value (.int .u8 (((bl v).length : Nat) : Int))) w := by
  simp only [okTab, Bool.and_eq_true] at hs
  have hsz := Nat.eq_of_beq_eq_true hs.1
  have h1 := List.all_eq_true.1 hs.2 v (by simpa using hv)
  refine R.as (R.indexStr Try.underlying9 hx hy (by omega) (by omega)) ?_
  have h2 : v < s.data.size := by
    have : s.data.size = s.size := rfl
    omega
  rw [Array.getElem?_eq_getElem h2] at h1
  simp only [Bool.and_eq_true, Bool.or_eq_true] at h1
  have e : (bl v).length = (s.data[v]).toNat := len_is (by simpa [Nat.blt_eq] using h1.1) (by
    rcases h1.2 with h | h
    · exact .inl (Nat.eq_of_beq_eq_true h)
    · exact .inr (Nat.le_of_ble_eq_true h))
  rw [e]
  rfl
theorem len_shr {x k : Nat} (h : 2 ^ k ≤ x) : (bl x).length = k + (bl (x / 2 ^ k)).length := by
  have hp : 0 < 2 ^ k := Nat.pow_pos (by decide)
  have hx : x ≠ 0 := by omega
  have hpos : 0 < x / 2 ^ k := Nat.div_pos h hp
  generalize hn : (bl (x / 2 ^ k)).length = n
  have h1 : x / 2 ^ k < 2 ^ n := (length_bl_lt _ _).1 (by omega)
  have h2 : ¬ (bl (x / 2 ^ k)).length ≤ n - 1 := by
    intro h
    have h3 : n = 0 := by omega
    subst h3
    simp at h1
    omega
  have h3 : 2 ^ (n - 1) ≤ x / 2 ^ k := Nat.le_of_not_lt fun h => h2 ((length_bl_lt _ _).2 h)
  have hn0 : 0 < n := by
    rcases Nat.eq_zero_or_pos n with h | h
    · subst h; simp at h1; omega
    · exact h
  refine len_is ?_ (.inr ?_)
  · rw [Nat.pow_add]
    exact (Nat.div_lt_iff_lt_mul hp).1 h1 |> fun h => by rw [Nat.mul_comm]; exact h
  · rw [show k + n - 1 = (n - 1) + k from by omega, Nat.pow_add]
    exact (Nat.le_div_iff_mul_le hp).1 h3

theorem len_top {x k : Nat} (h0 : 0 < k) (hx : x / 18446744073709551616 ^ k = 0) (hn : dg x (k - 1) ≠ 0) : (bl x).length = 64 * (k - 1) + (bl (dg x (k - 1))).length := by
  have h1 := div_dg x k h0
  rw [hx] at h1
  have h2 : x / 2 ^ (64 * (k - 1)) = dg x (k - 1) := by rw [← B_pow]; omega
  have h3 : 2 ^ (64 * (k - 1)) ≤ x := Nat.le_of_not_lt fun h => hn (by rw [← h2]; exact Nat.div_eq_of_lt h)
  rw [len_shr h3, h2]
theorem len64 {x : Nat} (h : x < 18446744073709551616) : (bl x).length ≤ 64 := (length_bl_lt x 64).2 h

theorem len64_calls (x : Nat) (w0 : World) (hx : x < 18446744073709551616) : Ret Try.prog 104 [.int .u64 (x : Nat)] w0 [] (fun v s => v = .int .i64 ((bl x).length : Nat) ∧ s = []) := by
  refine fn_start Try.func104 rfl Try.ntmps104 rfl [(0, .int .u64 (x : Nat))] ⟨rfl, trivial⟩ ?_
  intro Q a hP hF hR hN
  have hS := St.start w0
  refine wp_seq_k fun K1 hK1 => ?_
  refine wp_region_lit ?_
  refine sv' hF (wn rfl) rfl rfl (R.assign (hF.ev rfl)) fun a hF => ?_
  refine s0 ?_
  refine then_n (hK1 _ _ ?_)
  refine wp_seq_k fun K2 hK2 => ?_
  have hK2' : ∀ a w, (∃ (y1 : Nat) (n1 : Nat), Fr 25 [(0, .int .u64 (y1 : Nat)), (2, .int .i64 (n1 : Nat))] a ∧ St w0 [] [] w ∧ (n1 + (bl y1).length = (bl x).length) ∧ (y1 < 4294967296) ∧ (n1 ≤ 32)) → K2 a w := by
    rintro a w ⟨y1, n1, hF, hS, e1, l1, m1⟩
    refine hK2 _ _ ?_
    refine wp_seq_k fun K3 hK3 => ?_
    have hK3' : ∀ a w, (∃ (y2 : Nat) (n2 : Nat), Fr 25 [(0, .int .u64 (y2 : Nat)), (2, .int .i64 (n2 : Nat))] a ∧ St w0 [] [] w ∧ (n2 + (bl y2).length = (bl x).length) ∧ (y2 < 65536) ∧ (n2 ≤ 48)) → K3 a w := by
      rintro a w ⟨y2, n2, hF, hS, e2, l2, m2⟩
      refine hK3 _ _ ?_
      refine wp_seq_k fun K4 hK4 => ?_
      have hK4' : ∀ a w, (∃ (y3 : Nat) (n3 : Nat), Fr 25 [(0, .int .u64 (y3 : Nat)), (2, .int .i64 (n3 : Nat))] a ∧ St w0 [] [] w ∧ (n3 + (bl y3).length = (bl x).length) ∧ (y3 < 256) ∧ (n3 ≤ 56)) → K4 a w := by
        rintro a w ⟨y3, n3, hF, hS, e3, l3, m3⟩
        refine hK4 _ _ ?_
        have h8 : (bl y3).length ≤ 8 := (length_bl_lt y3 8).2 l3
        refine wp_seq_k fun K5 hK5 => ?_
        refine wp_region_lit ?_
        refine sv' hF (wn rfl) rfl rfl (R.move (hF.ev rfl)) fun a hF => ?_
        refine sv' hF (wn rfl) rfl rfl (R.move (hF.ev rfl)) fun a hF => ?_
        refine sv' hF (wn rfl) rfl rfl (R.as (R.convB Try.underlying27 Try.underlying5 (hF.ev rfl)) (by rw [Nat.mod_eq_of_lt l3])) fun a hF => ?_
        refine sv' hF (wn rfl) rfl rfl (R.lenTab (hF.ev rfl) (by kernel_rfl) (hF.ev rfl) l3) fun a hF => ?_
        refine sv' hF (wn rfl) rfl rfl (R.convI Try.underlying5 Try.underlying3 (hF.ev rfl) (by omega)) fun a hF => ?_
        refine sv' hF (wn rfl) rfl rfl (R.addI (hF.ev rfl) (hF.ev rfl) (by omega)) fun a hF => ?_
        refine sv' hF (wn rfl) rfl rfl (R.assign (hF.ev rfl)) fun a hF => ?_
        refine s0 ?_
        refine then_n (hK5 _ _ ?_)
        refine wp_ret (hR _ _ _ _ _ hF (run_results Try.results104 (.t hF rfl (.nil))) ?_)
        exact ⟨_, [], rfl, ⟨congrArg (Value.int .i64) (by omega), rfl⟩, hS.none⟩
      refine wp_seq_k fun K6 hK6 => ?_
      refine wp_region_lit ?_
      refine sv' hF (wn rfl) rfl rfl (R.move (hF.ev rfl)) fun a hF => ?_
      refine sv' hF (wn rfl) rfl rfl (R.geq (hF.ev rfl) (hF.ev rfl)) fun a hF => ?_
      refine s0 ?_
      refine then_n (hK6 _ _ ?_)
      refine cD hF rfl (fun c1 => ?_) (fun c1 => ?_)
      ·
        refine wp_seq_k fun K7 hK7 => ?_
        refine wp_region_lit ?_
        refine sv' hF (wn rfl) rfl rfl (R.move (hF.ev rfl)) fun a hF => ?_
        refine sv' hF (wn rfl) rfl rfl (R.shrU (m := 8) (hF.ev rfl) (hF.ev rfl) (by decide)) fun a hF => ?_
        refine sv' hF (wn rfl) rfl rfl (R.assign (hF.ev rfl)) fun a hF => ?_
        refine s0 ?_
        refine then_n (hK7 _ _ ?_)
        refine wp_region_lit ?_
        refine sv' hF (wn rfl) rfl rfl (R.move (hF.ev rfl)) fun a hF => ?_
        refine sv' hF (wn rfl) rfl rfl (R.addI (hF.ev rfl) (hF.ev rfl) (by omega)) fun a hF => ?_
        refine sv' hF (wn rfl) rfl rfl (R.assign (hF.ev rfl)) fun a hF => ?_
        refine s0 ?_
        exact then_n (hK4' _ _ ⟨y2 / 2 ^ 8, n2 + 8, hF.sub ⟨rfl, rfl, trivial⟩, hS.sel [] rfl rfl, by have := len_shr (x := y2) (k := 8) (by omega); omega, by omega, by omega⟩)
      ·
        refine wp_skip ?_
        exact then_n (hK4' _ _ ⟨y2, n2, hF.sub ⟨rfl, rfl, trivial⟩, hS.sel [] rfl rfl, by omega, by omega, by omega⟩)
    refine wp_seq_k fun K8 hK8 => ?_
    refine wp_region_lit ?_
    refine sv' hF (wn rfl) rfl rfl (R.move (hF.ev rfl)) fun a hF => ?_
    refine sv' hF (wn rfl) rfl rfl (R.geq (hF.ev rfl) (hF.ev rfl)) fun a hF => ?_
    refine s0 ?_
    refine then_n (hK8 _ _ ?_)
    refine cD hF rfl (fun c2 => ?_) (fun c2 => ?_)
    ·
      refine wp_seq_k fun K9 hK9 => ?_
      refine wp_region_lit ?_
      refine sv' hF (wn rfl) rfl rfl (R.move (hF.ev rfl)) fun a hF => ?_
      refine sv' hF (wn rfl) rfl rfl (R.shrU (m := 16) (hF.ev rfl) (hF.ev rfl) (by decide)) fun a hF => ?_
      refine sv' hF (wn rfl) rfl rfl (R.assign (hF.ev rfl)) fun a hF => ?_
      refine s0 ?_
      refine then_n (hK9 _ _ ?_)
      refine wp_region_lit ?_
      refine sv' hF (wn rfl) rfl rfl (R.move (hF.ev rfl)) fun a hF => ?_
      refine sv' hF (wn rfl) rfl rfl (R.addI (hF.ev rfl) (hF.ev rfl) (by omega)) fun a hF => ?_
      refine sv' hF (wn rfl) rfl rfl (R.assign (hF.ev rfl)) fun a hF => ?_
      refine s0 ?_
      exact then_n (hK3' _ _ ⟨y1 / 2 ^ 16, n1 + 16, hF.sub ⟨rfl, rfl, trivial⟩, hS.sel [] rfl rfl, by have := len_shr (x := y1) (k := 16) (by omega); omega, by omega, by omega⟩)
    ·
      refine wp_skip ?_
      exact then_n (hK3' _ _ ⟨y1, n1, hF.sub ⟨rfl, rfl, trivial⟩, hS.sel [] rfl rfl, by omega, by omega, by omega⟩)
  refine wp_seq_k fun K10 hK10 => ?_
  refine wp_region_lit ?_
  refine sv' hF (wn rfl) rfl rfl (R.move (hF.ev rfl)) fun a hF => ?_
  refine sv' hF (wn rfl) rfl rfl (R.geq (hF.ev rfl) (hF.ev rfl)) fun a hF => ?_
  refine s0 ?_
  refine then_n (hK10 _ _ ?_)
  refine cD hF rfl (fun c3 => ?_) (fun c3 => ?_)
  ·
    refine wp_seq_k fun K11 hK11 => ?_
    refine wp_region_lit ?_
    refine sv' hF (wn rfl) rfl rfl (R.move (hF.ev rfl)) fun a hF => ?_
    refine sv' hF (wn rfl) rfl rfl (R.shrU (m := 32) (hF.ev rfl) (hF.ev rfl) (by decide)) fun a hF => ?_
    refine sv' hF (wn rfl) rfl rfl (R.assign (hF.ev rfl)) fun a hF => ?_
    refine s0 ?_
    refine then_n (hK11 _ _ ?_)
    refine wp_region_lit ?_
    refine sv' hF (wn rfl) rfl rfl (R.assign (hF.ev rfl)) fun a hF => ?_
    refine s0 ?_
    exact then_n (hK2' _ _ ⟨x / 2 ^ 32, 32, hF.sub ⟨rfl, rfl, trivial⟩, hS.sel [] rfl rfl, by have := len_shr (x := x) (k := 32) (by omega); omega, by omega, by omega⟩)
  ·
    refine wp_skip ?_
    exact then_n (hK2' _ _ ⟨x, 0, hF.sub ⟨rfl, rfl, trivial⟩, hS.sel [] rfl rfl, by omega, by omega, by omega⟩)

theorem lz64_calls (x : Nat) (w0 : World) (hx : x < 18446744073709551616) : Ret Try.prog 110 [.int .u64 (x : Nat)] w0 [] (fun v s => v = .int .i64 ((64 - (bl x).length : Nat) : Int) ∧ s = []) := by
  refine fn_start Try.func110 rfl Try.ntmps110 rfl [(0, .int .u64 (x : Nat))] ⟨rfl, trivial⟩ ?_
  intro Q a hP hF hR hN
  have hS := St.start w0
  refine wp_seq_k fun K1 hK1 => ?_
  refine wp_region_lit ?_
  refine sv' hF (wn rfl) rfl rfl (R.assign (hF.ev rfl)) fun a hF => ?_
  refine s0 ?_
  refine then_n (hK1 _ _ ?_)
  refine wp_seq_k fun K2 hK2 => ?_
  refine wp_region_lit ?_
  refine sv' hF (wn rfl) rfl rfl (R.move (hF.ev rfl)) fun a hF => ?_
  refine so (wn rfl) (O.call rfl rfl hF ent104 (hF.evs rfl) hS (len64_calls x _ hx) fun v s4 a w hR hF hS => ?_)
  obtain ⟨rfl, rfl⟩ := hR
  have hl := len64 hx
  refine sv' hF (wn rfl) rfl rfl (R.subI (hF.ev rfl) (hF.ev rfl) (by omega)) fun a hF => ?_
  refine sv' hF (wn rfl) rfl rfl (R.assign (hF.ev rfl)) fun a hF => ?_
  refine s0 ?_
  refine then_n (hK2 _ _ ?_)
  refine wp_ret (hR _ _ _ _ _ hF (run_results Try.results110 (.t hF rfl (.nil))) ?_)
  exact ⟨_, [], rfl, ⟨congrArg (Value.int .i64) (by omega), rfl⟩, hS.none⟩

theorem bits_calls (x : Nat) (w0 : World) (hx : x < 115792089237316195423570985008687907853269984665640564039457584007913129639936) : Ret Try.prog 56 [wv x] w0 [] (fun v s => v = .int .i64 ((bl x).length : Nat) ∧ s = []) := by
  refine fn_start Try.func56 rfl Try.ntmps56 rfl [(0, wv x)] ⟨rfl, trivial⟩ ?_
  intro Q a hP hF hR hN
  have hS := St.start w0
  refine wp_seq_k fun K1 hK1 => ?_
  refine wp_region_lit ?_
  refine so (wn rfl) (O.box rfl rfl hF (hF.ev rfl) rfl hS fun b1 a w hF hS => ?_)
  refine sv' hF (wn rfl) rfl rfl (R.assign (hF.ev rfl)) fun a hF => ?_
  refine s0 ?_
  refine then_n (hK1 _ _ ?_)
  refine wp_seq_k fun K2 hK2 => ?_
  refine wp_seq_k fun K3 hK3 => ?_
  refine wp_region_lit ?_
  refine sv' hF (wn rfl) rfl rfl (R.assign (hF.ev rfl)) fun a hF => ?_
  refine s0 ?_
  refine then_n (hK3 _ _ ?_)
  refine wp_block ?_
  refine wp_loop_N (fun g a w => ∃ (k : Nat), k = g ∧ Fr 19 [(1, .pointer (some ⟨b1, 0, none⟩)), (3, .int .i64 ((k : Nat) - 1 : Int))] a ∧ St w0 [] [[(b1, Cel (wc x) 29)]] w ∧ (k ≤ 4) ∧ (x / 18446744073709551616 ^ k = 0)) (4) ?_ ?_
  · exact ⟨4, rfl, hF.sub ⟨rfl, rfl, trivial⟩, hS.sel [0] rfl rfl, by omega, Nat.div_eq_of_lt (by simpa using hx)⟩
  · rintro KL1 g a w ⟨k, hg1, hF, hS, hk, he⟩ hKL1
    refine wp_seq_k fun K4 hK4 => ?_
    refine wp_seq_k fun K5 hK5 => ?_
    refine wp_region_lit ?_
    refine sv' hF (wn rfl) rfl rfl (R.move (hF.ev rfl)) fun a hF => ?_
    refine sv' hF (wn rfl) rfl rfl (R.geq (hF.ev rfl) (hF.ev rfl)) fun a hF => ?_
    refine s0 ?_
    refine then_n (hK5 _ _ ?_)
    refine cD hF rfl (fun c1 => ?_) (fun c1 => ?_)
    ·
      refine wp_skip ?_
      refine then_n (hK4 _ _ ?_)
      refine wp_seq_k fun K6 hK6 => ?_
      refine wp_block ?_
      refine wp_seq_k fun K7 hK7 => ?_
      refine wp_region_lit ?_
      refine sv' hF (wn rfl) rfl rfl (R.move (hF.ev rfl)) fun a hF => ?_
      refine sv' hF (wn rfl) rfl rfl (R.indexA Try.underlying29 sz27 (hF.ev rfl) (hF.ev rfl) (by omega) (by omega)) fun a hF => ?_
      refine sv' hF (wn rfl) rfl rfl (R.load one27 (hF.ev rfl) hS .h (wc_dn x k (by omega) hk)) fun a hF => ?_
      refine sv' hF (wn rfl) rfl rfl (R.neq (hF.ev rfl) (hF.ev rfl)) fun a hF => ?_
      refine s0 ?_
      refine then_n (hK7 _ _ ?_)
      refine cD hF rfl (fun c2 => ?_) (fun c2 => ?_)
      ·
        have e := len_top (x := x) (k := k) (by omega) he (by omega)
        refine wp_seq_k fun K8 hK8 => ?_
        refine wp_region_lit ?_
        refine sv' hF (wn rfl) rfl rfl (R.move (hF.ev rfl)) fun a hF => ?_
        refine sv' hF (wn rfl) rfl rfl (R.mulI (hF.ev rfl) (hF.ev rfl) (by omega)) fun a hF => ?_
        refine sv' hF (wn rfl) rfl rfl (R.move (hF.ev rfl)) fun a hF => ?_
        refine sv' hF (wn rfl) rfl rfl (R.indexA Try.underlying29 sz27 (hF.ev rfl) (hF.ev rfl) (by omega) (by omega)) fun a hF => ?_
        refine sv' hF (wn rfl) rfl rfl (R.load one27 (hF.ev rfl) hS .h (wc_dn x k (by omega) hk)) fun a hF => ?_
        refine so (wn rfl) (O.call rfl rfl hF ent104 (hF.evs rfl) hS (len64_calls (dg x (k - 1)) w (dg_lt _ _)) fun v s17 a w hR hF hS => ?_)
        obtain ⟨rfl, rfl⟩ := hR
        have hl := len64 (dg_lt x (k - 1))
        refine sv' hF (wn rfl) rfl rfl (R.addI (hF.ev rfl) (hF.ev rfl) (by omega)) fun a hF => ?_
        refine sv' hF (wn rfl) rfl rfl (R.assign (hF.ev rfl)) fun a hF => ?_
        refine s0 ?_
        refine then_n (hK8 _ _ ?_)
        refine wp_ret (blk_r (then_r (then_r (blk_r (then_r (hR _ _ _ _ _ hF (run_results Try.results56 (.t hF rfl (.nil))) ?_))))))
        exact ⟨_, [], rfl, ⟨congrArg (Value.int .i64) (by omega), rfl⟩, hS.none⟩
      ·
        refine wp_skip ?_
        refine blk_n ?_
        refine then_n (hK6 _ _ ?_)
        refine wp_region_lit ?_
        refine sv' hF (wn rfl) rfl rfl (R.move (hF.ev rfl)) fun a hF => ?_
        refine sv' hF (wn rfl) rfl rfl (R.subI (hF.ev rfl) (hF.ev rfl) (by omega)) fun a hF => ?_
        refine sv' hF (wn rfl) rfl rfl (R.assign (hF.ev rfl)) fun a hF => ?_
        refine s0 ?_
        refine then_n (hKL1 (k - 1) _ _ ?_ ?_)
        · omega
        · exact ⟨k - 1, rfl, hF.sub ⟨rfl, (congrArg (fun z => some (Value.int .i64 z)) (by omega)), trivial⟩, hS.sel [0] rfl rfl, by omega, by have := div_dg x k (by omega); rw [he] at this; omega⟩
    ·
      obtain rfl : k = 0 := by omega
      have e : x = 0 := by simpa using he
      refine wp_exit (then_x (then_x (blk_hit ?_)))
      refine then_n (hK2 _ _ ?_)
      refine wp_seq_k fun K9 hK9 => ?_
      refine wp_region_lit ?_
      refine sv' hF (wn rfl) rfl rfl (R.assign (hF.ev rfl)) fun a hF => ?_
      refine s0 ?_
      refine then_n (hK9 _ _ ?_)
      refine wp_ret (hR _ _ _ _ _ hF (run_results Try.results56 (.t hF rfl (.nil))) ?_)
      exact ⟨_, [], rfl, ⟨by subst e; rw [bl_0]; rfl, rfl⟩, hS.none⟩

end Go.Proofs.Ythgecfjpacebeaa
