/- Part 6 of what the row MachineRefuses needs, with no condition beyond each lemma's own. -/
import Derived.Test.YtlapmbkfmbkdoaaRb5
section
namespace Go.Proofs.Ytlapmbkfmbkdoaa
open Go Go.Fw Go.RowKit
attribute [local irreducible] Go.Oper.wp Go.Code.wp Go.wpList Go.Fw.WL Go.Calls
theorem R.mulN {P : Program} {ρ : Operand → Value} {w : World} {dst : Option Tmp} {ty : TypeId} {pos : String} {af : Array Edge} {g : Option (Nat × Bool)} {x y : Operand} {T T' : TypeId} {p q : Nat} (hx : ρ x = .int .i64 ((p : Nat) : Int)) (hy : ρ y = .int .i64 ((q : Nat) : Int)) (h : p * q ≤ 1000000) :
    (execOp ρ ⟨dst, .binOp .mul T x y T', ty, pos, af, g⟩).run P w = .ok (.value (.int .i64 ((p * q : Nat) : Int))) w := by
  have := R.mulI (P := P) (w := w) (dst := dst) (ty := ty) (pos := pos) (af := af) (g := g) (T := T) (T' := T') hx hy (by rw [← Int.natCast_mul]; omega)
  rw [this, Int.natCast_mul]
theorem bw_1 {x y t : Nat} (h : x / 256 ^ t % 256 < y / 256 ^ t % 256 + bwB x y t) : bwB x y (t + 1) = 1 := by rw [less_bw, if_pos h]
theorem bw_n {x y t : Nat} (h : ¬ x / 256 ^ t % 256 < y / 256 ^ t % 256 + bwB x y t) : bwB x y (t + 1) = 0 := by rw [less_bw, if_neg h]
theorem sum_lt33 {x y : Nat} (hx : x < 256 ^ 32) (hy : y < 256 ^ 32) : x + y < 256 ^ (32 + 1) := by
  have h33 : (256 : Nat) ^ (32 + 1) = 256 * 256 ^ 32 := by rw [Nat.pow_succ, Nat.mul_comm]
  omega
theorem bwB_le (x y t : Nat) : bwB x y t ≤ 1 := by unfold bwB; split <;> omega
theorem toB_pw {n v : Nat} : toB n (v % 256 ^ n) = toB n v := toB_mod n v
theorem plus_calls (A B : Option Addr) (c d x y : Nat) (w0 : World) (hA : Rd w0 A (ints (toB 32 x))) (hB : Rd w0 B (ints (toB 32 y))) (hx : x < 256 ^ 32) (hy : y < 256 ^ 32) : Ret Try.prog 41 [.slice A 32 c, .slice B 32 d] w0 [] (RetB 33 (x + y)) := by
  refine fn_start Try.func41 rfl Try.ntmps41 rfl [(0, .slice A 32 c), (1, .slice B 32 d)] ⟨rfl, rfl, trivial⟩ ?_
  intro Q a hP hF hR hN
  have hS := St.start w0
  refine wp_seq_k fun K1 hK1 => ?_
  refine wp_region_lit ?_
  refine sv' hF (wn rfl) rfl rfl (R.assign (hF.ev rfl)) fun a hF => ?_
  refine s0 ?_
  refine then_n (hK1 _ _ ?_)
  refine wp_seq_k fun K2 hK2 => ?_
  refine wp_region_lit ?_
  refine sv' hF (wn rfl) rfl rfl (R.move (hF.ev rfl)) fun a hF => ?_
  refine sv' hF (wn rfl) rfl rfl (R.len Try.underlying61 (hF.ev rfl)) fun a hF => ?_
  refine sv' hF (wn rfl) rfl rfl (R.addI (hF.ev rfl) (hF.ev rfl) (by omega)) fun a hF => ?_
  refine so (wn rfl) (O.makeSlice rfl rfl hF Try.underlying61 inf3 rfl rfl (hF.ev rfl) (hF.ev rfl) (by omega) (by omega) (by omega) (by omega) hS fun b12 a w hF hS => ?_)
  rw [show zeros [Value.int .i64 0] (Int.toNat (((32 : Nat) : Int) + 1)) = ints (toB 33 ((x + y) % 256 ^ 0)) from by (rw [Nat.pow_zero, Nat.mod_one, ← toB_0]; exact zeros_ints 33)] at hS
  refine sv' hF (wn rfl) rfl rfl (R.assign (hF.ev rfl)) fun a hF => ?_
  refine s0 ?_
  refine then_n (hK2 _ _ ?_)
  refine wp_seq_k fun K3 hK3 => ?_
  refine wp_region_lit ?_
  refine sv' hF (wn rfl) rfl rfl (R.assign (hF.ev rfl)) fun a hF => ?_
  refine s0 ?_
  refine then_n (hK3 _ _ ?_)
  refine wp_seq_k fun K4 hK4 => ?_
  refine wp_seq_k fun K5 hK5 => ?_
  refine wp_region_lit ?_
  refine sv' hF (wn rfl) rfl rfl (R.move (hF.ev rfl)) fun a hF => ?_
  refine sv' hF (wn rfl) rfl rfl (R.len Try.underlying61 (hF.ev rfl)) fun a hF => ?_
  refine sv' hF (wn rfl) rfl rfl (R.subI (hF.ev rfl) (hF.ev rfl) (by omega)) fun a hF => ?_
  refine sv' hF (wn rfl) rfl rfl (R.assign (hF.ev rfl)) fun a hF => ?_
  refine s0 ?_
  refine then_n (hK5 _ _ ?_)
  refine wp_block ?_
  refine wp_loop_N (fun g a w => ∃ (t : Nat), 32 - t = g ∧ Fr 43 [(0, .slice A 32 c), (1, .slice B 32 d), (5, .slice (some ⟨b12, 0, none⟩) 33 33), (6, .int .i64 ((cyB x y t : Nat) : Int)), (7, .int .i64 (31 - ((t : Nat) : Int)))] a ∧ St w0 [] [[(b12, Cel (ints (toB 33 ((x + y) % 256 ^ t))) 3)]] w ∧ (t ≤ 32)) (32 - 0) ?_ ?_
  · exact ⟨0, rfl, hF.sub ⟨rfl, rfl, rfl, (by rw [cyB_0]; rfl), rfl, trivial⟩, hS.sel [0] rfl rfl, by omega⟩
  · rintro KL1 g a w ⟨t, hg1, hF, hS, ht⟩ hKL1
    have hdx : x / 256 ^ t % 256 < 256 := Nat.mod_lt _ (by decide); have hdy : y / 256 ^ t % 256 < 256 := Nat.mod_lt _ (by decide); have hcy := cyB_le x y t
    refine wp_seq_k fun K6 hK6 => ?_
    refine wp_seq_k fun K7 hK7 => ?_
    refine wp_region_lit ?_
    refine sv' hF (wn rfl) rfl rfl (R.move (hF.ev rfl)) fun a hF => ?_
    refine sv' hF (wn rfl) rfl rfl (R.geq (hF.ev rfl) (hF.ev rfl)) fun a hF => ?_
    refine s0 ?_
    refine then_n (hK7 _ _ ?_)
    refine cD hF rfl (fun c1 => ?_) (fun c1 => ?_)
    ·
      refine wp_skip ?_
      refine then_n (hK6 _ _ ?_)
      refine wp_seq_k fun K8 hK8 => ?_
      refine wp_block ?_
      refine wp_seq_k fun K9 hK9 => ?_
      refine wp_drawS hS [(0, 0), (1, 0), (2, 0), (3, 1), (4, 0), (5, 0), (6, 0), (7, 1), (8, 0), (9, 0), (10, 0), (11, 0)] mix (by kernel_rfl) (hP.then.block.then.then.block.then) fun w hS => ?_
      have hD := hS
      refine dq hF rfl (wn rfl) rfl rfl (fun w => R.move (hF.ev rfl)) fun a hF => ?_
      refine dq hF rfl (wn rfl) rfl rfl (fun w => R.move (hF.ev rfl)) fun a hF => ?_
      refine dq hF rfl (wn rfl) rfl rfl (fun w => R.indexO Try.underlying61 sz3 (hF.ev rfl) (Rd.ne hA (by rw [length_ints, length_toB]; omega)) (hF.ev rfl) (by omega) (by omega)) fun a hF => ?_
      refine dr hF rfl (wn rfl) rfl rfl hD (fun w hD => R.loadO one3 (hF.ev rfl) (hA.old hD) (ints_getT (t := t) (by omega) (by omega))) fun a hF => ?_
      refine dq hF rfl (wn rfl) rfl rfl (fun w => R.move (hF.ev rfl)) fun a hF => ?_
      refine dq hF rfl (wn rfl) rfl rfl (fun w => R.move (hF.ev rfl)) fun a hF => ?_
      refine dq hF rfl (wn rfl) rfl rfl (fun w => R.indexO Try.underlying61 sz3 (hF.ev rfl) (Rd.ne hB (by rw [length_ints, length_toB]; omega)) (hF.ev rfl) (by omega) (by omega)) fun a hF => ?_
      refine dr hF rfl (wn rfl) rfl rfl hD (fun w hD => R.loadO one3 (hF.ev rfl) (hB.old hD) (ints_getT (t := t) (by omega) (by omega))) fun a hF => ?_
      refine dq hF rfl (wn rfl) rfl rfl (fun w => R.addI (hF.ev rfl) (hF.ev rfl) (by omega)) fun a hF => ?_
      refine dq hF rfl (wn rfl) rfl rfl (fun w => R.move (hF.ev rfl)) fun a hF => ?_
      refine dq hF rfl (wn rfl) rfl rfl (fun w => R.addI (hF.ev rfl) (hF.ev rfl) (by omega)) fun a hF => ?_
      refine dq hF rfl (wn rfl) rfl rfl (fun w => R.assign (hF.ev rfl)) fun a hF => ?_
      refine d0 ?_
      refine then_n (hK9 _ _ ?_)
      refine wp_seq_k fun K10 hK10 => ?_
      refine wp_region_lit ?_
      refine sv' hF (wn rfl) rfl rfl (R.move (hF.ev rfl)) fun a hF => ?_
      refine sv' hF (wn rfl) rfl rfl (R.move (hF.ev rfl)) fun a hF => ?_
      refine sv' hF (wn rfl) rfl rfl (R.addI (hF.ev rfl) (hF.ev rfl) (by omega)) fun a hF => ?_
      refine sv' hF (wn rfl) rfl rfl (R.move (hF.ev rfl)) fun a hF => ?_
      refine sv' hF (wn rfl) rfl rfl (R.remI (hF.ev rfl) (hF.ev rfl) (by omega)) fun a hF => ?_
      refine sv' hF (wn rfl) rfl rfl (R.indexS Try.underlying61 sz3 (hF.ev rfl) (hF.ev rfl) (by omega) (by omega)) fun a hF => ?_
      refine so (wn rfl) (O.store sz3 (hF.ev rfl) (hF.ev rfl) rfl rfl hS .h (ints_setB (k := 33) (t := t) (e := (x + y) / 256 ^ t % 256) (by omega) (Nat.mod_lt _ (by decide)) (by omega) (congrArg (Value.int .i64) (by have := plus_dig x y t; omega))) (by rw [length_ints, length_toB]; omega) fun w hS => ?_)
      rw [setB_take] at hS
      refine s0 ?_
      refine then_n (hK10 _ _ ?_)
      refine wp_region_lit ?_
      refine sv' hF (wn rfl) rfl rfl (R.move (hF.ev rfl)) fun a hF => ?_
      refine sv' hF (wn rfl) rfl rfl (R.quoI (hF.ev rfl) (hF.ev rfl) (by omega)) fun a hF => ?_
      refine sv' hF (wn rfl) rfl rfl (R.assign (hF.ev rfl)) fun a hF => ?_
      refine s0 ?_
      refine blk_n ?_
      refine then_n (hK8 _ _ ?_)
      refine wp_region_lit ?_
      refine sv' hF (wn rfl) rfl rfl (R.move (hF.ev rfl)) fun a hF => ?_
      refine sv' hF (wn rfl) rfl rfl (R.subI (hF.ev rfl) (hF.ev rfl) (by omega)) fun a hF => ?_
      refine sv' hF (wn rfl) rfl rfl (R.assign (hF.ev rfl)) fun a hF => ?_
      refine s0 ?_
      refine then_n (hKL1 (32 - (t + 1)) _ _ ?_ ?_)
      · omega
      · exact ⟨t + 1, rfl, hF.sub ⟨rfl, rfl, rfl, (congrArg (fun z => some (Value.int .i64 z)) (by have := plus_cy x y t; omega)), (congrArg (fun z => some (Value.int .i64 z)) (by omega)), trivial⟩, hS.sel [0] rfl rfl, by omega⟩
    ·
      obtain rfl : t = 32 := by omega
      refine wp_exit (then_x (then_x (blk_hit ?_)))
      refine then_n (hK4 _ _ ?_)
      refine wp_seq_k fun K11 hK11 => ?_
      refine wp_region_lit ?_
      refine sv' hF (wn rfl) rfl rfl (R.move (hF.ev rfl)) fun a hF => ?_
      refine sv' hF (wn rfl) rfl rfl (R.move (hF.ev rfl)) fun a hF => ?_
      refine sv' hF (wn rfl) rfl rfl (R.indexS Try.underlying61 sz3 (hF.ev rfl) (hF.ev rfl) (by omega) (by omega)) fun a hF => ?_
      refine so (wn rfl) (O.store sz3 (hF.ev rfl) (hF.ev rfl) rfl rfl hS .h (ints_setB (k := 33) (t := 32) (e := (x + y) / 256 ^ 32 % 256) (by omega) (Nat.mod_lt _ (by decide)) (by omega) (by rw [cyB_top hx hy])) (by rw [length_ints, length_toB]; omega) fun w hS => ?_)
      rw [setB_take, Nat.mod_eq_of_lt (sum_lt33 hx hy)] at hS
      refine s0 ?_
      refine then_n (hK11 _ _ ?_)
      refine wp_seq_k fun K12 hK12 => ?_
      refine wp_region_lit ?_
      refine sv' hF (wn rfl) rfl rfl (R.move (hF.ev rfl)) fun a hF => ?_
      refine sv' hF (wn rfl) rfl rfl (R.assign (hF.ev rfl)) fun a hF => ?_
      refine s0 ?_
      refine then_n (hK12 _ _ ?_)
      refine wp_ret (hR _ _ _ _ _ hF (run_results Try.results41 (.t hF rfl (.nil))) ?_)
      exact ⟨_, _, rfl, ⟨_, rfl, rfl⟩, hS.one .h⟩
theorem wholly_calls (A : Option Addr) (n c v : Nat) (w0 : World) (hA : Rd w0 A (ints (toB n v))) (hn : 32 ≤ n ∧ n ≤ 64) (hv : v < 256 ^ n) : Ret Try.prog 42 [.slice A n c] w0 [] (fun u s => u = .bool (decide (v < 256 ^ 32)) ∧ s = []) := by
  refine fn_start Try.func42 rfl Try.ntmps42 rfl [(0, .slice A n c)] ⟨rfl, trivial⟩ ?_
  intro Q a hP hF hR hN
  have hS := St.start w0
  refine wp_seq_k fun K1 hK1 => ?_
  refine wp_region_lit ?_
  refine sv' hF (wn rfl) rfl rfl (R.assign (hF.ev rfl)) fun a hF => ?_
  refine s0 ?_
  refine then_n (hK1 _ _ ?_)
  refine wp_seq_k fun K2 hK2 => ?_
  refine wp_seq_k fun K3 hK3 => ?_
  refine wp_region_lit ?_
  refine sv' hF (wn rfl) rfl rfl (R.assign (hF.ev rfl)) fun a hF => ?_
  refine s0 ?_
  refine then_n (hK3 _ _ ?_)
  refine wp_block ?_
  refine wp_loop_N (fun g a w => ∃ (i : Nat), n - i = g ∧ Fr 16 [(0, .slice A n c), (3, .int .i64 ((i : Nat) : Int))] a ∧ St w0 [] [] w ∧ (i ≤ n - 32) ∧ (v < 256 ^ (n - i))) (n - 0) ?_ ?_
  · exact ⟨0, rfl, hF.sub ⟨rfl, rfl, trivial⟩, hS.sel [] rfl rfl, by omega, hv⟩
  · rintro KL1 g a w ⟨i, hg1, hF, hS, hi, hvi⟩ hKL1
    have hdd : v / 256 ^ (n - 1 - i) % 256 < 256 := Nat.mod_lt _ (by decide)
    refine wp_seq_k fun K4 hK4 => ?_
    refine wp_seq_k fun K5 hK5 => ?_
    refine wp_region_lit ?_
    refine sv' hF (wn rfl) rfl rfl (R.move (hF.ev rfl)) fun a hF => ?_
    refine sv' hF (wn rfl) rfl rfl (R.move (hF.ev rfl)) fun a hF => ?_
    refine sv' hF (wn rfl) rfl rfl (R.len Try.underlying61 (hF.ev rfl)) fun a hF => ?_
    refine sv' hF (wn rfl) rfl rfl (R.subI (hF.ev rfl) (hF.ev rfl) (by omega)) fun a hF => ?_
    refine sv' hF (wn rfl) rfl rfl (R.lss (hF.ev rfl) (hF.ev rfl)) fun a hF => ?_
    refine s0 ?_
    refine then_n (hK5 _ _ ?_)
    refine cD hF rfl (fun c1 => ?_) (fun c1 => ?_)
    ·
      refine wp_skip ?_
      refine then_n (hK4 _ _ ?_)
      refine wp_seq_k fun K6 hK6 => ?_
      refine wp_block ?_
      refine wp_seq_k fun K7 hK7 => ?_
      refine wp_region_lit ?_
      refine sv' hF (wn rfl) rfl rfl (R.move (hF.ev rfl)) fun a hF => ?_
      refine sv' hF (wn rfl) rfl rfl (R.move (hF.ev rfl)) fun a hF => ?_
      refine sv' hF (wn rfl) rfl rfl (R.indexO Try.underlying61 sz3 (hF.ev rfl) (Rd.ne hA (by rw [length_ints, length_toB]; omega)) (hF.ev rfl) (by omega) (by omega)) fun a hF => ?_
      refine sv' hF (wn rfl) rfl rfl (R.loadO one3 (hF.ev rfl) (hA.old hS) (ints_getB (i := i) (by omega) (by omega))) fun a hF => ?_
      refine sv' hF (wn rfl) rfl rfl (R.neq (hF.ev rfl) (hF.ev rfl)) fun a hF => ?_
      refine s0 ?_
      refine then_n (hK7 _ _ ?_)
      refine cD hF rfl (fun c2 => ?_) (fun c2 => ?_)
      ·
        refine wp_seq_k fun K8 hK8 => ?_
        refine wp_region_lit ?_
        refine sv' hF (wn rfl) rfl rfl (R.assign (hF.ev rfl)) fun a hF => ?_
        refine s0 ?_
        refine then_n (hK8 _ _ ?_)
        refine wp_ret (blk_r (then_r (then_r (blk_r (then_r (hR _ _ _ _ _ hF (run_results Try.results42 (.t hF rfl (.nil))) ?_))))))
        exact ⟨_, [], rfl, ⟨by rw [decide_eq_false (who_bad (n := n) (i := i) (by omega) (by omega))]; rfl, rfl⟩, hS.none⟩
      ·
        refine wp_skip ?_
        refine blk_n ?_
        refine then_n (hK6 _ _ ?_)
        refine wp_region_lit ?_
        refine sv' hF (wn rfl) rfl rfl (R.move (hF.ev rfl)) fun a hF => ?_
        refine sv' hF (wn rfl) rfl rfl (R.addI (hF.ev rfl) (hF.ev rfl) (by omega)) fun a hF => ?_
        refine sv' hF (wn rfl) rfl rfl (R.assign (hF.ev rfl)) fun a hF => ?_
        refine s0 ?_
        refine then_n (hKL1 (n - (i + 1)) _ _ ?_ ?_)
        · omega
        · exact ⟨i + 1, rfl, hF.sub ⟨rfl, (congrArg (fun z => some (Value.int .i64 z)) (by omega)), trivial⟩, hS.sel [] rfl rfl, by omega, who_next hvi (by omega) (by omega)⟩
    ·
      refine wp_exit (then_x (then_x (blk_hit ?_)))
      refine then_n (hK2 _ _ ?_)
      refine wp_seq_k fun K9 hK9 => ?_
      refine wp_region_lit ?_
      refine sv' hF (wn rfl) rfl rfl (R.assign (hF.ev rfl)) fun a hF => ?_
      refine s0 ?_
      refine then_n (hK9 _ _ ?_)
      refine wp_ret (hR _ _ _ _ _ hF (run_results Try.results42 (.t hF rfl (.nil))) ?_)
      exact ⟨_, [], rfl, ⟨by rw [decide_eq_true (by rwa [show n - i = 32 by omega] at hvi)]; rfl, rfl⟩, hS.none⟩
theorem cmpB_calls (A B : Option Addr) (n c d x y : Nat) (w0 : World) (hA : Rd w0 A (ints (toB n x))) (hB : Rd w0 B (ints (toB n y))) (hn : n ≤ 64) (hx : x < 256 ^ n) (hy : y < 256 ^ n) : Ret Try.prog 43 [.slice A n c, .slice B n d] w0 [] (fun v s => v = .int .i64 (cmpV x y) ∧ s = []) := by
  refine fn_start Try.func43 rfl Try.ntmps43 rfl [(0, .slice A n c), (1, .slice B n d)] ⟨rfl, rfl, trivial⟩ ?_
  intro Q a hP hF hR hN
  have hS := St.start w0
  refine wp_seq_k fun K1 hK1 => ?_
  refine wp_region_lit ?_
  refine sv' hF (wn rfl) rfl rfl (R.assign (hF.ev rfl)) fun a hF => ?_
  refine s0 ?_
  refine then_n (hK1 _ _ ?_)
  refine wp_seq_k fun K2 hK2 => ?_
  refine wp_seq_k fun K3 hK3 => ?_
  refine wp_region_lit ?_
  refine sv' hF (wn rfl) rfl rfl (R.assign (hF.ev rfl)) fun a hF => ?_
  refine s0 ?_
  refine then_n (hK3 _ _ ?_)
  refine wp_block ?_
  refine wp_loop_N (fun g a w => ∃ (i : Nat), n - i = g ∧ Fr 30 [(0, .slice A n c), (1, .slice B n d), (5, .int .i64 ((i : Nat) : Int))] a ∧ St w0 [] [] w ∧ (i ≤ n) ∧ (x / 256 ^ (n - i) = y / 256 ^ (n - i))) (n - 0) ?_ ?_
  · exact ⟨0, rfl, hF.sub ⟨rfl, rfl, rfl, trivial⟩, hS.sel [] rfl rfl, by omega, (by rw [Nat.sub_zero, Nat.div_eq_of_lt hx, Nat.div_eq_of_lt hy])⟩
  · rintro KL1 g a w ⟨i, hg1, hF, hS, hi, hcp⟩ hKL1
    have hcp2 : i < n → x / 256 ^ (n - 1 - i + 1) = y / 256 ^ (n - 1 - i + 1) := fun h => by rw [show n - 1 - i + 1 = n - i by omega]; exact hcp
    refine wp_seq_k fun K4 hK4 => ?_
    refine wp_seq_k fun K5 hK5 => ?_
    refine wp_region_lit ?_
    refine sv' hF (wn rfl) rfl rfl (R.move (hF.ev rfl)) fun a hF => ?_
    refine sv' hF (wn rfl) rfl rfl (R.move (hF.ev rfl)) fun a hF => ?_
    refine sv' hF (wn rfl) rfl rfl (R.len Try.underlying61 (hF.ev rfl)) fun a hF => ?_
    refine sv' hF (wn rfl) rfl rfl (R.lss (hF.ev rfl) (hF.ev rfl)) fun a hF => ?_
    refine s0 ?_
    refine then_n (hK5 _ _ ?_)
    refine cD hF rfl (fun c1 => ?_) (fun c1 => ?_)
    ·
      refine wp_skip ?_
      refine then_n (hK4 _ _ ?_)
      refine wp_seq_k fun K6 hK6 => ?_
      refine wp_block ?_
      refine wp_seq_k fun K7 hK7 => ?_
      refine wp_drawS hS [(0, 0), (1, 0), (2, 0), (3, 1), (4, 0), (5, 0), (6, 0), (7, 1), (8, 0)] mix (by kernel_rfl) (hP.then.block.then.then.block.then) fun w hS => ?_
      have hD := hS
      refine dq hF rfl (wn rfl) rfl rfl (fun w => R.move (hF.ev rfl)) fun a hF => ?_
      refine dq hF rfl (wn rfl) rfl rfl (fun w => R.move (hF.ev rfl)) fun a hF => ?_
      refine dq hF rfl (wn rfl) rfl rfl (fun w => R.indexO Try.underlying61 sz3 (hF.ev rfl) (Rd.ne hA (by rw [length_ints, length_toB]; omega)) (hF.ev rfl) (by omega) (by omega)) fun a hF => ?_
      refine dr hF rfl (wn rfl) rfl rfl hD (fun w hD => R.loadO one3 (hF.ev rfl) (hA.old hD) (ints_getB (i := i) (by omega) (by omega))) fun a hF => ?_
      refine dq hF rfl (wn rfl) rfl rfl (fun w => R.move (hF.ev rfl)) fun a hF => ?_
      refine dq hF rfl (wn rfl) rfl rfl (fun w => R.move (hF.ev rfl)) fun a hF => ?_
      refine dq hF rfl (wn rfl) rfl rfl (fun w => R.indexO Try.underlying61 sz3 (hF.ev rfl) (Rd.ne hB (by rw [length_ints, length_toB]; omega)) (hF.ev rfl) (by omega) (by omega)) fun a hF => ?_
      refine dr hF rfl (wn rfl) rfl rfl hD (fun w hD => R.loadO one3 (hF.ev rfl) (hB.old hD) (ints_getB (i := i) (by omega) (by omega))) fun a hF => ?_
      refine dq hF rfl (wn rfl) rfl rfl (fun w => R.neq (hF.ev rfl) (hF.ev rfl)) fun a hF => ?_
      refine d0 ?_
      refine then_n (hK7 _ _ ?_)
      refine cD hF rfl (fun c2 => ?_) (fun c2 => ?_)
      ·
        refine wp_seq_k fun K8 hK8 => ?_
        refine wp_seq_k fun K9 hK9 => ?_
        refine wp_drawS hS [(0, 0), (1, 0), (2, 0), (3, 1), (4, 0), (5, 0), (6, 0), (7, 1), (8, 0)] mix (by kernel_rfl) (hP.then.block.then.then.block.then.then) fun w hS => ?_
        have hD := hS
        refine dq hF rfl (wn rfl) rfl rfl (fun w => R.move (hF.ev rfl)) fun a hF => ?_
        refine dq hF rfl (wn rfl) rfl rfl (fun w => R.move (hF.ev rfl)) fun a hF => ?_
        refine dq hF rfl (wn rfl) rfl rfl (fun w => R.indexO Try.underlying61 sz3 (hF.ev rfl) (Rd.ne hA (by rw [length_ints, length_toB]; omega)) (hF.ev rfl) (by omega) (by omega)) fun a hF => ?_
        refine dr hF rfl (wn rfl) rfl rfl hD (fun w hD => R.loadO one3 (hF.ev rfl) (hA.old hD) (ints_getB (i := i) (by omega) (by omega))) fun a hF => ?_
        refine dq hF rfl (wn rfl) rfl rfl (fun w => R.move (hF.ev rfl)) fun a hF => ?_
        refine dq hF rfl (wn rfl) rfl rfl (fun w => R.move (hF.ev rfl)) fun a hF => ?_
        refine dq hF rfl (wn rfl) rfl rfl (fun w => R.indexO Try.underlying61 sz3 (hF.ev rfl) (Rd.ne hB (by rw [length_ints, length_toB]; omega)) (hF.ev rfl) (by omega) (by omega)) fun a hF => ?_
        refine dr hF rfl (wn rfl) rfl rfl hD (fun w hD => R.loadO one3 (hF.ev rfl) (hB.old hD) (ints_getB (i := i) (by omega) (by omega))) fun a hF => ?_
        refine dq hF rfl (wn rfl) rfl rfl (fun w => R.lss (hF.ev rfl) (hF.ev rfl)) fun a hF => ?_
        refine d0 ?_
        refine then_n (hK9 _ _ ?_)
        refine cD hF rfl (fun c3 => ?_) (fun c3 => ?_)
        ·
          refine wp_seq_k fun K10 hK10 => ?_
          refine wp_region_lit ?_
          refine sv' hF (wn rfl) rfl rfl (R.assign (hF.ev rfl)) fun a hF => ?_
          refine s0 ?_
          refine then_n (hK10 _ _ ?_)
          refine wp_ret (then_r (blk_r (then_r (then_r (blk_r (then_r (hR _ _ _ _ _ hF (run_results Try.results43 (.t hF rfl (.nil))) ?_)))))))
          exact ⟨_, [], rfl, ⟨by rw [cmpV_lt (cmpB_lt (k := n - 1 - i) (hcp2 (by omega)) (by omega))]; rfl, rfl⟩, hS.none⟩
        ·
          refine wp_skip ?_
          refine then_n (hK8 _ _ ?_)
          refine wp_seq_k fun K11 hK11 => ?_
          refine wp_region_lit ?_
          refine sv' hF (wn rfl) rfl rfl (R.assign (hF.ev rfl)) fun a hF => ?_
          refine s0 ?_
          refine then_n (hK11 _ _ ?_)
          refine wp_ret (blk_r (then_r (then_r (blk_r (then_r (hR _ _ _ _ _ hF (run_results Try.results43 (.t hF rfl (.nil))) ?_))))))
          exact ⟨_, [], rfl, ⟨by rw [cmpV_gt (cmpB_lt (k := n - 1 - i) (hcp2 (by omega)).symm (by omega))]; rfl, rfl⟩, hS.none⟩
      ·
        refine wp_skip ?_
        refine blk_n ?_
        refine then_n (hK6 _ _ ?_)
        refine wp_region_lit ?_
        refine sv' hF (wn rfl) rfl rfl (R.move (hF.ev rfl)) fun a hF => ?_
        refine sv' hF (wn rfl) rfl rfl (R.addI (hF.ev rfl) (hF.ev rfl) (by omega)) fun a hF => ?_
        refine sv' hF (wn rfl) rfl rfl (R.assign (hF.ev rfl)) fun a hF => ?_
        refine s0 ?_
        refine then_n (hKL1 (n - (i + 1)) _ _ ?_ ?_)
        · omega
        · exact ⟨i + 1, rfl, hF.sub ⟨rfl, rfl, (congrArg (fun z => some (Value.int .i64 z)) (by omega)), trivial⟩, hS.sel [] rfl rfl, by omega, (by have h9 := cmpB_same (x := x) (y := y) (k := n - 1 - i) (hcp2 (by omega)) (by omega); rwa [show n - 1 - i = n - (i + 1) by omega] at h9)⟩
    ·
      refine wp_exit (then_x (then_x (blk_hit ?_)))
      refine then_n (hK2 _ _ ?_)
      refine wp_seq_k fun K12 hK12 => ?_
      refine wp_region_lit ?_
      refine sv' hF (wn rfl) rfl rfl (R.assign (hF.ev rfl)) fun a hF => ?_
      refine s0 ?_
      refine then_n (hK12 _ _ ?_)
      refine wp_ret (hR _ _ _ _ _ hF (run_results Try.results43 (.t hF rfl (.nil))) ?_)
      exact ⟨_, [], rfl, ⟨by rw [cmpV_eq (by rw [show n - i = 0 by omega] at hcp; simpa using hcp)]; rfl, rfl⟩, hS.none⟩
theorem lessB_calls (A B : Option Addr) (n c d x y : Nat) (w0 : World) (hA : Rd w0 A (ints (toB n x))) (hB : Rd w0 B (ints (toB n y))) (hn : n ≤ 64) (hyx : y ≤ x) : Ret Try.prog 44 [.slice A n c, .slice B n d] w0 [] (RetB n (x - y)) := by
  refine fn_start Try.func44 rfl Try.ntmps44 rfl [(0, .slice A n c), (1, .slice B n d)] ⟨rfl, rfl, trivial⟩ ?_
  intro Q a hP hF hR hN
  have hS := St.start w0
  refine wp_seq_k fun K1 hK1 => ?_
  refine wp_region_lit ?_
  refine sv' hF (wn rfl) rfl rfl (R.assign (hF.ev rfl)) fun a hF => ?_
  refine s0 ?_
  refine then_n (hK1 _ _ ?_)
  refine wp_seq_k fun K2 hK2 => ?_
  refine wp_region_lit ?_
  refine sv' hF (wn rfl) rfl rfl (R.move (hF.ev rfl)) fun a hF => ?_
  refine sv' hF (wn rfl) rfl rfl (R.len Try.underlying61 (hF.ev rfl)) fun a hF => ?_
  refine so (wn rfl) (O.makeSlice rfl rfl hF Try.underlying61 inf3 rfl rfl (hF.ev rfl) (hF.ev rfl) (by omega) (by omega) (by omega) (by omega) hS fun b11 a w hF hS => ?_)
  rw [show zeros [Value.int .i64 0] (Int.toNat ((n : Nat) : Int)) = ints (toB n ((x - y) % 256 ^ 0)) from by (rw [Nat.pow_zero, Nat.mod_one, ← toB_0]; exact zeros_ints n)] at hS
  refine sv' hF (wn rfl) rfl rfl (R.assign (hF.ev rfl)) fun a hF => ?_
  refine s0 ?_
  refine then_n (hK2 _ _ ?_)
  refine wp_seq_k fun K3 hK3 => ?_
  refine wp_region_lit ?_
  refine sv' hF (wn rfl) rfl rfl (R.assign (hF.ev rfl)) fun a hF => ?_
  refine s0 ?_
  refine then_n (hK3 _ _ ?_)
  refine wp_seq_k fun K4 hK4 => ?_
  refine wp_seq_k fun K5 hK5 => ?_
  refine wp_region_lit ?_
  refine sv' hF (wn rfl) rfl rfl (R.move (hF.ev rfl)) fun a hF => ?_
  refine sv' hF (wn rfl) rfl rfl (R.len Try.underlying61 (hF.ev rfl)) fun a hF => ?_
  refine sv' hF (wn rfl) rfl rfl (R.subI (hF.ev rfl) (hF.ev rfl) (by omega)) fun a hF => ?_
  refine sv' hF (wn rfl) rfl rfl (R.assign (hF.ev rfl)) fun a hF => ?_
  refine s0 ?_
  refine then_n (hK5 _ _ ?_)
  refine wp_block ?_
  refine wp_loop_N (fun g a w => ∃ (t : Nat), n - t = g ∧ Fr 39 [(0, .slice A n c), (1, .slice B n d), (5, .slice (some ⟨b11, 0, none⟩) n n), (6, .int .i64 ((bwB x y t : Nat) : Int)), (7, .int .i64 (((n : Nat) : Int) - 1 - ((t : Nat) : Int)))] a ∧ St w0 [] [[(b11, Cel (ints (toB n ((x - y) % 256 ^ t))) 3)]] w ∧ (t ≤ n)) (n - 0) ?_ ?_
  · exact ⟨0, rfl, hF.sub ⟨rfl, rfl, rfl, (by rw [bwB_0]; rfl), (congrArg (fun z => some (Value.int .i64 z)) (by omega)), trivial⟩, hS.sel [0] rfl rfl, by omega⟩
  · rintro KL1 g a w ⟨t, hg1, hF, hS, ht⟩ hKL1
    have hdx : x / 256 ^ t % 256 < 256 := Nat.mod_lt _ (by decide); have hdy : y / 256 ^ t % 256 < 256 := Nat.mod_lt _ (by decide); have hbw := bwB_le x y t
    refine wp_seq_k fun K6 hK6 => ?_
    refine wp_seq_k fun K7 hK7 => ?_
    refine wp_region_lit ?_
    refine sv' hF (wn rfl) rfl rfl (R.move (hF.ev rfl)) fun a hF => ?_
    refine sv' hF (wn rfl) rfl rfl (R.geq (hF.ev rfl) (hF.ev rfl)) fun a hF => ?_
    refine s0 ?_
    refine then_n (hK7 _ _ ?_)
    refine cD hF rfl (fun c1 => ?_) (fun c1 => ?_)
    ·
      refine wp_skip ?_
      refine then_n (hK6 _ _ ?_)
      refine wp_seq_k fun K8 hK8 => ?_
      refine wp_block ?_
      refine wp_seq_k fun K9 hK9 => ?_
      refine wp_drawS hS [(0, 0), (1, 0), (2, 0), (3, 1), (4, 0), (5, 0), (6, 0), (7, 1), (8, 0), (9, 0), (10, 0), (11, 0)] mix (by kernel_rfl) (hP.then.block.then.then.block.then) fun w hS => ?_
      have hD := hS
      refine dq hF rfl (wn rfl) rfl rfl (fun w => R.move (hF.ev rfl)) fun a hF => ?_
      refine dq hF rfl (wn rfl) rfl rfl (fun w => R.move (hF.ev rfl)) fun a hF => ?_
      refine dq hF rfl (wn rfl) rfl rfl (fun w => R.indexO Try.underlying61 sz3 (hF.ev rfl) (Rd.ne hA (by rw [length_ints, length_toB]; omega)) (hF.ev rfl) (by omega) (by omega)) fun a hF => ?_
      refine dr hF rfl (wn rfl) rfl rfl hD (fun w hD => R.loadO one3 (hF.ev rfl) (hA.old hD) (ints_getT (t := t) (by omega) (by omega))) fun a hF => ?_
      refine dq hF rfl (wn rfl) rfl rfl (fun w => R.move (hF.ev rfl)) fun a hF => ?_
      refine dq hF rfl (wn rfl) rfl rfl (fun w => R.move (hF.ev rfl)) fun a hF => ?_
      refine dq hF rfl (wn rfl) rfl rfl (fun w => R.indexO Try.underlying61 sz3 (hF.ev rfl) (Rd.ne hB (by rw [length_ints, length_toB]; omega)) (hF.ev rfl) (by omega) (by omega)) fun a hF => ?_
      refine dr hF rfl (wn rfl) rfl rfl hD (fun w hD => R.loadO one3 (hF.ev rfl) (hB.old hD) (ints_getT (t := t) (by omega) (by omega))) fun a hF => ?_
      refine dq hF rfl (wn rfl) rfl rfl (fun w => R.subI (hF.ev rfl) (hF.ev rfl) (by omega)) fun a hF => ?_
      refine dq hF rfl (wn rfl) rfl rfl (fun w => R.move (hF.ev rfl)) fun a hF => ?_
      refine dq hF rfl (wn rfl) rfl rfl (fun w => R.subI (hF.ev rfl) (hF.ev rfl) (by omega)) fun a hF => ?_
      refine dq hF rfl (wn rfl) rfl rfl (fun w => R.assign (hF.ev rfl)) fun a hF => ?_
      refine d0 ?_
      refine then_n (hK9 _ _ ?_)
      refine wp_seq_k fun K10 hK10 => ?_
      refine wp_region_lit ?_
      refine sv' hF (wn rfl) rfl rfl (R.assign (hF.ev rfl)) fun a hF => ?_
      refine s0 ?_
      refine then_n (hK10 _ _ ?_)
      refine wp_seq_k fun K11 hK11 => ?_
      have hK11' : ∀ a w, (Fr 39 [(0, .slice A n c), (1, .slice B n d), (5, .slice (some ⟨b11, 0, none⟩) n n), (6, .int .i64 ((bwB x y (t + 1) : Nat) : Int)), (7, .int .i64 (((n : Nat) : Int) - 1 - ((t : Nat) : Int))), (8, .int .i64 (((x - y) / 256 ^ t % 256 : Nat) : Int))] a ∧ St w0 [] [[(b11, Cel (ints (toB n ((x - y) % 256 ^ t))) 3)]] w) → K11 a w := by
        rintro a w ⟨hF, hS⟩
        refine hK11 _ _ ?_
        refine wp_region_lit ?_
        refine sv' hF (wn rfl) rfl rfl (R.move (hF.ev rfl)) fun a hF => ?_
        refine sv' hF (wn rfl) rfl rfl (R.move (hF.ev rfl)) fun a hF => ?_
        refine sv' hF (wn rfl) rfl rfl (R.move (hF.ev rfl)) fun a hF => ?_
        refine sv' hF (wn rfl) rfl rfl (R.indexS Try.underlying61 sz3 (hF.ev rfl) (hF.ev rfl) (by omega) (by omega)) fun a hF => ?_
        refine so (wn rfl) (O.store sz3 (hF.ev rfl) (hF.ev rfl) rfl rfl hS .h (ints_setB (k := n) (t := t) (e := (x - y) / 256 ^ t % 256) (by omega) (Nat.mod_lt _ (by decide)) (by omega) rfl) (by rw [length_ints, length_toB]; omega) fun w hS => ?_)
        rw [setB_take] at hS
        refine s0 ?_
        refine blk_n ?_
        refine then_n (hK8 _ _ ?_)
        refine wp_region_lit ?_
        refine sv' hF (wn rfl) rfl rfl (R.move (hF.ev rfl)) fun a hF => ?_
        refine sv' hF (wn rfl) rfl rfl (R.subI (hF.ev rfl) (hF.ev rfl) (by omega)) fun a hF => ?_
        refine sv' hF (wn rfl) rfl rfl (R.assign (hF.ev rfl)) fun a hF => ?_
        refine s0 ?_
        refine then_n (hKL1 (n - (t + 1)) _ _ ?_ ?_)
        · omega
        · exact ⟨t + 1, rfl, hF.sub ⟨rfl, rfl, rfl, rfl, (congrArg (fun z => some (Value.int .i64 z)) (by omega)), trivial⟩, hS.sel [0] rfl rfl, by omega⟩
      refine wp_seq_k fun K12 hK12 => ?_
      refine wp_region_lit ?_
      refine sv' hF (wn rfl) rfl rfl (R.move (hF.ev rfl)) fun a hF => ?_
      refine sv' hF (wn rfl) rfl rfl (R.lss (hF.ev rfl) (hF.ev rfl)) fun a hF => ?_
      refine s0 ?_
      refine then_n (hK12 _ _ ?_)
      refine cD hF rfl (fun c2 => ?_) (fun c2 => ?_)
      ·
        refine wp_seq_k fun K13 hK13 => ?_
        refine wp_region_lit ?_
        refine sv' hF (wn rfl) rfl rfl (R.move (hF.ev rfl)) fun a hF => ?_
        refine sv' hF (wn rfl) rfl rfl (R.addI (hF.ev rfl) (hF.ev rfl) (by omega)) fun a hF => ?_
        refine sv' hF (wn rfl) rfl rfl (R.assign (hF.ev rfl)) fun a hF => ?_
        refine s0 ?_
        refine then_n (hK13 _ _ ?_)
        refine wp_region_lit ?_
        refine sv' hF (wn rfl) rfl rfl (R.assign (hF.ev rfl)) fun a hF => ?_
        refine s0 ?_
        exact then_n (hK11' _ _ ⟨hF.sub ⟨rfl, rfl, rfl, (by rw [bw_1 (by omega)]; rfl), rfl, (congrArg (fun z => some (Value.int .i64 z)) (by have := less_dig x y t hyx; have := bw_1 (x := x) (y := y) (t := t) (by omega); omega)), trivial⟩, hS.sel [0] rfl rfl⟩)
      ·
        refine wp_skip ?_
        exact then_n (hK11' _ _ ⟨hF.sub ⟨rfl, rfl, rfl, (by rw [bw_n (by omega)]; rfl), rfl, (congrArg (fun z => some (Value.int .i64 z)) (by have := less_dig x y t hyx; have := bw_n (x := x) (y := y) (t := t) (by omega); omega)), trivial⟩, hS.sel [0] rfl rfl⟩)
    ·
      obtain rfl : t = n := by omega
      rw [toB_pw] at hS
      refine wp_exit (then_x (then_x (blk_hit ?_)))
      refine then_n (hK4 _ _ ?_)
      refine wp_seq_k fun K14 hK14 => ?_
      refine wp_region_lit ?_
      refine sv' hF (wn rfl) rfl rfl (R.move (hF.ev rfl)) fun a hF => ?_
      refine sv' hF (wn rfl) rfl rfl (R.assign (hF.ev rfl)) fun a hF => ?_
      refine s0 ?_
      refine then_n (hK14 _ _ ?_)
      refine wp_ret (hR _ _ _ _ _ hF (run_results Try.results44 (.t hF rfl (.nil))) ?_)
      exact ⟨_, _, rfl, ⟨_, rfl, rfl⟩, hS.one .h⟩
end Go.Proofs.Ytlapmbkfmbkdoaa
end
section
namespace Go.Proofs.Ytlapmbkfmbkdoaa
open Go Go.Fw Go.RowKit
attribute [local irreducible] Go.Oper.wp Go.Code.wp Go.wpList Go.Fw.WL Go.Calls
theorem rd_tail {w : World} {b n j v : Nat} (h : Rd w (some ⟨b, 0, none⟩) (ints (toB (n + j) v))) : Rd w (some ⟨b, j, none⟩) (ints (toB n v)) := by
  intro i u hu
  have e : (ints (toB (n + j) v))[j + i]? = some u := by
    have hd : toB n v = (toB (n + j) v).drop j := by rw [toB_drop j (by omega), Nat.add_sub_cancel]
    rw [hd] at hu
    unfold ints at hu ⊢
    rw [List.getElem?_map, List.getElem?_drop] at hu
    rw [List.getElem?_map]; exact hu
  obtain ⟨a, ha, hc⟩ := h (j + i) u e
  refine ⟨_, rfl, ?_⟩
  simp only [Option.some.injEq] at ha
  subst ha
  by_cases hi : i = 0 <;> by_cases hj : j = 0 <;> simp_all [Addr.add]
theorem mixB_get {P R k i off : Nat} (hk : k ≤ i) (h : i < 33) (ho : off = i) : (ints (mixL (toB 33 P) (toB 33 R) k))[off]? = some (.int .i64 ((R / 256 ^ (32 - i) % 256 : Nat) : Int)) := by
  rw [mixL_get (length_toB 33 P) (length_toB 33 R) h hk ho, toB_getD h]
theorem mixB_set {P R b k d off : Nat} {v : Value} (hP : P = 2 * R + b) (hb : b ≤ 1) (h : k < 33) (hd : d = R / 256 ^ (32 - k) % 256 % 128 * 2 + (if 0 < 32 - k then R / 256 ^ (32 - k - 1) % 256 / 128 else b)) (ho : off = k) (hv : v = .int .i64 ((d : Nat) : Int)) : (ints (mixL (toB 33 P) (toB 33 R) k)).set off v = ints (mixL (toB 33 P) (toB 33 R) (k + 1)) := by
  refine mixL_set (length_toB 33 P) (length_toB 33 R) h ?_ ho hv
  rw [toB_getD h, hd, hP, ← twice_dig hb]
theorem up_T {R b k : Nat} (h : k < 32) : R / 256 ^ (32 - (k + 1)) % 256 / 128 = (if 0 < 32 - k then R / 256 ^ (32 - k - 1) % 256 / 128 else b) := by
  rw [if_pos (by omega), show 32 - (k + 1) = 32 - k - 1 by omega]
theorem up_F {R b k : Nat} (h : ¬ k < 32) : b = (if 0 < 32 - k then R / 256 ^ (32 - k - 1) % 256 / 128 else b) := by rw [if_neg (by omega)]
theorem mixB_33 {P R : Nat} : mixL (toB 33 P) (toB 33 R) 33 = toB 33 P := mixL_all (length_toB _ _) (length_toB _ _)
theorem mixB_0 {P R : Nat} : mixL (toB 33 P) (toB 33 R) 0 = toB 33 R := mixL_0 _ _
theorem rem_T {x y i : Nat} (hy : 0 < y) (h : i < 256) (hc : y ≤ 2 * remT x y i + x / 2 ^ (255 - i) % 2) : remT x y (i + 1) = 2 * remT x y i + x / 2 ^ (255 - i) % 2 - y := by rw [remT_next hy h, if_pos hc]
theorem rem_F {x y i : Nat} (hy : 0 < y) (h : i < 256) (hc : ¬ y ≤ 2 * remT x y i + x / 2 ^ (255 - i) % 2) : remT x y (i + 1) = 2 * remT x y i + x / 2 ^ (255 - i) % 2 := by rw [remT_next hy h, if_neg hc]
theorem quo_T {x y i : Nat} (hy : 0 < y) (h : i < 256) (hc : y ≤ 2 * remT x y i + x / 2 ^ (255 - i) % 2) : quoT x y (i + 1) = quoT x y i + 2 ^ (255 - i) := by rw [quoT_next hy h, if_pos hc]
theorem quo_F {x y i : Nat} (hy : 0 < y) (h : i < 256) (hc : ¬ y ≤ 2 * remT x y i + x / 2 ^ (255 - i) % 2) : quoT x y (i + 1) = quoT x y i := by rw [quoT_next hy h, if_neg hc, Nat.add_zero]
theorem remT_lt {x y i : Nat} (hy : 0 < y) : remT x y i < y := Nat.mod_lt _ hy
theorem own_z1 (b : Nat) : OwnS [(b, Cel (ints [0]) 3)] (some ⟨b, 0, none⟩) 1 1 (ints [0]) 3 1 := OwnS.mk (cells := ints [0]) (rest := []) rfl (by decide) rfl (by decide)
theorem toB_33 {y : Nat} (h : y < 256 ^ 32) : ints [0] ++ ints (toB 32 y) = ints (toB 33 y) := by
  show _ = ints (toB (32 + 1) y)
  rw [toB_succ 32 y, Nat.div_eq_of_lt h]; rfl
theorem lt_33 {y : Nat} (h : y < 256 ^ 32) : y < 256 ^ 33 := Nat.lt_of_lt_of_le h (Nat.pow_le_pow_right (by decide) (by decide))
theorem two_33 {r y b : Nat} (hr : r < y) (hy : y < 256 ^ 32) (hb : b ≤ 1) : 2 * r + b < 256 ^ 33 := by
  have h33 : (256 : Nat) ^ 33 = 256 * 256 ^ 32 := by rw [show (33 : Nat) = 32 + 1 from rfl, Nat.pow_succ, Nat.mul_comm]
  omega
theorem p256_32 : (256 : Nat) ^ 32 = 2 ^ 256 := by decide
def RetQ (x y : Nat) (v : Value) (s : Seg) : Prop := ∃ bq br, v = .tuple #[.slice (some ⟨bq, 0, none⟩) 32 32, .slice (some ⟨br, 1, none⟩) 32 32] ∧ s = [(bq, Cel (ints (toB 32 (x / y))) 3)] ++ [(br, Cel (ints (toB 33 (x % y))) 3)]
set_option maxHeartbeats 1000000 in
theorem timesB_calls (A B : Option Addr) (c d x y : Nat) (w0 : World) (hA : Rd w0 A (ints (toB 32 x))) (hB : Rd w0 B (ints (toB 32 y))) (hx : x < 256 ^ 32) (hy : y < 256 ^ 32) : Ret Try.prog 45 [.slice A 32 c, .slice B 32 d] w0 [] (RetB 64 (x * y)) := by
  refine fn_start Try.func45 rfl Try.ntmps45 rfl [(0, .slice A 32 c), (1, .slice B 32 d)] ⟨rfl, rfl, trivial⟩ ?_
  intro Q a hP hF hR hN
  have hS := St.start w0
  refine wp_seq_k fun K1 hK1 => ?_
  refine wp_region_lit ?_
  refine sv' hF (wn rfl) rfl rfl (R.assign (hF.ev rfl)) fun a hF => ?_
  refine s0 ?_
  refine then_n (hK1 _ _ ?_)
  refine wp_seq_k fun K2 hK2 => ?_
  refine wp_region_lit ?_
  refine so (wn rfl) (O.makeSlice rfl rfl hF Try.underlying61 inf3 rfl rfl (hF.ev rfl) (hF.ev rfl) (by omega) (by omega) (by omega) (by omega) hS fun b10 a w hF hS => ?_)
  rw [show zeros [Value.int .i64 0] (Int.toNat 64) = ints (toB 64 (x % 256 ^ 0 * y)) from by (rw [Nat.pow_zero, Nat.mod_one, Nat.zero_mul, ← toB_0]; exact zeros_ints 64)] at hS
  refine sv' hF (wn rfl) rfl rfl (R.assign (hF.ev rfl)) fun a hF => ?_
  refine s0 ?_
  refine then_n (hK2 _ _ ?_)
  refine wp_seq_k fun K3 hK3 => ?_
  refine wp_seq_k fun K4 hK4 => ?_
  refine wp_region_lit ?_
  refine sv' hF (wn rfl) rfl rfl (R.assign (hF.ev rfl)) fun a hF => ?_
  refine s0 ?_
  refine then_n (hK4 _ _ ?_)
  refine wp_block ?_
  refine wp_loop_N (fun g a w => ∃ (t : Nat), 32 - t = g ∧ Fr 56 [(0, .slice A 32 c), (1, .slice B 32 d), (5, .slice (some ⟨b10, 0, none⟩) 64 64), (6, .int .i64 (31 - ((t : Nat) : Int)))] a ∧ St w0 [] [[(b10, Cel (ints (toB 64 (x % 256 ^ t * y))) 3)]] w ∧ (t ≤ 32)) (32 - 0) ?_ ?_
  · exact ⟨0, rfl, hF.sub ⟨rfl, rfl, rfl, rfl, trivial⟩, hS.sel [0] rfl rfl, by omega⟩
  · rintro KL1 g a w ⟨t, hg1, hF, hS, ht⟩ hKL1
    refine wp_seq_k fun K5 hK5 => ?_
    refine wp_seq_k fun K6 hK6 => ?_
    refine wp_region_lit ?_
    refine sv' hF (wn rfl) rfl rfl (R.move (hF.ev rfl)) fun a hF => ?_
    refine sv' hF (wn rfl) rfl rfl (R.geq (hF.ev rfl) (hF.ev rfl)) fun a hF => ?_
    refine s0 ?_
    refine then_n (hK6 _ _ ?_)
    refine cD hF rfl (fun c1 => ?_) (fun c1 => ?_)
    ·
      refine wp_skip ?_
      refine then_n (hK5 _ _ ?_)
      refine wp_seq_k fun K7 hK7 => ?_
      refine wp_block ?_
      refine wp_seq_k fun K8 hK8 => ?_
      refine wp_region_lit ?_
      refine sv' hF (wn rfl) rfl rfl (R.assign (hF.ev rfl)) fun a hF => ?_
      refine s0 ?_
      refine then_n (hK8 _ _ ?_)
      refine wp_seq_k fun K9 hK9 => ?_
      refine wp_seq_k fun K10 hK10 => ?_
      refine wp_region_lit ?_
      refine sv' hF (wn rfl) rfl rfl (R.assign (hF.ev rfl)) fun a hF => ?_
      refine s0 ?_
      refine then_n (hK10 _ _ ?_)
      refine wp_block ?_
      refine wp_loop_N (fun g a w => ∃ (u : Nat) (V : Nat) (cc : Nat), 32 - u = g ∧ Fr 56 [(0, .slice A 32 c), (1, .slice B 32 d), (5, .slice (some ⟨b10, 0, none⟩) 64 64), (6, .int .i64 (31 - ((t : Nat) : Int))), (7, .int .i64 ((cc : Nat) : Int)), (8, .int .i64 (31 - ((u : Nat) : Int)))] a ∧ St w0 [] [[(b10, Cel (ints (toB 64 (V))) 3)]] w ∧ (u ≤ 32) ∧ (V + cc * 256 ^ (t + u) = x % 256 ^ t * y + x / 256 ^ t % 256 * (y % 256 ^ u) * 256 ^ t) ∧ (cc < 256) ∧ (V < 256 ^ (t + 32))) (32 - 0) ?_ ?_
      · exact ⟨0, x % 256 ^ t * y, 0, rfl, hF.sub ⟨rfl, rfl, rfl, rfl, rfl, rfl, trivial⟩, hS.sel [0] rfl rfl, by omega, (by rw [Nat.pow_zero, Nat.mod_one]; simp), by decide, rows_lt hy⟩
      · rintro KL2 g a w ⟨u, V, cc, hg2, hF, hS, hu, hv, hcc, hV⟩ hKL2
        have hdx : x / 256 ^ t % 256 < 256 := Nat.mod_lt _ (by decide); have hdy : y / 256 ^ u % 256 < 256 := Nat.mod_lt _ (by decide); have hdv : V / 256 ^ (t + u) % 256 < 256 := Nat.mod_lt _ (by decide); have hmu : x / 256 ^ t % 256 * (y / 256 ^ u % 256) ≤ 255 * 255 := Nat.mul_le_mul (by omega) (by omega)
        refine wp_seq_k fun K11 hK11 => ?_
        refine wp_seq_k fun K12 hK12 => ?_
        refine wp_region_lit ?_
        refine sv' hF (wn rfl) rfl rfl (R.move (hF.ev rfl)) fun a hF => ?_
        refine sv' hF (wn rfl) rfl rfl (R.geq (hF.ev rfl) (hF.ev rfl)) fun a hF => ?_
        refine s0 ?_
        refine then_n (hK12 _ _ ?_)
        refine cD hF rfl (fun c2 => ?_) (fun c2 => ?_)
        ·
          refine wp_skip ?_
          refine then_n (hK11 _ _ ?_)
          refine wp_seq_k fun K13 hK13 => ?_
          refine wp_block ?_
          refine wp_seq_k fun K14 hK14 => ?_
          refine wp_drawS hS [(0, 0), (1, 0), (2, 0), (3, 0), (4, 0), (5, 0), (6, 1), (7, 0), (8, 0), (9, 0), (10, 1), (11, 0), (12, 0), (13, 0), (14, 1), (15, 0), (16, 0), (17, 0), (18, 0), (19, 0)] mix (by kernel_rfl) (hP.then.block.then.then.block.then.block.then.then.block.then) fun w hS => ?_
          have hD := hS
          refine dq hF rfl (wn rfl) rfl rfl (fun w => R.move (hF.ev rfl)) fun a hF => ?_
          refine dq hF rfl (wn rfl) rfl rfl (fun w => R.move (hF.ev rfl)) fun a hF => ?_
          refine dq hF rfl (wn rfl) rfl rfl (fun w => R.move (hF.ev rfl)) fun a hF => ?_
          refine dq hF rfl (wn rfl) rfl rfl (fun w => R.addI (hF.ev rfl) (hF.ev rfl) (by omega)) fun a hF => ?_
          refine dq hF rfl (wn rfl) rfl rfl (fun w => R.addI (hF.ev rfl) (hF.ev rfl) (by omega)) fun a hF => ?_
          refine dq hF rfl (wn rfl) rfl rfl (fun w => R.indexS Try.underlying61 sz3 (hF.ev rfl) (hF.ev rfl) (by omega) (by omega)) fun a hF => ?_
          refine dr hF rfl (wn rfl) rfl rfl hD (fun w hD => R.load one3 (hF.ev rfl) hD .h (ints_getT (t := t + u) (by omega) (by omega))) fun a hF => ?_
          refine dq hF rfl (wn rfl) rfl rfl (fun w => R.move (hF.ev rfl)) fun a hF => ?_
          refine dq hF rfl (wn rfl) rfl rfl (fun w => R.move (hF.ev rfl)) fun a hF => ?_
          refine dq hF rfl (wn rfl) rfl rfl (fun w => R.indexO Try.underlying61 sz3 (hF.ev rfl) (Rd.ne hA (by rw [length_ints, length_toB]; omega)) (hF.ev rfl) (by omega) (by omega)) fun a hF => ?_
          refine dr hF rfl (wn rfl) rfl rfl hD (fun w hD => R.loadO one3 (hF.ev rfl) (hA.old hD) (ints_getT (t := t) (by omega) (by omega))) fun a hF => ?_
          refine dq hF rfl (wn rfl) rfl rfl (fun w => R.move (hF.ev rfl)) fun a hF => ?_
          refine dq hF rfl (wn rfl) rfl rfl (fun w => R.move (hF.ev rfl)) fun a hF => ?_
          refine dq hF rfl (wn rfl) rfl rfl (fun w => R.indexO Try.underlying61 sz3 (hF.ev rfl) (Rd.ne hB (by rw [length_ints, length_toB]; omega)) (hF.ev rfl) (by omega) (by omega)) fun a hF => ?_
          refine dr hF rfl (wn rfl) rfl rfl hD (fun w hD => R.loadO one3 (hF.ev rfl) (hB.old hD) (ints_getT (t := u) (by omega) (by omega))) fun a hF => ?_
          refine dq hF rfl (wn rfl) rfl rfl (fun w => R.mulN (p := x / 256 ^ t % 256) (q := y / 256 ^ u % 256) (hF.ev rfl) (hF.ev rfl) (by omega)) fun a hF => ?_
          refine dq hF rfl (wn rfl) rfl rfl (fun w => R.addI (hF.ev rfl) (hF.ev rfl) (by omega)) fun a hF => ?_
          refine dq hF rfl (wn rfl) rfl rfl (fun w => R.move (hF.ev rfl)) fun a hF => ?_
          refine dq hF rfl (wn rfl) rfl rfl (fun w => R.addI (hF.ev rfl) (hF.ev rfl) (by omega)) fun a hF => ?_
          refine dq hF rfl (wn rfl) rfl rfl (fun w => R.assign (hF.ev rfl)) fun a hF => ?_
          refine d0 ?_
          refine then_n (hK14 _ _ ?_)
          refine wp_seq_k fun K15 hK15 => ?_
          refine wp_region_lit ?_
          refine sv' hF (wn rfl) rfl rfl (R.move (hF.ev rfl)) fun a hF => ?_
          refine sv' hF (wn rfl) rfl rfl (R.move (hF.ev rfl)) fun a hF => ?_
          refine sv' hF (wn rfl) rfl rfl (R.move (hF.ev rfl)) fun a hF => ?_
          refine sv' hF (wn rfl) rfl rfl (R.addI (hF.ev rfl) (hF.ev rfl) (by omega)) fun a hF => ?_
          refine sv' hF (wn rfl) rfl rfl (R.addI (hF.ev rfl) (hF.ev rfl) (by omega)) fun a hF => ?_
          refine sv' hF (wn rfl) rfl rfl (R.move (hF.ev rfl)) fun a hF => ?_
          refine sv' hF (wn rfl) rfl rfl (R.remI (hF.ev rfl) (hF.ev rfl) (by omega)) fun a hF => ?_
          refine sv' hF (wn rfl) rfl rfl (R.indexS Try.underlying61 sz3 (hF.ev rfl) (hF.ev rfl) (by omega) (by omega)) fun a hF => ?_
          refine so (wn rfl) (O.store sz3 (hF.ev rfl) (hF.ev rfl) rfl rfl hS .h (ints_setB (k := 64) (t := t + u) (e := (V / 256 ^ (t + u) % 256 + x / 256 ^ t % 256 * (y / 256 ^ u % 256) + cc) % 256) (by omega) (Nat.mod_lt _ (by decide)) (by omega) (congrArg (Value.int .i64) (by omega))) (by rw [length_ints, length_toB]; omega) fun w hS => ?_)
          refine s0 ?_
          refine then_n (hK15 _ _ ?_)
          refine wp_region_lit ?_
          refine sv' hF (wn rfl) rfl rfl (R.move (hF.ev rfl)) fun a hF => ?_
          refine sv' hF (wn rfl) rfl rfl (R.quoI (hF.ev rfl) (hF.ev rfl) (by omega)) fun a hF => ?_
          refine sv' hF (wn rfl) rfl rfl (R.assign (hF.ev rfl)) fun a hF => ?_
          refine s0 ?_
          refine blk_n ?_
          refine then_n (hK13 _ _ ?_)
          refine wp_region_lit ?_
          refine sv' hF (wn rfl) rfl rfl (R.move (hF.ev rfl)) fun a hF => ?_
          refine sv' hF (wn rfl) rfl rfl (R.subI (hF.ev rfl) (hF.ev rfl) (by omega)) fun a hF => ?_
          refine sv' hF (wn rfl) rfl rfl (R.assign (hF.ev rfl)) fun a hF => ?_
          refine s0 ?_
          refine then_n (hKL2 (32 - (u + 1)) _ _ ?_ ?_)
          · omega
          · exact ⟨u + 1, setB V (t + u) ((V / 256 ^ (t + u) % 256 + x / 256 ^ t % 256 * (y / 256 ^ u % 256) + cc) % 256), (V / 256 ^ (t + u) % 256 + x / 256 ^ t % 256 * (y / 256 ^ u % 256) + cc) / 256, rfl, hF.sub ⟨rfl, rfl, rfl, rfl, (congrArg (fun z => some (Value.int .i64 z)) (by omega)), (congrArg (fun z => some (Value.int .i64 z)) (by omega)), trivial⟩, hS.sel [0] rfl rfl, by omega, row_step hv, row_carry hdv hdx hdy hcc, setB_lt hV (by omega) (Nat.mod_lt _ (by decide))⟩
        ·
          obtain rfl : u = 32 := by omega
          have hre := row_end hy hv hV hcc
          refine wp_exit (then_x (then_x (blk_hit ?_)))
          refine then_n (hK9 _ _ ?_)
          refine wp_region_lit ?_
          refine sv' hF (wn rfl) rfl rfl (R.move (hF.ev rfl)) fun a hF => ?_
          refine sv' hF (wn rfl) rfl rfl (R.move (hF.ev rfl)) fun a hF => ?_
          refine sv' hF (wn rfl) rfl rfl (R.indexS Try.underlying61 sz3 (hF.ev rfl) (hF.ev rfl) (by omega) (by omega)) fun a hF => ?_
          refine sv' hF (wn rfl) rfl rfl (R.load one3 (hF.ev rfl) hS .h (ints_getT (t := t + 32) (by omega) (by omega))) fun a hF => ?_
          refine sv' hF (wn rfl) rfl rfl (R.move (hF.ev rfl)) fun a hF => ?_
          refine sv' hF (wn rfl) rfl rfl (R.addI (hF.ev rfl) (hF.ev rfl) (by omega)) fun a hF => ?_
          refine sv' hF (wn rfl) rfl rfl (R.indexS Try.underlying61 sz3 (hF.ev rfl) (hF.ev rfl) (by omega) (by omega)) fun a hF => ?_
          refine so (wn rfl) (O.store sz3 (hF.ev rfl) (hF.ev rfl) rfl rfl hS .h (ints_setB (k := 64) (t := t + 32) (e := cc) (by omega) hcc (by omega) (congrArg (Value.int .i64) (by have := hre.1; omega))) (by rw [length_ints, length_toB]; omega) fun w hS => ?_)
          rw [hre.2, rows_next] at hS
          refine s0 ?_
          refine blk_n ?_
          refine then_n (hK7 _ _ ?_)
          refine wp_region_lit ?_
          refine sv' hF (wn rfl) rfl rfl (R.move (hF.ev rfl)) fun a hF => ?_
          refine sv' hF (wn rfl) rfl rfl (R.subI (hF.ev rfl) (hF.ev rfl) (by omega)) fun a hF => ?_
          refine sv' hF (wn rfl) rfl rfl (R.assign (hF.ev rfl)) fun a hF => ?_
          refine s0 ?_
          refine then_n (hKL1 (32 - (t + 1)) _ _ ?_ ?_)
          · omega
          · exact ⟨t + 1, rfl, hF.sub ⟨rfl, rfl, rfl, (congrArg (fun z => some (Value.int .i64 z)) (by omega)), trivial⟩, hS.sel [0] rfl rfl, by omega⟩
    ·
      obtain rfl : t = 32 := by omega
      rw [Nat.mod_eq_of_lt hx] at hS
      refine wp_exit (then_x (then_x (blk_hit ?_)))
      refine then_n (hK3 _ _ ?_)
      refine wp_seq_k fun K16 hK16 => ?_
      refine wp_region_lit ?_
      refine sv' hF (wn rfl) rfl rfl (R.move (hF.ev rfl)) fun a hF => ?_
      refine sv' hF (wn rfl) rfl rfl (R.assign (hF.ev rfl)) fun a hF => ?_
      refine s0 ?_
      refine then_n (hK16 _ _ ?_)
      refine wp_ret (hR _ _ _ _ _ hF (run_results Try.results45 (.t hF rfl (.nil))) ?_)
      exact ⟨_, _, rfl, ⟨_, rfl, rfl⟩, hS.one .h⟩
set_option maxHeartbeats 2000000 in
theorem parts_calls (A B : Option Addr) (c d x y : Nat) (w0 : World) (hA : Rd w0 A (ints (toB 32 x))) (hB : Rd w0 B (ints (toB 32 y))) (hx : x < 256 ^ 32) (hy : y < 256 ^ 32) (hy0 : 0 < y) : Ret Try.prog 46 [.slice A 32 c, .slice B 32 d] w0 [] (RetQ x y) := by
  refine fn_start Try.func46 rfl Try.ntmps46 rfl [(0, .slice A 32 c), (1, .slice B 32 d)] ⟨rfl, rfl, trivial⟩ ?_
  intro Q a hP hF hR hN
  have hS := St.start w0
  refine wp_seq_k fun K1 hK1 => ?_
  refine wp_region_lit ?_
  refine sv' hF (wn rfl) rfl rfl (R.assign (hF.ev rfl)) fun a hF => ?_
  refine sv' hF (wn rfl) rfl rfl (R.assign (hF.ev rfl)) fun a hF => ?_
  refine s0 ?_
  refine then_n (hK1 _ _ ?_)
  refine wp_seq_k fun K2 hK2 => ?_
  refine wp_region_lit ?_
  refine so (wn rfl) (O.makeSlice rfl rfl hF Try.underlying61 inf3 rfl rfl (hF.ev rfl) (hF.ev rfl) (by omega) (by omega) (by omega) (by omega) hS fun b13 a w hF hS => ?_)
  rw [show zeros [Value.int .i64 0] (Int.toNat 32) = ints (toB 32 (quoT x y 0)) from by (rw [quoT_0 (p256_32 ▸ hx), ← toB_0]; exact zeros_ints 32)] at hS
  refine sv' hF (wn rfl) rfl rfl (R.assign (hF.ev rfl)) fun a hF => ?_
  refine s0 ?_
  refine then_n (hK2 _ _ ?_)
  refine wp_seq_k fun K3 hK3 => ?_
  refine wp_region_lit ?_
  refine so (wn rfl) (O.makeSlice rfl rfl hF Try.underlying61 inf3 rfl rfl (hF.ev rfl) (hF.ev rfl) (by omega) (by omega) (by omega) (by omega) hS fun b14 a w hF hS => ?_)
  rw [show zeros [Value.int .i64 0] (Int.toNat 33) = ints (toB 33 (remT x y 0)) from by (rw [remT_0 (p256_32 ▸ hx), ← toB_0]; exact zeros_ints 33)] at hS
  refine sv' hF (wn rfl) rfl rfl (R.assign (hF.ev rfl)) fun a hF => ?_
  refine s0 ?_
  refine then_n (hK3 _ _ ?_)
  refine wp_seq_k fun K4 hK4 => ?_
  refine wp_region_lit ?_
  refine so (wn rfl) (O.buildSlice (l := ints [0]) rfl rfl hF Try.underlying61 inf3 rfl rfl (hF.evp rfl) (by decide) rfl hS fun b15 a w hF hS => ?_)
  refine sv' hF (wn rfl) rfl rfl (R.move (hF.ev rfl)) fun a hF => ?_
  refine so (wn rfl) (O.appendO rfl rfl hF Try.underlying61 inf3 rfl rfl (by decide) (hF.ev rfl) (hF.ev rfl) hS (own_z1 b15) (fun _ => .h) (hB.old hS) (by rw [length_ints, length_toB]) (ints_one _) (by unfold maxLen; omega) (by omega) fun A17 c17 s17 a w hO17 hF hS => ?_)
  rw [show 1 + 32 = 33 from rfl] at hF hO17; rw [toB_33 hy] at hO17
  refine sv' hF (wn rfl) rfl rfl (R.assign (hF.ev rfl)) fun a hF => ?_
  refine s0 ?_
  refine then_n (hK4 _ _ ?_)
  refine wp_seq_k fun K5 hK5 => ?_
  refine wp_seq_k fun K6 hK6 => ?_
  refine wp_region_lit ?_
  refine sv' hF (wn rfl) rfl rfl (R.assign (hF.ev rfl)) fun a hF => ?_
  refine s0 ?_
  refine then_n (hK6 _ _ ?_)
  refine wp_block ?_
  refine wp_loop_N (fun g a w => ∃ (i : Nat) (br : Nat), 256 - i = g ∧ Fr 77 [(0, .slice A 32 c), (6, .slice (some ⟨b13, 0, none⟩) 32 32), (7, .slice (some ⟨br, 0, none⟩) 33 33), (8, .slice A17 33 c17), (9, .int .i64 ((i : Nat) : Int))] a ∧ St w0 [] [[(br, Cel (ints (toB 33 (remT x y i))) 3)], [(b13, Cel (ints (toB 32 (quoT x y i))) 3)], s17] w ∧ (i ≤ 256)) (256 - 0) ?_ ?_
  · exact ⟨0, b14, rfl, hF.sub ⟨rfl, rfl, rfl, rfl, rfl, trivial⟩, hS.sel [1, 2, 0] rfl rfl, by omega⟩
  · rintro KL1 g a w ⟨i, br, hg1, hF, hS, hi⟩ hKL1
    have hbt := bit2_le x (255 - i); have hrl := remT_lt (x := x) (i := i) hy0
    refine wp_seq_k fun K7 hK7 => ?_
    refine wp_seq_k fun K8 hK8 => ?_
    refine wp_region_lit ?_
    refine sv' hF (wn rfl) rfl rfl (R.move (hF.ev rfl)) fun a hF => ?_
    refine sv' hF (wn rfl) rfl rfl (R.lss (hF.ev rfl) (hF.ev rfl)) fun a hF => ?_
    refine s0 ?_
    refine then_n (hK8 _ _ ?_)
    refine cD hF rfl (fun c1 => ?_) (fun c1 => ?_)
    ·
      refine wp_skip ?_
      refine then_n (hK7 _ _ ?_)
      refine wp_seq_k fun K9 hK9 => ?_
      refine wp_block ?_
      refine wp_seq_k fun K10 hK10 => ?_
      refine wp_region_lit ?_
      refine sv' hF (wn rfl) rfl rfl (R.move (hF.ev rfl)) fun a hF => ?_
      refine sv' hF (wn rfl) rfl rfl (R.move (hF.ev rfl)) fun a hF => ?_
      refine sv' hF (wn rfl) rfl rfl (R.quoI (hF.ev rfl) (hF.ev rfl) (by omega)) fun a hF => ?_
      refine sv' hF (wn rfl) rfl rfl (R.indexO Try.underlying61 sz3 (hF.ev rfl) (Rd.ne hA (by rw [length_ints, length_toB]; omega)) (hF.ev rfl) (by omega) (by omega)) fun a hF => ?_
      refine sv' hF (wn rfl) rfl rfl (R.loadO one3 (hF.ev rfl) (hA.old hS) (ints_getT (t := 31 - i / 8) (by omega) (by omega))) fun a hF => ?_
      refine sv' hF (wn rfl) rfl rfl (R.move (hF.ev rfl)) fun a hF => ?_
      refine sv' hF (wn rfl) rfl rfl (R.remI (hF.ev rfl) (hF.ev rfl) (by omega)) fun a hF => ?_
      refine sv' hF (wn rfl) rfl rfl (R.subI (hF.ev rfl) (hF.ev rfl) (by omega)) fun a hF => ?_
      refine sv' hF (wn rfl) rfl rfl (R.shrI (m := 7 - i % 8) (hF.ev rfl) ((hF.ev rfl).trans (congrArg (Value.int .i64) (by omega))) (by omega)) fun a hF => ?_
      refine sv' hF (wn rfl) rfl rfl (R.as (u := .int .i64 ((x / 2 ^ (255 - i) % 2 : Nat) : Int)) (R.andI (q := 1) (hF.ev rfl) (hF.ev rfl) (Nat.lt_of_le_of_lt (Nat.div_le_self _ _) (by omega)) (by decide)) (congrArg (fun z : Nat => Value.int .i64 (z : Int)) (by rw [Nat.and_one_is_mod, bit_of (by omega)]))) fun a hF => ?_
      refine sv' hF (wn rfl) rfl rfl (R.assign (hF.ev rfl)) fun a hF => ?_
      refine s0 ?_
      refine then_n (hK10 _ _ ?_)
      refine wp_seq_k fun K11 hK11 => ?_
      refine wp_seq_k fun K12 hK12 => ?_
      refine wp_region_lit ?_
      refine sv' hF (wn rfl) rfl rfl (R.assign (hF.ev rfl)) fun a hF => ?_
      refine s0 ?_
      refine then_n (hK12 _ _ ?_)
      refine wp_block ?_
      refine wp_loop_N (fun g a w => ∃ (k : Nat), 33 - k = g ∧ Fr 77 [(0, .slice A 32 c), (6, .slice (some ⟨b13, 0, none⟩) 32 32), (7, .slice (some ⟨br, 0, none⟩) 33 33), (8, .slice A17 33 c17), (9, .int .i64 ((i : Nat) : Int)), (10, .int .i64 ((x / 2 ^ (255 - i) % 2 : Nat) : Int)), (11, .int .i64 ((k : Nat) : Int))] a ∧ St w0 [] [[(br, Cel (ints (mixL (toB 33 (2 * remT x y i + x / 2 ^ (255 - i) % 2)) (toB 33 (remT x y i)) k)) 3)], [(b13, Cel (ints (toB 32 (quoT x y i))) 3)], s17] w ∧ (k ≤ 33)) (33 - 0) ?_ ?_
      · exact ⟨0, rfl, hF.sub ⟨rfl, rfl, rfl, rfl, rfl, rfl, rfl, trivial⟩, hS.sel [0, 1, 2] rfl (by rw [mixB_0]; rfl), by omega⟩
      · rintro KL2 g a w ⟨k, hg2, hF, hS, hk⟩ hKL2
        refine wp_seq_k fun K13 hK13 => ?_
        refine wp_seq_k fun K14 hK14 => ?_
        refine wp_region_lit ?_
        refine sv' hF (wn rfl) rfl rfl (R.move (hF.ev rfl)) fun a hF => ?_
        refine sv' hF (wn rfl) rfl rfl (R.lss (hF.ev rfl) (hF.ev rfl)) fun a hF => ?_
        refine s0 ?_
        refine then_n (hK14 _ _ ?_)
        refine cD hF rfl (fun c2 => ?_) (fun c2 => ?_)
        ·
          refine wp_skip ?_
          refine then_n (hK13 _ _ ?_)
          refine wp_seq_k fun K15 hK15 => ?_
          refine wp_block ?_
          refine wp_seq_k fun K16 hK16 => ?_
          refine wp_region_lit ?_
          refine sv' hF (wn rfl) rfl rfl (R.assign (hF.ev rfl)) fun a hF => ?_
          refine s0 ?_
          refine then_n (hK16 _ _ ?_)
          refine wp_seq_k fun K17 hK17 => ?_
          have hK17' : ∀ a w, (Fr 77 [(0, .slice A 32 c), (6, .slice (some ⟨b13, 0, none⟩) 32 32), (7, .slice (some ⟨br, 0, none⟩) 33 33), (8, .slice A17 33 c17), (9, .int .i64 ((i : Nat) : Int)), (10, .int .i64 ((x / 2 ^ (255 - i) % 2 : Nat) : Int)), (11, .int .i64 ((k : Nat) : Int)), (12, .int .i64 (((if 0 < 32 - k then remT x y i / 256 ^ (32 - k - 1) % 256 / 128 else x / 2 ^ (255 - i) % 2) : Nat) : Int))] a ∧ St w0 [] [[(br, Cel (ints (mixL (toB 33 (2 * remT x y i + x / 2 ^ (255 - i) % 2)) (toB 33 (remT x y i)) k)) 3)], [(b13, Cel (ints (toB 32 (quoT x y i))) 3)], s17] w) → K17 a w := by
            rintro a w ⟨hF, hS⟩
            refine hK17 _ _ ?_
            have hup : (if 0 < 32 - k then remT x y i / 256 ^ (32 - k - 1) % 256 / 128 else x / 2 ^ (255 - i) % 2) ≤ 1 := by split <;> omega
            refine wp_region_lit ?_
            refine sv' hF (wn rfl) rfl rfl (R.move (hF.ev rfl)) fun a hF => ?_
            refine sv' hF (wn rfl) rfl rfl (R.move (hF.ev rfl)) fun a hF => ?_
            refine sv' hF (wn rfl) rfl rfl (R.move (hF.ev rfl)) fun a hF => ?_
            refine sv' hF (wn rfl) rfl rfl (R.move (hF.ev rfl)) fun a hF => ?_
            refine sv' hF (wn rfl) rfl rfl (R.indexS Try.underlying61 sz3 (hF.ev rfl) (hF.ev rfl) (by omega) (by omega)) fun a hF => ?_
            refine sv' hF (wn rfl) rfl rfl (R.load one3 (hF.ev rfl) hS .h (mixB_get (i := k) (by omega) (by omega) (by omega))) fun a hF => ?_
            refine sv' hF (wn rfl) rfl rfl (R.remI (hF.ev rfl) (hF.ev rfl) (by omega)) fun a hF => ?_
            refine sv' hF (wn rfl) rfl rfl (R.mulI (hF.ev rfl) (hF.ev rfl) (by omega)) fun a hF => ?_
            refine sv' hF (wn rfl) rfl rfl (R.move (hF.ev rfl)) fun a hF => ?_
            refine sv' hF (wn rfl) rfl rfl (R.addI (hF.ev rfl) (hF.ev rfl) (by omega)) fun a hF => ?_
            refine sv' hF (wn rfl) rfl rfl (R.indexS Try.underlying61 sz3 (hF.ev rfl) (hF.ev rfl) (by omega) (by omega)) fun a hF => ?_
            refine so (wn rfl) (O.store sz3 (hF.ev rfl) (hF.ev rfl) rfl rfl hS .h (mixB_set (b := x / 2 ^ (255 - i) % 2) (d := remT x y i / 256 ^ (32 - k) % 256 % 128 * 2 + (if 0 < 32 - k then remT x y i / 256 ^ (32 - k - 1) % 256 / 128 else x / 2 ^ (255 - i) % 2)) rfl hbt (by omega) rfl (by omega) (congrArg (Value.int .i64) (by omega))) (by rw [length_ints, length_mixL (length_toB 33 _) (length_toB 33 _) (by omega)]; omega) fun w hS => ?_)
            refine s0 ?_
            refine blk_n ?_
            refine then_n (hK15 _ _ ?_)
            refine wp_region_lit ?_
            refine sv' hF (wn rfl) rfl rfl (R.move (hF.ev rfl)) fun a hF => ?_
            refine sv' hF (wn rfl) rfl rfl (R.addI (hF.ev rfl) (hF.ev rfl) (by omega)) fun a hF => ?_
            refine sv' hF (wn rfl) rfl rfl (R.assign (hF.ev rfl)) fun a hF => ?_
            refine s0 ?_
            refine then_n (hKL2 (33 - (k + 1)) _ _ ?_ ?_)
            · omega
            · exact ⟨k + 1, rfl, hF.sub ⟨rfl, rfl, rfl, rfl, rfl, rfl, (congrArg (fun z => some (Value.int .i64 z)) (by omega)), trivial⟩, hS.sel [0, 1, 2] rfl rfl, by omega⟩
          refine wp_seq_k fun K18 hK18 => ?_
          refine wp_region_lit ?_
          refine sv' hF (wn rfl) rfl rfl (R.move (hF.ev rfl)) fun a hF => ?_
          refine sv' hF (wn rfl) rfl rfl (R.lss (hF.ev rfl) (hF.ev rfl)) fun a hF => ?_
          refine s0 ?_
          refine then_n (hK18 _ _ ?_)
          refine cD hF rfl (fun c3 => ?_) (fun c3 => ?_)
          ·
            refine wp_region_lit ?_
            refine sv' hF (wn rfl) rfl rfl (R.move (hF.ev rfl)) fun a hF => ?_
            refine sv' hF (wn rfl) rfl rfl (R.move (hF.ev rfl)) fun a hF => ?_
            refine sv' hF (wn rfl) rfl rfl (R.addI (hF.ev rfl) (hF.ev rfl) (by omega)) fun a hF => ?_
            refine sv' hF (wn rfl) rfl rfl (R.indexS Try.underlying61 sz3 (hF.ev rfl) (hF.ev rfl) (by omega) (by omega)) fun a hF => ?_
            refine sv' hF (wn rfl) rfl rfl (R.load one3 (hF.ev rfl) hS .h (mixB_get (i := k + 1) (by omega) (by omega) (by omega))) fun a hF => ?_
            refine sv' hF (wn rfl) rfl rfl (R.quoI (hF.ev rfl) (hF.ev rfl) (by omega)) fun a hF => ?_
            refine sv' hF (wn rfl) rfl rfl (R.assign (hF.ev rfl)) fun a hF => ?_
            refine s0 ?_
            exact then_n (hK17' _ _ ⟨hF.sub ⟨rfl, rfl, rfl, rfl, rfl, rfl, rfl, (congrArg (fun z => some (Value.int .i64 z)) (by have := up_T (R := remT x y i) (b := x / 2 ^ (255 - i) % 2) (k := k) (by omega); omega)), trivial⟩, hS.sel [0, 1, 2] rfl rfl⟩)
          ·
            refine wp_region_lit ?_
            refine sv' hF (wn rfl) rfl rfl (R.move (hF.ev rfl)) fun a hF => ?_
            refine sv' hF (wn rfl) rfl rfl (R.assign (hF.ev rfl)) fun a hF => ?_
            refine s0 ?_
            exact then_n (hK17' _ _ ⟨hF.sub ⟨rfl, rfl, rfl, rfl, rfl, rfl, rfl, (congrArg (fun z : Nat => some (Value.int .i64 (z : Int))) (up_F (k := k) (by omega))), trivial⟩, hS.sel [0, 1, 2] rfl rfl⟩)
        ·
          obtain rfl : k = 33 := by omega
          rw [mixB_33] at hS
          refine wp_exit (then_x (then_x (blk_hit ?_)))
          refine then_n (hK11 _ _ ?_)
          refine wp_seq_k fun K19 hK19 => ?_
          refine wp_region_lit ?_
          refine sv' hF (wn rfl) rfl rfl (R.move (hF.ev rfl)) fun a hF => ?_
          refine sv' hF (wn rfl) rfl rfl (R.move (hF.ev rfl)) fun a hF => ?_
          refine so (wn rfl) (O.call rfl rfl hF ent43 (hF.evs rfl) hS (cmpB_calls (some ⟨br, 0, none⟩) A17 33 33 c17 (2 * remT x y i + x / 2 ^ (255 - i) % 2) y w (Rd.own0 hS .h) (hO17.rd hS (.t (.t .h))) (by decide) (two_33 hrl hy hbt) (lt_33 hy)) fun v s58 a w hR hF hS => ?_)
          obtain ⟨rfl, rfl⟩ := hR
          refine sv' hF (wn rfl) rfl rfl (R.geq (hF.ev rfl) (hF.ev rfl)) fun a hF => ?_
          refine s0 ?_
          refine then_n (hK19 _ _ ?_)
          refine cD hF rfl (fun c4 => ?_) (fun c4 => ?_)
          ·
            have hc := cmpV_ge.1 c4
            refine wp_seq_k fun K20 hK20 => ?_
            refine wp_region_lit ?_
            refine sv' hF (wn rfl) rfl rfl (R.move (hF.ev rfl)) fun a hF => ?_
            refine sv' hF (wn rfl) rfl rfl (R.move (hF.ev rfl)) fun a hF => ?_
            refine so (wn rfl) (O.call rfl rfl hF ent44 (hF.evs rfl) hS (lessB_calls (some ⟨br, 0, none⟩) A17 33 33 c17 (2 * remT x y i + x / 2 ^ (255 - i) % 2) y w (Rd.own0 hS (.t .h)) (hO17.rd hS (.t (.t (.t .h)))) (by decide) hc) fun v s62 a w hR hF hS => ?_)
            obtain ⟨b62, rfl, rfl⟩ := hR
            refine sv' hF (wn rfl) rfl rfl (R.assign (hF.ev rfl)) fun a hF => ?_
            refine s0 ?_
            refine then_n (hK20 _ _ ?_)
            refine wp_drawS hS [(0, 0), (1, 0), (2, 0), (3, 0), (4, 1), (5, 0), (6, 0), (7, 0), (8, 0), (9, 0), (10, 0), (11, 3)] mix (by kernel_rfl) (hP.then.block.then.then.block) fun w hS => ?_
            have hD := hS
            refine dq hF rfl (wn rfl) rfl rfl (fun w => R.move (hF.ev rfl)) fun a hF => ?_
            refine dq hF rfl (wn rfl) rfl rfl (fun w => R.move (hF.ev rfl)) fun a hF => ?_
            refine dq hF rfl (wn rfl) rfl rfl (fun w => R.quoI (hF.ev rfl) (hF.ev rfl) (by omega)) fun a hF => ?_
            refine dq hF rfl (wn rfl) rfl rfl (fun w => R.indexS Try.underlying61 sz3 (hF.ev rfl) (hF.ev rfl) (by omega) (by omega)) fun a hF => ?_
            refine dr hF rfl (wn rfl) rfl rfl hD (fun w hD => R.load one3 (hF.ev rfl) hD (.t (.t (.t .h))) (ints_getT (t := 31 - i / 8) (by omega) (by omega))) fun a hF => ?_
            refine dq hF rfl (wn rfl) rfl rfl (fun w => R.move (hF.ev rfl)) fun a hF => ?_
            refine dq hF rfl (wn rfl) rfl rfl (fun w => R.remI (hF.ev rfl) (hF.ev rfl) (by omega)) fun a hF => ?_
            refine dq hF rfl (wn rfl) rfl rfl (fun w => R.subI (hF.ev rfl) (hF.ev rfl) (by omega)) fun a hF => ?_
            refine dq hF rfl (wn rfl) rfl rfl (fun w => R.shlI (p := 1) (m := 7 - i % 8) (hF.ev rfl) ((hF.ev rfl).trans (congrArg (Value.int .i64) (by omega))) (by omega) (by rw [Nat.one_mul]; exact Nat.lt_of_le_of_lt (Nat.pow_le_pow_right (by decide) (show 7 - i % 8 ≤ 7 by omega)) (by decide))) fun a hF => ?_
            refine dq hF rfl (wn rfl) rfl rfl (fun w => R.as (u := .int .i64 ((quoT x y i / 256 ^ (31 - i / 8) % 256 + 2 ^ (7 - i % 8) : Nat) : Int)) (R.orI (hF.ev rfl) (hF.ev rfl) (by omega) (by rw [Nat.one_mul]; exact Nat.lt_of_le_of_lt (Nat.pow_le_pow_right (by decide) (show 7 - i % 8 ≤ 7 by omega)) (by decide))) (congrArg (fun z : Nat => Value.int .i64 (z : Int)) (by rw [Nat.one_mul, quoT_or (by omega)]))) fun a hF => ?_
            refine dq hF rfl (wn rfl) rfl rfl (fun w => R.indexS Try.underlying61 sz3 (hF.ev rfl) (hF.ev rfl) (by omega) (by omega)) fun a hF => ?_
            refine dw rfl (wn rfl) (O.store sz3 (hF.ev rfl) (hF.ev rfl) rfl rfl hS (.t (.t (.t .h))) (ints_setB (k := 32) (t := 31 - i / 8) (e := quoT x y i / 256 ^ (31 - i / 8) % 256 + 2 ^ (7 - i % 8)) (by omega) (quoT_lt (by omega)) (by omega) rfl) (by rw [length_ints, length_toB]; omega) fun w hS => ?_)
            rw [quoT_set (by omega)] at hS
            refine d0 ?_
            refine blk_n ?_
            refine then_n (hK9 _ _ ?_)
            refine wp_region_lit ?_
            refine sv' hF (wn rfl) rfl rfl (R.move (hF.ev rfl)) fun a hF => ?_
            refine sv' hF (wn rfl) rfl rfl (R.addI (hF.ev rfl) (hF.ev rfl) (by omega)) fun a hF => ?_
            refine sv' hF (wn rfl) rfl rfl (R.assign (hF.ev rfl)) fun a hF => ?_
            refine s0 ?_
            refine then_n (hKL1 (256 - (i + 1)) _ _ ?_ ?_)
            · omega
            · exact ⟨i + 1, b62, rfl, hF.sub ⟨rfl, rfl, rfl, rfl, (congrArg (fun z => some (Value.int .i64 z)) (by omega)), trivial⟩, hS.sel [0, 3, 4] rfl (by first | (rw [rem_T hy0 (by omega) hc, quo_T hy0 (by omega) hc]; rfl) | (rw [rem_F hy0 (by omega) hc, quo_F hy0 (by omega) hc]; rfl)), by omega⟩
          ·
            have hc : ¬ y ≤ (2 * remT x y i + x / 2 ^ (255 - i) % 2) := fun h => c4 (cmpV_ge.2 h)
            refine wp_skip ?_
            refine blk_n ?_
            refine then_n (hK9 _ _ ?_)
            refine wp_region_lit ?_
            refine sv' hF (wn rfl) rfl rfl (R.move (hF.ev rfl)) fun a hF => ?_
            refine sv' hF (wn rfl) rfl rfl (R.addI (hF.ev rfl) (hF.ev rfl) (by omega)) fun a hF => ?_
            refine sv' hF (wn rfl) rfl rfl (R.assign (hF.ev rfl)) fun a hF => ?_
            refine s0 ?_
            refine then_n (hKL1 (256 - (i + 1)) _ _ ?_ ?_)
            · omega
            · exact ⟨i + 1, br, rfl, hF.sub ⟨rfl, rfl, rfl, rfl, (congrArg (fun z => some (Value.int .i64 z)) (by omega)), trivial⟩, hS.sel [1, 2, 3] rfl (by first | (rw [rem_T hy0 (by omega) hc, quo_T hy0 (by omega) hc]; rfl) | (rw [rem_F hy0 (by omega) hc, quo_F hy0 (by omega) hc]; rfl)), by omega⟩
    ·
      obtain rfl : i = 256 := by omega
      rw [quoT_end, remT_end] at hS
      refine wp_exit (then_x (then_x (blk_hit ?_)))
      refine then_n (hK5 _ _ ?_)
      refine wp_seq_k fun K21 hK21 => ?_
      refine wp_drawS hS [(0, 0), (1, 0), (2, 0), (3, 0), (4, 0)] mix (by kernel_rfl) (hP.then) fun w hS => ?_
      have hD := hS
      refine dq hF rfl (wn rfl) rfl rfl (fun w => R.move (hF.ev rfl)) fun a hF => ?_
      refine dq hF rfl (wn rfl) rfl rfl (fun w => R.move (hF.ev rfl)) fun a hF => ?_
      refine dq hF rfl (wn rfl) rfl rfl (fun w => R.as (u := .slice (some ⟨br, 1, none⟩) 32 32) (R.sliceLo (p := 1) Try.underlying61 (hF.ev rfl) (hF.ev rfl) (by decide) sz3) (rfl)) fun a hF => ?_
      refine dq hF rfl (wn rfl) rfl rfl (fun w => R.assign (hF.ev rfl)) fun a hF => ?_
      refine dq hF rfl (wn rfl) rfl rfl (fun w => R.assign (hF.ev rfl)) fun a hF => ?_
      refine d0 ?_
      refine then_n (hK21 _ _ ?_)
      refine wp_ret (hR _ _ _ _ _ hF (run_results Try.results46 (.t hF rfl (.t hF rfl (.nil)))) ?_)
      exact ⟨_, _, rfl, ⟨b13, br, rfl, rfl⟩, ((hS.sel [1, 0] rfl rfl).flat (bs' := [_ ++ _]) (by simp [selS])).one .h⟩
end Go.Proofs.Ytlapmbkfmbkdoaa
end
section
namespace Go.Proofs.Ytlapmbkfmbkdoaa
open Go Go.Fw Go.RowKit
attribute [local irreducible] Go.Oper.wp Go.Code.wp Go.wpList Go.Fw.WL Go.Calls
theorem number32 (A : Option Addr) (c v : Nat) (w0 : World) (hA : Rd w0 A (ints (toB 32 v))) : Ret Try.prog 29 [.slice A 32 c] w0 [] (fun u s => u = wv (v % 256 ^ 32) ∧ s = []) := by
  have := number_calls A c (toB 32 v) w0 hA toB_lt (by rw [length_toB]; decide)
  rwa [length_toB, numB_toB] at this
theorem M256 : (256 : Nat) ^ 32 = 115792089237316195423570985008687907853269984665640564039457584007913129639936 := by decide
def SumR (c x y : Nat) (v : Value) : Prop := match arithN c x y with | some r => v = .tuple #[wv r, .bool true] | none => ∃ r, v = .tuple #[wv r, .bool false]
theorem sum_over {c x y z : Nat} (h : arithN c x y = if z < 256 ^ 32 then some z else none) : SumR c x y (.tuple #[wv (z % 256 ^ 32), .bool (decide (z < 256 ^ 32))]) := by
  unfold SumR
  rw [h]
  by_cases hz : z < 256 ^ 32
  · rw [if_pos hz, decide_eq_true hz, Nat.mod_eq_of_lt hz]
  · rw [if_neg hz, decide_eq_false hz]; exact ⟨_, rfl⟩
theorem sum_some {c x y r : Nat} (h : arithN c x y = some r) : SumR c x y (.tuple #[wv r, .bool true]) := by unfold SumR; rw [h]
theorem sum_none {c x y r : Nat} (h : arithN c x y = none) : SumR c x y (.tuple #[wv r, .bool false]) := by unfold SumR; rw [h]; exact ⟨_, rfl⟩
theorem ar_6 (x y : Nat) : arithN 6 x y = if x + y < 256 ^ 32 then some (x + y) else none := by rw [M256]; rfl
theorem ar_8 (x y : Nat) : arithN 8 x y = if x * y < 256 ^ 32 then some (x * y) else none := by rw [M256]; rfl
theorem ar_7b {x y : Nat} (h : x < y) : arithN 7 x y = none := by show (if x < y then none else some (x - y)) = none; rw [if_pos h]
theorem ar_7g {x y : Nat} (h : ¬ x < y) : arithN 7 x y = some (x - y) := by show (if x < y then none else some (x - y)) = _; rw [if_neg h]
theorem ar_0 {c x : Nat} (h : c = 9 ∨ c = 10) : arithN c x 0 = none := by rcases h with rfl | rfl <;> rfl
theorem ar_9 {x y : Nat} (h : y ≠ 0) : arithN 9 x y = some (x / y) := by show (if y = 0 then none else some (x / y)) = _; rw [if_neg h]
theorem ar_10 {x y : Nat} (h : y ≠ 0) : arithN 10 x y = some (x % y) := by show (if y = 0 then none else some (x % y)) = _; rw [if_neg h]
theorem cmp_dec (x y : Nat) : decide (cmpV x y < 0) = decide (x < y) := decide_eq_decide.2 cmpV_neg
theorem mul_64 {x y : Nat} (hx : x < 256 ^ 32) (hy : y < 256 ^ 32) : x * y < 256 ^ 64 := by
  have := Nat.mul_lt_mul'' hx hy
  rwa [← Nat.pow_add] at this
theorem rcount_int (z : Int) (w0 : World) (hz : 0 ≤ z ∧ z ≤ 9223372036854775807) : Ret Try.prog 47 [.int .i64 z] w0 [] (fun v s => v = wv z.toNat ∧ s = []) := by
  obtain ⟨n, rfl⟩ : ∃ n : Nat, z = n := ⟨z.toNat, by omega⟩
  exact rcount_calls n w0 (by omega)
set_option maxHeartbeats 2000000 in
theorem sum_calls (c x y : Nat) (w0 : World) (hc : 6 ≤ c ∧ c ≤ 12) (hx : x < 115792089237316195423570985008687907853269984665640564039457584007913129639936) (hy : y < 115792089237316195423570985008687907853269984665640564039457584007913129639936) : Ret Try.prog 30 [.int .i64 ((c : Nat) : Int), wv x, wv y] w0 [] (fun v s => SumR c x y v ∧ s = []) := by
  refine fn_start Try.func30 rfl Try.ntmps30 rfl [(0, .int .i64 ((c : Nat) : Int)), (1, wv x), (2, wv y)] ⟨rfl, rfl, rfl, trivial⟩ ?_
  intro Q a hP hF hR hN
  have hS := St.start w0
  have hx' : x < 256 ^ 32 := by (rw [M256]; exact hx)
  have hy' : y < 256 ^ 32 := by (rw [M256]; exact hy)
  refine wp_seq_k fun K1 hK1 => ?_
  refine wp_region_lit ?_
  refine so (wn rfl) (O.box rfl rfl hF (hF.ev rfl) rfl hS fun b4 a w hF hS => ?_)
  refine so (wn rfl) (O.box rfl rfl hF (hF.ev rfl) rfl hS fun b5 a w hF hS => ?_)
  refine so (wn rfl) (O.alloc rfl rfl hF ze31 rfl hS fun b6 a w hF hS => ?_)
  refine sv' hF (wn rfl) rfl rfl (R.assign (hF.ev rfl)) fun a hF => ?_
  refine s0 ?_
  refine then_n (hK1 _ _ ?_)
  refine wp_seq_k fun K2 hK2 => ?_
  refine wp_region_lit ?_
  refine sv' hF (wn rfl) rfl rfl (R.loadW agg31 (hF.ev rfl) hS (.t (.t .h)) sz31 (rfl)) fun a hF => ?_
  refine so (wn rfl) (O.call rfl rfl hF ent40 (hF.evs rfl) hS (dig_calls x w) fun v s15 a w hR hF hS => ?_)
  obtain ⟨b15, rfl, rfl⟩ := hR
  refine sv' hF (wn rfl) rfl rfl (R.assign (hF.ev rfl)) fun a hF => ?_
  refine s0 ?_
  refine then_n (hK2 _ _ ?_)
  refine wp_seq_k fun K3 hK3 => ?_
  refine wp_region_lit ?_
  refine sv' hF (wn rfl) rfl rfl (R.loadW agg31 (hF.ev rfl) hS (.t (.t .h)) sz31 (rfl)) fun a hF => ?_
  refine so (wn rfl) (O.call rfl rfl hF ent40 (hF.evs rfl) hS (dig_calls y w) fun v s17 a w hR hF hS => ?_)
  obtain ⟨b17, rfl, rfl⟩ := hR
  refine sv' hF (wn rfl) rfl rfl (R.assign (hF.ev rfl)) fun a hF => ?_
  refine s0 ?_
  refine then_n (hK3 _ _ ?_)
  refine wp_seq_k fun K4 hK4 => ?_
  refine wp_seq_k fun K5 hK5 => ?_
  refine wp_region_lit ?_
  refine sv' hF (wn rfl) rfl rfl (R.move (hF.ev rfl)) fun a hF => ?_
  refine sv' hF (wn rfl) rfl rfl (R.eql (hF.ev rfl) (hF.ev rfl)) fun a hF => ?_
  refine s0 ?_
  refine then_n (hK5 _ _ ?_)
  refine cD hF rfl (fun c1 => ?_) (fun c1 => ?_)
  ·
    obtain rfl : c = 6 := by omega
    refine wp_seq_k fun K6 hK6 => ?_
    refine wp_region_lit ?_
    refine sv' hF (wn rfl) rfl rfl (R.move (hF.ev rfl)) fun a hF => ?_
    refine sv' hF (wn rfl) rfl rfl (R.move (hF.ev rfl)) fun a hF => ?_
    refine so (wn rfl) (O.call rfl rfl hF ent41 (hF.evs rfl) hS (plus_calls (some ⟨b15, 0, none⟩) (some ⟨b17, 0, none⟩) 32 32 x y w (Rd.own0 hS (.t .h)) (Rd.own0 hS .h) hx' hy') fun v s22 a w hR hF hS => ?_)
    obtain ⟨b22, rfl, rfl⟩ := hR
    refine sv' hF (wn rfl) rfl rfl (R.assign (hF.ev rfl)) fun a hF => ?_
    refine s0 ?_
    refine then_n (hK6 _ _ ?_)
    refine wp_seq_k fun K7 hK7 => ?_
    refine wp_region_lit ?_
    refine sv' hF (wn rfl) rfl rfl (R.move (hF.ev rfl)) fun a hF => ?_
    refine sv' hF (wn rfl) rfl rfl (R.as (u := .slice (some ⟨b22, 1, none⟩) 32 32) (R.sliceLo (p := 1) Try.underlying61 (hF.ev rfl) (hF.ev rfl) (by decide) sz3) (rfl)) fun a hF => ?_
    refine so (wn rfl) (O.call rfl rfl hF ent29 (hF.evs rfl) hS (number32 (some ⟨b22, 1, none⟩) 32 (x + y) w (rd_tail (n := 32) (j := 1) (Rd.own0 hS .h))) fun v s25 a w hR hF hS => ?_)
    obtain ⟨rfl, rfl⟩ := hR
    refine sv' hF (wn rfl) rfl rfl (R.move (hF.ev rfl)) fun a hF => ?_
    refine so (wn rfl) (O.call rfl rfl hF ent42 (hF.evs rfl) hS (wholly_calls (some ⟨b22, 0, none⟩) 33 33 (x + y) w (Rd.own0 hS (.t .h)) (by decide) (sum_lt33 hx' hy')) fun v s27 a w hR hF hS => ?_)
    obtain ⟨rfl, rfl⟩ := hR
    refine so (wn rfl) (O.storeW sz31 (hF.ev rfl) (hF.ev rfl) (rfl) rfl (by simp [Value.oneCell']) hS (.t (.t (.t (.t (.t .h))))) (rfl) fun w hS => ?_)
    refine sv' hF (wn rfl) rfl rfl (R.assign (hF.ev rfl)) fun a hF => ?_
    refine s0 ?_
    refine then_n (hK7 _ _ ?_)
    refine wp_ret (then_r (hR _ _ _ _ _ hF (run_results Try.results30 (.cw hF rfl agg31 hS (.t (.t (.t (.t (.t .h))))) sz31 (rfl) (.t hF rfl (.nil)))) ?_))
    exact ⟨_, [], rfl, ⟨sum_over (ar_6 x y), rfl⟩, hS.none⟩
  ·
    refine wp_skip ?_
    refine then_n (hK4 _ _ ?_)
    refine wp_seq_k fun K8 hK8 => ?_
    refine wp_seq_k fun K9 hK9 => ?_
    refine wp_region_lit ?_
    refine sv' hF (wn rfl) rfl rfl (R.move (hF.ev rfl)) fun a hF => ?_
    refine sv' hF (wn rfl) rfl rfl (R.eql (hF.ev rfl) (hF.ev rfl)) fun a hF => ?_
    refine s0 ?_
    refine then_n (hK9 _ _ ?_)
    refine cD hF rfl (fun c2 => ?_) (fun c2 => ?_)
    ·
      obtain rfl : c = 7 := by omega
      refine wp_seq_k fun K10 hK10 => ?_
      refine wp_seq_k fun K11 hK11 => ?_
      refine wp_region_lit ?_
      refine sv' hF (wn rfl) rfl rfl (R.move (hF.ev rfl)) fun a hF => ?_
      refine sv' hF (wn rfl) rfl rfl (R.move (hF.ev rfl)) fun a hF => ?_
      refine so (wn rfl) (O.call rfl rfl hF ent43 (hF.evs rfl) hS (cmpB_calls (some ⟨b15, 0, none⟩) (some ⟨b17, 0, none⟩) 32 32 32 x y w (Rd.own0 hS (.t .h)) (Rd.own0 hS .h) (by decide) hx' hy') fun v s32 a w hR hF hS => ?_)
      obtain ⟨rfl, rfl⟩ := hR
      refine sv' hF (wn rfl) rfl rfl (R.lss (hF.ev rfl) (hF.ev rfl)) fun a hF => ?_
      refine s0 ?_
      refine then_n (hK11 _ _ ?_)
      refine cD hF rfl (fun c3 => ?_) (fun c3 => ?_)
      ·
        refine wp_seq_k fun K12 hK12 => ?_
        refine wp_region_lit ?_
        refine sv' hF (wn rfl) rfl rfl (R.buildArr (l := [_, _, _, _]) Try.underlying31 ze31 sz29 (hF.evp rfl) rfl) fun a hF => ?_
        refine so (wn rfl) (O.storeW sz31 (hF.ev rfl) (hF.ev rfl) (rfl) rfl (by simp [Value.oneCell']) hS (.t (.t (.t .h))) (rfl) fun w hS => ?_)
        refine sv' hF (wn rfl) rfl rfl (R.assign (hF.ev rfl)) fun a hF => ?_
        refine s0 ?_
        refine then_n (hK12 _ _ ?_)
        refine wp_ret (then_r (then_r (hR _ _ _ _ _ hF (run_results Try.results30 (.cw hF rfl agg31 hS (.t (.t (.t .h))) sz31 (rfl) (.t hF rfl (.nil)))) ?_)))
        exact ⟨_, [], rfl, ⟨sum_none (r := 0) (ar_7b (cmpV_neg.1 c3)), rfl⟩, hS.none⟩
      ·
        refine wp_skip ?_
        refine then_n (hK10 _ _ ?_)
        refine wp_seq_k fun K13 hK13 => ?_
        refine wp_region_lit ?_
        refine sv' hF (wn rfl) rfl rfl (R.move (hF.ev rfl)) fun a hF => ?_
        refine sv' hF (wn rfl) rfl rfl (R.move (hF.ev rfl)) fun a hF => ?_
        refine so (wn rfl) (O.call rfl rfl hF ent44 (hF.evs rfl) hS (lessB_calls (some ⟨b15, 0, none⟩) (some ⟨b17, 0, none⟩) 32 32 32 x y w (Rd.own0 hS (.t (.t .h))) (Rd.own0 hS (.t .h)) (by decide) (Nat.le_of_not_lt (fun h => c3 (cmpV_neg.2 h)))) fun v s37 a w hR hF hS => ?_)
        obtain ⟨b37, rfl, rfl⟩ := hR
        refine so (wn rfl) (O.call rfl rfl hF ent29 (hF.evs rfl) hS (number32 (some ⟨b37, 0, none⟩) 32 (x - y) w (Rd.own0 hS .h)) fun v s38 a w hR hF hS => ?_)
        obtain ⟨rfl, rfl⟩ := hR
        refine so (wn rfl) (O.storeW sz31 (hF.ev rfl) (hF.ev rfl) (rfl) rfl (by simp [Value.oneCell']) hS (.t (.t (.t (.t (.t .h))))) (rfl) fun w hS => ?_)
        refine sv' hF (wn rfl) rfl rfl (R.assign (hF.ev rfl)) fun a hF => ?_
        refine s0 ?_
        refine then_n (hK13 _ _ ?_)
        refine wp_ret (then_r (hR _ _ _ _ _ hF (run_results Try.results30 (.cw hF rfl agg31 hS (.t (.t (.t (.t (.t .h))))) sz31 (rfl) (.t hF rfl (.nil)))) ?_))
        exact ⟨_, [], rfl, ⟨by (have h9 : (x - y) % 256 ^ 32 = x - y := Nat.mod_eq_of_lt (by omega)); rw [h9]; exact sum_some (ar_7g (fun h => c3 (cmpV_neg.2 h))), rfl⟩, hS.none⟩
    ·
      refine wp_skip ?_
      refine then_n (hK8 _ _ ?_)
      refine wp_seq_k fun K14 hK14 => ?_
      refine wp_seq_k fun K15 hK15 => ?_
      refine wp_region_lit ?_
      refine sv' hF (wn rfl) rfl rfl (R.move (hF.ev rfl)) fun a hF => ?_
      refine sv' hF (wn rfl) rfl rfl (R.eql (hF.ev rfl) (hF.ev rfl)) fun a hF => ?_
      refine s0 ?_
      refine then_n (hK15 _ _ ?_)
      refine cD hF rfl (fun c4 => ?_) (fun c4 => ?_)
      ·
        obtain rfl : c = 8 := by omega
        refine wp_seq_k fun K16 hK16 => ?_
        refine wp_region_lit ?_
        refine sv' hF (wn rfl) rfl rfl (R.move (hF.ev rfl)) fun a hF => ?_
        refine sv' hF (wn rfl) rfl rfl (R.move (hF.ev rfl)) fun a hF => ?_
        refine so (wn rfl) (O.call rfl rfl hF ent45 (hF.evs rfl) hS (timesB_calls (some ⟨b15, 0, none⟩) (some ⟨b17, 0, none⟩) 32 32 x y w (Rd.own0 hS (.t .h)) (Rd.own0 hS .h) hx' hy') fun v s43 a w hR hF hS => ?_)
        obtain ⟨b43, rfl, rfl⟩ := hR
        refine sv' hF (wn rfl) rfl rfl (R.assign (hF.ev rfl)) fun a hF => ?_
        refine s0 ?_
        refine then_n (hK16 _ _ ?_)
        refine wp_seq_k fun K17 hK17 => ?_
        refine wp_region_lit ?_
        refine sv' hF (wn rfl) rfl rfl (R.move (hF.ev rfl)) fun a hF => ?_
        refine sv' hF (wn rfl) rfl rfl (R.as (u := .slice (some ⟨b43, 32, none⟩) 32 32) (R.sliceLo (p := 32) Try.underlying61 (hF.ev rfl) (hF.ev rfl) (by decide) sz3) (rfl)) fun a hF => ?_
        refine so (wn rfl) (O.call rfl rfl hF ent29 (hF.evs rfl) hS (number32 (some ⟨b43, 32, none⟩) 32 (x * y) w (rd_tail (n := 32) (j := 32) (Rd.own0 hS .h))) fun v s46 a w hR hF hS => ?_)
        obtain ⟨rfl, rfl⟩ := hR
        refine sv' hF (wn rfl) rfl rfl (R.move (hF.ev rfl)) fun a hF => ?_
        refine so (wn rfl) (O.call rfl rfl hF ent42 (hF.evs rfl) hS (wholly_calls (some ⟨b43, 0, none⟩) 64 64 (x * y) w (Rd.own0 hS (.t .h)) (by decide) (mul_64 hx' hy')) fun v s48 a w hR hF hS => ?_)
        obtain ⟨rfl, rfl⟩ := hR
        refine so (wn rfl) (O.storeW sz31 (hF.ev rfl) (hF.ev rfl) (rfl) rfl (by simp [Value.oneCell']) hS (.t (.t (.t (.t (.t .h))))) (rfl) fun w hS => ?_)
        refine sv' hF (wn rfl) rfl rfl (R.assign (hF.ev rfl)) fun a hF => ?_
        refine s0 ?_
        refine then_n (hK17 _ _ ?_)
        refine wp_ret (then_r (hR _ _ _ _ _ hF (run_results Try.results30 (.cw hF rfl agg31 hS (.t (.t (.t (.t (.t .h))))) sz31 (rfl) (.t hF rfl (.nil)))) ?_))
        exact ⟨_, [], rfl, ⟨sum_over (ar_8 x y), rfl⟩, hS.none⟩
      ·
        refine wp_skip ?_
        refine then_n (hK14 _ _ ?_)
        refine wp_seq_k fun K18 hK18 => ?_
        refine wp_seq_k fun K19 hK19 => ?_
        refine wp_region_lit ?_
        refine sv' hF (wn rfl) rfl rfl (R.move (hF.ev rfl)) fun a hF => ?_
        refine sv' hF (wn rfl) rfl rfl (R.eql (hF.ev rfl) (hF.ev rfl)) fun a hF => ?_
        refine s0 ?_
        refine then_n (hK19 _ _ ?_)
        refine cD hF rfl (fun c5 => ?_) (fun c5 => ?_)
        ·
          obtain rfl : c = 11 := by omega
          refine wp_seq_k fun K20 hK20 => ?_
          refine wp_region_lit ?_
          refine sv' hF (wn rfl) rfl rfl (R.move (hF.ev rfl)) fun a hF => ?_
          refine sv' hF (wn rfl) rfl rfl (R.move (hF.ev rfl)) fun a hF => ?_
          refine so (wn rfl) (O.call rfl rfl hF ent43 (hF.evs rfl) hS (cmpB_calls (some ⟨b15, 0, none⟩) (some ⟨b17, 0, none⟩) 32 32 32 x y w (Rd.own0 hS (.t .h)) (Rd.own0 hS .h) (by decide) hx' hy') fun v s53 a w hR hF hS => ?_)
          obtain ⟨rfl, rfl⟩ := hR
          refine sv' hF (wn rfl) rfl rfl (R.lss (hF.ev rfl) (hF.ev rfl)) fun a hF => ?_
          refine so (wn rfl) (O.call rfl rfl hF ent31 (hF.evs rfl) hS (rtruth_calls (cmpV x y < 0) w) fun v s55 a w hR hF hS => ?_)
          obtain ⟨rfl, rfl⟩ := hR
          refine so (wn rfl) (O.storeW sz31 (hF.ev rfl) (hF.ev rfl) (rfl) rfl (by simp [Value.oneCell']) hS (.t (.t (.t (.t .h)))) (rfl) fun w hS => ?_)
          refine sv' hF (wn rfl) rfl rfl (R.assign (hF.ev rfl)) fun a hF => ?_
          refine s0 ?_
          refine then_n (hK20 _ _ ?_)
          refine wp_ret (then_r (hR _ _ _ _ _ hF (run_results Try.results30 (.cw hF rfl agg31 hS (.t (.t (.t (.t .h)))) sz31 (rfl) (.t hF rfl (.nil)))) ?_))
          exact ⟨_, [], rfl, ⟨by rw [cmp_dec]; exact sum_some rfl, rfl⟩, hS.none⟩
        ·
          refine wp_skip ?_
          refine then_n (hK18 _ _ ?_)
          refine wp_seq_k fun K21 hK21 => ?_
          refine wp_seq_k fun K22 hK22 => ?_
          refine wp_region_lit ?_
          refine sv' hF (wn rfl) rfl rfl (R.move (hF.ev rfl)) fun a hF => ?_
          refine sv' hF (wn rfl) rfl rfl (R.eql (hF.ev rfl) (hF.ev rfl)) fun a hF => ?_
          refine s0 ?_
          refine then_n (hK22 _ _ ?_)
          refine cD hF rfl (fun c6 => ?_) (fun c6 => ?_)
          ·
            obtain rfl : c = 12 := by omega
            refine wp_seq_k fun K23 hK23 => ?_
            refine wp_region_lit ?_
            refine sv' hF (wn rfl) rfl rfl (R.loadW agg31 (hF.ev rfl) hS (.t (.t (.t (.t .h)))) sz31 (rfl)) fun a hF => ?_
            refine sv' hF (wn rfl) rfl rfl (R.loadW agg31 (hF.ev rfl) hS (.t (.t (.t .h))) sz31 (rfl)) fun a hF => ?_
            refine sv' hF (wn rfl) rfl rfl (R.eqlW (x := x) (y := y) (hF.ev rfl) (hF.ev rfl) hx hy) fun a hF => ?_
            refine so (wn rfl) (O.call rfl rfl hF ent31 (hF.evs rfl) hS (rtruth_calls (x = y) w) fun v s61 a w hR hF hS => ?_)
            obtain ⟨rfl, rfl⟩ := hR
            refine so (wn rfl) (O.storeW sz31 (hF.ev rfl) (hF.ev rfl) (rfl) rfl (by simp [Value.oneCell']) hS (.t (.t (.t .h))) (rfl) fun w hS => ?_)
            refine sv' hF (wn rfl) rfl rfl (R.assign (hF.ev rfl)) fun a hF => ?_
            refine s0 ?_
            refine then_n (hK23 _ _ ?_)
            refine wp_ret (then_r (hR _ _ _ _ _ hF (run_results Try.results30 (.cw hF rfl agg31 hS (.t (.t (.t .h))) sz31 (rfl) (.t hF rfl (.nil)))) ?_))
            exact ⟨_, [], rfl, ⟨sum_some rfl, rfl⟩, hS.none⟩
          ·
            refine wp_skip ?_
            refine then_n (hK21 _ _ ?_)
            refine wp_seq_k fun K24 hK24 => ?_
            refine wp_seq_k fun K25 hK25 => ?_
            refine wp_region_lit ?_
            refine sv' hF (wn rfl) rfl rfl (R.loadW agg31 (hF.ev rfl) hS (.t (.t (.t .h))) sz31 (rfl)) fun a hF => ?_
            refine so (wn rfl) (O.call rfl rfl hF ent32 (hF.evs rfl) hS (nought_calls y w hy) fun v s63 a w hR hF hS => ?_)
            obtain ⟨rfl, rfl⟩ := hR
            refine s0 ?_
            refine then_n (hK25 _ _ ?_)
            refine cD hF rfl (fun c7 => ?_) (fun c7 => ?_)
            ·
              refine wp_seq_k fun K26 hK26 => ?_
              refine wp_region_lit ?_
              refine sv' hF (wn rfl) rfl rfl (R.buildArr (l := [_, _, _, _]) Try.underlying31 ze31 sz29 (hF.evp rfl) rfl) fun a hF => ?_
              refine so (wn rfl) (O.storeW sz31 (hF.ev rfl) (hF.ev rfl) (rfl) rfl (by simp [Value.oneCell']) hS (.t (.t (.t .h))) (rfl) fun w hS => ?_)
              refine sv' hF (wn rfl) rfl rfl (R.assign (hF.ev rfl)) fun a hF => ?_
              refine s0 ?_
              refine then_n (hK26 _ _ ?_)
              refine wp_ret (then_r (hR _ _ _ _ _ hF (run_results Try.results30 (.cw hF rfl agg31 hS (.t (.t (.t .h))) sz31 (rfl) (.t hF rfl (.nil)))) ?_))
              exact ⟨_, [], rfl, ⟨sum_none (r := 0) (by rw [c7]; exact ar_0 (by omega)), rfl⟩, hS.none⟩
            ·
              refine wp_skip ?_
              refine then_n (hK24 _ _ ?_)
              refine wp_seq_k fun K27 hK27 => ?_
              refine wp_region_lit ?_
              refine sv' hF (wn rfl) rfl rfl (R.move (hF.ev rfl)) fun a hF => ?_
              refine sv' hF (wn rfl) rfl rfl (R.move (hF.ev rfl)) fun a hF => ?_
              refine so (wn rfl) (O.call rfl rfl hF ent46 (hF.evs rfl) hS (parts_calls (some ⟨b15, 0, none⟩) (some ⟨b17, 0, none⟩) 32 32 x y w (Rd.own0 hS (.t (.t .h))) (Rd.own0 hS (.t .h)) hx' hy' (by omega)) fun v s68 a w hR hF hS => ?_)
              obtain ⟨bq, br, rfl, rfl⟩ := hR
              refine sv' hF (wn rfl) rfl rfl (R.move (hF.ev rfl)) fun a hF => ?_
              refine sv' hF (wn rfl) rfl rfl (R.extract (hF.ev rfl) rfl) fun a hF => ?_
              refine sv' hF (wn rfl) rfl rfl (R.extract (hF.ev rfl) rfl) fun a hF => ?_
              refine sv' hF (wn rfl) rfl rfl (R.assign (hF.ev rfl)) fun a hF => ?_
              refine sv' hF (wn rfl) rfl rfl (R.assign (hF.ev rfl)) fun a hF => ?_
              refine s0 ?_
              refine then_n (hK27 _ _ ?_)
              refine wp_seq_k fun K28 hK28 => ?_
              refine wp_seq_k fun K29 hK29 => ?_
              have hS := St.split2 hS
              refine wp_region_lit ?_
              refine sv' hF (wn rfl) rfl rfl (R.move (hF.ev rfl)) fun a hF => ?_
              refine sv' hF (wn rfl) rfl rfl (R.eql (hF.ev rfl) (hF.ev rfl)) fun a hF => ?_
              refine s0 ?_
              refine then_n (hK29 _ _ ?_)
              refine cD hF rfl (fun c8 => ?_) (fun c8 => ?_)
              ·
                obtain rfl : c = 9 := by omega
                refine wp_seq_k fun K30 hK30 => ?_
                refine wp_region_lit ?_
                refine sv' hF (wn rfl) rfl rfl (R.move (hF.ev rfl)) fun a hF => ?_
                refine so (wn rfl) (O.call rfl rfl hF ent29 (hF.evs rfl) hS (number32 (some ⟨bq, 0, none⟩) 32 (x / y) w (Rd.own0 hS .h)) fun v s74 a w hR hF hS => ?_)
                obtain ⟨rfl, rfl⟩ := hR
                refine so (wn rfl) (O.storeW sz31 (hF.ev rfl) (hF.ev rfl) (rfl) rfl (by simp [Value.oneCell']) hS (.t (.t (.t (.t (.t (.t .h)))))) (rfl) fun w hS => ?_)
                refine sv' hF (wn rfl) rfl rfl (R.assign (hF.ev rfl)) fun a hF => ?_
                refine s0 ?_
                refine then_n (hK30 _ _ ?_)
                refine wp_ret (then_r (hR _ _ _ _ _ hF (run_results Try.results30 (.cw hF rfl agg31 hS (.t (.t (.t (.t (.t (.t .h)))))) sz31 (rfl) (.t hF rfl (.nil)))) ?_))
                exact ⟨_, [], rfl, ⟨by rw [Nat.mod_eq_of_lt (Nat.lt_of_le_of_lt (Nat.div_le_self x y) hx')]; exact sum_some (ar_9 c7), rfl⟩, hS.none⟩
              ·
                obtain rfl : c = 10 := by omega
                refine wp_skip ?_
                refine then_n (hK28 _ _ ?_)
                refine wp_seq_k fun K31 hK31 => ?_
                refine wp_region_lit ?_
                refine sv' hF (wn rfl) rfl rfl (R.move (hF.ev rfl)) fun a hF => ?_
                refine so (wn rfl) (O.call rfl rfl hF ent29 (hF.evs rfl) hS (number32 (some ⟨br, 1, none⟩) 32 (x % y) w (rd_tail (n := 32) (j := 1) (Rd.own0 hS (.t .h)))) fun v s76 a w hR hF hS => ?_)
                obtain ⟨rfl, rfl⟩ := hR
                refine so (wn rfl) (O.storeW sz31 (hF.ev rfl) (hF.ev rfl) (rfl) rfl (by simp [Value.oneCell']) hS (.t (.t (.t (.t (.t (.t .h)))))) (rfl) fun w hS => ?_)
                refine sv' hF (wn rfl) rfl rfl (R.assign (hF.ev rfl)) fun a hF => ?_
                refine s0 ?_
                refine then_n (hK31 _ _ ?_)
                refine wp_ret (hR _ _ _ _ _ hF (run_results Try.results30 (.cw hF rfl agg31 hS (.t (.t (.t (.t (.t (.t .h)))))) sz31 (rfl) (.t hF rfl (.nil)))) ?_)
                exact ⟨_, [], rfl, ⟨by rw [Nat.mod_eq_of_lt (Nat.lt_of_le_of_lt (Nat.mod_le x y) hx')]; exact sum_some (ar_10 c7), rfl⟩, hS.none⟩
set_option maxHeartbeats 2000000 in
theorem told_calls (F : Fx) (c b left : Nat) (w0 : World) (hc : 16 ≤ c ∧ c ≤ 23) (hK : F.Ok) (hA : Rd w0 F.aA (F.cl.args.flatMap wc)) (hl : left ≤ 10000) (hb : b ≤ 255) : Ret Try.prog 35 [.int .i64 ((c : Nat) : Int), .int .i64 ((b : Nat) : Int), .agg (callc F).toArray, .int .i64 ((left : Nat) : Int)] w0 [] (fun v s => v = wv (toldN F.cl c b left) ∧ s = []) := by
  refine fn_start Try.func35 rfl Try.ntmps35 rfl [(0, .int .i64 ((c : Nat) : Int)), (1, .int .i64 ((b : Nat) : Int)), (2, .agg (callc F).toArray), (3, .int .i64 ((left : Nat) : Int))] ⟨rfl, rfl, rfl, rfl, trivial⟩ ?_
  intro Q a hP hF hR hN
  have hS := St.start w0
  have hct := callOk_iff.1 hK.call; unfold CallP at hct
  refine wp_seq_k fun K1 hK1 => ?_
  refine wp_region_lit ?_
  refine so (wn rfl) (O.box rfl rfl hF (hF.ev rfl) rfl hS fun b6 a w hF hS => ?_)
  refine so (wn rfl) (O.alloc rfl rfl hF ze31 rfl hS fun b8 a w hF hS => ?_)
  refine s0 ?_
  refine then_n (hK1 _ _ ?_)
  refine wp_seq_k fun K2 hK2 => ?_
  refine wp_seq_k fun K3 hK3 => ?_
  refine wp_region_lit ?_
  refine sv' hF (wn rfl) rfl rfl (R.move (hF.ev rfl)) fun a hF => ?_
  refine s0 ?_
  refine then_n (hK3 _ _ ?_)
  refine wp_block ?_
  refine wp_seq_k fun K4 hK4 => ?_
  refine wp_region_lit ?_
  refine sv' hF (wn rfl) rfl rfl (R.eql (hF.ev rfl) (hF.ev rfl)) fun a hF => ?_
  refine sv' hF (wn rfl) rfl rfl (R.assign (hF.ev rfl)) fun a hF => ?_
  refine s0 ?_
  refine then_n (hK4 _ _ ?_)
  refine cD hF rfl (fun d1 => ?_) (fun d1 => ?_)
  ·
    obtain rfl : c = 16 := by omega
    refine wp_seq_k fun K5 hK5 => ?_
    refine wp_seq_k fun K6 hK6 => ?_
    refine wp_region_lit ?_
    refine sv' hF (wn rfl) rfl rfl (R.move (hF.ev rfl)) fun a hF => ?_
    refine sv' hF (wn rfl) rfl rfl (R.fieldAddr (k := 45) Try.underlying34 rfl nz32 (hF.ev rfl) rfl) fun a hF => ?_
    refine sv' hF (wn rfl) rfl rfl (R.load one32 (hF.ev rfl) hS (.t .h) (rfl)) fun a hF => ?_
    refine sv' hF (wn rfl) rfl rfl (R.len Try.underlying32 (hF.ev rfl)) fun a hF => ?_
    refine sv' hF (wn rfl) rfl rfl (R.lss (hF.ev rfl) (hF.ev rfl)) fun a hF => ?_
    refine s0 ?_
    refine then_n (hK6 _ _ ?_)
    refine cD hF rfl (fun d2 => ?_) (fun d2 => ?_)
    ·
      refine wp_seq_k fun K7 hK7 => ?_
      refine wp_region_lit ?_
      refine sv' hF (wn rfl) rfl rfl (R.fieldAddr (k := 45) Try.underlying34 rfl nz32 (hF.ev rfl) rfl) fun a hF => ?_
      refine sv' hF (wn rfl) rfl rfl (R.load one32 (hF.ev rfl) hS (.t .h) (rfl)) fun a hF => ?_
      refine sv' hF (wn rfl) rfl rfl (R.move (hF.ev rfl)) fun a hF => ?_
      refine sv' hF (wn rfl) rfl rfl (R.indexO Try.underlying32 sz31 (hF.ev rfl) (Rd.ne hA (by rw [wcs_length]; omega)) (hF.ev rfl) (by omega) (by omega)) fun a hF => ?_
      refine sv' hF (wn rfl) rfl rfl (R.loadAO (cs := wc (F.cl.args.getD b 0)) agg31 (hF.ev rfl) (hA.old hS) sz31 rfl (Nat.succ_pos _) (wcs_at (k := b) (by omega) (by omega))) fun a hF => ?_
      refine so (wn rfl) (O.storeW sz31 (hF.ev rfl) (hF.ev rfl) (rfl) rfl (by simp [Value.oneCell']) hS .h (rfl) fun w hS => ?_)
      refine s0 ?_
      refine then_n (hK7 _ _ ?_)
      refine wp_ret (then_r (blk_r (then_r (hR _ _ _ _ _ hF (run_results Try.results35 (.cw hF rfl agg31 hS .h sz31 (rfl) (.nil))) ?_))))
      exact ⟨_, [], rfl, ⟨rfl, rfl⟩, hS.none⟩
    ·
      refine wp_skip ?_
      refine then_n (hK5 _ _ ?_)
      refine wp_seq_k fun K8 hK8 => ?_
      refine wp_region_lit ?_
      refine sv' hF (wn rfl) rfl rfl (R.buildArr (l := [_, _, _, _]) Try.underlying31 ze31 sz29 (hF.evp rfl) rfl) fun a hF => ?_
      refine so (wn rfl) (O.storeW sz31 (hF.ev rfl) (hF.ev rfl) (rfl) rfl (by simp [Value.oneCell']) hS .h (rfl) fun w hS => ?_)
      refine s0 ?_
      refine then_n (hK8 _ _ ?_)
      refine wp_ret (blk_r (then_r (hR _ _ _ _ _ hF (run_results Try.results35 (.cw hF rfl agg31 hS .h sz31 (rfl) (.nil))) ?_)))
      exact ⟨_, [], rfl, ⟨by (have h9 : F.cl.args.getD b 0 = 0 := getD_past _ _ (by omega)); rw [show toldN F.cl 16 b left = F.cl.args.getD b 0 from rfl, h9]; rfl, rfl⟩, hS.none⟩
  ·
    refine wp_seq_k fun K9 hK9 => ?_
    refine wp_region_lit ?_
    refine sv' hF (wn rfl) rfl rfl (R.eql (hF.ev rfl) (hF.ev rfl)) fun a hF => ?_
    refine sv' hF (wn rfl) rfl rfl (R.assign (hF.ev rfl)) fun a hF => ?_
    refine s0 ?_
    refine then_n (hK9 _ _ ?_)
    refine cD hF rfl (fun d3 => ?_) (fun d3 => ?_)
    ·
      obtain rfl : c = 17 := by omega
      refine wp_seq_k fun K10 hK10 => ?_
      refine wp_region_lit ?_
      refine sv' hF (wn rfl) rfl rfl (R.fieldAddr (k := 45) Try.underlying34 rfl nz32 (hF.ev rfl) rfl) fun a hF => ?_
      refine sv' hF (wn rfl) rfl rfl (R.load one32 (hF.ev rfl) hS (.t .h) (rfl)) fun a hF => ?_
      refine sv' hF (wn rfl) rfl rfl (R.len Try.underlying32 (hF.ev rfl)) fun a hF => ?_
      refine so (wn rfl) (O.call rfl rfl hF ent47 (hF.evs rfl) hS (rcount_calls F.cl.args.length w (by omega)) fun v s28 a w hR hF hS => ?_)
      obtain ⟨rfl, rfl⟩ := hR
      refine so (wn rfl) (O.storeW sz31 (hF.ev rfl) (hF.ev rfl) (rfl) rfl (by simp [Value.oneCell']) hS (.t .h) (rfl) fun w hS => ?_)
      refine s0 ?_
      refine then_n (hK10 _ _ ?_)
      refine wp_ret (blk_r (then_r (hR _ _ _ _ _ hF (run_results Try.results35 (.cw hF rfl agg31 hS (.t .h) sz31 (rfl) (.nil))) ?_)))
      exact ⟨_, [], rfl, ⟨rfl, rfl⟩, hS.none⟩
    ·
      refine wp_seq_k fun K11 hK11 => ?_
      refine wp_region_lit ?_
      refine sv' hF (wn rfl) rfl rfl (R.eql (hF.ev rfl) (hF.ev rfl)) fun a hF => ?_
      refine sv' hF (wn rfl) rfl rfl (R.assign (hF.ev rfl)) fun a hF => ?_
      refine s0 ?_
      refine then_n (hK11 _ _ ?_)
      refine cD hF rfl (fun d4 => ?_) (fun d4 => ?_)
      ·
        obtain rfl : c = 18 := by omega
        refine wp_seq_k fun K12 hK12 => ?_
        refine wp_region_lit ?_
        refine sv' hF (wn rfl) rfl rfl (R.fieldAddr (k := 20) Try.underlying34 rfl nz28 (hF.ev rfl) rfl) fun a hF => ?_
        refine sv' hF (wn rfl) rfl rfl (R.loadA (cs := adc F.cl.caller) agg28 (hF.ev rfl) hS (.t .h) sz28 rfl (getAt rfl)) fun a hF => ?_
        refine so (wn rfl) (O.call rfl rfl hF ent48 (hF.evs rfl) hS (wideAd_calls F.cl.caller w hK.caller) fun v s33 a w hR hF hS => ?_)
        obtain ⟨rfl, rfl⟩ := hR
        refine so (wn rfl) (O.storeW sz31 (hF.ev rfl) (hF.ev rfl) (rfl) rfl (by simp [Value.oneCell']) hS (.t .h) (rfl) fun w hS => ?_)
        refine s0 ?_
        refine then_n (hK12 _ _ ?_)
        refine wp_ret (blk_r (then_r (hR _ _ _ _ _ hF (run_results Try.results35 (.cw hF rfl agg31 hS (.t .h) sz31 (rfl) (.nil))) ?_)))
        exact ⟨_, [], rfl, ⟨rfl, rfl⟩, hS.none⟩
      ·
        refine wp_seq_k fun K13 hK13 => ?_
        refine wp_region_lit ?_
        refine sv' hF (wn rfl) rfl rfl (R.eql (hF.ev rfl) (hF.ev rfl)) fun a hF => ?_
        refine sv' hF (wn rfl) rfl rfl (R.assign (hF.ev rfl)) fun a hF => ?_
        refine s0 ?_
        refine then_n (hK13 _ _ ?_)
        refine cD hF rfl (fun d5 => ?_) (fun d5 => ?_)
        ·
          obtain rfl : c = 19 := by omega
          refine wp_seq_k fun K14 hK14 => ?_
          refine wp_region_lit ?_
          refine sv' hF (wn rfl) rfl rfl (R.fieldAddr (k := 0) Try.underlying34 rfl nz28 (hF.ev rfl) rfl) fun a hF => ?_
          refine sv' hF (wn rfl) rfl rfl (R.loadA (cs := adc F.cl.self) agg28 (hF.ev rfl) hS (.t .h) sz28 rfl (getAt rfl)) fun a hF => ?_
          refine so (wn rfl) (O.call rfl rfl hF ent48 (hF.evs rfl) hS (wideAd_calls F.cl.self w hK.self) fun v s38 a w hR hF hS => ?_)
          obtain ⟨rfl, rfl⟩ := hR
          refine so (wn rfl) (O.storeW sz31 (hF.ev rfl) (hF.ev rfl) (rfl) rfl (by simp [Value.oneCell']) hS (.t .h) (rfl) fun w hS => ?_)
          refine s0 ?_
          refine then_n (hK14 _ _ ?_)
          refine wp_ret (blk_r (then_r (hR _ _ _ _ _ hF (run_results Try.results35 (.cw hF rfl agg31 hS (.t .h) sz31 (rfl) (.nil))) ?_)))
          exact ⟨_, [], rfl, ⟨rfl, rfl⟩, hS.none⟩
        ·
          refine wp_seq_k fun K15 hK15 => ?_
          refine wp_region_lit ?_
          refine sv' hF (wn rfl) rfl rfl (R.eql (hF.ev rfl) (hF.ev rfl)) fun a hF => ?_
          refine sv' hF (wn rfl) rfl rfl (R.assign (hF.ev rfl)) fun a hF => ?_
          refine s0 ?_
          refine then_n (hK15 _ _ ?_)
          refine cD hF rfl (fun d6 => ?_) (fun d6 => ?_)
          ·
            obtain rfl : c = 20 := by omega
            refine wp_seq_k fun K16 hK16 => ?_
            refine wp_region_lit ?_
            refine sv' hF (wn rfl) rfl rfl (R.fieldAddr (k := 40) Try.underlying34 rfl nz3 (hF.ev rfl) rfl) fun a hF => ?_
            refine sv' hF (wn rfl) rfl rfl (R.load one3 (hF.ev rfl) hS (.t .h) (rfl)) fun a hF => ?_
            refine so (wn rfl) (O.call rfl rfl hF ent47 (hF.evs rfl) hS (rcount_int F.cl.token w ⟨hct.1, by omega⟩) fun v s43 a w hR hF hS => ?_)
            obtain ⟨rfl, rfl⟩ := hR
            refine so (wn rfl) (O.storeW sz31 (hF.ev rfl) (hF.ev rfl) (rfl) rfl (by simp [Value.oneCell']) hS (.t .h) (rfl) fun w hS => ?_)
            refine s0 ?_
            refine then_n (hK16 _ _ ?_)
            refine wp_ret (blk_r (then_r (hR _ _ _ _ _ hF (run_results Try.results35 (.cw hF rfl agg31 hS (.t .h) sz31 (rfl) (.nil))) ?_)))
            exact ⟨_, [], rfl, ⟨rfl, rfl⟩, hS.none⟩
          ·
            refine wp_seq_k fun K17 hK17 => ?_
            refine wp_region_lit ?_
            refine sv' hF (wn rfl) rfl rfl (R.eql (hF.ev rfl) (hF.ev rfl)) fun a hF => ?_
            refine sv' hF (wn rfl) rfl rfl (R.assign (hF.ev rfl)) fun a hF => ?_
            refine s0 ?_
            refine then_n (hK17 _ _ ?_)
            refine cD hF rfl (fun d7 => ?_) (fun d7 => ?_)
            ·
              obtain rfl : c = 21 := by omega
              refine wp_seq_k fun K18 hK18 => ?_
              refine wp_region_lit ?_
              refine sv' hF (wn rfl) rfl rfl (R.fieldAddr (k := 41) Try.underlying34 rfl nz31 (hF.ev rfl) rfl) fun a hF => ?_
              refine sv' hF (wn rfl) rfl rfl (R.loadA (cs := [_, _, _, _]) agg31 (hF.ev rfl) hS (.t .h) sz31 rfl (getAt rfl)) fun a hF => ?_
              refine so (wn rfl) (O.storeW sz31 (hF.ev rfl) (hF.ev rfl) (rfl) rfl (by simp [Value.oneCell']) hS .h (rfl) fun w hS => ?_)
              refine s0 ?_
              refine then_n (hK18 _ _ ?_)
              refine wp_ret (blk_r (then_r (hR _ _ _ _ _ hF (run_results Try.results35 (.cw hF rfl agg31 hS .h sz31 (rfl) (.nil))) ?_)))
              exact ⟨_, [], rfl, ⟨rfl, rfl⟩, hS.none⟩
            ·
              refine wp_seq_k fun K19 hK19 => ?_
              refine wp_region_lit ?_
              refine sv' hF (wn rfl) rfl rfl (R.eql (hF.ev rfl) (hF.ev rfl)) fun a hF => ?_
              refine sv' hF (wn rfl) rfl rfl (R.assign (hF.ev rfl)) fun a hF => ?_
              refine s0 ?_
              refine then_n (hK19 _ _ ?_)
              refine cD hF rfl (fun d8 => ?_) (fun d8 => ?_)
              ·
                obtain rfl : c = 22 := by omega
                refine wp_seq_k fun K20 hK20 => ?_
                refine wp_region_lit ?_
                refine sv' hF (wn rfl) rfl rfl (R.fieldAddr (k := 46) Try.underlying34 rfl nz3 (hF.ev rfl) rfl) fun a hF => ?_
                refine sv' hF (wn rfl) rfl rfl (R.load one3 (hF.ev rfl) hS (.t .h) (rfl)) fun a hF => ?_
                refine so (wn rfl) (O.call rfl rfl hF ent47 (hF.evs rfl) hS (rcount_int F.cl.time w ⟨hct.2.2.2.1, by omega⟩) fun v s52 a w hR hF hS => ?_)
                obtain ⟨rfl, rfl⟩ := hR
                refine so (wn rfl) (O.storeW sz31 (hF.ev rfl) (hF.ev rfl) (rfl) rfl (by simp [Value.oneCell']) hS (.t .h) (rfl) fun w hS => ?_)
                refine s0 ?_
                refine then_n (hK20 _ _ ?_)
                refine wp_ret (blk_r (then_r (hR _ _ _ _ _ hF (run_results Try.results35 (.cw hF rfl agg31 hS (.t .h) sz31 (rfl) (.nil))) ?_)))
                exact ⟨_, [], rfl, ⟨rfl, rfl⟩, hS.none⟩
              ·
                obtain rfl : c = 23 := by omega
                refine wp_skip ?_
                refine blk_n ?_
                refine then_n (hK2 _ _ ?_)
                refine wp_seq_k fun K21 hK21 => ?_
                refine wp_region_lit ?_
                refine sv' hF (wn rfl) rfl rfl (R.move (hF.ev rfl)) fun a hF => ?_
                refine so (wn rfl) (O.call rfl rfl hF ent47 (hF.evs rfl) hS (rcount_calls left w (by omega)) fun v s54 a w hR hF hS => ?_)
                obtain ⟨rfl, rfl⟩ := hR
                refine so (wn rfl) (O.storeW sz31 (hF.ev rfl) (hF.ev rfl) (rfl) rfl (by simp [Value.oneCell']) hS (.t .h) (rfl) fun w hS => ?_)
                refine s0 ?_
                refine then_n (hK21 _ _ ?_)
                refine wp_ret (hR _ _ _ _ _ hF (run_results Try.results35 (.cw hF rfl agg31 hS (.t .h) sz31 (rfl) (.nil))) ?_)
                exact ⟨_, [], rfl, ⟨rfl, rfl⟩, hS.none⟩
end Go.Proofs.Ytlapmbkfmbkdoaa
end
section
namespace Go.Proofs.Ytlapmbkfmbkdoaa
open Go Go.Fw Go.RowKit
def topN (F : Fx) (stk : List Nat) (p : Nat) : Nat := stk.length - takesN (cAt F.code p)
def uN (F : Fx) (stk : List Nat) (p : Nat) : Nat → Nat := fun i => (stk.drop (topN F stk p)).getD i 0
def DoAt (F : Fx) (stk : List Nat) (left p : Nat) (asks : List Fw.Ask) : Prop := stp F.cl F.code F.rep stk left p asks = doN F.cl F.code F.rep (cAt F.code p) (cAt F.code (p + 1)) p (left - priceN (cAt F.code p)) (stk.take (topN F stk p)) (uN F stk p) asks
theorem do_at {F : Fx} {stk : List Nat} {left p : Nat} {asks : List Fw.Ask} (h : p < F.code.length) (h2 : ¬ left < priceN (cAt F.code p)) (h3 : ¬ (stk.length < deepN F.code p ∨ 64 < stk.length - takesN (cAt F.code p) + laysN (cAt F.code p))) : DoAt F stk left p asks := by
  unfold DoAt
  rw [stp_do h h2 h3]
  congr 1
  funext i
  unfold uN topN
  rw [List.getD_eq_getElem?_getD, List.getD_eq_getElem?_getD, List.getElem?_drop]
def Mid (F : Fx) (stk stk2 on : List Nat) (left p q : Nat) (asks asks2 : List Fw.Ask) : Prop :=
  (cAt F.code p < 24 ∧ asks2 = asks ∧ stp F.cl F.code F.rep stk left p asks = .more (stk2.take (topN F stk p) ++ on) (left - priceN (cAt F.code p)) q asks) ∨
  (24 ≤ cAt F.code p ∧ stk2 = stk ∧ on = [] ∧ q = p + sizeN F.code p ∧ (∃ qq, askN (cAt F.code p) (uN F stk p) = some qq ∧ asks2 = asks ++ [qq]) ∧ DoAt F stk left p asks)
theorem mid_low {F : Fx} {stk stk2 on : List Nat} {left p q : Nat} {asks asks2 : List Fw.Ask} (h : Mid F stk stk2 on left p q asks asks2) (hc : cAt F.code p < 24) : stp F.cl F.code F.rep stk left p asks = .more (stk2.take (topN F stk p) ++ on) (left - priceN (cAt F.code p)) q asks2 := by
  rcases h with ⟨_, rfl, h⟩ | ⟨h, _⟩
  · exact h
  · omega
theorem mid_high {F : Fx} {stk stk2 on : List Nat} {left p q : Nat} {asks asks2 : List Fw.Ask} (h : Mid F stk stk2 on left p q asks asks2) (hc : 24 ≤ cAt F.code p) : asks2.length = asks.length + 1 ∧ stp F.cl F.code F.rep stk left p asks = (if (F.rep asks.length).2 ≠ 0 then .err (F.rep asks.length).2 asks2 else .more (if cAt F.code p = 24 ∨ cAt F.code p = 26 then stk2.take (topN F stk p) ++ [(F.rep asks.length).1] else stk2.take (topN F stk p)) (left - priceN (cAt F.code p)) q asks2) := by
  rcases h with ⟨h, _⟩ | ⟨_, rfl, rfl, rfl, ⟨qq, h1, rfl⟩, h2⟩
  · omega
  · refine ⟨by simp, ?_⟩
    rw [h2, doN, if_neg (by omega), if_neg (by omega), if_neg (by omega), if_neg (by omega), if_neg (by omega), if_neg (by omega), if_neg (by omega), if_neg (by omega), if_neg (by omega), if_neg (by omega), if_neg (by omega), h1]
theorem mid_err {F : Fx} {stk stk2 on : List Nat} {left p q : Nat} {asks asks2 : List Fw.Ask} (h : Mid F stk stk2 on left p q asks asks2) (hc : 24 ≤ cAt F.code p) (he : (F.rep asks.length).2 ≠ 0) : stp F.cl F.code F.rep stk left p asks = .err (F.rep asks.length).2 asks2 := by
  rw [(mid_high h hc).2, if_pos he]
theorem mid_on {F : Fx} {stk stk2 on : List Nat} {left p q : Nat} {asks asks2 : List Fw.Ask} (h : Mid F stk stk2 on left p q asks asks2) (hc : cAt F.code p = 24 ∨ cAt F.code p = 26) (he : (F.rep asks.length).2 = 0) : stp F.cl F.code F.rep stk left p asks = .more (stk2.take (topN F stk p) ++ [(F.rep asks.length).1]) (left - priceN (cAt F.code p)) q asks2 := by
  rw [(mid_high h (by omega)).2, if_neg (by rw [he]; exact fun h => h rfl), if_pos hc]
theorem mid_off {F : Fx} {stk stk2 on : List Nat} {left p q : Nat} {asks asks2 : List Fw.Ask} (h : Mid F stk stk2 on left p q asks asks2) (hc : 24 ≤ cAt F.code p) (hc2 : ¬ (cAt F.code p = 24 ∨ cAt F.code p = 26)) (he : (F.rep asks.length).2 = 0) : stp F.cl F.code F.rep stk left p asks = .more (stk2.take (topN F stk p) ++ on) (left - priceN (cAt F.code p)) q asks2 := by
  have ho : on = [] := by
    rcases h with ⟨h, _⟩ | ⟨_, _, rfl, _⟩
    · omega
    · rfl
  rw [(mid_high h hc).2, if_neg (by rw [he]; exact fun h => h rfl), if_neg hc2, ho, List.append_nil]
section
variable {F : Fx} {stk : List Nat} {left p : Nat} {asks : List Fw.Ask}
theorem do_c {c d b l : Nat} {cl : Cl} {code : List Nat} {rep : Nat → Nat × Int} {st : List Nat} {u : Nat → Nat} (h : c = d) : doN cl code rep c b p l st u asks = doN cl code rep d b p l st u asks := by rw [h]
theorem tk_nil {l : List Nat} : l ++ [] = l := List.append_nil l
theorem mid_push (h : DoAt F stk left p asks) (hc : cAt F.code p = 2) : Mid F stk stk [numB ((F.code.drop (p + 2)).take (sizeN F.code p - 2))] left p (p + sizeN F.code p) asks asks := .inl ⟨by omega, rfl, h.trans (do_c hc)⟩
theorem mid_pop (h : DoAt F stk left p asks) (hc : cAt F.code p = 3) : Mid F stk stk [] left p (p + sizeN F.code p) asks asks := .inl ⟨by omega, rfl, by rw [tk_nil]; exact h.trans (do_c hc)⟩
theorem top_0 (hc : takesN (cAt F.code p) = 0) : stk.take (topN F stk p) = stk := by unfold topN; rw [hc, Nat.sub_zero, List.take_length]
theorem mid_dup (h : DoAt F stk left p asks) (hc : cAt F.code p = 4) {b : Nat} (hb : b = cAt F.code (p + 1)) : Mid F stk stk [stk.getD (stk.length - 1 - b) 0] left p (p + sizeN F.code p) asks asks := .inl ⟨by omega, rfl, by
  have ht : takesN (cAt F.code p) = 0 := by rw [hc]; rfl
  have := h.trans (do_c hc)
  rw [top_0 ht] at this ⊢
  rw [hb]; exact this⟩
theorem swap_len {b : Nat} : (swapN stk b).length = stk.length := by simp [swapN]
theorem mid_swap (h : DoAt F stk left p asks) (hc : cAt F.code p = 5) {b : Nat} (hb : b = cAt F.code (p + 1)) : Mid F stk (swapN stk b) [] left p (p + sizeN F.code p) asks asks := .inl ⟨by omega, rfl, by
  have ht : takesN (cAt F.code p) = 0 := by rw [hc]; rfl
  have := h.trans (do_c hc)
  rw [top_0 ht] at this
  have e : (swapN stk b).take (topN F stk p) = swapN stk b := by
    unfold topN; rw [ht, Nat.sub_zero, ← swap_len (b := b), List.take_length]
  rw [tk_nil, e, hb]; exact this⟩
theorem mid_sum (h : DoAt F stk left p asks) (hc : 6 ≤ cAt F.code p ∧ cAt F.code p ≤ 12) {r : Nat} (hr : arithN (cAt F.code p) (uN F stk p 0) (uN F stk p 1) = some r) : Mid F stk stk [r] left p (p + sizeN F.code p) asks asks := .inl ⟨by omega, rfl, by
  rw [h, doN, if_neg (by omega), if_neg (by omega), if_neg (by omega), if_neg (by omega), if_neg (by omega), if_neg (by omega), if_pos hc.2, hr]⟩
theorem sum_bad (h : DoAt F stk left p asks) (hc : 6 ≤ cAt F.code p ∧ cAt F.code p ≤ 12) (hr : arithN (cAt F.code p) (uN F stk p 0) (uN F stk p 1) = none) : stp F.cl F.code F.rep stk left p asks = .err 104 asks := by
  rw [h, doN, if_neg (by omega), if_neg (by omega), if_neg (by omega), if_neg (by omega), if_neg (by omega), if_neg (by omega), if_pos hc.2, hr]
theorem mid_not (h : DoAt F stk left p asks) (hc : cAt F.code p = 13) : Mid F stk stk [bit1 (decide (uN F stk p 0 = 0))] left p (p + sizeN F.code p) asks asks := .inl ⟨by omega, rfl, h.trans (do_c hc)⟩
theorem mid_jump (h : DoAt F stk left p asks) (hc : cAt F.code p = 14) : Mid F stk stk [] left p (targetN F.code p) asks asks := .inl ⟨by omega, rfl, by rw [tk_nil]; exact h.trans (do_c hc)⟩
theorem mid_whenT (h : DoAt F stk left p asks) (hc : cAt F.code p = 15) (hu : uN F stk p 0 ≠ 0) : Mid F stk stk [] left p (targetN F.code p) asks asks := .inl ⟨by omega, rfl, by
  rw [tk_nil]
  have := h.trans (do_c hc)
  rw [show doN F.cl F.code F.rep 15 (cAt F.code (p + 1)) p (left - priceN (cAt F.code p)) (stk.take (topN F stk p)) (uN F stk p) asks = .more (stk.take (topN F stk p)) (left - priceN (cAt F.code p)) (if uN F stk p 0 ≠ 0 then targetN F.code p else p + sizeN F.code p) asks from rfl, if_pos hu] at this
  exact this⟩
theorem mid_whenF (h : DoAt F stk left p asks) (hc : cAt F.code p = 15) (hu : ¬ uN F stk p 0 ≠ 0) : Mid F stk stk [] left p (p + sizeN F.code p) asks asks := .inl ⟨by omega, rfl, by
  rw [tk_nil]
  have := h.trans (do_c hc)
  rw [show doN F.cl F.code F.rep 15 (cAt F.code (p + 1)) p (left - priceN (cAt F.code p)) (stk.take (topN F stk p)) (uN F stk p) asks = .more (stk.take (topN F stk p)) (left - priceN (cAt F.code p)) (if uN F stk p 0 ≠ 0 then targetN F.code p else p + sizeN F.code p) asks from rfl, if_neg hu] at this
  exact this⟩
theorem told_b {cl : Cl} {c b b2 l : Nat} (h : c = 16 → b = b2) : toldN cl c b l = toldN cl c b2 l := by
  by_cases hc : c = 16
  · rw [h hc]
  · unfold toldN; rw [if_neg hc, if_neg hc]
theorem mid_told (h : DoAt F stk left p asks) (hc : 16 ≤ cAt F.code p ∧ cAt F.code p ≤ 23) {b : Nat} (hb : cAt F.code p = 16 → b = cAt F.code (p + 1)) : Mid F stk stk [toldN F.cl (cAt F.code p) b (left - priceN (cAt F.code p))] left p (p + sizeN F.code p) asks asks := .inl ⟨by omega, rfl, by
  rw [h, doN, if_neg (by omega), if_neg (by omega), if_neg (by omega), if_neg (by omega), if_neg (by omega), if_neg (by omega), if_neg (by omega), if_neg (by omega), if_neg (by omega), if_neg (by omega), if_pos hc.2, told_b hb]⟩
theorem mid_ask (h : DoAt F stk left p asks) (hc : 24 ≤ cAt F.code p) {qq : Fw.Ask} (hq : askN (cAt F.code p) (uN F stk p) = some qq) : Mid F stk stk [] left p (p + sizeN F.code p) asks (asks ++ [qq]) := .inr ⟨hc, rfl, rfl, rfl, ⟨qq, hq, rfl⟩, h⟩
theorem ask_bad (h : DoAt F stk left p asks) (hc : 24 ≤ cAt F.code p) (hq : askN (cAt F.code p) (uN F stk p) = none) : stp F.cl F.code F.rep stk left p asks = .err 104 asks := by
  rw [h, doN, if_neg (by omega), if_neg (by omega), if_neg (by omega), if_neg (by omega), if_neg (by omega), if_neg (by omega), if_neg (by omega), if_neg (by omega), if_neg (by omega), if_neg (by omega), if_neg (by omega), hq]
theorem stop_0 (h : DoAt F stk left p asks) (hc : cAt F.code p = 0) : stp F.cl F.code F.rep stk left p asks = .err 105 asks := h.trans (do_c hc)
theorem done_1 (h : DoAt F stk left p asks) (hc : cAt F.code p = 1) : stp F.cl F.code F.rep stk left p asks = .fin (uN F stk p 0) (left - priceN (cAt F.code p)) asks := h.trans (do_c hc)
theorem ask_24 {u : Nat → Nat} {c : Nat} (h : c = 24) : askN c u = some ⟨1, u 0, 0, 0, 0⟩ := by subst h; rfl
theorem ask_25 {u : Nat → Nat} {c : Nat} (h : c = 25) : askN c u = some ⟨2, u 0, u 1, 0, 0⟩ := by subst h; rfl
theorem ask_26 {u : Nat → Nat} {c : Nat} (h : c = 26) (hu : u 0 < 64) : askN c u = some ⟨3, 0, 0, u 0, u 1⟩ := by
  subst h; unfold askN; rw [if_neg (by decide), if_neg (by decide), if_neg (by omega), if_pos rfl]
theorem ask_27 {u : Nat → Nat} {c : Nat} (h : c = 27) (hu : u 0 < 64) : askN c u = some ⟨4, u 2, 0, u 0, u 1⟩ := by
  subst h; unfold askN; rw [if_neg (by decide), if_neg (by decide), if_neg (by omega), if_neg (by decide)]
theorem ask_no {u : Nat → Nat} {c : Nat} (h : c = 26 ∨ c = 27) (hu : ¬ u 0 < 64) : askN c u = none := by
  unfold askN; rw [if_neg (by omega), if_neg (by omega), if_pos (by omega)]
end
theorem sz_push {xs : List Nat} {p : Nat} (h : sizeN xs p ≠ 0) (hc : cAt xs p = 2) : sizeN xs p = 2 + cAt xs (p + 1) ∧ 1 ≤ cAt xs (p + 1) ∧ cAt xs (p + 1) ≤ 32 := by
  revert h; unfold sizeN
  repeat' split
  all_goals omega
theorem sz_two {xs : List Nat} {p : Nat} (h : sizeN xs p ≠ 0) (hc : cAt xs p = 4 ∨ cAt xs p = 5 ∨ cAt xs p = 16) : sizeN xs p = 2 := by
  revert h; unfold sizeN
  repeat' split
  all_goals omega
theorem sz_three {xs : List Nat} {p : Nat} (h : sizeN xs p ≠ 0) (hc : cAt xs p = 14 ∨ cAt xs p = 15) : sizeN xs p = 3 := by
  revert h; unfold sizeN
  repeat' split
  all_goals omega
theorem bytes_at {xs : List Nat} {p k : Nat} (h : p + k ≤ xs.length) : (List.range k).map (fun i => cAt xs (p + i)) = (xs.drop p).take k := by
  apply List.ext_getElem?
  intro i
  by_cases hi : i < k
  · rw [List.getElem?_take, if_pos hi, List.getElem?_drop, List.getElem?_map, List.getElem?_range hi, List.getElem?_eq_getElem (by omega)]
    simp only [Option.map_some, cAt]
    rw [List.getD_eq_getElem?_getD, List.getElem?_eq_getElem (by omega)]; rfl
  · rw [List.getElem?_eq_none (by simp; omega), List.getElem?_eq_none (by simp; omega)]
theorem number_n (A : Option Addr) (n c : Nat) (xs : List Nat) (w0 : World) (hA : Rd w0 A (ints xs)) (hB : Byt xs) (hl : n ≤ 32) (hn : xs.length = n) : Ret Try.prog 29 [.slice A n c] w0 [] (fun v s => v = wv (numB xs) ∧ s = []) := by
  subst hn; exact number_calls A c xs w0 hA hB hl
theorem own_w1 (b x : Nat) : OwnS [(b, Cel (wc x) 31)] (some ⟨b, 0, none⟩) 1 1 ([x].flatMap wc) 31 4 := OwnS.mk (cells := [x].flatMap wc) (rest := []) rfl (by decide) rfl (by decide)
theorem uN_lt {F : Fx} {stk : List Nat} {p : Nat} (h : AllW stk) (i : Nat) : uN F stk p i < 115792089237316195423570985008687907853269984665640564039457584007913129639936 := allW_getD (fun x hx => h x (List.drop_subset _ _ hx)) i
end Go.Proofs.Ytlapmbkfmbkdoaa
end
