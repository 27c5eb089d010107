/- The calls of the reference's Text. -/
import Derived.Test.YthgecfjpacebeaaCa
namespace Go.Proofs.Ythgecfjpacebeaa
open Go Go.Fw Go.RowKit
attribute [local irreducible] Go.Oper.wp Go.Code.wp Go.wpList Go.Fw.WL Go.Calls
theorem times_ten (A : Option Addr) (c v B : Nat) (w : World) (hA : Rd w A (ints (bl v))) (hB : Rd w (some ⟨B, 0, none⟩) [.int .i64 0, .int .i64 1, .int .i64 0, .int .i64 1]) (hv : (bl v).length ≤ 1000) :
    Ret Try.prog 99 [.slice A (bl v).length c, .slice (some ⟨B, 0, none⟩) 4 4] w [] (RetI (bl (v * 10))) := by
  have h := times_calls A (some ⟨B, 0, none⟩) c 4 v 10 w hA (by rw [ten_bl]; exact hB) (by omega) (by rw [ten_bl]; decide)
  rw [ten_bl] at h
  exact h
theorem number_b (A : Option Addr) (c z : Nat) (w : World) (hA : Rd w A (ints (bl z))) (hnc : (bl z).length ≤ c) (hc : c ≤ 9223372036854775807) :
    Ret Try.prog 101 [.slice A (bl z).length c] w [] (fun v s => v = .tuple #[wv (if z < 115792089237316195423570985008687907853269984665640564039457584007913129639936 then z else 0), .bool (decide (z < 115792089237316195423570985008687907853269984665640564039457584007913129639936))] ∧ s = []) := by
  have h := number_calls A (bl z).length c (bl z) w hA rfl hnc hc (bits_bl z)
  rw [val_bl] at h
  exact h

theorem own13 (b : Nat) : OwnS [(b, Cel (ints [0]) 3)] (some ⟨b, 0, none⟩) [0].length 1 (ints [0]) 3 1 := own_full b [0] (by decide)

theorem rtext_calls (x : Nat) (w0 : World) (hx : x < 115792089237316195423570985008687907853269984665640564039457584007913129639936) : Ret Try.prog 46 [wv x] w0 [] (fun v s => v = .string (bstr (txt x)) ∧ s = []) := by
  refine fn_start Try.func46 rfl Try.ntmps46 rfl [(0, wv x)] ⟨rfl, trivial⟩ ?_
  intro Q a hP hF hR hN
  have hS := St.start w0
  have hxl := len_bl hx
  refine wp_seq_k fun K1 hK1 => ?_
  refine wp_region_lit ?_
  refine so (wn rfl) (O.box rfl rfl hF (hF.ev rfl) rfl hS fun b1 a w hF hS => ?_)
  refine sv' hF (wn rfl) rfl rfl (R.assign (hF.ev rfl)) fun a hF => ?_
  refine s0 ?_
  refine then_n (hK1 _ _ ?_)
  refine wp_seq_k fun K2 hK2 => ?_
  refine wp_region_lit ?_
  refine sv' hF (wn rfl) rfl rfl (R.loadW agg29 (hF.ev rfl) hS .h sz29 (rfl)) fun a hF => ?_
  refine so (wn rfl) (O.call rfl rfl hF ent75 (hF.evs rfl) hS (digits_calls x w hx) fun v s12 a w hR hF hS => ?_)
  obtain ⟨A12, c12, rfl, hO12⟩ := hR
  refine sv' hF (wn rfl) rfl rfl (R.assign (hF.ev rfl)) fun a hF => ?_
  refine s0 ?_
  refine then_n (hK2 _ _ ?_)
  refine wp_seq_k fun K3 hK3 => ?_
  refine wp_region_lit ?_
  refine so (wn rfl) (O.buildSlice (l := [_]) rfl rfl hF Try.underlying64 inf3 rfl rfl (hF.evp rfl) (by decide) rfl hS fun b13 a w hF hS => ?_)
  refine sv' hF (wn rfl) rfl rfl (R.assign (hF.ev rfl)) fun a hF => ?_
  refine s0 ?_
  refine then_n (hK3 _ _ ?_)
  refine wp_seq_k fun K4 hK4 => ?_
  refine wp_seq_k fun K5 hK5 => ?_
  refine wp_region_lit ?_
  refine sv' hF (wn rfl) rfl rfl (R.move (hF.ev rfl)) fun a hF => ?_
  refine sv' hF (wn rfl) rfl rfl (R.len Try.underlying64 (hF.ev rfl)) fun a hF => ?_
  refine sv' hF (wn rfl) rfl rfl (R.subI (hF.ev rfl) (hF.ev rfl) (by omega)) fun a hF => ?_
  refine sv' hF (wn rfl) rfl rfl (R.assign (hF.ev rfl)) fun a hF => ?_
  refine s0 ?_
  refine then_n (hK5 _ _ ?_)
  refine wp_block ?_
  refine wp_loop_N (fun g a w => ∃ (k : Nat) (z : List Nat) (A : Option Addr) (e : Nat) (s : Seg), k = g ∧ Fr 75 [(3, .slice A12 (bl x).length c12), (4, .slice A z.length e), (5, .int .i64 ((k : Nat) - 1 : Int))] a ∧ St w0 [] [s12, s] w ∧ (OwnS s A z.length e (ints z) 3 1) ∧ (z = dec (x / 2 ^ k)) ∧ (k ≤ (bl x).length) ∧ (z.length ≤ 78)) ((bl x).length) ?_ ?_
  · exact ⟨(bl x).length, [0], some ⟨b13, 0, none⟩, 1, _, rfl, hF.sub ⟨rfl, rfl, rfl, trivial⟩, hS.sel [1, 0] rfl rfl, own13 b13, by rw [Nat.div_eq_of_lt ((length_bl_lt x _).1 (Nat.le_refl _)), dec_0], Nat.le_refl _, by decide⟩
  · rintro KL1 g a w ⟨k, z, A, e, s, hg1, hF, hS, hO, hz, hk, hzl⟩ hKL1
    have hzd : Dig z := hz ▸ dig_dec _; have hzp : 0 < z.length := hz ▸ dec_pos _; have hb1 := bit_le x (k - 1)
    refine wp_seq_k fun K6 hK6 => ?_
    refine wp_seq_k fun K7 hK7 => ?_
    refine wp_region_lit ?_
    refine sv' hF (wn rfl) rfl rfl (R.move (hF.ev rfl)) fun a hF => ?_
    refine sv' hF (wn rfl) rfl rfl (R.geq (hF.ev rfl) (hF.ev rfl)) fun a hF => ?_
    refine s0 ?_
    refine then_n (hK7 _ _ ?_)
    refine cD hF rfl (fun c1 => ?_) (fun c1 => ?_)
    ·
      refine wp_skip ?_
      refine then_n (hK6 _ _ ?_)
      refine wp_seq_k fun K8 hK8 => ?_
      have hK8' : ∀ a w, (∃ (z3 : List Nat) (A3 : Option Addr) (e3 : Nat) (s3 : Seg), Fr 75 [(3, .slice A12 (bl x).length c12), (4, .slice A3 z3.length e3), (5, .int .i64 ((k : Nat) - 1 : Int))] a ∧ St w0 [] [s12, s3] w ∧ (OwnS s3 A3 z3.length e3 (ints z3) 3 1) ∧ (z3 = dec (x / 2 ^ (k - 1)))) → K8 a w := by
        rintro a w ⟨z3, A3, e3, s3, hF, hS, hO3, hz3⟩
        refine hK8 _ _ ?_
        refine wp_region_lit ?_
        refine sv' hF (wn rfl) rfl rfl (R.move (hF.ev rfl)) fun a hF => ?_
        refine sv' hF (wn rfl) rfl rfl (R.subI (hF.ev rfl) (hF.ev rfl) (by omega)) fun a hF => ?_
        refine sv' hF (wn rfl) rfl rfl (R.assign (hF.ev rfl)) fun a hF => ?_
        refine s0 ?_
        refine then_n (hKL1 (k - 1) _ _ ?_ ?_)
        · omega
        · exact ⟨k - 1, z3, A3, e3, s3, rfl, hF.sub ⟨rfl, rfl, (congrArg (fun z => some (Value.int .i64 z)) (by omega)), trivial⟩, hS.sel [0, 1] rfl rfl, hO3, hz3, by omega, by rw [hz3]; exact length_dec_le (Nat.lt_of_le_of_lt (Nat.div_le_self _ _) (Nat.lt_trans hx (by decide))) (by decide)⟩
      refine wp_block ?_
      refine wp_seq_k fun K9 hK9 => ?_
      refine wp_region_lit ?_
      refine sv' hF (wn rfl) rfl rfl (R.move (hF.ev rfl)) fun a hF => ?_
      refine sv' hF (wn rfl) rfl rfl (R.move (hF.ev rfl)) fun a hF => ?_
      refine sv' hF (wn rfl) rfl rfl (R.indexO Try.underlying64 sz3 (hF.ev rfl) (Rd.ne (hO12.rd hS .h) (by rw [length_ints]; omega)) (hF.ev rfl) (by omega) (by omega)) fun a hF => ?_
      refine sv' hF (wn rfl) rfl rfl (R.loadO one3 (hF.ev rfl) (hO12.rd hS .h) (bl_pred x k (by omega) hk)) fun a hF => ?_
      refine sv' hF (wn rfl) rfl rfl (R.assign (hF.ev rfl)) fun a hF => ?_
      refine s0 ?_
      refine then_n (hK9 _ _ ?_)
      refine wp_seq_k fun K10 hK10 => ?_
      have hK10' : ∀ a w, (∃ (p : List Nat) (cc : Nat) (A2 : Option Addr) (s2 : Seg), Fr 75 [(3, .slice A12 (bl x).length c12), (4, .slice A2 p.length e), (5, .int .i64 ((k : Nat) - 1 : Int)), (6, .int .i64 ((cc : Nat) : Int))] a ∧ St w0 [] [s12, s2] w ∧ (OwnS s2 A2 p.length e (ints p) 3 1) ∧ (Dig p) ∧ (p.length = z.length) ∧ (cc ≤ 1) ∧ (val10 p + 10 ^ p.length * cc = 2 * val10 z + bit x (k - 1))) → K10 a w := by
        rintro a w ⟨p, cc, A2, s2, hF, hS, hO2, hpd, hpl, hc1, hpv⟩
        refine hK10 _ _ ?_
        refine wp_seq_k fun K11 hK11 => ?_
        have hdb : 2 * (x / 2 ^ k) + bit x (k - 1) = x / 2 ^ (k - 1) := (div_bit x k (by omega)).symm; have hvz : val10 z = x / 2 ^ k := (by rw [hz, val_dec]); have hid := dbl_is hpd (by rw [hpl, hz]) hc1 (by rw [hpv, hvz]); have hw : ¬ cc = 0 → p ++ [1] = dec (x / 2 ^ (k - 1)) := (fun h => by rw [← hdb, hid, if_neg h]); have hw2 : cc = 0 → p = dec (x / 2 ^ (k - 1)) := (fun h => by rw [← hdb, hid, if_pos h])
        refine wp_region_lit ?_
        refine sv' hF (wn rfl) rfl rfl (R.move (hF.ev rfl)) fun a hF => ?_
        refine sv' hF (wn rfl) rfl rfl (R.gtr (hF.ev rfl) (hF.ev rfl)) fun a hF => ?_
        refine s0 ?_
        refine then_n (hK11 _ _ ?_)
        refine cD hF rfl (fun c3 => ?_) (fun c3 => ?_)
        ·
          obtain rfl : cc = 1 := by omega
          refine wp_region_lit ?_
          refine sv' hF (wn rfl) rfl rfl (R.move (hF.ev rfl)) fun a hF => ?_
          refine sv' hF (wn rfl) rfl rfl (R.move (hF.ev rfl)) fun a hF => ?_
          refine so (wn rfl) (O.buildSlice (l := [_]) rfl rfl hF Try.underlying64 inf3 rfl rfl (hF.evp rfl) (by decide) rfl hS fun b49 a w hF hS => ?_)
          refine so (wn rfl) (O.append rfl rfl hF Try.underlying64 inf3 rfl rfl (by decide) (hF.ev rfl) (hF.ev rfl) hS hO2 (fun _ => (.t (.t .h))) (Rd.own0 hS .h) (rfl) (by simp [Value.oneCell']) (by unfold maxLen; omega) (by omega) fun A50 c50 s50 a w hO50 hF hS => ?_)
          refine sv' hF (wn rfl) rfl rfl (R.assign (hF.ev rfl)) fun a hF => ?_
          refine s0 ?_
          refine blk_n ?_
          exact then_n (hK8' _ _ ⟨p ++ [1], A50, c50, s50, hF.sub ⟨rfl, (by rw [List.length_append, List.length_singleton]; rfl), rfl, trivial⟩, hS.sel [1, 2] rfl rfl, own_bits3 (d := 1) hO50, hw (by omega)⟩)
        ·
          refine wp_skip ?_
          refine blk_n ?_
          exact then_n (hK8' _ _ ⟨p, A2, e, s2, hF.sub ⟨rfl, rfl, rfl, trivial⟩, hS.sel [0, 1] rfl rfl, hO2, hw2 (by omega)⟩)
      refine wp_seq_k fun K12 hK12 => ?_
      obtain ⟨gb, rest, rfl, rfl, o3, o4, o5⟩ := own_open2 hO hzp; have hmx : maxLen = 9223372036854775807 := rfl
      refine wp_region_lit ?_
      refine sv' hF (wn rfl) rfl rfl (R.assign (hF.ev rfl)) fun a hF => ?_
      refine s0 ?_
      refine then_n (hK12 _ _ ?_)
      refine wp_block ?_
      refine wp_loop_N (fun g a w => ∃ (j : Nat) (cc : Nat) (p : List Nat), z.length - j = g ∧ Fr 75 [(3, .slice A12 (bl x).length c12), (4, .slice (some ⟨gb, 0, none⟩) z.length e), (5, .int .i64 ((k : Nat) - 1 : Int)), (6, .int .i64 ((cc : Nat) : Int)), (7, .int .i64 ((j : Nat) : Int))] a ∧ St w0 [] [s12, [(gb, Cel (ints (p ++ z.drop j) ++ rest) 3)]] w ∧ (p.length = j) ∧ (Dig p) ∧ (cc ≤ 1) ∧ (j ≤ z.length) ∧ (val10 p + 10 ^ j * (cc + 2 * val10 (z.drop j)) = 2 * val10 z + bit x (k - 1))) (z.length - 0) ?_ ?_
      · exact ⟨0, bit x (k - 1), [], rfl, hF.sub ⟨rfl, rfl, rfl, rfl, rfl, trivial⟩, hS.sel [0, 1] rfl rfl, rfl, by intro b hb; simp at hb, hb1, by omega, by rw [List.drop_zero, Nat.pow_zero, Nat.one_mul]; simp only [val10]; omega⟩
      · rintro KL2 g a w ⟨j, cc, p, hg2, hF, hS, hpl, hpd, hc1, hj, hpv⟩ hKL2
        have hz10 := dig_getD hzd j
        refine wp_seq_k fun K13 hK13 => ?_
        refine wp_seq_k fun K14 hK14 => ?_
        refine wp_region_lit ?_
        refine sv' hF (wn rfl) rfl rfl (R.move (hF.ev rfl)) fun a hF => ?_
        refine sv' hF (wn rfl) rfl rfl (R.move (hF.ev rfl)) fun a hF => ?_
        refine sv' hF (wn rfl) rfl rfl (R.len Try.underlying64 (hF.ev rfl)) fun a hF => ?_
        refine sv' hF (wn rfl) rfl rfl (R.lss (hF.ev rfl) (hF.ev rfl)) fun a hF => ?_
        refine s0 ?_
        refine then_n (hK14 _ _ ?_)
        refine cD hF rfl (fun c2 => ?_) (fun c2 => ?_)
        ·
          have hj2 : j < z.length := by omega
          refine wp_skip ?_
          refine then_n (hK13 _ _ ?_)
          refine wp_seq_k fun K15 hK15 => ?_
          refine wp_block ?_
          refine wp_seq_k fun K16 hK16 => ?_
          refine wp_region_lit ?_
          refine sv' hF (wn rfl) rfl rfl (R.move (hF.ev rfl)) fun a hF => ?_
          refine sv' hF (wn rfl) rfl rfl (R.move (hF.ev rfl)) fun a hF => ?_
          refine sv' hF (wn rfl) rfl rfl (R.indexS Try.underlying64 sz3 (hF.ev rfl) (hF.ev rfl) (by omega) (by omega)) fun a hF => ?_
          refine sv' hF (wn rfl) rfl rfl (R.load one3 (hF.ev rfl) hS (.t .h) (fill_get hpl hj2 (by omega))) fun a hF => ?_
          refine sv' hF (wn rfl) rfl rfl (R.mulI (hF.ev rfl) (hF.ev rfl) (by omega)) fun a hF => ?_
          refine sv' hF (wn rfl) rfl rfl (R.move (hF.ev rfl)) fun a hF => ?_
          refine sv' hF (wn rfl) rfl rfl (R.as (u := .int .i64 ((2 * z.getD j 0 + cc : Nat) : Int)) (R.addI (p := 2 * ((z.getD j 0 : Nat) : Int)) (q := (cc : Int)) (hF.ev rfl) (hF.ev rfl) (by omega)) (congrArg (Value.int .i64) (by omega))) fun a hF => ?_
          refine sv' hF (wn rfl) rfl rfl (R.assign (hF.ev rfl)) fun a hF => ?_
          refine s0 ?_
          refine then_n (hK16 _ _ ?_)
          refine wp_seq_k fun K17 hK17 => ?_
          refine wp_region_lit ?_
          refine sv' hF (wn rfl) rfl rfl (R.move (hF.ev rfl)) fun a hF => ?_
          refine sv' hF (wn rfl) rfl rfl (R.move (hF.ev rfl)) fun a hF => ?_
          refine sv' hF (wn rfl) rfl rfl (R.move (hF.ev rfl)) fun a hF => ?_
          refine sv' hF (wn rfl) rfl rfl (R.as (u := .int .i64 (((2 * z.getD j 0 + cc) % 10 : Nat) : Int)) (R.remI (p := ((2 * z.getD j 0 + cc : Nat) : Int)) (q := 10) (hF.ev rfl) (hF.ev rfl) (by omega)) (congrArg (Value.int .i64) (by omega))) fun a hF => ?_
          refine sv' hF (wn rfl) rfl rfl (R.indexS Try.underlying64 sz3 (hF.ev rfl) (hF.ev rfl) (by omega) (by omega)) fun a hF => ?_
          refine so (wn rfl) (O.store sz3 (hF.ev rfl) (hF.ev rfl) rfl rfl hS (.t .h) (fill_set hpl hj2 (by omega)) (by rw [List.length_append, length_ints, List.length_append, List.length_drop]; omega) fun w hS => ?_)
          refine s0 ?_
          refine then_n (hK17 _ _ ?_)
          refine wp_region_lit ?_
          refine sv' hF (wn rfl) rfl rfl (R.move (hF.ev rfl)) fun a hF => ?_
          refine sv' hF (wn rfl) rfl rfl (R.as (u := .int .i64 (((2 * z.getD j 0 + cc) / 10 : Nat) : Int)) (R.quoI (p := ((2 * z.getD j 0 + cc : Nat) : Int)) (q := 10) (hF.ev rfl) (hF.ev rfl) (by omega)) (congrArg (Value.int .i64) (by omega))) fun a hF => ?_
          refine sv' hF (wn rfl) rfl rfl (R.assign (hF.ev rfl)) fun a hF => ?_
          refine s0 ?_
          refine blk_n ?_
          refine then_n (hK15 _ _ ?_)
          refine wp_region_lit ?_
          refine sv' hF (wn rfl) rfl rfl (R.move (hF.ev rfl)) fun a hF => ?_
          refine sv' hF (wn rfl) rfl rfl (R.addI (hF.ev rfl) (hF.ev rfl) (by omega)) fun a hF => ?_
          refine sv' hF (wn rfl) rfl rfl (R.assign (hF.ev rfl)) fun a hF => ?_
          refine s0 ?_
          refine then_n (hKL2 (z.length - (j + 1)) _ _ ?_ ?_)
          · omega
          · exact ⟨j + 1, (2 * z.getD j 0 + cc) / 10, p ++ [(2 * z.getD j 0 + cc) % 10], rfl, hF.sub ⟨rfl, rfl, rfl, rfl, rfl, trivial⟩, hS.sel [0, 1] rfl rfl, by rw [List.length_append, List.length_singleton]; omega, dig_snoc hpd (by omega), by omega, by omega, dbl_step hpl hj2 hpv⟩
        ·
          obtain rfl : j = z.length := by omega
          rw [List.drop_length, List.append_nil] at hS
          have hO2 : OwnS [(gb, Cel (ints p ++ rest) 3)] (some ⟨gb, 0, none⟩) p.length e (ints p) 3 1 := OwnS.mk (by rw [length_ints, Nat.mul_one]) (by omega) (by rw [List.length_append, length_ints, hpl, ← o4, length_ints]) o5
          rw [List.drop_length] at hpv
          have hpv2 : val10 p + 10 ^ p.length * cc = 2 * val10 z + bit x (k - 1) := by rw [hpl]; simpa [val10] using hpv
          refine wp_exit (then_x (then_x (blk_hit ?_)))
          exact then_n (hK10' _ _ ⟨p, cc, (some ⟨gb, 0, none⟩), _, hF.sub ⟨rfl, (by rw [hpl]; rfl), rfl, rfl, trivial⟩, hS.sel [0, 1] rfl rfl, hO2, hpd, hpl, hc1, hpv2⟩)
    ·
      obtain rfl : k = 0 := by omega
      have hzx : z = dec x := by rw [hz, Nat.pow_zero, Nat.div_one]
      refine wp_exit (then_x (then_x (blk_hit ?_)))
      refine then_n (hK4 _ _ ?_)
      refine wp_seq_k fun K18 hK18 => ?_
      refine wp_region_lit ?_
      refine sv' hF (wn rfl) rfl rfl (R.move (hF.ev rfl)) fun a hF => ?_
      refine sv' hF (wn rfl) rfl rfl (R.len Try.underlying64 (hF.ev rfl)) fun a hF => ?_
      refine so (wn rfl) (O.makeSlice rfl rfl hF Try.underlying82 inf5 rfl rfl (hF.ev rfl) (hF.ev rfl) (by omega) (by omega) (by omega) (by omega) hS fun b53 a w hF hS => ?_)
      refine sv' hF (wn rfl) rfl rfl (R.assign (hF.ev rfl)) fun a hF => ?_
      refine s0 ?_
      refine then_n (hK18 _ _ ?_)
      refine wp_seq_k fun K19 hK19 => ?_
      refine wp_seq_k fun K20 hK20 => ?_
      refine wp_region_lit ?_
      refine sv' hF (wn rfl) rfl rfl (R.assign (hF.ev rfl)) fun a hF => ?_
      refine s0 ?_
      refine then_n (hK20 _ _ ?_)
      refine wp_block ?_
      refine wp_loop_N (fun g a w => ∃ (j : Nat), z.length - j = g ∧ Fr 75 [(4, .slice A z.length e), (9, .slice (some ⟨b53, 0, none⟩) z.length z.length), (10, .int .i64 ((j : Nat) : Int))] a ∧ St w0 [] [s, [(b53, Cel (byts (tail0 z j)) 5)]] w ∧ (j ≤ z.length)) (z.length - 0) ?_ ?_
      · exact ⟨0, rfl, hF.sub ⟨rfl, rfl, rfl, trivial⟩, hS.sel [2, 0] rfl (by rw [Int.toNat_natCast, tail0_0]; rfl), by omega⟩
      · rintro KL3 g a w ⟨j, hg3, hF, hS, hj⟩ hKL3
        have hz10 := dig_getD hzd j
        refine wp_seq_k fun K21 hK21 => ?_
        refine wp_seq_k fun K22 hK22 => ?_
        refine wp_region_lit ?_
        refine sv' hF (wn rfl) rfl rfl (R.move (hF.ev rfl)) fun a hF => ?_
        refine sv' hF (wn rfl) rfl rfl (R.move (hF.ev rfl)) fun a hF => ?_
        refine sv' hF (wn rfl) rfl rfl (R.len Try.underlying64 (hF.ev rfl)) fun a hF => ?_
        refine sv' hF (wn rfl) rfl rfl (R.lss (hF.ev rfl) (hF.ev rfl)) fun a hF => ?_
        refine s0 ?_
        refine then_n (hK22 _ _ ?_)
        refine cD hF rfl (fun c4 => ?_) (fun c4 => ?_)
        ·
          refine wp_skip ?_
          refine then_n (hK21 _ _ ?_)
          refine wp_seq_k fun K23 hK23 => ?_
          refine wp_block ?_
          refine wp_region_lit ?_
          refine sv' hF (wn rfl) rfl rfl (R.move (hF.ev rfl)) fun a hF => ?_
          refine sv' hF (wn rfl) rfl rfl (R.move (hF.ev rfl)) fun a hF => ?_
          refine sv' hF (wn rfl) rfl rfl (R.len Try.underlying64 (hF.ev rfl)) fun a hF => ?_
          refine sv' hF (wn rfl) rfl rfl (R.subI (hF.ev rfl) (hF.ev rfl) (by omega)) fun a hF => ?_
          refine sv' hF (wn rfl) rfl rfl (R.move (hF.ev rfl)) fun a hF => ?_
          refine sv' hF (wn rfl) rfl rfl (R.subI (hF.ev rfl) (hF.ev rfl) (by omega)) fun a hF => ?_
          refine sv' hF (wn rfl) rfl rfl (R.move (hF.ev rfl)) fun a hF => ?_
          refine sv' hF (wn rfl) rfl rfl (R.move (hF.ev rfl)) fun a hF => ?_
          refine sv' hF (wn rfl) rfl rfl (R.indexO Try.underlying64 sz3 (hF.ev rfl) (Rd.ne (hO.rd hS .h) (by rw [length_ints]; omega)) (hF.ev rfl) (by omega) (by omega)) fun a hF => ?_
          refine sv' hF (wn rfl) rfl rfl (R.loadO one3 (hF.ev rfl) (hO.rd hS .h) (ints_at z j (by omega))) fun a hF => ?_
          refine sv' hF (wn rfl) rfl rfl (R.as (u := .int .i64 ((48 + z.getD j 0 : Nat) : Int)) (R.addI (p := 48) (q := ((z.getD j 0 : Nat) : Int)) (hF.ev rfl) (hF.ev rfl) (by omega)) (congrArg (Value.int .i64) (by omega))) fun a hF => ?_
          refine sv' hF (wn rfl) rfl rfl (R.as (u := .int .u8 ((48 + z.getD j 0 : Nat) : Int)) (R.convB (p := 48 + z.getD j 0) Try.underlying3 Try.underlying5 (hF.ev rfl)) (congrArg (fun z : Nat => Value.int .u8 (z : Int)) (by omega))) fun a hF => ?_
          refine sv' hF (wn rfl) rfl rfl (R.indexS Try.underlying82 sz5 (hF.ev rfl) (hF.ev rfl) (by omega) (by omega)) fun a hF => ?_
          refine so (wn rfl) (O.store sz5 (hF.ev rfl) (hF.ev rfl) rfl rfl hS (.t .h) (tail0_set z j _ (by omega) (by omega)) (by rw [length_byts, length_tail0 z j hj]; omega) fun w hS => ?_)
          refine s0 ?_
          refine blk_n ?_
          refine then_n (hK23 _ _ ?_)
          refine wp_region_lit ?_
          refine sv' hF (wn rfl) rfl rfl (R.move (hF.ev rfl)) fun a hF => ?_
          refine sv' hF (wn rfl) rfl rfl (R.addI (hF.ev rfl) (hF.ev rfl) (by omega)) fun a hF => ?_
          refine sv' hF (wn rfl) rfl rfl (R.assign (hF.ev rfl)) fun a hF => ?_
          refine s0 ?_
          refine then_n (hKL3 (z.length - (j + 1)) _ _ ?_ ?_)
          · omega
          · exact ⟨j + 1, rfl, hF.sub ⟨rfl, rfl, rfl, trivial⟩, hS.sel [0, 1] rfl rfl, by omega⟩
        ·
          obtain rfl : j = z.length := by omega
          rw [tail0_end] at hS
          refine wp_exit (then_x (then_x (blk_hit ?_)))
          refine then_n (hK19 _ _ ?_)
          refine wp_seq_k fun K24 hK24 => ?_
          refine wp_region_lit ?_
          refine sv' hF (wn rfl) rfl rfl (R.move (hF.ev rfl)) fun a hF => ?_
          refine sv' hF (wn rfl) rfl rfl (R.convStr (xs := z.reverse.map (48 + ·)) Try.underlying82 Try.underlying5 Try.underlying9 (hF.ev rfl) (Rd.own0 hS (.t .h)) (by rw [List.length_map, List.length_reverse])) fun a hF => ?_
          refine sv' hF (wn rfl) rfl rfl (R.assign (hF.ev rfl)) fun a hF => ?_
          refine s0 ?_
          refine then_n (hK24 _ _ ?_)
          refine wp_ret (hR _ _ _ _ _ hF (run_results Try.results46 (.t hF rfl (.nil))) ?_)
          exact ⟨_, [], rfl, ⟨by rw [txt, ← hzx]; rfl, rfl⟩, hS.none⟩

end Go.Proofs.Ythgecfjpacebeaa
