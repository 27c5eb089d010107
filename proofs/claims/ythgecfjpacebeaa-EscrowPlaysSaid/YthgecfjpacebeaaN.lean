/- test -/
import Derived.Test.YthgecfjpacebeaaL
namespace Go.Proofs.Ythgecfjpacebeaa
open Go Go.Fw Go.RowKit
attribute [local irreducible] Go.Oper.wp Go.Code.wp Go.wpList Go.Fw.WL Go.Calls
theorem less_calls (A B : Option Addr) (c d x y : Nat) (w0 : World) (hA : Rd w0 A (ints (bl x))) (hB : Rd w0 B (ints (bl y))) (hx : (bl x).length ≤ 1000000) (hy : (bl y).length ≤ 1000000) (hyx : y ≤ x) : Ret Try.prog 76 [.slice A (bl x).length c, .slice B (bl y).length d] w0 [] (RetI (bl (x - y))) := by
  refine fn_start Try.func76 rfl Try.ntmps76 rfl [(0, .slice A (bl x).length c), (1, .slice B (bl y).length d)] ⟨rfl, rfl, trivial⟩ ?_
  intro Q a hP hF hR hN
  have hS := St.start w0
  refine wp_seq_k fun K1 hK1 => ?_
  refine wp_region_lit ?_
  refine sv' hF (wn rfl) rfl rfl (R.assign (hF.ev rfl)) fun a hF => ?_
  refine s0 ?_
  refine then_n (hK1 _ _ ?_)
  refine wp_seq_k fun K2 hK2 => ?_
  refine wp_region_lit ?_
  refine sv' hF (wn rfl) rfl rfl (R.move (hF.ev rfl)) fun a hF => ?_
  refine sv' hF (wn rfl) rfl rfl (R.len Try.underlying64 (hF.ev rfl)) fun a hF => ?_
  refine so (wn rfl) (O.makeSlice rfl rfl hF Try.underlying64 inf3 rfl rfl (hF.ev rfl) (hF.ev rfl) (by omega) (by omega) (by omega) (by omega) hS fun b11 a w hF hS => ?_)
  rw [show zeros [Value.int .i64 0] (Int.toNat ((bl x).length : Int)) = ints ([] ++ List.replicate ((bl x).length - 0) 0) from zeros_ints _] at hS
  refine sv' hF (wn rfl) rfl rfl (R.assign (hF.ev rfl)) fun a hF => ?_
  refine s0 ?_
  refine then_n (hK2 _ _ ?_)
  refine wp_seq_k fun K3 hK3 => ?_
  refine wp_region_lit ?_
  refine sv' hF (wn rfl) rfl rfl (R.assign (hF.ev rfl)) fun a hF => ?_
  refine s0 ?_
  refine then_n (hK3 _ _ ?_)
  refine wp_seq_k fun K4 hK4 => ?_
  refine wp_seq_k fun K5 hK5 => ?_
  refine wp_region_lit ?_
  refine sv' hF (wn rfl) rfl rfl (R.assign (hF.ev rfl)) fun a hF => ?_
  refine s0 ?_
  refine then_n (hK5 _ _ ?_)
  refine wp_block ?_
  refine wp_loop_N (fun g a w => ∃ (k : Nat) (q : Nat) (o : List Nat), (bl x).length - k = g ∧ Fr 44 [(0, .slice A (bl x).length c), (1, .slice B (bl y).length d), (5, .slice (some ⟨b11, 0, none⟩) (bl x).length (bl x).length), (6, .int .i64 (q : Nat)), (7, .int .i64 (k : Nat))] a ∧ St w0 [] [[(b11, Cel (ints (o ++ List.replicate ((bl x).length - k) 0)) 3)]] w ∧ (k ≤ (bl x).length) ∧ (o.length = k) ∧ (Bits o) ∧ (q ≤ 1) ∧ (val ((bl x).take k) + 2 ^ k * q = val o + val ((bl y).take k))) ((bl x).length - 0) ?_ ?_
  · exact ⟨0, 0, [], rfl, hF.sub ⟨rfl, rfl, rfl, rfl, rfl, trivial⟩, hS.sel [0] rfl rfl, by omega, rfl, by intro b hb; simp at hb, by omega, by simp [val]⟩
  · rintro KL1 g a w ⟨k, q, o, hg1, hF, hS, hk, hol, hob, hq, hv⟩ hKL1
    have bx := bits_getD (bits_bl x) k; have hby := bits_getD (bits_bl y) k; have ey : (bl y).length ≤ k → (bl y).getD k 0 = 0 := getD_past _ k
    refine wp_seq_k fun K6 hK6 => ?_
    refine wp_seq_k fun K7 hK7 => ?_
    refine wp_region_lit ?_
    refine sv' hF (wn rfl) rfl rfl (R.move (hF.ev rfl)) fun a hF => ?_
    refine sv' hF (wn rfl) rfl rfl (R.move (hF.ev rfl)) fun a hF => ?_
    refine sv' hF (wn rfl) rfl rfl (R.len Try.underlying64 (hF.ev rfl)) fun a hF => ?_
    refine sv' hF (wn rfl) rfl rfl (R.lss (hF.ev rfl) (hF.ev rfl)) fun a hF => ?_
    refine s0 ?_
    refine then_n (hK7 _ _ ?_)
    refine cD hF rfl (fun c1 => ?_) (fun c1 => ?_)
    ·
      refine wp_skip ?_
      refine then_n (hK6 _ _ ?_)
      refine wp_seq_k fun K8 hK8 => ?_
      refine wp_block ?_
      refine wp_seq_k fun K9 hK9 => ?_
      refine wp_region_lit ?_
      refine sv' hF (wn rfl) rfl rfl (R.move (hF.ev rfl)) fun a hF => ?_
      refine sv' hF (wn rfl) rfl rfl (R.move (hF.ev rfl)) fun a hF => ?_
      refine sv' hF (wn rfl) rfl rfl (R.indexO Try.underlying64 sz3 (hF.ev rfl) (Rd.ne hA (by rw [length_ints]; omega)) (hF.ev rfl) (by omega) (by omega)) fun a hF => ?_
      refine sv' hF (wn rfl) rfl rfl (R.loadO one3 (hF.ev rfl) (hA.old hS) (ints_at _ k (by omega))) fun a hF => ?_
      refine sv' hF (wn rfl) rfl rfl (R.move (hF.ev rfl)) fun a hF => ?_
      refine sv' hF (wn rfl) rfl rfl (R.subI (hF.ev rfl) (hF.ev rfl) (by omega)) fun a hF => ?_
      refine sv' hF (wn rfl) rfl rfl (R.assign (hF.ev rfl)) fun a hF => ?_
      refine s0 ?_
      refine then_n (hK9 _ _ ?_)
      refine wp_seq_k fun K10 hK10 => ?_
      have hK10' : ∀ a w, (Fr 44 [(0, .slice A (bl x).length c), (1, .slice B (bl y).length d), (5, .slice (some ⟨b11, 0, none⟩) (bl x).length (bl x).length), (7, .int .i64 (k : Nat)), (8, .int .i64 (((bl x).getD k 0 : Nat) - q - ((bl y).getD k 0 : Nat) : Int))] a ∧ St w0 [] [[(b11, Cel (ints (o ++ List.replicate ((bl x).length - k) 0)) 3)]] w) → K10 a w := by
        rintro a w ⟨hF, hS⟩
        refine hK10 _ _ ?_
        refine wp_seq_k fun K11 hK11 => ?_
        refine wp_region_lit ?_
        refine sv' hF (wn rfl) rfl rfl (R.assign (hF.ev rfl)) fun a hF => ?_
        refine s0 ?_
        refine then_n (hK11 _ _ ?_)
        refine wp_seq_k fun K12 hK12 => ?_
        have hK12' : ∀ a w, (∃ (p : Nat) (q1 : Nat), Fr 44 [(0, .slice A (bl x).length c), (1, .slice B (bl y).length d), (5, .slice (some ⟨b11, 0, none⟩) (bl x).length (bl x).length), (6, .int .i64 (q1 : Nat)), (7, .int .i64 (k : Nat)), (8, .int .i64 (p : Nat))] a ∧ St w0 [] [[(b11, Cel (ints (o ++ List.replicate ((bl x).length - k) 0)) 3)]] w ∧ ((p : Int) = ((bl x).getD k 0 : Int) - q - ((bl y).getD k 0 : Int) + 2 * q1) ∧ (p ≤ 1 ∧ q1 ≤ 1)) → K12 a w := by
          rintro a w ⟨p, q1, hF, hS, hp, hpq⟩
          refine hK12 _ _ ?_
          refine wp_region_lit ?_
          refine sv' hF (wn rfl) rfl rfl (R.move (hF.ev rfl)) fun a hF => ?_
          refine sv' hF (wn rfl) rfl rfl (R.move (hF.ev rfl)) fun a hF => ?_
          refine sv' hF (wn rfl) rfl rfl (R.move (hF.ev rfl)) fun a hF => ?_
          refine sv' hF (wn rfl) rfl rfl (R.indexS Try.underlying64 sz3 (hF.ev rfl) (hF.ev rfl) (by omega) (by omega)) fun a hF => ?_
          refine so (wn rfl) (O.store sz3 (hF.ev rfl) (hF.ev rfl) rfl rfl hS .h (set_fill o k _ p _ rfl hol (by omega)) (by rw [length_ints]; simp; omega) fun w hS => ?_)
          refine s0 ?_
          refine blk_n ?_
          refine then_n (hK8 _ _ ?_)
          refine wp_region_lit ?_
          refine sv' hF (wn rfl) rfl rfl (R.move (hF.ev rfl)) fun a hF => ?_
          refine sv' hF (wn rfl) rfl rfl (R.addI (hF.ev rfl) (hF.ev rfl) (by omega)) fun a hF => ?_
          refine sv' hF (wn rfl) rfl rfl (R.assign (hF.ev rfl)) fun a hF => ?_
          refine s0 ?_
          refine then_n (hKL1 ((bl x).length - (k + 1)) _ _ ?_ ?_)
          · omega
          · exact ⟨k + 1, q1, o ++ [p], rfl, hF.sub ⟨rfl, rfl, rfl, rfl, rfl, trivial⟩, hS.sel [0] rfl rfl, by omega, by simp [hol], bits_snoc hob (by omega), by omega, less_step o _ _ k q _ hol (by omega) _ (by omega) hv⟩
        refine wp_seq_k fun K13 hK13 => ?_
        refine wp_region_lit ?_
        refine sv' hF (wn rfl) rfl rfl (R.move (hF.ev rfl)) fun a hF => ?_
        refine sv' hF (wn rfl) rfl rfl (R.lss (hF.ev rfl) (hF.ev rfl)) fun a hF => ?_
        refine s0 ?_
        refine then_n (hK13 _ _ ?_)
        refine cD hF rfl (fun c2 => ?_) (fun c2 => ?_)
        ·
          refine wp_seq_k fun K14 hK14 => ?_
          refine wp_region_lit ?_
          refine sv' hF (wn rfl) rfl rfl (R.move (hF.ev rfl)) fun a hF => ?_
          refine sv' hF (wn rfl) rfl rfl (R.addI (hF.ev rfl) (hF.ev rfl) (by omega)) fun a hF => ?_
          refine sv' hF (wn rfl) rfl rfl (R.assign (hF.ev rfl)) fun a hF => ?_
          refine s0 ?_
          refine then_n (hK14 _ _ ?_)
          refine wp_region_lit ?_
          refine sv' hF (wn rfl) rfl rfl (R.assign (hF.ev rfl)) fun a hF => ?_
          refine s0 ?_
          exact then_n (hK12' _ _ ⟨((bl x).getD k 0 - q - (bl y).getD k 0 + 2 : Int).toNat, 1, hF.sub ⟨rfl, rfl, rfl, rfl, rfl, (congrArg (fun z => some (Value.int .i64 z)) (by omega)), trivial⟩, hS.sel [0] rfl rfl, by omega, by omega⟩)
        ·
          refine wp_skip ?_
          exact then_n (hK12' _ _ ⟨((bl x).getD k 0 - q - (bl y).getD k 0 : Int).toNat, 0, hF.sub ⟨rfl, rfl, rfl, rfl, rfl, (congrArg (fun z => some (Value.int .i64 z)) (by omega)), trivial⟩, hS.sel [0] rfl rfl, by omega, by omega⟩)
      refine wp_seq_k fun K15 hK15 => ?_
      refine wp_region_lit ?_
      refine sv' hF (wn rfl) rfl rfl (R.move (hF.ev rfl)) fun a hF => ?_
      refine sv' hF (wn rfl) rfl rfl (R.move (hF.ev rfl)) fun a hF => ?_
      refine sv' hF (wn rfl) rfl rfl (R.len Try.underlying64 (hF.ev rfl)) fun a hF => ?_
      refine sv' hF (wn rfl) rfl rfl (R.lss (hF.ev rfl) (hF.ev rfl)) fun a hF => ?_
      refine s0 ?_
      refine then_n (hK15 _ _ ?_)
      refine cD hF rfl (fun c3 => ?_) (fun c3 => ?_)
      ·
        refine wp_region_lit ?_
        refine sv' hF (wn rfl) rfl rfl (R.move (hF.ev rfl)) fun a hF => ?_
        refine sv' hF (wn rfl) rfl rfl (R.move (hF.ev rfl)) fun a hF => ?_
        refine sv' hF (wn rfl) rfl rfl (R.move (hF.ev rfl)) fun a hF => ?_
        refine sv' hF (wn rfl) rfl rfl (R.indexO Try.underlying64 sz3 (hF.ev rfl) (Rd.ne hB (by rw [length_ints]; omega)) (hF.ev rfl) (by omega) (by omega)) fun a hF => ?_
        refine sv' hF (wn rfl) rfl rfl (R.loadO one3 (hF.ev rfl) (hB.old hS) (ints_at _ k (by omega))) fun a hF => ?_
        refine sv' hF (wn rfl) rfl rfl (R.subI (hF.ev rfl) (hF.ev rfl) (by omega)) fun a hF => ?_
        refine sv' hF (wn rfl) rfl rfl (R.assign (hF.ev rfl)) fun a hF => ?_
        refine s0 ?_
        exact then_n (hK10' _ _ ⟨hF.sub ⟨rfl, rfl, rfl, rfl, (congrArg (fun z => some (Value.int .i64 z)) (by omega)), trivial⟩, hS.sel [0] rfl rfl⟩)
      ·
        refine wp_skip ?_
        exact then_n (hK10' _ _ ⟨hF.sub ⟨rfl, rfl, rfl, rfl, (congrArg (fun z => some (Value.int .i64 z)) (by omega)), trivial⟩, hS.sel [0] rfl rfl⟩)
    ·
      obtain rfl : k = (bl x).length := by omega
      have hvo := less_end o x y q hol hob hq hyx hv
      rw [show ints (o ++ List.replicate ((bl x).length - (bl x).length) 0) = ints o from by simp] at hS
      refine wp_exit (then_x (then_x (blk_hit ?_)))
      refine then_n (hK4 _ _ ?_)
      refine wp_seq_k fun K16 hK16 => ?_
      refine wp_region_lit ?_
      refine sv' hF (wn rfl) rfl rfl (R.move (hF.ev rfl)) fun a hF => ?_
      refine so (wn rfl) (O.call rfl rfl hF ent105 (hF.evs rfl) hS (cut_calls (some ⟨b11, 0, none⟩) (bl x).length (bl x).length o w (Rd.own0 hS .h) hol (by omega) (by omega) hob) fun v s43 a w hR hF hS => ?_)
      obtain ⟨rfl, rfl⟩ := hR
      refine sv' hF (wn rfl) rfl rfl (R.assign (hF.ev rfl)) fun a hF => ?_
      refine s0 ?_
      refine then_n (hK16 _ _ ?_)
      refine wp_ret (hR _ _ _ _ _ hF (run_results Try.results76 (.t hF rfl (.nil))) ?_)
      exact ⟨_, _, rfl, ⟨_, _, by rw [hvo]; rfl, hvo ▸ own_cut (hol ▸ own_full b11 o (by omega)) hol hob⟩, hS.one (.t .h)⟩

end Go.Proofs.Ythgecfjpacebeaa
