/- The calls of the reference's division of digits. -/
import Derived.Test.YthgecfjpacebeaaBj
import Derived.Test.YthgecfjpacebeaaR
namespace Go.Proofs.Ythgecfjpacebeaa
open Go Go.Fw Go.RowKit
attribute [local irreducible] Go.Oper.wp Go.Code.wp Go.wpList Go.Fw.WL Go.Calls
theorem quo_top {x y : Nat} (_h : x < 2 ^ (bl x).length) : intsF (bl x).length (fun _ => 0) = intsF (bl x).length (quo x y (bl x).length) := by
  unfold intsF
  congr 1
  refine List.map_congr_left fun k hk => ?_
  rw [quo, if_neg (by have := List.mem_range.1 hk; omega)]

theorem by_calls (A B : Option Addr) (c d x y : Nat) (w0 : World) (hA : Rd w0 A (ints (bl x))) (hB : Rd w0 B (ints (bl y))) (hx : (bl x).length ≤ 1000000) (hy : (bl y).length ≤ 999999) (hy0 : 0 < y) : Ret Try.prog 103 [.slice A (bl x).length c, .slice B (bl y).length d] w0 [] (fun v s => ∃ A1 c1 A2 c2 s1 s2, v = .tuple #[.slice A1 (bl (x / y)).length c1, .slice A2 (bl (x % y)).length c2] ∧ s = s1 ++ s2 ∧ OwnS s1 A1 (bl (x / y)).length c1 (ints (bl (x / y))) 3 1 ∧ OwnS s2 A2 (bl (x % y)).length c2 (ints (bl (x % y))) 3 1) := by
  refine fn_start Try.func103 rfl Try.ntmps103 rfl [(0, .slice A (bl x).length c), (1, .slice B (bl y).length d)] ⟨rfl, rfl, trivial⟩ ?_
  intro Q a hP hF hR hN
  have hS := St.start w0
  have hxn := (length_bl_lt x _).1 (Nat.le_refl _)
  refine wp_seq_k fun K1 hK1 => ?_
  refine wp_region_lit ?_
  refine sv' hF (wn rfl) rfl rfl (R.assign (hF.ev rfl)) fun a hF => ?_
  refine sv' hF (wn rfl) rfl rfl (R.assign (hF.ev rfl)) fun a hF => ?_
  refine s0 ?_
  refine then_n (hK1 _ _ ?_)
  refine wp_seq_k fun K2 hK2 => ?_
  refine wp_region_lit ?_
  refine sv' hF (wn rfl) rfl rfl (R.move (hF.ev rfl)) fun a hF => ?_
  refine sv' hF (wn rfl) rfl rfl (R.len Try.underlying64 (hF.ev rfl)) fun a hF => ?_
  refine so (wn rfl) (O.makeSlice rfl rfl hF Try.underlying64 inf3 rfl rfl (hF.ev rfl) (hF.ev rfl) (by omega) (by omega) (by omega) (by omega) hS fun b13 a w hF hS => ?_)
  rw [show zeros [Value.int .i64 0] (Int.toNat ((bl x).length : Int)) = intsF (bl x).length (fun _ => 0) from zeros_intsF _] at hS
  refine sv' hF (wn rfl) rfl rfl (R.assign (hF.ev rfl)) fun a hF => ?_
  refine s0 ?_
  refine then_n (hK2 _ _ ?_)
  refine wp_seq_k fun K3 hK3 => ?_
  refine wp_region_lit ?_
  refine sv' hF (wn rfl) rfl rfl (R.assign (hF.ev rfl)) fun a hF => ?_
  refine s0 ?_
  refine then_n (hK3 _ _ ?_)
  refine wp_seq_k fun K4 hK4 => ?_
  refine wp_seq_k fun K5 hK5 => ?_
  have hS := hS.cons0
  refine wp_region_lit ?_
  refine sv' hF (wn rfl) rfl rfl (R.move (hF.ev rfl)) fun a hF => ?_
  refine sv' hF (wn rfl) rfl rfl (R.len Try.underlying64 (hF.ev rfl)) fun a hF => ?_
  refine sv' hF (wn rfl) rfl rfl (R.subI (hF.ev rfl) (hF.ev rfl) (by omega)) fun a hF => ?_
  refine sv' hF (wn rfl) rfl rfl (R.assign (hF.ev rfl)) fun a hF => ?_
  refine s0 ?_
  refine then_n (hK5 _ _ ?_)
  refine wp_block ?_
  refine wp_loop_N (fun g a w => ∃ (p : Nat) (Al : Option Addr) (cl : Nat) (sl : Seg), p = g ∧ Fr 60 [(0, .slice A (bl x).length c), (1, .slice B (bl y).length d), (6, .slice (some ⟨b13, 0, none⟩) (bl x).length (bl x).length), (7, .slice Al (bl (LL x y p)).length cl), (8, .int .i64 ((p : Nat) - 1 : Int))] a ∧ St w0 [] [sl, [(b13, Cel (intsF (bl x).length (quo x y p)) 3)]] w ∧ (OwnS sl Al (bl (LL x y p)).length cl (ints (bl (LL x y p))) 3 1) ∧ (p ≤ (bl x).length)) ((bl x).length) ?_ ?_
  · exact ⟨(bl x).length, none, 0, [], rfl, hF.sub ⟨rfl, rfl, rfl, (by rw [LL_top hxn, bl_0]; rfl), rfl, trivial⟩, hS.sel [0, 1] rfl (by rw [quo_top hxn]; rfl), by rw [LL_top hxn, bl_0]; exact OwnS.nil 3 1, by omega⟩
  · rintro KL1 g a w ⟨p, Al, cl, sl, hg1, hF, hS, hO, hp⟩ hKL1
    refine wp_seq_k fun K6 hK6 => ?_
    refine wp_seq_k fun K7 hK7 => ?_
    refine wp_region_lit ?_
    refine sv' hF (wn rfl) rfl rfl (R.move (hF.ev rfl)) fun a hF => ?_
    refine sv' hF (wn rfl) rfl rfl (R.geq (hF.ev rfl) (hF.ev rfl)) fun a hF => ?_
    refine s0 ?_
    refine then_n (hK7 _ _ ?_)
    refine cD hF rfl (fun c1 => ?_) (fun c1 => ?_)
    ·
      obtain ⟨q, rfl⟩ : ∃ q, p = q + 1 := ⟨p - 1, by omega⟩
      have hLy := LL_lt x (q + 1) hy0
      have hLl : (bl (LL x y (q + 1))).length ≤ 1000000 := Nat.le_trans ((length_bl_lt _ _).2 (Nat.lt_trans hLy ((length_bl_lt y _).1 (Nat.le_refl _)))) (Nat.le_trans hy (by decide))
      obtain ⟨hbits, hval⟩ := nxt_end (LL x y (q + 1)) (bit x q) (bit_le x q)
      have hlen2 : (bl (2 * LL x y (q + 1) + bit x q)).length ≤ 1000000 := Nat.le_trans ((length_bl_lt _ ((bl y).length + 1)).2 (by rw [Nat.pow_succ]; have := (length_bl_lt y _).1 (Nat.le_refl _); have := bit_le x q; omega)) (by omega)
      refine wp_skip ?_
      refine then_n (hK6 _ _ ?_)
      refine wp_seq_k fun K8 hK8 => ?_
      refine wp_block ?_
      refine wp_seq_k fun K9 hK9 => ?_
      refine wp_region_lit ?_
      refine sv' hF (wn rfl) rfl rfl (R.move (hF.ev rfl)) fun a hF => ?_
      refine sv' hF (wn rfl) rfl rfl (R.len Try.underlying64 (hF.ev rfl)) fun a hF => ?_
      refine sv' hF (wn rfl) rfl rfl (R.addI (hF.ev rfl) (hF.ev rfl) (by omega)) fun a hF => ?_
      refine so (wn rfl) (O.makeSlice rfl rfl hF Try.underlying64 inf3 rfl rfl (hF.ev rfl) (hF.ev rfl) (by omega) (by omega) (by omega) (by omega) hS fun b24 a w hF hS => ?_)
      rw [show Int.toNat (((bl (LL x y (q + 1))).length : Int) + 1) = (bl (LL x y (q + 1))).length + 1 from by omega] at hF hS; rw [zeros_intsF] at hS
      refine sv' hF (wn rfl) rfl rfl (R.assign (hF.ev rfl)) fun a hF => ?_
      refine s0 ?_
      refine then_n (hK9 _ _ ?_)
      refine wp_seq_k fun K10 hK10 => ?_
      refine wp_region_lit ?_
      refine sv' hF (wn rfl) rfl rfl (R.move (hF.ev rfl)) fun a hF => ?_
      refine sv' hF (wn rfl) rfl rfl (R.move (hF.ev rfl)) fun a hF => ?_
      refine sv' hF (wn rfl) rfl rfl (R.move (hF.ev rfl)) fun a hF => ?_
      refine sv' hF (wn rfl) rfl rfl (R.indexO Try.underlying64 sz3 (hF.ev rfl) (Rd.ne hA (by rw [length_ints]; omega)) (hF.ev rfl) (by omega) (by omega)) fun a hF => ?_
      refine sv' hF (wn rfl) rfl rfl (R.loadO one3 (hF.ev rfl) (hA.old hS) (bl_pred x (q + 1) (by omega) (by omega))) fun a hF => ?_
      refine sv' hF (wn rfl) rfl rfl (R.indexS Try.underlying64 sz3 (hF.ev rfl) (hF.ev rfl) (by omega) (by omega)) fun a hF => ?_
      refine so (wn rfl) (O.store sz3 (hF.ev rfl) (hF.ev rfl) rfl rfl hS .h ((intsF_set (k := 0) (v := bit x q) (by simp) (by simp)).trans (congrArg _ (nxt_0 (LL x y (q + 1)) (bit x q)))) (by rw [length_intsF]; simp) fun w hS => ?_)
      refine s0 ?_
      refine then_n (hK10 _ _ ?_)
      refine wp_seq_k fun K11 hK11 => ?_
      refine wp_seq_k fun K12 hK12 => ?_
      refine wp_region_lit ?_
      refine sv' hF (wn rfl) rfl rfl (R.assign (hF.ev rfl)) fun a hF => ?_
      refine s0 ?_
      refine then_n (hK12 _ _ ?_)
      refine wp_block ?_
      refine wp_loop_N (fun g a w => ∃ (k : Nat), (bl (LL x y (q + 1))).length - k = g ∧ Fr 60 [(0, .slice A (bl x).length c), (1, .slice B (bl y).length d), (6, .slice (some ⟨b13, 0, none⟩) (bl x).length (bl x).length), (7, .slice Al (bl (LL x y (q + 1))).length cl), (8, .int .i64 (((q + 1) : Nat) - 1 : Int)), (9, .slice (some ⟨b24, 0, none⟩) ((bl (LL x y (q + 1))).length + 1) ((bl (LL x y (q + 1))).length + 1)), (10, .int .i64 (k : Nat))] a ∧ St w0 [] [sl, [(b13, Cel (intsF (bl x).length (quo x y (q + 1))) 3)], [(b24, Cel (intsF ((bl (LL x y (q + 1))).length + 1) (nxt (LL x y (q + 1)) (bit x q) k)) 3)]] w ∧ (k ≤ (bl (LL x y (q + 1))).length)) ((bl (LL x y (q + 1))).length - 0) ?_ ?_
      · exact ⟨0, rfl, hF.sub ⟨rfl, rfl, rfl, rfl, rfl, rfl, rfl, trivial⟩, hS.sel [1, 2, 0] rfl rfl, by omega⟩
      · rintro KL2 g a w ⟨k, hg2, hF, hS, hk⟩ hKL2
        refine wp_seq_k fun K13 hK13 => ?_
        refine wp_seq_k fun K14 hK14 => ?_
        refine wp_region_lit ?_
        refine sv' hF (wn rfl) rfl rfl (R.move (hF.ev rfl)) fun a hF => ?_
        refine sv' hF (wn rfl) rfl rfl (R.move (hF.ev rfl)) fun a hF => ?_
        refine sv' hF (wn rfl) rfl rfl (R.len Try.underlying64 (hF.ev rfl)) fun a hF => ?_
        refine sv' hF (wn rfl) rfl rfl (R.lss (hF.ev rfl) (hF.ev rfl)) fun a hF => ?_
        refine s0 ?_
        refine then_n (hK14 _ _ ?_)
        refine cD hF rfl (fun c2 => ?_) (fun c2 => ?_)
        ·
          refine wp_skip ?_
          refine then_n (hK13 _ _ ?_)
          refine wp_seq_k fun K15 hK15 => ?_
          refine wp_block ?_
          refine wp_region_lit ?_
          refine sv' hF (wn rfl) rfl rfl (R.move (hF.ev rfl)) fun a hF => ?_
          refine sv' hF (wn rfl) rfl rfl (R.move (hF.ev rfl)) fun a hF => ?_
          refine sv' hF (wn rfl) rfl rfl (R.addI (hF.ev rfl) (hF.ev rfl) (by omega)) fun a hF => ?_
          refine sv' hF (wn rfl) rfl rfl (R.move (hF.ev rfl)) fun a hF => ?_
          refine sv' hF (wn rfl) rfl rfl (R.move (hF.ev rfl)) fun a hF => ?_
          refine sv' hF (wn rfl) rfl rfl (R.indexO Try.underlying64 sz3 (hF.ev rfl) ((hO.rd hS .h).ne (by rw [length_ints]; omega)) (hF.ev rfl) (by omega) (by omega)) fun a hF => ?_
          refine sv' hF (wn rfl) rfl rfl (R.loadO one3 (hF.ev rfl) (hO.rd hS .h) (bl_at (LL x y (q + 1)) k (by omega))) fun a hF => ?_
          refine sv' hF (wn rfl) rfl rfl (R.indexS Try.underlying64 sz3 (hF.ev rfl) (hF.ev rfl) (by omega) (by omega)) fun a hF => ?_
          refine so (wn rfl) (O.store sz3 (hF.ev rfl) (hF.ev rfl) rfl rfl hS (.t (.t .h)) ((intsF_set (k := k + 1) (v := bit (LL x y (q + 1)) k) (by omega) rfl).trans (congrArg _ (nxt_step _ _ _))) (by rw [length_intsF]; omega) fun w hS => ?_)
          refine s0 ?_
          refine blk_n ?_
          refine then_n (hK15 _ _ ?_)
          refine wp_region_lit ?_
          refine sv' hF (wn rfl) rfl rfl (R.move (hF.ev rfl)) fun a hF => ?_
          refine sv' hF (wn rfl) rfl rfl (R.addI (hF.ev rfl) (hF.ev rfl) (by omega)) fun a hF => ?_
          refine sv' hF (wn rfl) rfl rfl (R.assign (hF.ev rfl)) fun a hF => ?_
          refine s0 ?_
          refine then_n (hKL2 ((bl (LL x y (q + 1))).length - (k + 1)) _ _ ?_ ?_)
          · omega
          · exact ⟨k + 1, rfl, hF.sub ⟨rfl, rfl, rfl, rfl, rfl, rfl, rfl, trivial⟩, hS.sel [0, 1, 2] rfl rfl, by omega⟩
        ·
          obtain rfl : k = (bl (LL x y (q + 1))).length := by omega
          refine wp_exit (then_x (then_x (blk_hit ?_)))
          refine then_n (hK11 _ _ ?_)
          refine wp_seq_k fun K16 hK16 => ?_
          refine wp_region_lit ?_
          refine sv' hF (wn rfl) rfl rfl (R.move (hF.ev rfl)) fun a hF => ?_
          refine so (wn rfl) (O.call rfl rfl hF ent105 (hF.evs rfl) hS (cut_calls (some ⟨b24, 0, none⟩) ((bl (LL x y (q + 1))).length + 1) ((bl (LL x y (q + 1))).length + 1) ((List.range ((bl (LL x y (q + 1))).length + 1)).map (nxt (LL x y (q + 1)) (bit x q) (bl (LL x y (q + 1))).length)) w (Rd.own0 hS (.t (.t .h))) (by simp) (by omega) (by omega) hbits) fun v s46 a w hR hF hS => ?_)
          obtain ⟨hv, rfl⟩ := hR
          rw [hval] at hv; subst hv; have hO2 := own_cut (own_fullN (f := nxt (LL x y (q + 1)) (bit x q) (bl (LL x y (q + 1))).length) b24 (n := ((bl (LL x y (q + 1))).length + 1)) (by omega)) (by simp) hbits; rw [hval] at hO2; have hl2 : (bl (2 * LL x y (q + 1) + bit x q)).length ≤ 1000000 := hlen2
          refine sv' hF (wn rfl) rfl rfl (R.assign (hF.ev rfl)) fun a hF => ?_
          refine s0 ?_
          refine then_n (hK16 _ _ ?_)
          refine wp_seq_k fun K17 hK17 => ?_
          refine wp_region_lit ?_
          refine sv' hF (wn rfl) rfl rfl (R.move (hF.ev rfl)) fun a hF => ?_
          refine sv' hF (wn rfl) rfl rfl (R.move (hF.ev rfl)) fun a hF => ?_
          refine so (wn rfl) (O.call rfl rfl hF ent81 (hF.evs rfl) hS (compare_calls _ B _ d (2 * LL x y (q + 1) + bit x q) y w (hO2.rd hS (.t (.t (.t .h)))) (hB.old hS) (by omega) (by omega)) fun v s49 a w hR hF hS => ?_)
          obtain ⟨rfl, rfl⟩ := hR
          refine sv' hF (wn rfl) rfl rfl (R.geq (hF.ev rfl) (hF.ev rfl)) fun a hF => ?_
          refine s0 ?_
          refine then_n (hK17 _ _ ?_)
          refine cD hF rfl (fun c3 => ?_) (fun c3 => ?_)
          ·
            have hle : y ≤ 2 * LL x y (q + 1) + bit x q := by unfold cmpN at c3; split at c3 <;> omega
            have hn := LL_hi hy0 hle
            refine wp_seq_k fun K18 hK18 => ?_
            refine wp_region_lit ?_
            refine sv' hF (wn rfl) rfl rfl (R.move (hF.ev rfl)) fun a hF => ?_
            refine sv' hF (wn rfl) rfl rfl (R.move (hF.ev rfl)) fun a hF => ?_
            refine so (wn rfl) (O.call rfl rfl hF ent76 (hF.evs rfl) hS (less_calls _ B _ d (2 * LL x y (q + 1) + bit x q) y w (hO2.rd hS (.t (.t (.t (.t .h))))) (hB.old hS) (by omega) (by omega) hle) fun v s53 a w hR hF hS => ?_)
            obtain ⟨A53, c53, rfl, hO53⟩ := hR
            refine sv' hF (wn rfl) rfl rfl (R.assign (hF.ev rfl)) fun a hF => ?_
            refine s0 ?_
            refine then_n (hK18 _ _ ?_)
            refine wp_region_lit ?_
            refine sv' hF (wn rfl) rfl rfl (R.move (hF.ev rfl)) fun a hF => ?_
            refine sv' hF (wn rfl) rfl rfl (R.move (hF.ev rfl)) fun a hF => ?_
            refine sv' hF (wn rfl) rfl rfl (R.indexS Try.underlying64 sz3 (hF.ev rfl) (hF.ev rfl) (by omega) (by omega)) fun a hF => ?_
            refine so (wn rfl) (O.store sz3 (hF.ev rfl) (hF.ev rfl) rfl rfl hS (.t (.t (.t (.t .h)))) ((intsF_set (k := q) (v := 1) (by omega) rfl).trans (congrArg _ (quo_hi hy0 hle))) (by rw [length_intsF]; omega) fun w hS => ?_)
            refine s0 ?_
            refine blk_n ?_
            refine then_n (hK8 _ _ ?_)
            refine wp_region_lit ?_
            refine sv' hF (wn rfl) rfl rfl (R.move (hF.ev rfl)) fun a hF => ?_
            refine sv' hF (wn rfl) rfl rfl (R.subI (hF.ev rfl) (hF.ev rfl) (by omega)) fun a hF => ?_
            refine sv' hF (wn rfl) rfl rfl (R.assign (hF.ev rfl)) fun a hF => ?_
            refine s0 ?_
            refine then_n (hKL1 (q) _ _ ?_ ?_)
            · omega
            · exact ⟨q, _, _, _, rfl, hF.sub ⟨rfl, rfl, rfl, (by rw [hn]; rfl), (congrArg (fun z => some (Value.int .i64 z)) (by omega)), trivial⟩, hS.sel [0, 4] rfl rfl, by rw [hn]; first | exact hO53 | exact hO2, by omega⟩
          ·
            have hlo : 2 * LL x y (q + 1) + bit x q < y := by unfold cmpN at c3; split at c3 <;> (try split at c3) <;> omega
            have hn := LL_lo hy0 hlo
            rw [quo_lo hy0 hlo] at hS
            refine wp_skip ?_
            refine blk_n ?_
            refine then_n (hK8 _ _ ?_)
            refine wp_region_lit ?_
            refine sv' hF (wn rfl) rfl rfl (R.move (hF.ev rfl)) fun a hF => ?_
            refine sv' hF (wn rfl) rfl rfl (R.subI (hF.ev rfl) (hF.ev rfl) (by omega)) fun a hF => ?_
            refine sv' hF (wn rfl) rfl rfl (R.assign (hF.ev rfl)) fun a hF => ?_
            refine s0 ?_
            refine then_n (hKL1 (q) _ _ ?_ ?_)
            · omega
            · exact ⟨q, _, _, _, rfl, hF.sub ⟨rfl, rfl, rfl, (by rw [hn]; rfl), (congrArg (fun z => some (Value.int .i64 z)) (by omega)), trivial⟩, hS.sel [4, 3] rfl rfl, by rw [hn]; first | exact hO53 | exact hO2, by omega⟩
    ·
      obtain rfl : p = 0 := by omega
      obtain ⟨hqb, hqv⟩ := quo_end x y
      rw [LL_0] at hF hO
      refine wp_exit (then_x (then_x (blk_hit ?_)))
      refine then_n (hK4 _ _ ?_)
      refine wp_seq_k fun K19 hK19 => ?_
      refine wp_region_lit ?_
      refine sv' hF (wn rfl) rfl rfl (R.move (hF.ev rfl)) fun a hF => ?_
      refine so (wn rfl) (O.call rfl rfl hF ent105 (hF.evs rfl) hS (cut_calls (some ⟨b13, 0, none⟩) (bl x).length (bl x).length ((List.range (bl x).length).map (quo x y 0)) w (Rd.own0 hS (.t .h)) (by simp) (by omega) (by omega) hqb) fun v s58 a w hR hF hS => ?_)
      obtain ⟨rfl, rfl⟩ := hR
      refine sv' hF (wn rfl) rfl rfl (R.move (hF.ev rfl)) fun a hF => ?_
      refine sv' hF (wn rfl) rfl rfl (R.assign (hF.ev rfl)) fun a hF => ?_
      refine sv' hF (wn rfl) rfl rfl (R.assign (hF.ev rfl)) fun a hF => ?_
      refine s0 ?_
      refine then_n (hK19 _ _ ?_)
      refine wp_ret (hR _ _ _ _ _ hF (run_results Try.results103 (.t hF rfl (.t hF rfl (.nil)))) ?_)
      refine ⟨_, _, rfl, ⟨_, _, _, _, _, _, by rw [hqv]; rfl, rfl, hqv ▸ own_cut (own_fullN b13 (by omega)) (by simp) hqb, hO⟩, (hS.sel [2, 1] rfl rfl).flat (by simp [selS])⟩

end Go.Proofs.Ythgecfjpacebeaa
