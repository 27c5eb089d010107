/- The calls of wide.MulDiv. -/
import Derived.Test.YthgecfjpacebeaaBn
import Derived.Test.YthgecfjpacebeaaBo
namespace Go.Proofs.Ythgecfjpacebeaa
open Go Go.Fw Go.RowKit
attribute [local irreducible] Go.Oper.wp Go.Code.wp Go.wpList Go.Fw.WL Go.Calls
theorem mulDiv_calls (x y z : Nat) (w0 : World) (hx : x < 115792089237316195423570985008687907853269984665640564039457584007913129639936) (hy : y < 115792089237316195423570985008687907853269984665640564039457584007913129639936) (hz : z < 115792089237316195423570985008687907853269984665640564039457584007913129639936) : Ret Try.prog 52 [wv x, wv y, wv z] w0 [] (fun v s => v = mulDivW x y z ∧ s = []) := by
  refine fn_start Try.func52 rfl Try.ntmps52 rfl [(0, wv x), (1, wv y), (2, wv z)] ⟨rfl, rfl, rfl, trivial⟩ ?_
  intro Q a hP hF hR hN
  have hS := St.start w0
  refine wp_seq_k fun K1 hK1 => ?_
  refine wp_region_lit ?_
  refine so (wn rfl) (O.box rfl rfl hF (hF.ev rfl) rfl hS fun b3 a w hF hS => ?_)
  refine so (wn rfl) (O.box rfl rfl hF (hF.ev rfl) rfl hS fun b4 a w hF hS => ?_)
  refine so (wn rfl) (O.box rfl rfl hF (hF.ev rfl) rfl hS fun b5 a w hF hS => ?_)
  refine so (wn rfl) (O.alloc rfl rfl hF ze29 rfl hS fun b6 a w hF hS => ?_)
  refine sv' hF (wn rfl) rfl rfl (R.assign (hF.ev rfl)) fun a hF => ?_
  refine s0 ?_
  refine then_n (hK1 _ _ ?_)
  refine wp_seq_k fun K2 hK2 => ?_
  refine wp_seq_k fun K3 hK3 => ?_
  refine wp_region_lit ?_
  refine sv' hF (wn rfl) rfl rfl (R.loadW agg29 (hF.ev rfl) hS (.t .h) sz29 (rfl)) fun a hF => ?_
  refine so (wn rfl) (O.call rfl rfl hF ent54 (hF.evs rfl) hS (isZero_calls z _ hz) fun v s11 a w hR hF hS => ?_)
  obtain ⟨rfl, rfl⟩ := hR
  refine s0 ?_
  refine then_n (hK3 _ _ ?_)
  refine cD hF rfl (fun k1 => ?_) (fun k1 => ?_)
  ·
    refine wp_seq_k fun K4 hK4 => ?_
    refine wp_region_lit ?_
    refine sv' hF (wn rfl) rfl rfl (R.buildArr (l := [_, _, _, _]) Try.underlying29 ze29 sz27 (hF.evp rfl) rfl) fun a hF => ?_
    refine so (wn rfl) (O.storeW sz29 (hF.ev rfl) (hF.ev rfl) (rfl) rfl (by simp [Value.oneCell']) hS (.t .h) (rfl) fun w hS => ?_)
    refine sv' hF (wn rfl) rfl rfl (R.assign (hF.ev rfl)) fun a hF => ?_
    refine s0 ?_
    refine then_n (hK4 _ _ ?_)
    refine wp_ret (then_r (hR _ _ _ _ _ hF (run_results Try.results52 (.cw hF rfl agg29 hS (.t .h) sz29 (rfl) (.t hF rfl (.nil)))) ?_))
    first | exact ⟨_, [], rfl, ⟨by rw [mulDivW, if_pos k1, if_pos k1]; rfl, rfl⟩, hS.none⟩ | exact ⟨_, [], rfl, ⟨by simp only [mulDivW, if_neg k1]; rfl, rfl⟩, hS.none⟩
  ·
    refine wp_skip ?_
    refine then_n (hK2 _ _ ?_)
    refine wp_seq_k fun K5 hK5 => ?_
    refine wp_drawN hS (hS.sel [0, 1, 2, 3, 4] rfl rfl) [(0, 1), (1, 1), (3, 1), (2, 2), (4, 2), (5, 0), (6, 0), (7, 0), (8, 2), (9, 2), (10, 3), (11, 3)] (.node [(0, 1), (1, 1), (3, 1)] (.node [(2, 2)] (.node [(4, 2), (5, 0), (6, 0), (7, 0)] (.leaf [(8, 2), (9, 2), (10, 3), (11, 3)]) (.leaf [(9, 2), (8, 2), (10, 3), (11, 3)])) (.node [] (.node [(8, 2)] (.leaf [(4, 2), (5, 0), (6, 0), (7, 0), (9, 2), (10, 3), (11, 3)]) (.leaf [(9, 2), (4, 2), (5, 0), (6, 0), (7, 0), (10, 3), (11, 3)])) (.node [(9, 2)] (.leaf [(4, 2), (5, 0), (6, 0), (7, 0), (8, 2), (10, 3), (11, 3)]) (.leaf [(8, 2), (4, 2), (5, 0), (6, 0), (7, 0), (10, 3), (11, 3)])))) (.node [] (.node [(8, 2)] (.node [(2, 2)] (.leaf [(4, 2), (5, 0), (6, 0), (7, 0), (9, 2), (10, 3), (11, 3)]) (.leaf [(9, 2), (4, 2), (5, 0), (6, 0), (7, 0), (10, 3), (11, 3)])) (.leaf [(9, 2), (2, 2), (4, 2), (5, 0), (6, 0), (7, 0), (10, 3), (11, 3)])) (.node [(9, 2)] (.node [(2, 2)] (.leaf [(4, 2), (5, 0), (6, 0), (7, 0), (8, 2), (10, 3), (11, 3)]) (.leaf [(8, 2), (4, 2), (5, 0), (6, 0), (7, 0), (10, 3), (11, 3)])) (.leaf [(8, 2), (2, 2), (4, 2), (5, 0), (6, 0), (7, 0), (10, 3), (11, 3)])))) mix (by kernel_rfl) (hP.then) fun w hS hD => ?_
    refine dr hF rfl (wn rfl) rfl rfl hD (fun w hD => R.loadW agg29 (hF.ev rfl) hD (.t (.t (.t (.t .h)))) sz29 (rfl)) fun a hF => ?_
    refine dr hF rfl (wn rfl) rfl rfl hD (fun w hD => R.loadW agg29 (hF.ev rfl) hD (.t (.t (.t .h))) sz29 (rfl)) fun a hF => ?_
    refine dr hF rfl (wn rfl) rfl rfl hD (fun w hD => R.loadW agg29 (hF.ev rfl) hD (.t (.t .h)) sz29 (rfl)) fun a hF => ?_
    refine d0 ?_
    refine ⟨?_, nd0 ⟨?_, ?_⟩⟩
    ·
      refine dl rfl (wn rfl) (O.call rfl rfl hF ent98 (hF.evs rfl) hS (product_calls x y _ hx hy) fun v s16 a w hR hF hS => ⟨fun hD => hS.tail, ?_⟩)
      obtain ⟨rfl, rfl⟩ := hR
      have hD := hS.tail
      refine d0 ?_
      refine ⟨?_, nd0 ⟨?_, ?_⟩⟩
      ·
        refine dl rfl (wn rfl) (O.call rfl rfl hF ent102 (hF.evs rfl) hS (divided_calls (x * y) z _ (mul_512 hx hy) (Nat.pos_of_ne_zero k1) hz) fun v s18 a w hR hF hS => ⟨fun hD => hS.tail.tail, ?_⟩)
        obtain ⟨rfl, rfl⟩ := hR
        have hD := hS.tail.tail
        refine dq hF rfl (wn rfl) rfl rfl (fun w => R.move (hF.ev rfl)) fun a hF => ?_
        refine dq hF rfl (wn rfl) rfl rfl (fun w => R.extract (hF.ev rfl) rfl) fun a hF => ?_
        refine dq hF rfl (wn rfl) rfl rfl (fun w => R.extract (hF.ev rfl) rfl) fun a hF => ?_
        refine d0 ?_
        refine ⟨?_, ?_⟩
        ·
          refine dl rfl (wn rfl) (O.alloc rfl rfl hF ze123 rfl hS fun b8 a w hF hS => ⟨fun hD => hS.tail.tail.tail, ?_⟩)
          have hD := hS.tail.tail.tail
          refine dl rfl (wn rfl) (O.alloc rfl rfl hF ze29 rfl hS fun b9 a w hF hS => ⟨fun hD => hS.tail.tail.tail.tail, ?_⟩)
          have hD := hS.tail.tail.tail.tail
          refine dw rfl (wn rfl) (O.storeW sz123 (hF.ev rfl) (hF.ev rfl) (length_cells8 _) rfl (one_cells8 _) hS (.t .h) ((length_cells8 _).trans rfl) fun w hS => ?_)
          refine dw rfl (wn rfl) (O.storeW sz29 (hF.ev rfl) (hF.ev rfl) (rfl) rfl (by simp [Value.oneCell']) hS .h (rfl) fun w hS => ?_)
          refine d0 ?_
          refine then_n (hK5 _ _ ?_)
          refine wp_seq_k fun K6 hK6 => ?_
          refine wp_region_lit ?_
          refine sv' hF (wn rfl) rfl rfl (R.loadW agg123 (hF.ev rfl) hS (.t .h) sz123 (length_cells8 _)) fun a hF => ?_
          refine so (wn rfl) (O.call rfl rfl hF ent97 (hF.evs rfl) hS (narrow_calls (x * y / z) _ (Nat.lt_of_le_of_lt (Nat.div_le_self _ _) (mul_512 hx hy))) fun v s22 a w hR hF hS => ?_)
          obtain ⟨rfl, rfl⟩ := hR
          refine sv' hF (wn rfl) rfl rfl (R.extract (hF.ev rfl) rfl) fun a hF => ?_
          refine sv' hF (wn rfl) rfl rfl (R.extract (hF.ev rfl) rfl) fun a hF => ?_
          refine so (wn rfl) (O.storeW sz29 (hF.ev rfl) (hF.ev rfl) (rfl) rfl (by simp [Value.oneCell']) hS (.t (.t (.t (.t (.t (.t .h)))))) (rfl) fun w hS => ?_)
          refine sv' hF (wn rfl) rfl rfl (R.assign (hF.ev rfl)) fun a hF => ?_
          refine s0 ?_
          refine then_n (hK6 _ _ ?_)
          refine wp_ret (hR _ _ _ _ _ hF (run_results Try.results52 (.cw hF rfl agg29 hS (.t (.t (.t (.t (.t (.t .h)))))) sz29 (rfl) (.t hF rfl (.nil)))) ?_)
          first | exact ⟨_, [], rfl, ⟨by rw [mulDivW, if_pos k1, if_pos k1]; rfl, rfl⟩, hS.none⟩ | exact ⟨_, [], rfl, ⟨by simp only [mulDivW, if_neg k1]; rfl, rfl⟩, hS.none⟩
        ·
          refine dl rfl (wn rfl) (O.alloc rfl rfl hF ze29 rfl hS fun b9 a w hF hS => ⟨fun hD => hS.tail.tail.tail, ?_⟩)
          have hD := hS.tail.tail.tail
          refine dl rfl (wn rfl) (O.alloc rfl rfl hF ze123 rfl hS fun b8 a w hF hS => ⟨fun hD => hS.tail.tail.tail.tail, ?_⟩)
          have hD := hS.tail.tail.tail.tail
          refine dw rfl (wn rfl) (O.storeW sz123 (hF.ev rfl) (hF.ev rfl) (length_cells8 _) rfl (one_cells8 _) hS .h ((length_cells8 _).trans rfl) fun w hS => ?_)
          refine dw rfl (wn rfl) (O.storeW sz29 (hF.ev rfl) (hF.ev rfl) (rfl) rfl (by simp [Value.oneCell']) hS (.t .h) (rfl) fun w hS => ?_)
          refine d0 ?_
          refine then_n (hK5 _ _ ?_)
          refine wp_seq_k fun K7 hK7 => ?_
          refine wp_region_lit ?_
          refine sv' hF (wn rfl) rfl rfl (R.loadW agg123 (hF.ev rfl) hS .h sz123 (length_cells8 _)) fun a hF => ?_
          refine so (wn rfl) (O.call rfl rfl hF ent97 (hF.evs rfl) hS (narrow_calls (x * y / z) _ (Nat.lt_of_le_of_lt (Nat.div_le_self _ _) (mul_512 hx hy))) fun v s22 a w hR hF hS => ?_)
          obtain ⟨rfl, rfl⟩ := hR
          refine sv' hF (wn rfl) rfl rfl (R.extract (hF.ev rfl) rfl) fun a hF => ?_
          refine sv' hF (wn rfl) rfl rfl (R.extract (hF.ev rfl) rfl) fun a hF => ?_
          refine so (wn rfl) (O.storeW sz29 (hF.ev rfl) (hF.ev rfl) (rfl) rfl (by simp [Value.oneCell']) hS (.t (.t (.t (.t (.t (.t .h)))))) (rfl) fun w hS => ?_)
          refine sv' hF (wn rfl) rfl rfl (R.assign (hF.ev rfl)) fun a hF => ?_
          refine s0 ?_
          refine then_n (hK7 _ _ ?_)
          refine wp_ret (hR _ _ _ _ _ hF (run_results Try.results52 (.cw hF rfl agg29 hS (.t (.t (.t (.t (.t (.t .h)))))) sz29 (rfl) (.t hF rfl (.nil)))) ?_)
          first | exact ⟨_, [], rfl, ⟨by rw [mulDivW, if_pos k1, if_pos k1]; rfl, rfl⟩, hS.none⟩ | exact ⟨_, [], rfl, ⟨by simp only [mulDivW, if_neg k1]; rfl, rfl⟩, hS.none⟩
      ·
        refine dl rfl (wn rfl) (O.alloc rfl rfl hF ze123 rfl hS fun b8 a w hF hS => ⟨fun hD => hS.tail.tail, ?_⟩)
        have hD := hS.tail.tail
        refine d0 ?_
        refine ⟨?_, ?_⟩
        ·
          refine dl rfl (wn rfl) (O.call rfl rfl hF ent102 (hF.evs rfl) hS (divided_calls (x * y) z _ (mul_512 hx hy) (Nat.pos_of_ne_zero k1) hz) fun v s18 a w hR hF hS => ⟨fun hD => hS.tail.tail.tail, ?_⟩)
          obtain ⟨rfl, rfl⟩ := hR
          have hD := hS.tail.tail.tail
          refine dq hF rfl (wn rfl) rfl rfl (fun w => R.move (hF.ev rfl)) fun a hF => ?_
          refine dq hF rfl (wn rfl) rfl rfl (fun w => R.extract (hF.ev rfl) rfl) fun a hF => ?_
          refine dq hF rfl (wn rfl) rfl rfl (fun w => R.extract (hF.ev rfl) rfl) fun a hF => ?_
          refine dl rfl (wn rfl) (O.alloc rfl rfl hF ze29 rfl hS fun b9 a w hF hS => ⟨fun hD => hS.tail.tail.tail.tail, ?_⟩)
          have hD := hS.tail.tail.tail.tail
          refine dw rfl (wn rfl) (O.storeW sz123 (hF.ev rfl) (hF.ev rfl) (length_cells8 _) rfl (one_cells8 _) hS (.t (.t .h)) ((length_cells8 _).trans rfl) fun w hS => ?_)
          refine dw rfl (wn rfl) (O.storeW sz29 (hF.ev rfl) (hF.ev rfl) (rfl) rfl (by simp [Value.oneCell']) hS .h (rfl) fun w hS => ?_)
          refine d0 ?_
          refine then_n (hK5 _ _ ?_)
          refine wp_seq_k fun K8 hK8 => ?_
          refine wp_region_lit ?_
          refine sv' hF (wn rfl) rfl rfl (R.loadW agg123 (hF.ev rfl) hS (.t (.t .h)) sz123 (length_cells8 _)) fun a hF => ?_
          refine so (wn rfl) (O.call rfl rfl hF ent97 (hF.evs rfl) hS (narrow_calls (x * y / z) _ (Nat.lt_of_le_of_lt (Nat.div_le_self _ _) (mul_512 hx hy))) fun v s22 a w hR hF hS => ?_)
          obtain ⟨rfl, rfl⟩ := hR
          refine sv' hF (wn rfl) rfl rfl (R.extract (hF.ev rfl) rfl) fun a hF => ?_
          refine sv' hF (wn rfl) rfl rfl (R.extract (hF.ev rfl) rfl) fun a hF => ?_
          refine so (wn rfl) (O.storeW sz29 (hF.ev rfl) (hF.ev rfl) (rfl) rfl (by simp [Value.oneCell']) hS (.t (.t (.t (.t (.t (.t .h)))))) (rfl) fun w hS => ?_)
          refine sv' hF (wn rfl) rfl rfl (R.assign (hF.ev rfl)) fun a hF => ?_
          refine s0 ?_
          refine then_n (hK8 _ _ ?_)
          refine wp_ret (hR _ _ _ _ _ hF (run_results Try.results52 (.cw hF rfl agg29 hS (.t (.t (.t (.t (.t (.t .h)))))) sz29 (rfl) (.t hF rfl (.nil)))) ?_)
          first | exact ⟨_, [], rfl, ⟨by rw [mulDivW, if_pos k1, if_pos k1]; rfl, rfl⟩, hS.none⟩ | exact ⟨_, [], rfl, ⟨by simp only [mulDivW, if_neg k1]; rfl, rfl⟩, hS.none⟩
        ·
          refine dl rfl (wn rfl) (O.alloc rfl rfl hF ze29 rfl hS fun b9 a w hF hS => ⟨fun hD => hS.tail.tail.tail, ?_⟩)
          have hD := hS.tail.tail.tail
          refine dl rfl (wn rfl) (O.call rfl rfl hF ent102 (hF.evs rfl) hS (divided_calls (x * y) z _ (mul_512 hx hy) (Nat.pos_of_ne_zero k1) hz) fun v s18 a w hR hF hS => ⟨fun hD => hS.tail.tail.tail.tail, ?_⟩)
          obtain ⟨rfl, rfl⟩ := hR
          have hD := hS.tail.tail.tail.tail
          refine dq hF rfl (wn rfl) rfl rfl (fun w => R.move (hF.ev rfl)) fun a hF => ?_
          refine dq hF rfl (wn rfl) rfl rfl (fun w => R.extract (hF.ev rfl) rfl) fun a hF => ?_
          refine dq hF rfl (wn rfl) rfl rfl (fun w => R.extract (hF.ev rfl) rfl) fun a hF => ?_
          refine dw rfl (wn rfl) (O.storeW sz123 (hF.ev rfl) (hF.ev rfl) (length_cells8 _) rfl (one_cells8 _) hS (.t (.t .h)) ((length_cells8 _).trans rfl) fun w hS => ?_)
          refine dw rfl (wn rfl) (O.storeW sz29 (hF.ev rfl) (hF.ev rfl) (rfl) rfl (by simp [Value.oneCell']) hS (.t .h) (rfl) fun w hS => ?_)
          refine d0 ?_
          refine then_n (hK5 _ _ ?_)
          refine wp_seq_k fun K9 hK9 => ?_
          refine wp_region_lit ?_
          refine sv' hF (wn rfl) rfl rfl (R.loadW agg123 (hF.ev rfl) hS (.t (.t .h)) sz123 (length_cells8 _)) fun a hF => ?_
          refine so (wn rfl) (O.call rfl rfl hF ent97 (hF.evs rfl) hS (narrow_calls (x * y / z) _ (Nat.lt_of_le_of_lt (Nat.div_le_self _ _) (mul_512 hx hy))) fun v s22 a w hR hF hS => ?_)
          obtain ⟨rfl, rfl⟩ := hR
          refine sv' hF (wn rfl) rfl rfl (R.extract (hF.ev rfl) rfl) fun a hF => ?_
          refine sv' hF (wn rfl) rfl rfl (R.extract (hF.ev rfl) rfl) fun a hF => ?_
          refine so (wn rfl) (O.storeW sz29 (hF.ev rfl) (hF.ev rfl) (rfl) rfl (by simp [Value.oneCell']) hS (.t (.t (.t (.t (.t (.t .h)))))) (rfl) fun w hS => ?_)
          refine sv' hF (wn rfl) rfl rfl (R.assign (hF.ev rfl)) fun a hF => ?_
          refine s0 ?_
          refine then_n (hK9 _ _ ?_)
          refine wp_ret (hR _ _ _ _ _ hF (run_results Try.results52 (.cw hF rfl agg29 hS (.t (.t (.t (.t (.t (.t .h)))))) sz29 (rfl) (.t hF rfl (.nil)))) ?_)
          first | exact ⟨_, [], rfl, ⟨by rw [mulDivW, if_pos k1, if_pos k1]; rfl, rfl⟩, hS.none⟩ | exact ⟨_, [], rfl, ⟨by simp only [mulDivW, if_neg k1]; rfl, rfl⟩, hS.none⟩
      ·
        refine dl rfl (wn rfl) (O.alloc rfl rfl hF ze29 rfl hS fun b9 a w hF hS => ⟨fun hD => hS.tail.tail, ?_⟩)
        have hD := hS.tail.tail
        refine d0 ?_
        refine ⟨?_, ?_⟩
        ·
          refine dl rfl (wn rfl) (O.call rfl rfl hF ent102 (hF.evs rfl) hS (divided_calls (x * y) z _ (mul_512 hx hy) (Nat.pos_of_ne_zero k1) hz) fun v s18 a w hR hF hS => ⟨fun hD => hS.tail.tail.tail, ?_⟩)
          obtain ⟨rfl, rfl⟩ := hR
          have hD := hS.tail.tail.tail
          refine dq hF rfl (wn rfl) rfl rfl (fun w => R.move (hF.ev rfl)) fun a hF => ?_
          refine dq hF rfl (wn rfl) rfl rfl (fun w => R.extract (hF.ev rfl) rfl) fun a hF => ?_
          refine dq hF rfl (wn rfl) rfl rfl (fun w => R.extract (hF.ev rfl) rfl) fun a hF => ?_
          refine dl rfl (wn rfl) (O.alloc rfl rfl hF ze123 rfl hS fun b8 a w hF hS => ⟨fun hD => hS.tail.tail.tail.tail, ?_⟩)
          have hD := hS.tail.tail.tail.tail
          refine dw rfl (wn rfl) (O.storeW sz123 (hF.ev rfl) (hF.ev rfl) (length_cells8 _) rfl (one_cells8 _) hS .h ((length_cells8 _).trans rfl) fun w hS => ?_)
          refine dw rfl (wn rfl) (O.storeW sz29 (hF.ev rfl) (hF.ev rfl) (rfl) rfl (by simp [Value.oneCell']) hS (.t (.t .h)) (rfl) fun w hS => ?_)
          refine d0 ?_
          refine then_n (hK5 _ _ ?_)
          refine wp_seq_k fun K10 hK10 => ?_
          refine wp_region_lit ?_
          refine sv' hF (wn rfl) rfl rfl (R.loadW agg123 (hF.ev rfl) hS .h sz123 (length_cells8 _)) fun a hF => ?_
          refine so (wn rfl) (O.call rfl rfl hF ent97 (hF.evs rfl) hS (narrow_calls (x * y / z) _ (Nat.lt_of_le_of_lt (Nat.div_le_self _ _) (mul_512 hx hy))) fun v s22 a w hR hF hS => ?_)
          obtain ⟨rfl, rfl⟩ := hR
          refine sv' hF (wn rfl) rfl rfl (R.extract (hF.ev rfl) rfl) fun a hF => ?_
          refine sv' hF (wn rfl) rfl rfl (R.extract (hF.ev rfl) rfl) fun a hF => ?_
          refine so (wn rfl) (O.storeW sz29 (hF.ev rfl) (hF.ev rfl) (rfl) rfl (by simp [Value.oneCell']) hS (.t (.t (.t (.t (.t (.t .h)))))) (rfl) fun w hS => ?_)
          refine sv' hF (wn rfl) rfl rfl (R.assign (hF.ev rfl)) fun a hF => ?_
          refine s0 ?_
          refine then_n (hK10 _ _ ?_)
          refine wp_ret (hR _ _ _ _ _ hF (run_results Try.results52 (.cw hF rfl agg29 hS (.t (.t (.t (.t (.t (.t .h)))))) sz29 (rfl) (.t hF rfl (.nil)))) ?_)
          first | exact ⟨_, [], rfl, ⟨by rw [mulDivW, if_pos k1, if_pos k1]; rfl, rfl⟩, hS.none⟩ | exact ⟨_, [], rfl, ⟨by simp only [mulDivW, if_neg k1]; rfl, rfl⟩, hS.none⟩
        ·
          refine dl rfl (wn rfl) (O.alloc rfl rfl hF ze123 rfl hS fun b8 a w hF hS => ⟨fun hD => hS.tail.tail.tail, ?_⟩)
          have hD := hS.tail.tail.tail
          refine dl rfl (wn rfl) (O.call rfl rfl hF ent102 (hF.evs rfl) hS (divided_calls (x * y) z _ (mul_512 hx hy) (Nat.pos_of_ne_zero k1) hz) fun v s18 a w hR hF hS => ⟨fun hD => hS.tail.tail.tail.tail, ?_⟩)
          obtain ⟨rfl, rfl⟩ := hR
          have hD := hS.tail.tail.tail.tail
          refine dq hF rfl (wn rfl) rfl rfl (fun w => R.move (hF.ev rfl)) fun a hF => ?_
          refine dq hF rfl (wn rfl) rfl rfl (fun w => R.extract (hF.ev rfl) rfl) fun a hF => ?_
          refine dq hF rfl (wn rfl) rfl rfl (fun w => R.extract (hF.ev rfl) rfl) fun a hF => ?_
          refine dw rfl (wn rfl) (O.storeW sz123 (hF.ev rfl) (hF.ev rfl) (length_cells8 _) rfl (one_cells8 _) hS (.t .h) ((length_cells8 _).trans rfl) fun w hS => ?_)
          refine dw rfl (wn rfl) (O.storeW sz29 (hF.ev rfl) (hF.ev rfl) (rfl) rfl (by simp [Value.oneCell']) hS (.t (.t .h)) (rfl) fun w hS => ?_)
          refine d0 ?_
          refine then_n (hK5 _ _ ?_)
          refine wp_seq_k fun K11 hK11 => ?_
          refine wp_region_lit ?_
          refine sv' hF (wn rfl) rfl rfl (R.loadW agg123 (hF.ev rfl) hS (.t .h) sz123 (length_cells8 _)) fun a hF => ?_
          refine so (wn rfl) (O.call rfl rfl hF ent97 (hF.evs rfl) hS (narrow_calls (x * y / z) _ (Nat.lt_of_le_of_lt (Nat.div_le_self _ _) (mul_512 hx hy))) fun v s22 a w hR hF hS => ?_)
          obtain ⟨rfl, rfl⟩ := hR
          refine sv' hF (wn rfl) rfl rfl (R.extract (hF.ev rfl) rfl) fun a hF => ?_
          refine sv' hF (wn rfl) rfl rfl (R.extract (hF.ev rfl) rfl) fun a hF => ?_
          refine so (wn rfl) (O.storeW sz29 (hF.ev rfl) (hF.ev rfl) (rfl) rfl (by simp [Value.oneCell']) hS (.t (.t (.t (.t (.t (.t .h)))))) (rfl) fun w hS => ?_)
          refine sv' hF (wn rfl) rfl rfl (R.assign (hF.ev rfl)) fun a hF => ?_
          refine s0 ?_
          refine then_n (hK11 _ _ ?_)
          refine wp_ret (hR _ _ _ _ _ hF (run_results Try.results52 (.cw hF rfl agg29 hS (.t (.t (.t (.t (.t (.t .h)))))) sz29 (rfl) (.t hF rfl (.nil)))) ?_)
          first | exact ⟨_, [], rfl, ⟨by rw [mulDivW, if_pos k1, if_pos k1]; rfl, rfl⟩, hS.none⟩ | exact ⟨_, [], rfl, ⟨by simp only [mulDivW, if_neg k1]; rfl, rfl⟩, hS.none⟩
    ·
      refine dl rfl (wn rfl) (O.alloc rfl rfl hF ze123 rfl hS fun b8 a w hF hS => ⟨fun hD => hS.tail, ?_⟩)
      have hD := hS.tail
      refine d0 ?_
      refine ⟨?_, ?_⟩
      ·
        refine dl rfl (wn rfl) (O.call rfl rfl hF ent98 (hF.evs rfl) hS (product_calls x y _ hx hy) fun v s16 a w hR hF hS => ⟨fun hD => hS.tail.tail, ?_⟩)
        obtain ⟨rfl, rfl⟩ := hR
        have hD := hS.tail.tail
        refine d0 ?_
        refine ⟨?_, ?_⟩
        ·
          refine dl rfl (wn rfl) (O.call rfl rfl hF ent102 (hF.evs rfl) hS (divided_calls (x * y) z _ (mul_512 hx hy) (Nat.pos_of_ne_zero k1) hz) fun v s18 a w hR hF hS => ⟨fun hD => hS.tail.tail.tail, ?_⟩)
          obtain ⟨rfl, rfl⟩ := hR
          have hD := hS.tail.tail.tail
          refine dq hF rfl (wn rfl) rfl rfl (fun w => R.move (hF.ev rfl)) fun a hF => ?_
          refine dq hF rfl (wn rfl) rfl rfl (fun w => R.extract (hF.ev rfl) rfl) fun a hF => ?_
          refine dq hF rfl (wn rfl) rfl rfl (fun w => R.extract (hF.ev rfl) rfl) fun a hF => ?_
          refine dl rfl (wn rfl) (O.alloc rfl rfl hF ze29 rfl hS fun b9 a w hF hS => ⟨fun hD => hS.tail.tail.tail.tail, ?_⟩)
          have hD := hS.tail.tail.tail.tail
          refine dw rfl (wn rfl) (O.storeW sz123 (hF.ev rfl) (hF.ev rfl) (length_cells8 _) rfl (one_cells8 _) hS (.t (.t (.t .h))) ((length_cells8 _).trans rfl) fun w hS => ?_)
          refine dw rfl (wn rfl) (O.storeW sz29 (hF.ev rfl) (hF.ev rfl) (rfl) rfl (by simp [Value.oneCell']) hS .h (rfl) fun w hS => ?_)
          refine d0 ?_
          refine then_n (hK5 _ _ ?_)
          refine wp_seq_k fun K12 hK12 => ?_
          refine wp_region_lit ?_
          refine sv' hF (wn rfl) rfl rfl (R.loadW agg123 (hF.ev rfl) hS (.t (.t (.t .h))) sz123 (length_cells8 _)) fun a hF => ?_
          refine so (wn rfl) (O.call rfl rfl hF ent97 (hF.evs rfl) hS (narrow_calls (x * y / z) _ (Nat.lt_of_le_of_lt (Nat.div_le_self _ _) (mul_512 hx hy))) fun v s22 a w hR hF hS => ?_)
          obtain ⟨rfl, rfl⟩ := hR
          refine sv' hF (wn rfl) rfl rfl (R.extract (hF.ev rfl) rfl) fun a hF => ?_
          refine sv' hF (wn rfl) rfl rfl (R.extract (hF.ev rfl) rfl) fun a hF => ?_
          refine so (wn rfl) (O.storeW sz29 (hF.ev rfl) (hF.ev rfl) (rfl) rfl (by simp [Value.oneCell']) hS (.t (.t (.t (.t (.t (.t .h)))))) (rfl) fun w hS => ?_)
          refine sv' hF (wn rfl) rfl rfl (R.assign (hF.ev rfl)) fun a hF => ?_
          refine s0 ?_
          refine then_n (hK12 _ _ ?_)
          refine wp_ret (hR _ _ _ _ _ hF (run_results Try.results52 (.cw hF rfl agg29 hS (.t (.t (.t (.t (.t (.t .h)))))) sz29 (rfl) (.t hF rfl (.nil)))) ?_)
          first | exact ⟨_, [], rfl, ⟨by rw [mulDivW, if_pos k1, if_pos k1]; rfl, rfl⟩, hS.none⟩ | exact ⟨_, [], rfl, ⟨by simp only [mulDivW, if_neg k1]; rfl, rfl⟩, hS.none⟩
        ·
          refine dl rfl (wn rfl) (O.alloc rfl rfl hF ze29 rfl hS fun b9 a w hF hS => ⟨fun hD => hS.tail.tail.tail, ?_⟩)
          have hD := hS.tail.tail.tail
          refine dl rfl (wn rfl) (O.call rfl rfl hF ent102 (hF.evs rfl) hS (divided_calls (x * y) z _ (mul_512 hx hy) (Nat.pos_of_ne_zero k1) hz) fun v s18 a w hR hF hS => ⟨fun hD => hS.tail.tail.tail.tail, ?_⟩)
          obtain ⟨rfl, rfl⟩ := hR
          have hD := hS.tail.tail.tail.tail
          refine dq hF rfl (wn rfl) rfl rfl (fun w => R.move (hF.ev rfl)) fun a hF => ?_
          refine dq hF rfl (wn rfl) rfl rfl (fun w => R.extract (hF.ev rfl) rfl) fun a hF => ?_
          refine dq hF rfl (wn rfl) rfl rfl (fun w => R.extract (hF.ev rfl) rfl) fun a hF => ?_
          refine dw rfl (wn rfl) (O.storeW sz123 (hF.ev rfl) (hF.ev rfl) (length_cells8 _) rfl (one_cells8 _) hS (.t (.t (.t .h))) ((length_cells8 _).trans rfl) fun w hS => ?_)
          refine dw rfl (wn rfl) (O.storeW sz29 (hF.ev rfl) (hF.ev rfl) (rfl) rfl (by simp [Value.oneCell']) hS (.t .h) (rfl) fun w hS => ?_)
          refine d0 ?_
          refine then_n (hK5 _ _ ?_)
          refine wp_seq_k fun K13 hK13 => ?_
          refine wp_region_lit ?_
          refine sv' hF (wn rfl) rfl rfl (R.loadW agg123 (hF.ev rfl) hS (.t (.t (.t .h))) sz123 (length_cells8 _)) fun a hF => ?_
          refine so (wn rfl) (O.call rfl rfl hF ent97 (hF.evs rfl) hS (narrow_calls (x * y / z) _ (Nat.lt_of_le_of_lt (Nat.div_le_self _ _) (mul_512 hx hy))) fun v s22 a w hR hF hS => ?_)
          obtain ⟨rfl, rfl⟩ := hR
          refine sv' hF (wn rfl) rfl rfl (R.extract (hF.ev rfl) rfl) fun a hF => ?_
          refine sv' hF (wn rfl) rfl rfl (R.extract (hF.ev rfl) rfl) fun a hF => ?_
          refine so (wn rfl) (O.storeW sz29 (hF.ev rfl) (hF.ev rfl) (rfl) rfl (by simp [Value.oneCell']) hS (.t (.t (.t (.t (.t (.t .h)))))) (rfl) fun w hS => ?_)
          refine sv' hF (wn rfl) rfl rfl (R.assign (hF.ev rfl)) fun a hF => ?_
          refine s0 ?_
          refine then_n (hK13 _ _ ?_)
          refine wp_ret (hR _ _ _ _ _ hF (run_results Try.results52 (.cw hF rfl agg29 hS (.t (.t (.t (.t (.t (.t .h)))))) sz29 (rfl) (.t hF rfl (.nil)))) ?_)
          first | exact ⟨_, [], rfl, ⟨by rw [mulDivW, if_pos k1, if_pos k1]; rfl, rfl⟩, hS.none⟩ | exact ⟨_, [], rfl, ⟨by simp only [mulDivW, if_neg k1]; rfl, rfl⟩, hS.none⟩
      ·
        refine dl rfl (wn rfl) (O.alloc rfl rfl hF ze29 rfl hS fun b9 a w hF hS => ⟨fun hD => hS.tail.tail, ?_⟩)
        have hD := hS.tail.tail
        refine dl rfl (wn rfl) (O.call rfl rfl hF ent98 (hF.evs rfl) hS (product_calls x y _ hx hy) fun v s16 a w hR hF hS => ⟨fun hD => hS.tail.tail.tail, ?_⟩)
        obtain ⟨rfl, rfl⟩ := hR
        have hD := hS.tail.tail.tail
        refine dl rfl (wn rfl) (O.call rfl rfl hF ent102 (hF.evs rfl) hS (divided_calls (x * y) z _ (mul_512 hx hy) (Nat.pos_of_ne_zero k1) hz) fun v s18 a w hR hF hS => ⟨fun hD => hS.tail.tail.tail.tail, ?_⟩)
        obtain ⟨rfl, rfl⟩ := hR
        have hD := hS.tail.tail.tail.tail
        refine dq hF rfl (wn rfl) rfl rfl (fun w => R.move (hF.ev rfl)) fun a hF => ?_
        refine dq hF rfl (wn rfl) rfl rfl (fun w => R.extract (hF.ev rfl) rfl) fun a hF => ?_
        refine dq hF rfl (wn rfl) rfl rfl (fun w => R.extract (hF.ev rfl) rfl) fun a hF => ?_
        refine dw rfl (wn rfl) (O.storeW sz123 (hF.ev rfl) (hF.ev rfl) (length_cells8 _) rfl (one_cells8 _) hS (.t (.t (.t .h))) ((length_cells8 _).trans rfl) fun w hS => ?_)
        refine dw rfl (wn rfl) (O.storeW sz29 (hF.ev rfl) (hF.ev rfl) (rfl) rfl (by simp [Value.oneCell']) hS (.t (.t .h)) (rfl) fun w hS => ?_)
        refine d0 ?_
        refine then_n (hK5 _ _ ?_)
        refine wp_seq_k fun K14 hK14 => ?_
        refine wp_region_lit ?_
        refine sv' hF (wn rfl) rfl rfl (R.loadW agg123 (hF.ev rfl) hS (.t (.t (.t .h))) sz123 (length_cells8 _)) fun a hF => ?_
        refine so (wn rfl) (O.call rfl rfl hF ent97 (hF.evs rfl) hS (narrow_calls (x * y / z) _ (Nat.lt_of_le_of_lt (Nat.div_le_self _ _) (mul_512 hx hy))) fun v s22 a w hR hF hS => ?_)
        obtain ⟨rfl, rfl⟩ := hR
        refine sv' hF (wn rfl) rfl rfl (R.extract (hF.ev rfl) rfl) fun a hF => ?_
        refine sv' hF (wn rfl) rfl rfl (R.extract (hF.ev rfl) rfl) fun a hF => ?_
        refine so (wn rfl) (O.storeW sz29 (hF.ev rfl) (hF.ev rfl) (rfl) rfl (by simp [Value.oneCell']) hS (.t (.t (.t (.t (.t (.t .h)))))) (rfl) fun w hS => ?_)
        refine sv' hF (wn rfl) rfl rfl (R.assign (hF.ev rfl)) fun a hF => ?_
        refine s0 ?_
        refine then_n (hK14 _ _ ?_)
        refine wp_ret (hR _ _ _ _ _ hF (run_results Try.results52 (.cw hF rfl agg29 hS (.t (.t (.t (.t (.t (.t .h)))))) sz29 (rfl) (.t hF rfl (.nil)))) ?_)
        first | exact ⟨_, [], rfl, ⟨by rw [mulDivW, if_pos k1, if_pos k1]; rfl, rfl⟩, hS.none⟩ | exact ⟨_, [], rfl, ⟨by simp only [mulDivW, if_neg k1]; rfl, rfl⟩, hS.none⟩
    ·
      refine dl rfl (wn rfl) (O.alloc rfl rfl hF ze29 rfl hS fun b9 a w hF hS => ⟨fun hD => hS.tail, ?_⟩)
      have hD := hS.tail
      refine d0 ?_
      refine ⟨?_, ?_⟩
      ·
        refine dl rfl (wn rfl) (O.call rfl rfl hF ent98 (hF.evs rfl) hS (product_calls x y _ hx hy) fun v s16 a w hR hF hS => ⟨fun hD => hS.tail.tail, ?_⟩)
        obtain ⟨rfl, rfl⟩ := hR
        have hD := hS.tail.tail
        refine d0 ?_
        refine ⟨?_, ?_⟩
        ·
          refine dl rfl (wn rfl) (O.call rfl rfl hF ent102 (hF.evs rfl) hS (divided_calls (x * y) z _ (mul_512 hx hy) (Nat.pos_of_ne_zero k1) hz) fun v s18 a w hR hF hS => ⟨fun hD => hS.tail.tail.tail, ?_⟩)
          obtain ⟨rfl, rfl⟩ := hR
          have hD := hS.tail.tail.tail
          refine dq hF rfl (wn rfl) rfl rfl (fun w => R.move (hF.ev rfl)) fun a hF => ?_
          refine dq hF rfl (wn rfl) rfl rfl (fun w => R.extract (hF.ev rfl) rfl) fun a hF => ?_
          refine dq hF rfl (wn rfl) rfl rfl (fun w => R.extract (hF.ev rfl) rfl) fun a hF => ?_
          refine dl rfl (wn rfl) (O.alloc rfl rfl hF ze123 rfl hS fun b8 a w hF hS => ⟨fun hD => hS.tail.tail.tail.tail, ?_⟩)
          have hD := hS.tail.tail.tail.tail
          refine dw rfl (wn rfl) (O.storeW sz123 (hF.ev rfl) (hF.ev rfl) (length_cells8 _) rfl (one_cells8 _) hS .h ((length_cells8 _).trans rfl) fun w hS => ?_)
          refine dw rfl (wn rfl) (O.storeW sz29 (hF.ev rfl) (hF.ev rfl) (rfl) rfl (by simp [Value.oneCell']) hS (.t (.t (.t .h))) (rfl) fun w hS => ?_)
          refine d0 ?_
          refine then_n (hK5 _ _ ?_)
          refine wp_seq_k fun K15 hK15 => ?_
          refine wp_region_lit ?_
          refine sv' hF (wn rfl) rfl rfl (R.loadW agg123 (hF.ev rfl) hS .h sz123 (length_cells8 _)) fun a hF => ?_
          refine so (wn rfl) (O.call rfl rfl hF ent97 (hF.evs rfl) hS (narrow_calls (x * y / z) _ (Nat.lt_of_le_of_lt (Nat.div_le_self _ _) (mul_512 hx hy))) fun v s22 a w hR hF hS => ?_)
          obtain ⟨rfl, rfl⟩ := hR
          refine sv' hF (wn rfl) rfl rfl (R.extract (hF.ev rfl) rfl) fun a hF => ?_
          refine sv' hF (wn rfl) rfl rfl (R.extract (hF.ev rfl) rfl) fun a hF => ?_
          refine so (wn rfl) (O.storeW sz29 (hF.ev rfl) (hF.ev rfl) (rfl) rfl (by simp [Value.oneCell']) hS (.t (.t (.t (.t (.t (.t .h)))))) (rfl) fun w hS => ?_)
          refine sv' hF (wn rfl) rfl rfl (R.assign (hF.ev rfl)) fun a hF => ?_
          refine s0 ?_
          refine then_n (hK15 _ _ ?_)
          refine wp_ret (hR _ _ _ _ _ hF (run_results Try.results52 (.cw hF rfl agg29 hS (.t (.t (.t (.t (.t (.t .h)))))) sz29 (rfl) (.t hF rfl (.nil)))) ?_)
          first | exact ⟨_, [], rfl, ⟨by rw [mulDivW, if_pos k1, if_pos k1]; rfl, rfl⟩, hS.none⟩ | exact ⟨_, [], rfl, ⟨by simp only [mulDivW, if_neg k1]; rfl, rfl⟩, hS.none⟩
        ·
          refine dl rfl (wn rfl) (O.alloc rfl rfl hF ze123 rfl hS fun b8 a w hF hS => ⟨fun hD => hS.tail.tail.tail, ?_⟩)
          have hD := hS.tail.tail.tail
          refine dl rfl (wn rfl) (O.call rfl rfl hF ent102 (hF.evs rfl) hS (divided_calls (x * y) z _ (mul_512 hx hy) (Nat.pos_of_ne_zero k1) hz) fun v s18 a w hR hF hS => ⟨fun hD => hS.tail.tail.tail.tail, ?_⟩)
          obtain ⟨rfl, rfl⟩ := hR
          have hD := hS.tail.tail.tail.tail
          refine dq hF rfl (wn rfl) rfl rfl (fun w => R.move (hF.ev rfl)) fun a hF => ?_
          refine dq hF rfl (wn rfl) rfl rfl (fun w => R.extract (hF.ev rfl) rfl) fun a hF => ?_
          refine dq hF rfl (wn rfl) rfl rfl (fun w => R.extract (hF.ev rfl) rfl) fun a hF => ?_
          refine dw rfl (wn rfl) (O.storeW sz123 (hF.ev rfl) (hF.ev rfl) (length_cells8 _) rfl (one_cells8 _) hS (.t .h) ((length_cells8 _).trans rfl) fun w hS => ?_)
          refine dw rfl (wn rfl) (O.storeW sz29 (hF.ev rfl) (hF.ev rfl) (rfl) rfl (by simp [Value.oneCell']) hS (.t (.t (.t .h))) (rfl) fun w hS => ?_)
          refine d0 ?_
          refine then_n (hK5 _ _ ?_)
          refine wp_seq_k fun K16 hK16 => ?_
          refine wp_region_lit ?_
          refine sv' hF (wn rfl) rfl rfl (R.loadW agg123 (hF.ev rfl) hS (.t .h) sz123 (length_cells8 _)) fun a hF => ?_
          refine so (wn rfl) (O.call rfl rfl hF ent97 (hF.evs rfl) hS (narrow_calls (x * y / z) _ (Nat.lt_of_le_of_lt (Nat.div_le_self _ _) (mul_512 hx hy))) fun v s22 a w hR hF hS => ?_)
          obtain ⟨rfl, rfl⟩ := hR
          refine sv' hF (wn rfl) rfl rfl (R.extract (hF.ev rfl) rfl) fun a hF => ?_
          refine sv' hF (wn rfl) rfl rfl (R.extract (hF.ev rfl) rfl) fun a hF => ?_
          refine so (wn rfl) (O.storeW sz29 (hF.ev rfl) (hF.ev rfl) (rfl) rfl (by simp [Value.oneCell']) hS (.t (.t (.t (.t (.t (.t .h)))))) (rfl) fun w hS => ?_)
          refine sv' hF (wn rfl) rfl rfl (R.assign (hF.ev rfl)) fun a hF => ?_
          refine s0 ?_
          refine then_n (hK16 _ _ ?_)
          refine wp_ret (hR _ _ _ _ _ hF (run_results Try.results52 (.cw hF rfl agg29 hS (.t (.t (.t (.t (.t (.t .h)))))) sz29 (rfl) (.t hF rfl (.nil)))) ?_)
          first | exact ⟨_, [], rfl, ⟨by rw [mulDivW, if_pos k1, if_pos k1]; rfl, rfl⟩, hS.none⟩ | exact ⟨_, [], rfl, ⟨by simp only [mulDivW, if_neg k1]; rfl, rfl⟩, hS.none⟩
      ·
        refine dl rfl (wn rfl) (O.alloc rfl rfl hF ze123 rfl hS fun b8 a w hF hS => ⟨fun hD => hS.tail.tail, ?_⟩)
        have hD := hS.tail.tail
        refine dl rfl (wn rfl) (O.call rfl rfl hF ent98 (hF.evs rfl) hS (product_calls x y _ hx hy) fun v s16 a w hR hF hS => ⟨fun hD => hS.tail.tail.tail, ?_⟩)
        obtain ⟨rfl, rfl⟩ := hR
        have hD := hS.tail.tail.tail
        refine dl rfl (wn rfl) (O.call rfl rfl hF ent102 (hF.evs rfl) hS (divided_calls (x * y) z _ (mul_512 hx hy) (Nat.pos_of_ne_zero k1) hz) fun v s18 a w hR hF hS => ⟨fun hD => hS.tail.tail.tail.tail, ?_⟩)
        obtain ⟨rfl, rfl⟩ := hR
        have hD := hS.tail.tail.tail.tail
        refine dq hF rfl (wn rfl) rfl rfl (fun w => R.move (hF.ev rfl)) fun a hF => ?_
        refine dq hF rfl (wn rfl) rfl rfl (fun w => R.extract (hF.ev rfl) rfl) fun a hF => ?_
        refine dq hF rfl (wn rfl) rfl rfl (fun w => R.extract (hF.ev rfl) rfl) fun a hF => ?_
        refine dw rfl (wn rfl) (O.storeW sz123 (hF.ev rfl) (hF.ev rfl) (length_cells8 _) rfl (one_cells8 _) hS (.t (.t .h)) ((length_cells8 _).trans rfl) fun w hS => ?_)
        refine dw rfl (wn rfl) (O.storeW sz29 (hF.ev rfl) (hF.ev rfl) (rfl) rfl (by simp [Value.oneCell']) hS (.t (.t (.t .h))) (rfl) fun w hS => ?_)
        refine d0 ?_
        refine then_n (hK5 _ _ ?_)
        refine wp_seq_k fun K17 hK17 => ?_
        refine wp_region_lit ?_
        refine sv' hF (wn rfl) rfl rfl (R.loadW agg123 (hF.ev rfl) hS (.t (.t .h)) sz123 (length_cells8 _)) fun a hF => ?_
        refine so (wn rfl) (O.call rfl rfl hF ent97 (hF.evs rfl) hS (narrow_calls (x * y / z) _ (Nat.lt_of_le_of_lt (Nat.div_le_self _ _) (mul_512 hx hy))) fun v s22 a w hR hF hS => ?_)
        obtain ⟨rfl, rfl⟩ := hR
        refine sv' hF (wn rfl) rfl rfl (R.extract (hF.ev rfl) rfl) fun a hF => ?_
        refine sv' hF (wn rfl) rfl rfl (R.extract (hF.ev rfl) rfl) fun a hF => ?_
        refine so (wn rfl) (O.storeW sz29 (hF.ev rfl) (hF.ev rfl) (rfl) rfl (by simp [Value.oneCell']) hS (.t (.t (.t (.t (.t (.t .h)))))) (rfl) fun w hS => ?_)
        refine sv' hF (wn rfl) rfl rfl (R.assign (hF.ev rfl)) fun a hF => ?_
        refine s0 ?_
        refine then_n (hK17 _ _ ?_)
        refine wp_ret (hR _ _ _ _ _ hF (run_results Try.results52 (.cw hF rfl agg29 hS (.t (.t (.t (.t (.t (.t .h)))))) sz29 (rfl) (.t hF rfl (.nil)))) ?_)
        first | exact ⟨_, [], rfl, ⟨by rw [mulDivW, if_pos k1, if_pos k1]; rfl, rfl⟩, hS.none⟩ | exact ⟨_, [], rfl, ⟨by simp only [mulDivW, if_neg k1]; rfl, rfl⟩, hS.none⟩

end Go.Proofs.Ythgecfjpacebeaa
