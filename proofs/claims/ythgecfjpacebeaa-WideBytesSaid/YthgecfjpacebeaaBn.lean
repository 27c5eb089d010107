/- The calls of wide.Div. -/
import Derived.Test.YthgecfjpacebeaaBm
namespace Go.Proofs.Ythgecfjpacebeaa
open Go Go.Fw Go.RowKit
attribute [local irreducible] Go.Oper.wp Go.Code.wp Go.wpList Go.Fw.WL Go.Calls
theorem copy8 {x : Nat} (hx : x < 115792089237316195423570985008687907853269984665640564039457584007913129639936) : spl (cells8 (dg 0)) 0 (wc x) = cells8 (dg x) := by
  have hp : ∀ k, 4 ≤ k → dg x k = 0 := fun k hk => by
    unfold dg
    rw [Nat.div_eq_of_lt (Nat.lt_of_lt_of_le hx (by
      have : (115792089237316195423570985008687907853269984665640564039457584007913129639936 : Nat) = 18446744073709551616 ^ 4 := by decide
      rw [this]; exact Nat.pow_le_pow_right (by decide) hk))]
  have e : cells8 (dg x) = wc x ++ [.int .u64 ((dg x 4 : Nat) : Int), .int .u64 ((dg x 5 : Nat) : Int), .int .u64 ((dg x 6 : Nat) : Int), .int .u64 ((dg x 7 : Nat) : Int)] := rfl
  rw [e, hp 4 (by omega), hp 5 (by omega), hp 6 (by omega), hp 7 (by omega)]
  rfl

theorem div_calls (x y : Nat) (w0 : World) (hx : x < 115792089237316195423570985008687907853269984665640564039457584007913129639936) (hy : y < 115792089237316195423570985008687907853269984665640564039457584007913129639936) : Ret Try.prog 50 [wv x, wv y] w0 [] (fun v s => v = divW x y ∧ s = []) := by
  refine fn_start Try.func50 rfl Try.ntmps50 rfl [(0, wv x), (1, wv y)] ⟨rfl, rfl, trivial⟩ ?_
  intro Q a hP hF hR hN
  have hS := St.start w0
  refine wp_seq_k fun K1 hK1 => ?_
  refine wp_region_lit ?_
  refine so (wn rfl) (O.box rfl rfl hF (hF.ev rfl) rfl hS fun b2 a w hF hS => ?_)
  refine so (wn rfl) (O.box rfl rfl hF (hF.ev rfl) rfl hS fun b3 a w hF hS => ?_)
  refine so (wn rfl) (O.alloc rfl rfl hF ze29 rfl hS fun b4 a w hF hS => ?_)
  refine so (wn rfl) (O.alloc rfl rfl hF ze29 rfl hS fun b5 a w hF hS => ?_)
  refine sv' hF (wn rfl) rfl rfl (R.assign (hF.ev rfl)) fun a hF => ?_
  refine s0 ?_
  refine then_n (hK1 _ _ ?_)
  refine wp_seq_k fun K2 hK2 => ?_
  refine wp_seq_k fun K3 hK3 => ?_
  refine wp_region_lit ?_
  refine sv' hF (wn rfl) rfl rfl (R.loadW agg29 (hF.ev rfl) hS (.t (.t .h)) sz29 (rfl)) fun a hF => ?_
  refine so (wn rfl) (O.call rfl rfl hF ent54 (hF.evs rfl) hS (isZero_calls y _ hy) fun v s11 a w hR hF hS => ?_)
  obtain ⟨rfl, rfl⟩ := hR
  refine s0 ?_
  refine then_n (hK3 _ _ ?_)
  refine cD hF rfl (fun k1 => ?_) (fun k1 => ?_)
  ·
    refine wp_seq_k fun K4 hK4 => ?_
    refine wp_region_lit ?_
    refine sv' hF (wn rfl) rfl rfl (R.buildArr (l := [_, _, _, _]) Try.underlying29 ze29 sz27 (hF.evp rfl) rfl) fun a hF => ?_
    refine sv' hF (wn rfl) rfl rfl (R.buildArr (l := [_, _, _, _]) Try.underlying29 ze29 sz27 (hF.evp rfl) rfl) fun a hF => ?_
    refine so (wn rfl) (O.storeW sz29 (hF.ev rfl) (hF.ev rfl) (rfl) rfl (by simp [Value.oneCell']) hS (.t (.t .h)) (rfl) fun w hS => ?_)
    refine so (wn rfl) (O.storeW sz29 (hF.ev rfl) (hF.ev rfl) (rfl) rfl (by simp [Value.oneCell']) hS (.t .h) (rfl) fun w hS => ?_)
    refine sv' hF (wn rfl) rfl rfl (R.assign (hF.ev rfl)) fun a hF => ?_
    refine s0 ?_
    refine then_n (hK4 _ _ ?_)
    refine wp_ret (then_r (hR _ _ _ _ _ hF (run_results Try.results50 (.cw hF rfl agg29 hS (.t (.t .h)) sz29 (rfl) (.cw hF rfl agg29 hS (.t .h) sz29 (rfl) (.t hF rfl (.nil))))) ?_))
    exact ⟨_, [], rfl, ⟨by simp only [divW, if_pos k1]; rfl, rfl⟩, hS.none⟩
  ·
    refine wp_skip ?_
    refine then_n (hK2 _ _ ?_)
    refine wp_seq_k fun K5 hK5 => ?_
    refine wp_region_lit ?_
    refine so (wn rfl) (O.alloc rfl rfl hF ze123 rfl hS fun b7 a w hF hS => ?_)
    rw [show Cel [.int .u64 0, .int .u64 0, .int .u64 0, .int .u64 0, .int .u64 0, .int .u64 0, .int .u64 0, .int .u64 0] 123 = Cel (cells8 (dg 0)) 123 from rfl] at hS
    refine s0 ?_
    refine then_n (hK5 _ _ ?_)
    refine wp_seq_k fun K6 hK6 => ?_
    refine wp_drawS hS [(0, 0), (1, 0), (2, 3)] mix (by kernel_rfl) (hP.then) fun w hS => ?_
    have hD := hS
    refine dq hF rfl (wn rfl) rfl rfl (fun w => R.sliceAll Try.underlying123 sz27 (hF.ev rfl)) fun a hF => ?_
    refine dq hF rfl (wn rfl) rfl rfl (fun w => R.sliceAll Try.underlying29 sz27 (hF.ev rfl)) fun a hF => ?_
    refine dw rfl (wn rfl) (O.copy rfl rfl hF Try.underlying127 sz27 (hF.ev rfl) (hF.ev rfl) hS (Rd.own0 hS (.t (.t (.t (.t (.t .h)))))) rfl (by decide) (by decide) (by simp [Value.oneCell']) .h (copy8 hx) (by rw [length_cells8]; exact (by simp : (wc x).length ≤ 8)) fun a w hF hS => ?_)
    refine d0 ?_
    refine then_n (hK6 _ _ ?_)
    refine wp_seq_k fun K7 hK7 => ?_
    refine wp_region_lit ?_
    refine sv' hF (wn rfl) rfl rfl (R.loadW agg123 (hF.ev rfl) hS .h sz123 (length_cells8 _)) fun a hF => ?_
    refine sv' hF (wn rfl) rfl rfl (R.loadW agg29 (hF.ev rfl) hS (.t (.t (.t (.t .h)))) sz29 (rfl)) fun a hF => ?_
    refine so (wn rfl) (O.call rfl rfl hF ent102 (hF.evs rfl) hS (divided_calls x y _ (Nat.lt_trans hx (by decide)) (Nat.pos_of_ne_zero k1) hy) fun v s20 a w hR hF hS => ?_)
    obtain ⟨rfl, rfl⟩ := hR
    refine sv' hF (wn rfl) rfl rfl (R.move (hF.ev rfl)) fun a hF => ?_
    refine sv' hF (wn rfl) rfl rfl (R.extract (hF.ev rfl) rfl) fun a hF => ?_
    refine sv' hF (wn rfl) rfl rfl (R.extract (hF.ev rfl) rfl) fun a hF => ?_
    refine so (wn rfl) (O.alloc rfl rfl hF ze123 rfl hS fun b8 a w hF hS => ?_)
    refine so (wn rfl) (O.alloc rfl rfl hF ze29 rfl hS fun b9 a w hF hS => ?_)
    refine so (wn rfl) (O.storeW sz123 (hF.ev rfl) (hF.ev rfl) (length_cells8 _) rfl (one_cells8 _) hS (.t .h) ((length_cells8 _).trans rfl) fun w hS => ?_)
    refine so (wn rfl) (O.storeW sz29 (hF.ev rfl) (hF.ev rfl) (rfl) rfl (by simp [Value.oneCell']) hS .h (rfl) fun w hS => ?_)
    refine s0 ?_
    refine then_n (hK7 _ _ ?_)
    refine wp_seq_k fun K8 hK8 => ?_
    refine wp_drawG hS (hS.sel [1, 0] rfl rfl) [(0, 0), (1, 0), (2, 1), (3, 1), (4, 2), (5, 2), (6, 0)] mix (by kernel_rfl) (hP.then) fun w hS hD => ?_
    refine dq hF rfl (wn rfl) rfl rfl (fun w => R.sliceArr Try.underlying123 sz27 (hF.ev rfl) (hF.ev rfl) (by decide) (by decide)) fun a hF => ?_
    refine dq hF rfl (wn rfl) rfl rfl (fun w => R.arrAt Try.underlying29 (hF.ev rfl) (by decide)) fun a hF => ?_
    refine dr hF rfl (wn rfl) rfl rfl hD (fun w hD => R.loadA (cs := wc (x / y)) agg29 (hF.ev rfl) hD (by first | exact .h | exact .t .h) sz29 rfl (wc_cells8 _)) fun a hF => ?_
    refine dr hF rfl (wn rfl) rfl rfl hD (fun w hD => R.loadW agg29 (hF.ev rfl) hD (.t .h) sz29 (rfl)) fun a hF => ?_
    refine dl rfl (wn rfl) (O.storeW sz29 (hF.ev rfl) (hF.ev rfl) (rfl) rfl (by simp [Value.oneCell']) hS (.t (.t (.t (.t (.t (.t .h)))))) (rfl) fun w hS => ⟨fun hD => hS.sel [1, 0] rfl rfl, ?_⟩)
    have hD := hS.sel [1, 0] rfl rfl
    refine dl rfl (wn rfl) (O.storeW sz29 (hF.ev rfl) (hF.ev rfl) (rfl) rfl (by simp [Value.oneCell']) hS (.t (.t (.t (.t (.t .h))))) (rfl) fun w hS => ⟨fun hD => hS.sel [1, 0] rfl rfl, ?_⟩)
    have hD := hS.sel [1, 0] rfl rfl
    refine dq hF rfl (wn rfl) rfl rfl (fun w => R.assign (hF.ev rfl)) fun a hF => ?_
    refine d0 ?_
    refine then_n (hK8 _ _ ?_)
    refine wp_ret (hR _ _ _ _ _ hF (run_results Try.results50 (.cw hF rfl agg29 hS (.t (.t (.t (.t (.t (.t .h)))))) sz29 (rfl) (.cw hF rfl agg29 hS (.t (.t (.t (.t (.t .h))))) sz29 (rfl) (.t hF rfl (.nil))))) ?_)
    exact ⟨_, [], rfl, ⟨by simp only [divW, if_neg k1]; rfl, rfl⟩, hS.none⟩

end Go.Proofs.Ythgecfjpacebeaa
