/- test -/
import Derived.Test.YthgecfjpacebeaaN
namespace Go.Proofs.Ythgecfjpacebeaa
open Go Go.Fw Go.RowKit
attribute [local irreducible] Go.Oper.wp Go.Code.wp Go.wpList Go.Fw.WL Go.Calls
theorem answered_bl (A : Option Addr) (c z : Nat) (w : World) (hA : Rd w A (ints (bl z))) (hnc : (bl z).length ≤ c) (hc : c ≤ 9223372036854775807) :
    Ret Try.prog 73 [.slice A (bl z).length c] w [] (fun v s => v = .tuple #[wv (if z < 115792089237316195423570985008687907853269984665640564039457584007913129639936 then z else 0), .int .i64 (if z < 115792089237316195423570985008687907853269984665640564039457584007913129639936 then 0 else 22)] ∧ s = []) := by
  have h := answered_calls A (bl z).length c (bl z) w hA rfl hnc hc (bits_bl z)
  rw [val_bl] at h
  exact h
theorem len_bl {x : Nat} (hx : x < 115792089237316195423570985008687907853269984665640564039457584007913129639936) : (bl x).length ≤ 256 := (length_bl_lt x 256).2 hx
def addW (x y : Nat) : Value := .tuple #[wv (if x + y < 115792089237316195423570985008687907853269984665640564039457584007913129639936 then x + y else 0), .int .i64 (if x + y < 115792089237316195423570985008687907853269984665640564039457584007913129639936 then 0 else 22)]
def subW (x y : Nat) : Value := .tuple #[wv (if y ≤ x then x - y else 0), .int .i64 (if y ≤ x then 0 else 23)]

theorem radd_calls (x y : Nat) (w0 : World) (hx : x < 115792089237316195423570985008687907853269984665640564039457584007913129639936) (hy : y < 115792089237316195423570985008687907853269984665640564039457584007913129639936) : Ret Try.prog 22 [wv x, wv y] w0 [] (fun v s => v = addW x y ∧ s = []) := by
  refine fn_start Try.func22 rfl Try.ntmps22 rfl [(0, wv x), (1, wv y)] ⟨rfl, rfl, trivial⟩ ?_
  intro Q a hP hF hR hN
  have hS := St.start w0
  refine wp_seq_k fun K1 hK1 => ?_
  refine wp_region_lit ?_
  refine so (wn rfl) (O.box rfl rfl hF (hF.ev rfl) rfl hS fun b2 a w hF hS => ?_)
  refine so (wn rfl) (O.box rfl rfl hF (hF.ev rfl) rfl hS fun b3 a w hF hS => ?_)
  refine so (wn rfl) (O.alloc rfl rfl hF ze29 rfl hS fun b4 a w hF hS => ?_)
  refine sv' hF (wn rfl) rfl rfl (R.assign (hF.ev rfl)) fun a hF => ?_
  refine s0 ?_
  refine then_n (hK1 _ _ ?_)
  refine wp_seq_k fun K2 hK2 => ?_
  refine wp_drawS hS [(0, 1), (2, 1), (1, 2), (3, 2), (4, 2), (5, 2), (6, 0), (7, 0), (8, 3), (9, 0)] mix (by kernel_rfl) (hP.then) fun w hS => ?_
  have hD := hS
  refine dr hF rfl (wn rfl) rfl rfl hD (fun w hD => R.loadW agg29 (hF.ev rfl) hD (.t (.t .h)) sz29 rfl) fun a hF => ?_
  refine dr hF rfl (wn rfl) rfl rfl hD (fun w hD => R.loadW agg29 (hF.ev rfl) hD (.t .h) sz29 rfl) fun a hF => ?_
  refine dl rfl (wn rfl) (O.call rfl rfl hF ent75 (hF.evs rfl) hS (digits_calls x w hx) fun v s7 a w hR hF hS => ⟨fun hD => hS.tail, ?_⟩)
  obtain ⟨A7, c7, rfl, hO7⟩ := hR
  have hD := hS.tail
  refine dl rfl (wn rfl) (O.call rfl rfl hF ent75 (hF.evs rfl) hS (digits_calls y w hy) fun v s9 a w hR hF hS => ⟨fun hD => hS.tail.tail, ?_⟩)
  obtain ⟨A9, c9, rfl, hO9⟩ := hR
  have hD := hS.tail.tail
  refine dl rfl (wn rfl) (O.call rfl rfl hF ent74 (hF.evs rfl) hS (plus_calls A7 A9 c7 c9 x y w (hO7.rd hS (.t .h)) (hO9.rd hS .h) (Nat.le_trans (len_bl hx) (by decide)) (Nat.le_trans (len_bl hy) (by decide))) fun v s10 a w hR hF hS => ⟨fun hD => hS.tail.tail.tail, ?_⟩)
  obtain ⟨A10, c10, rfl, hO10⟩ := hR
  have hD := hS.tail.tail.tail
  refine dl rfl (wn rfl) (O.call rfl rfl hF ent73 (hF.evs rfl) hS (answered_bl A10 c10 (x + y) w (hO10.rd hS .h) hO10.2.1 hO10.cap) fun v s11 a w hR hF hS => ⟨fun hD => hS.tail.tail.tail.tail, ?_⟩)
  obtain ⟨rfl, rfl⟩ := hR
  have hD := hS.tail.tail.tail.tail
  refine dq hF rfl (wn rfl) rfl rfl (fun w => R.extract (hF.ev rfl) rfl) fun a hF => ?_
  refine dq hF rfl (wn rfl) rfl rfl (fun w => R.extract (hF.ev rfl) rfl) fun a hF => ?_
  refine dw rfl (wn rfl) (O.storeW sz29 (hF.ev rfl) (hF.ev rfl) rfl rfl (by simp [Value.oneCell']) hS (.t (.t (.t (.t .h)))) rfl fun w hS => ?_)
  refine dq hF rfl (wn rfl) rfl rfl (fun w => R.assign (hF.ev rfl)) fun a hF => ?_
  refine d0 ?_
  refine then_n (hK2 _ _ ?_)
  refine wp_ret (hR _ _ _ _ _ hF (run_results Try.results22 (.cw hF rfl agg29 hS (.t (.t (.t (.t .h)))) sz29 rfl (.t hF rfl (.nil)))) ?_)
  exact ⟨_, [], rfl, ⟨rfl, rfl⟩, hS.none⟩

theorem rcmp_calls (x y : Nat) (w0 : World) (hx : x < 115792089237316195423570985008687907853269984665640564039457584007913129639936) (hy : y < 115792089237316195423570985008687907853269984665640564039457584007913129639936) : Ret Try.prog 31 [wv x, wv y] w0 [] (fun v s => v = .int .i64 (cmpN x y) ∧ s = []) := by
  refine fn_start Try.func31 rfl Try.ntmps31 rfl [(0, wv x), (1, wv y)] ⟨rfl, rfl, trivial⟩ ?_
  intro Q a hP hF hR hN
  have hS := St.start w0
  refine wp_seq_k fun K1 hK1 => ?_
  refine wp_region_lit ?_
  refine so (wn rfl) (O.box rfl rfl hF (hF.ev rfl) rfl hS fun b2 a w hF hS => ?_)
  refine so (wn rfl) (O.box rfl rfl hF (hF.ev rfl) rfl hS fun b3 a w hF hS => ?_)
  refine sv' hF (wn rfl) rfl rfl (R.assign (hF.ev rfl)) fun a hF => ?_
  refine s0 ?_
  refine then_n (hK1 _ _ ?_)
  refine wp_seq_k fun K2 hK2 => ?_
  refine wp_drawS hS [(0, 1), (2, 1), (1, 2), (3, 2), (4, 2), (5, 0)] mix (by kernel_rfl) (hP.then) fun w hS => ?_
  have hD := hS
  refine dr hF rfl (wn rfl) rfl rfl hD (fun w hD => R.loadW agg29 (hF.ev rfl) hD (.t .h) sz29 rfl) fun a hF => ?_
  refine dr hF rfl (wn rfl) rfl rfl hD (fun w hD => R.loadW agg29 (hF.ev rfl) hD .h sz29 rfl) fun a hF => ?_
  refine dl rfl (wn rfl) (O.call rfl rfl hF ent75 (hF.evs rfl) hS (digits_calls x w hx) fun v s6 a w hR hF hS => ⟨fun hD => hS.tail, ?_⟩)
  obtain ⟨A6, c6, rfl, hO6⟩ := hR
  have hD := hS.tail
  refine dl rfl (wn rfl) (O.call rfl rfl hF ent75 (hF.evs rfl) hS (digits_calls y w hy) fun v s8 a w hR hF hS => ⟨fun hD => hS.tail.tail, ?_⟩)
  obtain ⟨A8, c8, rfl, hO8⟩ := hR
  have hD := hS.tail.tail
  refine dl rfl (wn rfl) (O.call rfl rfl hF ent81 (hF.evs rfl) hS (compare_calls A6 A8 c6 c8 x y w (hO6.rd hS (.t .h)) (hO8.rd hS .h) (Nat.le_trans (len_bl hx) (by decide)) (Nat.le_trans (len_bl hy) (by decide))) fun v s9 a w hR hF hS => ⟨fun hD => hS.tail.tail.tail, ?_⟩)
  obtain ⟨rfl, rfl⟩ := hR
  have hD := hS.tail.tail.tail
  refine dq hF rfl (wn rfl) rfl rfl (fun w => R.assign (hF.ev rfl)) fun a hF => ?_
  refine d0 ?_
  refine then_n (hK2 _ _ ?_)
  refine wp_ret (hR _ _ _ _ _ hF (run_results Try.results31 (.t hF rfl (.nil))) ?_)
  exact ⟨_, [], rfl, ⟨rfl, rfl⟩, hS.none⟩

theorem rsub_calls (x y : Nat) (w0 : World) (hx : x < 115792089237316195423570985008687907853269984665640564039457584007913129639936) (hy : y < 115792089237316195423570985008687907853269984665640564039457584007913129639936) : Ret Try.prog 23 [wv x, wv y] w0 [] (fun v s => v = subW x y ∧ s = []) := by
  refine fn_start Try.func23 rfl Try.ntmps23 rfl [(0, wv x), (1, wv y)] ⟨rfl, rfl, trivial⟩ ?_
  intro Q a hP hF hR hN
  have hS := St.start w0
  refine wp_seq_k fun K1 hK1 => ?_
  refine wp_region_lit ?_
  refine so (wn rfl) (O.box rfl rfl hF (hF.ev rfl) rfl hS fun b2 a w hF hS => ?_)
  refine so (wn rfl) (O.box rfl rfl hF (hF.ev rfl) rfl hS fun b3 a w hF hS => ?_)
  refine so (wn rfl) (O.alloc rfl rfl hF ze29 rfl hS fun b4 a w hF hS => ?_)
  refine sv' hF (wn rfl) rfl rfl (R.assign (hF.ev rfl)) fun a hF => ?_
  refine s0 ?_
  refine then_n (hK1 _ _ ?_)
  refine wp_seq_k fun K2 hK2 => ?_
  refine wp_seq_k fun K3 hK3 => ?_
  refine wp_region_lit ?_
  refine sv' hF (wn rfl) rfl rfl (R.loadW agg29 (hF.ev rfl) hS (.t (.t .h)) sz29 rfl) fun a hF => ?_
  refine sv' hF (wn rfl) rfl rfl (R.loadW agg29 (hF.ev rfl) hS (.t .h) sz29 rfl) fun a hF => ?_
  refine so (wn rfl) (O.call rfl rfl hF ent31 (hF.evs rfl) hS (rcmp_calls x y w hx hy) fun v s8 a w hR hF hS => ?_)
  obtain ⟨rfl, rfl⟩ := hR
  refine sv' hF (wn rfl) rfl rfl (R.lss (hF.ev rfl) (hF.ev rfl)) fun a hF => ?_
  refine s0 ?_
  refine then_n (hK3 _ _ ?_)
  refine cD hF rfl (fun c1 => ?_) (fun c1 => ?_)
  ·
    have e : ¬ y ≤ x := by unfold cmpN at c1; split at c1 <;> (try split at c1) <;> omega
    refine wp_seq_k fun K4 hK4 => ?_
    refine wp_region_lit ?_
    refine sv' hF (wn rfl) rfl rfl (R.buildArr (l := [_, _, _, _]) Try.underlying29 ze29 sz27 (hF.evp rfl) rfl) fun a hF => ?_
    refine so (wn rfl) (O.storeW sz29 (hF.ev rfl) (hF.ev rfl) rfl rfl (by simp [Value.oneCell']) hS (.t .h) rfl fun w hS => ?_)
    refine sv' hF (wn rfl) rfl rfl (R.assign (hF.ev rfl)) fun a hF => ?_
    refine s0 ?_
    refine then_n (hK4 _ _ ?_)
    refine wp_ret (then_r (hR _ _ _ _ _ hF (run_results Try.results23 (.cw hF rfl agg29 hS (.t .h) sz29 rfl (.t hF rfl (.nil)))) ?_))
    exact ⟨_, [], rfl, ⟨by simp only [subW, if_neg e]; rfl, rfl⟩, hS.none⟩
  ·
    have e : y ≤ x := by unfold cmpN at c1; split at c1 <;> omega
    refine wp_skip ?_
    refine then_n (hK2 _ _ ?_)
    refine wp_seq_k fun K5 hK5 => ?_
    refine wp_drawS hS [(0, 1), (2, 1), (1, 2), (3, 2), (4, 2), (5, 2), (6, 0), (7, 0), (8, 3), (9, 0)] mix (by kernel_rfl) (hP.then) fun w hS => ?_
    have hD := hS
    refine dr hF rfl (wn rfl) rfl rfl hD (fun w hD => R.loadW agg29 (hF.ev rfl) hD (.t (.t (.t .h))) sz29 rfl) fun a hF => ?_
    refine dr hF rfl (wn rfl) rfl rfl hD (fun w hD => R.loadW agg29 (hF.ev rfl) hD (.t (.t .h)) sz29 rfl) fun a hF => ?_
    refine dl rfl (wn rfl) (O.call rfl rfl hF ent75 (hF.evs rfl) hS (digits_calls x w hx) fun v s12 a w hR hF hS => ⟨fun hD => hS.tail, ?_⟩)
    obtain ⟨A12, c12, rfl, hO12⟩ := hR
    have hD := hS.tail
    refine dl rfl (wn rfl) (O.call rfl rfl hF ent75 (hF.evs rfl) hS (digits_calls y w hy) fun v s14 a w hR hF hS => ⟨fun hD => hS.tail.tail, ?_⟩)
    obtain ⟨A14, c14, rfl, hO14⟩ := hR
    have hD := hS.tail.tail
    refine dl rfl (wn rfl) (O.call rfl rfl hF ent76 (hF.evs rfl) hS (less_calls A12 A14 c12 c14 x y w (hO12.rd hS (.t .h)) (hO14.rd hS .h) (Nat.le_trans (len_bl hx) (by decide)) (Nat.le_trans (len_bl hy) (by decide)) e) fun v s15 a w hR hF hS => ⟨fun hD => hS.tail.tail.tail, ?_⟩)
    obtain ⟨A15, c15, rfl, hO15⟩ := hR
    have hD := hS.tail.tail.tail
    refine dl rfl (wn rfl) (O.call rfl rfl hF ent73 (hF.evs rfl) hS (answered_bl A15 c15 (x - y) w (hO15.rd hS .h) hO15.2.1 hO15.cap) fun v s16 a w hR hF hS => ⟨fun hD => hS.tail.tail.tail.tail, ?_⟩)
    obtain ⟨rfl, rfl⟩ := hR
    have hD := hS.tail.tail.tail.tail
    refine dq hF rfl (wn rfl) rfl rfl (fun w => R.extract (hF.ev rfl) rfl) fun a hF => ?_
    refine dq hF rfl (wn rfl) rfl rfl (fun w => R.extract (hF.ev rfl) rfl) fun a hF => ?_
    refine dw rfl (wn rfl) (O.storeW sz29 (hF.ev rfl) (hF.ev rfl) rfl rfl (by simp [Value.oneCell']) hS (.t (.t (.t (.t (.t .h))))) rfl fun w hS => ?_)
    refine dq hF rfl (wn rfl) rfl rfl (fun w => R.assign (hF.ev rfl)) fun a hF => ?_
    refine d0 ?_
    refine then_n (hK5 _ _ ?_)
    refine wp_ret (hR _ _ _ _ _ hF (run_results Try.results23 (.cw hF rfl agg29 hS (.t (.t (.t (.t (.t .h))))) sz29 rfl (.t hF rfl (.nil)))) ?_)
    exact ⟨_, [], rfl, ⟨by simp only [subW, if_pos e, if_pos (show x - y < 115792089237316195423570985008687907853269984665640564039457584007913129639936 by omega)]; rfl, rfl⟩, hS.none⟩

end Go.Proofs.Ythgecfjpacebeaa
