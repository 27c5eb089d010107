/- The calls of the reference's Div. -/
import Derived.Test.YthgecfjpacebeaaBk
namespace Go.Proofs.Ythgecfjpacebeaa
open Go Go.Fw Go.RowKit
attribute [local irreducible] Go.Oper.wp Go.Code.wp Go.wpList Go.Fw.WL Go.Calls
theorem St.split2 {w0 w : World} {ks : List Nat} {bs : List Seg} {s1 s2 : Seg} (h : St w0 ks ((s1 ++ s2) :: bs) w) : St w0 ks (s1 :: s2 :: bs) w := h.flat (by simp)
def divW (x y : Nat) : Value := .tuple #[wv (if y = 0 then 0 else x / y), wv (if y = 0 then 0 else x % y), .int .i64 (if y = 0 then 24 else 0)]
theorem number_bl (A : Option Addr) (c z : Nat) (w : World) (hA : Rd w A (ints (bl z))) (hnc : (bl z).length ≤ c) (hc : c ≤ 9223372036854775807) (hz : z < 115792089237316195423570985008687907853269984665640564039457584007913129639936) :
    Ret Try.prog 101 [.slice A (bl z).length c] w [] (fun v s => v = .tuple #[wv z, .bool true] ∧ s = []) := by
  have h := number_calls A (bl z).length c (bl z) w hA rfl hnc hc (bits_bl z)
  rw [val_bl] at h
  simpa [hz] using h

theorem rdiv_calls (x y : Nat) (w0 : World) (hx : x < 115792089237316195423570985008687907853269984665640564039457584007913129639936) (hy : y < 115792089237316195423570985008687907853269984665640564039457584007913129639936) : Ret Try.prog 51 [wv x, wv y] w0 [] (fun v s => v = divW x y ∧ s = []) := by
  refine fn_start Try.func51 rfl Try.ntmps51 rfl [(0, wv x), (1, wv y)] ⟨rfl, rfl, trivial⟩ ?_
  intro Q a hP hF hR hN
  have hS := St.start w0
  refine wp_seq_k fun K1 hK1 => ?_
  refine wp_region_lit ?_
  refine so (wn rfl) (O.box rfl rfl hF (hF.ev rfl) rfl hS fun b2 a w hF hS => ?_)
  refine so (wn rfl) (O.box rfl rfl hF (hF.ev rfl) rfl hS fun b3 a w hF hS => ?_)
  refine so (wn rfl) (O.alloc rfl rfl hF ze29 rfl hS fun b4 a w hF hS => ?_)
  refine so (wn rfl) (O.alloc rfl rfl hF ze29 rfl hS fun b5 a w hF hS => ?_)
  refine sv' hF (wn rfl) rfl rfl (R.assign (hF.ev rfl)) fun a hF => ?_
  refine s0 ?_
  refine then_n (hK1 _ _ ?_)
  refine wp_seq_k fun K2 hK2 => ?_
  refine wp_seq_k fun K3 hK3 => ?_
  refine wp_region_lit ?_
  refine sv' hF (wn rfl) rfl rfl (R.loadW agg29 (hF.ev rfl) hS (.t (.t .h)) sz29 (rfl)) fun a hF => ?_
  refine so (wn rfl) (O.call rfl rfl hF ent55 (hF.evs rfl) hS (risZero_calls y _ hy) fun v s14 a w hR hF hS => ?_)
  obtain ⟨rfl, rfl⟩ := hR
  refine s0 ?_
  refine then_n (hK3 _ _ ?_)
  refine cD hF rfl (fun k1 => ?_) (fun k1 => ?_)
  ·
    refine wp_seq_k fun K4 hK4 => ?_
    refine wp_region_lit ?_
    refine sv' hF (wn rfl) rfl rfl (R.buildArr (l := [_, _, _, _]) Try.underlying29 ze29 sz27 (hF.evp rfl) rfl) fun a hF => ?_
    refine sv' hF (wn rfl) rfl rfl (R.buildArr (l := [_, _, _, _]) Try.underlying29 ze29 sz27 (hF.evp rfl) rfl) fun a hF => ?_
    refine so (wn rfl) (O.storeW sz29 (hF.ev rfl) (hF.ev rfl) (rfl) rfl (by simp [Value.oneCell']) hS (.t (.t .h)) (rfl) fun w hS => ?_)
    refine so (wn rfl) (O.storeW sz29 (hF.ev rfl) (hF.ev rfl) (rfl) rfl (by simp [Value.oneCell']) hS (.t .h) (rfl) fun w hS => ?_)
    refine sv' hF (wn rfl) rfl rfl (R.assign (hF.ev rfl)) fun a hF => ?_
    refine s0 ?_
    refine then_n (hK4 _ _ ?_)
    refine wp_ret (then_r (hR _ _ _ _ _ hF (run_results Try.results51 (.cw hF rfl agg29 hS (.t (.t .h)) sz29 (rfl) (.cw hF rfl agg29 hS (.t .h) sz29 (rfl) (.t hF rfl (.nil))))) ?_))
    exact ⟨_, [], rfl, ⟨by simp only [divW, if_pos k1]; rfl, rfl⟩, hS.none⟩
  ·
    refine wp_skip ?_
    refine then_n (hK2 _ _ ?_)
    refine wp_seq_k fun K5 hK5 => ?_
    refine wp_drawS hS [(0, 1), (2, 1), (1, 2), (3, 2), (4, 2), (5, 0), (6, 0), (7, 0), (8, 0), (9, 0)] mix (by kernel_rfl) (hP.then) fun w hS => ?_
    have hD := hS
    refine dr hF rfl (wn rfl) rfl rfl hD (fun w hD => R.loadW agg29 (hF.ev rfl) hD (.t (.t (.t (.t .h)))) sz29 (rfl)) fun a hF => ?_
    refine dr hF rfl (wn rfl) rfl rfl hD (fun w hD => R.loadW agg29 (hF.ev rfl) hD (.t (.t (.t .h))) sz29 (rfl)) fun a hF => ?_
    refine dl rfl (wn rfl) (O.call rfl rfl hF ent75 (hF.evs rfl) hS (digits_calls x w hx) fun v s19 a w hR hF hS => ⟨fun hD => hS.tail, ?_⟩)
    obtain ⟨A19, c19, rfl, hO19⟩ := hR
    have hD := hS.tail
    refine dl rfl (wn rfl) (O.call rfl rfl hF ent75 (hF.evs rfl) hS (digits_calls y w hy) fun v s21 a w hR hF hS => ⟨fun hD => hS.tail.tail, ?_⟩)
    obtain ⟨A21, c21, rfl, hO21⟩ := hR
    have hD := hS.tail.tail
    refine dl rfl (wn rfl) (O.call rfl rfl hF ent103 (hF.evs rfl) hS (by_calls A19 A21 c19 c21 x y w (hO19.rd hS (.t .h)) (hO21.rd hS .h) (Nat.le_trans (len_bl hx) (by decide)) (Nat.le_trans (len_bl hy) (by decide)) (Nat.pos_of_ne_zero k1)) fun v s22 a w hR hF hS => ⟨fun hD => hS.tail.tail.tail, ?_⟩)
    obtain ⟨A1, e1, A2, e2, s1, s2, rfl, rfl, hO1, hO2⟩ := hR
    have hD := hS.tail.tail.tail
    refine dq hF rfl (wn rfl) rfl rfl (fun w => R.move (hF.ev rfl)) fun a hF => ?_
    refine dq hF rfl (wn rfl) rfl rfl (fun w => R.extract (hF.ev rfl) rfl) fun a hF => ?_
    refine dq hF rfl (wn rfl) rfl rfl (fun w => R.extract (hF.ev rfl) rfl) fun a hF => ?_
    refine dq hF rfl (wn rfl) rfl rfl (fun w => R.assign (hF.ev rfl)) fun a hF => ?_
    refine dq hF rfl (wn rfl) rfl rfl (fun w => R.assign (hF.ev rfl)) fun a hF => ?_
    refine d0 ?_
    refine then_n (hK5 _ _ ?_)
    refine wp_seq_k fun K6 hK6 => ?_
    have hS := St.split2 hS
    refine wp_region_lit ?_
    refine sv' hF (wn rfl) rfl rfl (R.move (hF.ev rfl)) fun a hF => ?_
    refine so (wn rfl) (O.call rfl rfl hF ent101 (hF.evs rfl) hS (number_bl A1 e1 (x / y) w (hO1.rd hS .h) hO1.2.1 hO1.cap (Nat.lt_of_le_of_lt (Nat.div_le_self x y) hx)) fun v s27 a w hR hF hS => ?_)
    obtain ⟨rfl, rfl⟩ := hR
    refine sv' hF (wn rfl) rfl rfl (R.move (hF.ev rfl)) fun a hF => ?_
    refine sv' hF (wn rfl) rfl rfl (R.extract (hF.ev rfl) rfl) fun a hF => ?_
    refine sv' hF (wn rfl) rfl rfl (R.extract (hF.ev rfl) rfl) fun a hF => ?_
    refine so (wn rfl) (O.alloc rfl rfl hF ze29 rfl hS fun b9 a w hF hS => ?_)
    refine so (wn rfl) (O.storeW sz29 (hF.ev rfl) (hF.ev rfl) (rfl) rfl (by simp [Value.oneCell']) hS .h (rfl) fun w hS => ?_)
    refine sv' hF (wn rfl) rfl rfl (R.assign (hF.ev rfl)) fun a hF => ?_
    refine s0 ?_
    refine then_n (hK6 _ _ ?_)
    refine wp_seq_k fun K7 hK7 => ?_
    refine wp_region_lit ?_
    refine sv' hF (wn rfl) rfl rfl (R.move (hF.ev rfl)) fun a hF => ?_
    refine so (wn rfl) (O.call rfl rfl hF ent101 (hF.evs rfl) hS (number_bl A2 e2 (x % y) w (hO2.rd hS (.t (.t (.t .h)))) hO2.2.1 hO2.cap (Nat.lt_trans (Nat.mod_lt x (Nat.pos_of_ne_zero k1)) hy)) fun v s32 a w hR hF hS => ?_)
    obtain ⟨rfl, rfl⟩ := hR
    refine sv' hF (wn rfl) rfl rfl (R.move (hF.ev rfl)) fun a hF => ?_
    refine sv' hF (wn rfl) rfl rfl (R.extract (hF.ev rfl) rfl) fun a hF => ?_
    refine sv' hF (wn rfl) rfl rfl (R.extract (hF.ev rfl) rfl) fun a hF => ?_
    refine so (wn rfl) (O.alloc rfl rfl hF ze29 rfl hS fun b11 a w hF hS => ?_)
    refine so (wn rfl) (O.storeW sz29 (hF.ev rfl) (hF.ev rfl) (rfl) rfl (by simp [Value.oneCell']) hS .h (rfl) fun w hS => ?_)
    refine sv' hF (wn rfl) rfl rfl (R.assign (hF.ev rfl)) fun a hF => ?_
    refine s0 ?_
    refine then_n (hK7 _ _ ?_)
    refine wp_seq_k fun K8 hK8 => ?_
    refine wp_drawG hS (hS.sel [2, 0] rfl rfl) [(0, 1), (1, 1), (2, 2), (3, 2), (4, 0)] mix (by kernel_rfl) (hP.then) fun w hS hD => ?_
    refine dr hF rfl (wn rfl) rfl rfl hD (fun w hD => R.loadW agg29 (hF.ev rfl) hD .h sz29 (rfl)) fun a hF => ?_
    refine dr hF rfl (wn rfl) rfl rfl hD (fun w hD => R.loadW agg29 (hF.ev rfl) hD (.t .h) sz29 (rfl)) fun a hF => ?_
    refine dl rfl (wn rfl) (O.storeW sz29 (hF.ev rfl) (hF.ev rfl) (rfl) rfl (by simp [Value.oneCell']) hS (.t (.t (.t (.t (.t (.t (.t (.t (.t (.t .h)))))))))) (rfl) fun w hS => ⟨fun hD => hS.sel [2, 0] rfl rfl, ?_⟩)
    have hD := hS.sel [2, 0] rfl rfl
    refine dl rfl (wn rfl) (O.storeW sz29 (hF.ev rfl) (hF.ev rfl) (rfl) rfl (by simp [Value.oneCell']) hS (.t (.t (.t (.t (.t (.t (.t (.t (.t .h))))))))) (rfl) fun w hS => ⟨fun hD => hS.sel [2, 0] rfl rfl, ?_⟩)
    have hD := hS.sel [2, 0] rfl rfl
    refine dq hF rfl (wn rfl) rfl rfl (fun w => R.assign (hF.ev rfl)) fun a hF => ?_
    refine d0 ?_
    refine then_n (hK8 _ _ ?_)
    refine wp_ret (hR _ _ _ _ _ hF (run_results Try.results51 (.cw hF rfl agg29 hS (.t (.t (.t (.t (.t (.t (.t (.t (.t (.t .h)))))))))) sz29 (rfl) (.cw hF rfl agg29 hS (.t (.t (.t (.t (.t (.t (.t (.t (.t .h))))))))) sz29 (rfl) (.t hF rfl (.nil))))) ?_)
    exact ⟨_, [], rfl, ⟨by simp only [divW, if_neg k1]; rfl, rfl⟩, hS.none⟩

def mulDivW (x y z : Nat) : Value := .tuple #[wv (if z = 0 then 0 else if x * y / z < 115792089237316195423570985008687907853269984665640564039457584007913129639936 then x * y / z else 0), .int .i64 (if z = 0 then 24 else if x * y / z < 115792089237316195423570985008687907853269984665640564039457584007913129639936 then 0 else 22)]
theorem len_mul {x y : Nat} (hx : x < 115792089237316195423570985008687907853269984665640564039457584007913129639936) (hy : y < 115792089237316195423570985008687907853269984665640564039457584007913129639936) : (bl (x * y)).length ≤ 1000000 := by
  have h1 := (length_bl_lt x _).1 (Nat.le_refl _)
  have h2 := (length_bl_lt y _).1 (Nat.le_refl _)
  have h3 : x * y < 2 ^ ((bl x).length + (bl y).length) := by rw [Nat.pow_add]; exact Nat.mul_lt_mul_of_lt_of_le h1 (Nat.le_of_lt h2) (Nat.pow_pos (by decide))
  have h4 := (length_bl_lt (x * y) _).2 h3
  have := len_bl hx
  have := len_bl hy
  omega

theorem rmulDiv_calls (x y z : Nat) (w0 : World) (hx : x < 115792089237316195423570985008687907853269984665640564039457584007913129639936) (hy : y < 115792089237316195423570985008687907853269984665640564039457584007913129639936) (hz : z < 115792089237316195423570985008687907853269984665640564039457584007913129639936) : Ret Try.prog 53 [wv x, wv y, wv z] w0 [] (fun v s => v = mulDivW x y z ∧ s = []) := by
  refine fn_start Try.func53 rfl Try.ntmps53 rfl [(0, wv x), (1, wv y), (2, wv z)] ⟨rfl, rfl, rfl, trivial⟩ ?_
  intro Q a hP hF hR hN
  have hS := St.start w0
  refine wp_seq_k fun K1 hK1 => ?_
  refine wp_region_lit ?_
  refine so (wn rfl) (O.box rfl rfl hF (hF.ev rfl) rfl hS fun b3 a w hF hS => ?_)
  refine so (wn rfl) (O.box rfl rfl hF (hF.ev rfl) rfl hS fun b4 a w hF hS => ?_)
  refine so (wn rfl) (O.box rfl rfl hF (hF.ev rfl) rfl hS fun b5 a w hF hS => ?_)
  refine so (wn rfl) (O.alloc rfl rfl hF ze29 rfl hS fun b6 a w hF hS => ?_)
  refine sv' hF (wn rfl) rfl rfl (R.assign (hF.ev rfl)) fun a hF => ?_
  refine s0 ?_
  refine then_n (hK1 _ _ ?_)
  refine wp_seq_k fun K2 hK2 => ?_
  refine wp_seq_k fun K3 hK3 => ?_
  refine wp_region_lit ?_
  refine sv' hF (wn rfl) rfl rfl (R.loadW agg29 (hF.ev rfl) hS (.t .h) sz29 (rfl)) fun a hF => ?_
  refine so (wn rfl) (O.call rfl rfl hF ent55 (hF.evs rfl) hS (risZero_calls z _ hz) fun v s11 a w hR hF hS => ?_)
  obtain ⟨rfl, rfl⟩ := hR
  refine s0 ?_
  refine then_n (hK3 _ _ ?_)
  refine cD hF rfl (fun k1 => ?_) (fun k1 => ?_)
  ·
    refine wp_seq_k fun K4 hK4 => ?_
    refine wp_region_lit ?_
    refine sv' hF (wn rfl) rfl rfl (R.buildArr (l := [_, _, _, _]) Try.underlying29 ze29 sz27 (hF.evp rfl) rfl) fun a hF => ?_
    refine so (wn rfl) (O.storeW sz29 (hF.ev rfl) (hF.ev rfl) (rfl) rfl (by simp [Value.oneCell']) hS (.t .h) (rfl) fun w hS => ?_)
    refine sv' hF (wn rfl) rfl rfl (R.assign (hF.ev rfl)) fun a hF => ?_
    refine s0 ?_
    refine then_n (hK4 _ _ ?_)
    refine wp_ret (then_r (hR _ _ _ _ _ hF (run_results Try.results53 (.cw hF rfl agg29 hS (.t .h) sz29 (rfl) (.t hF rfl (.nil)))) ?_))
    exact ⟨_, [], rfl, ⟨by simp only [mulDivW, if_pos k1]; rfl, rfl⟩, hS.none⟩
  ·
    refine wp_skip ?_
    refine then_n (hK2 _ _ ?_)
    refine wp_seq_k fun K5 hK5 => ?_
    refine wp_drawS hS [(0, 1), (2, 1), (5, 1), (1, 2), (3, 2), (4, 2), (6, 2), (7, 2), (8, 0), (9, 0), (10, 0), (11, 0), (12, 0)] mix (by kernel_rfl) (hP.then) fun w hS => ?_
    have hD := hS
    refine dr hF rfl (wn rfl) rfl rfl hD (fun w hD => R.loadW agg29 (hF.ev rfl) hD (.t (.t (.t (.t .h)))) sz29 (rfl)) fun a hF => ?_
    refine dr hF rfl (wn rfl) rfl rfl hD (fun w hD => R.loadW agg29 (hF.ev rfl) hD (.t (.t (.t .h))) sz29 (rfl)) fun a hF => ?_
    refine dr hF rfl (wn rfl) rfl rfl hD (fun w hD => R.loadW agg29 (hF.ev rfl) hD (.t (.t .h)) sz29 (rfl)) fun a hF => ?_
    refine dl rfl (wn rfl) (O.call rfl rfl hF ent75 (hF.evs rfl) hS (digits_calls x w hx) fun v s15 a w hR hF hS => ⟨fun hD => hS.tail, ?_⟩)
    obtain ⟨A15, c15, rfl, hO15⟩ := hR
    have hD := hS.tail
    refine dl rfl (wn rfl) (O.call rfl rfl hF ent75 (hF.evs rfl) hS (digits_calls y w hy) fun v s17 a w hR hF hS => ⟨fun hD => hS.tail.tail, ?_⟩)
    obtain ⟨A17, c17, rfl, hO17⟩ := hR
    have hD := hS.tail.tail
    refine dl rfl (wn rfl) (O.call rfl rfl hF ent99 (hF.evs rfl) hS (times_calls A15 A17 c15 c17 x y w (hO15.rd hS (.t .h)) (hO17.rd hS .h) (Nat.le_trans (len_bl hx) (by decide)) (Nat.le_trans (len_bl hy) (by decide))) fun v s18 a w hR hF hS => ⟨fun hD => hS.tail.tail.tail, ?_⟩)
    obtain ⟨A18, c18, rfl, hO18⟩ := hR
    have hD := hS.tail.tail.tail
    refine dl rfl (wn rfl) (O.call rfl rfl hF ent75 (hF.evs rfl) hS (digits_calls z w hz) fun v s20 a w hR hF hS => ⟨fun hD => hS.tail.tail.tail.tail, ?_⟩)
    obtain ⟨A20, c20, rfl, hO20⟩ := hR
    have hD := hS.tail.tail.tail.tail
    refine dl rfl (wn rfl) (O.call rfl rfl hF ent103 (hF.evs rfl) hS (by_calls A18 A20 c18 c20 (x * y) z w (hO18.rd hS (.t .h)) (hO20.rd hS .h) (len_mul hx hy) (Nat.le_trans (len_bl hz) (by decide)) (Nat.pos_of_ne_zero k1)) fun v s21 a w hR hF hS => ⟨fun hD => hS.tail.tail.tail.tail.tail, ?_⟩)
    obtain ⟨A1, e1, A2, e2, s1, s2, rfl, rfl, hO1, hO2⟩ := hR
    have hD := hS.tail.tail.tail.tail.tail
    refine dq hF rfl (wn rfl) rfl rfl (fun w => R.move (hF.ev rfl)) fun a hF => ?_
    refine dq hF rfl (wn rfl) rfl rfl (fun w => R.extract (hF.ev rfl) rfl) fun a hF => ?_
    refine dq hF rfl (wn rfl) rfl rfl (fun w => R.extract (hF.ev rfl) rfl) fun a hF => ?_
    refine dq hF rfl (wn rfl) rfl rfl (fun w => R.assign (hF.ev rfl)) fun a hF => ?_
    refine dq hF rfl (wn rfl) rfl rfl (fun w => R.assign (hF.ev rfl)) fun a hF => ?_
    refine d0 ?_
    refine then_n (hK5 _ _ ?_)
    refine wp_seq_k fun K6 hK6 => ?_
    have hS := St.split2 hS
    refine wp_region_lit ?_
    refine sv' hF (wn rfl) rfl rfl (R.move (hF.ev rfl)) fun a hF => ?_
    refine so (wn rfl) (O.call rfl rfl hF ent73 (hF.evs rfl) hS (answered_bl A1 e1 (x * y / z) w (hO1.rd hS .h) hO1.2.1 hO1.cap) fun v s25 a w hR hF hS => ?_)
    obtain ⟨rfl, rfl⟩ := hR
    refine sv' hF (wn rfl) rfl rfl (R.extract (hF.ev rfl) rfl) fun a hF => ?_
    refine sv' hF (wn rfl) rfl rfl (R.extract (hF.ev rfl) rfl) fun a hF => ?_
    refine so (wn rfl) (O.storeW sz29 (hF.ev rfl) (hF.ev rfl) (rfl) rfl (by simp [Value.oneCell']) hS (.t (.t (.t (.t (.t (.t (.t (.t .h)))))))) (rfl) fun w hS => ?_)
    refine sv' hF (wn rfl) rfl rfl (R.assign (hF.ev rfl)) fun a hF => ?_
    refine s0 ?_
    refine then_n (hK6 _ _ ?_)
    refine wp_ret (hR _ _ _ _ _ hF (run_results Try.results53 (.cw hF rfl agg29 hS (.t (.t (.t (.t (.t (.t (.t (.t .h)))))))) sz29 (rfl) (.t hF rfl (.nil)))) ?_)
    exact ⟨_, [], rfl, ⟨by simp only [mulDivW, if_neg k1]; rfl, rfl⟩, hS.none⟩

end Go.Proofs.Ythgecfjpacebeaa
