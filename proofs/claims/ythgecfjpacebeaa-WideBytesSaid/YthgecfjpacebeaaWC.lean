/- The calls of WideTexts. -/
import Derived.Test.YthgecfjpacebeaaCc
namespace Go.Proofs.Ythgecfjpacebeaa
open Go Go.Fw Go.RowKit
attribute [local irreducible] Go.Oper.wp Go.Code.wp Go.wpList Go.Fw.WL Go.Calls
theorem prs_getD_lt (xs : List Nat) : (prs xs).getD 0 < 115792089237316195423570985008687907853269984665640564039457584007913129639936 := by
  cases h : prs xs with
  | none => decide
  | some n => exact prs_lt h

theorem wideTexts_calls (m : Nat) (s : ByteArray) (w0 : World) (hm : m < 115792089237316195423570985008687907853269984665640564039457584007913129639936) : Ret Try.prog 9 [wv m, .string s] w0 [] (fun v q => v = .bool true ∧ q = []) := by
  refine fn_start Try.func9 rfl Try.ntmps9 rfl [(0, wv m), (1, .string s)] ⟨rfl, rfl, trivial⟩ ?_
  intro Q a hP hF hR hN
  have hS := St.start w0
  refine wp_seq_k fun K1 hK1 => ?_
  refine wp_region_lit ?_
  refine so (wn rfl) (O.box rfl rfl hF (hF.ev rfl) rfl hS fun b2 a w hF hS => ?_)
  refine sv' hF (wn rfl) rfl rfl (R.assign (hF.ev rfl)) fun a hF => ?_
  refine s0 ?_
  refine then_n (hK1 _ _ ?_)
  refine wp_seq_k fun K2 hK2 => ?_
  refine wp_region_lit ?_
  refine so (wn rfl) (O.call rfl rfl hF ent40 (hF.evs rfl) hS (known_calls _) fun v s12 a w hR hF hS => ?_)
  obtain ⟨rfl, rfl⟩ := hR
  refine sv' hF (wn rfl) rfl rfl (R.assign (hF.ev rfl)) fun a hF => ?_
  refine s0 ?_
  refine then_n (hK2 _ _ ?_)
  refine wp_seq_k fun K3 hK3 => ?_
  refine wp_region_lit ?_
  refine sv' hF (wn rfl) rfl rfl (R.loadW agg29 (hF.ev rfl) hS (.t .h) sz29 (rfl)) fun a hF => ?_
  refine so (wn rfl) (O.call rfl rfl hF ent45 (hF.evs rfl) hS (text_calls m _ hm) fun v s14 a w hR hF hS => ?_)
  obtain ⟨rfl, rfl⟩ := hR
  refine sv' hF (wn rfl) rfl rfl (R.assign (hF.ev rfl)) fun a hF => ?_
  refine s0 ?_
  refine then_n (hK3 _ _ ?_)
  refine wp_seq_k fun K4 hK4 => ?_
  refine wp_region_lit ?_
  refine sv' hF (wn rfl) rfl rfl (R.loadW agg29 (hF.ev rfl) hS (.t (.t .h)) sz29 (rfl)) fun a hF => ?_
  refine so (wn rfl) (O.call rfl rfl hF ent46 (hF.evs rfl) hS (rtext_calls m _ hm) fun v s16 a w hR hF hS => ?_)
  obtain ⟨rfl, rfl⟩ := hR
  refine sv' hF (wn rfl) rfl rfl (R.assign (hF.ev rfl)) fun a hF => ?_
  refine s0 ?_
  refine then_n (hK4 _ _ ?_)
  refine wp_seq_k fun K5 hK5 => ?_
  refine wp_region_lit ?_
  refine sv' hF (wn rfl) rfl rfl (R.move (hF.ev rfl)) fun a hF => ?_
  refine so (wn rfl) (O.call rfl rfl hF ent47 (hF.evs rfl) hS (parse_calls s _) fun v s19 a w hR hF hS => ?_)
  obtain ⟨rfl, rfl⟩ := hR
  refine sv' hF (wn rfl) rfl rfl (R.move (hF.ev rfl)) fun a hF => ?_
  refine sv' hF (wn rfl) rfl rfl (R.extract (hF.ev rfl) rfl) fun a hF => ?_
  refine sv' hF (wn rfl) rfl rfl (R.extract (hF.ev rfl) rfl) fun a hF => ?_
  refine so (wn rfl) (O.alloc rfl rfl hF ze29 rfl hS fun b8 a w hF hS => ?_)
  refine so (wn rfl) (O.storeW sz29 (hF.ev rfl) (hF.ev rfl) (rfl) rfl (by simp [Value.oneCell']) hS .h (rfl) fun w hS => ?_)
  refine sv' hF (wn rfl) rfl rfl (R.assign (hF.ev rfl)) fun a hF => ?_
  refine s0 ?_
  refine then_n (hK5 _ _ ?_)
  refine wp_seq_k fun K6 hK6 => ?_
  refine wp_region_lit ?_
  refine sv' hF (wn rfl) rfl rfl (R.move (hF.ev rfl)) fun a hF => ?_
  refine so (wn rfl) (O.call rfl rfl hF ent48 (hF.evs rfl) hS (rparse_calls s _) fun v s24 a w hR hF hS => ?_)
  obtain ⟨rfl, rfl⟩ := hR
  refine sv' hF (wn rfl) rfl rfl (R.move (hF.ev rfl)) fun a hF => ?_
  refine sv' hF (wn rfl) rfl rfl (R.extract (hF.ev rfl) rfl) fun a hF => ?_
  refine sv' hF (wn rfl) rfl rfl (R.extract (hF.ev rfl) rfl) fun a hF => ?_
  refine so (wn rfl) (O.alloc rfl rfl hF ze29 rfl hS fun b10 a w hF hS => ?_)
  refine so (wn rfl) (O.storeW sz29 (hF.ev rfl) (hF.ev rfl) (rfl) rfl (by simp [Value.oneCell']) hS .h (rfl) fun w hS => ?_)
  refine sv' hF (wn rfl) rfl rfl (R.assign (hF.ev rfl)) fun a hF => ?_
  refine s0 ?_
  refine then_n (hK6 _ _ ?_)
  refine wp_seq_k fun K7 hK7 => ?_
  refine wp_region_lit ?_
  refine sv' hF (wn rfl) rfl rfl (R.move (hF.ev rfl)) fun a hF => ?_
  refine sv' hF (wn rfl) rfl rfl (R.move (hF.ev rfl)) fun a hF => ?_
  refine sv' hF (wy hF rfl rfl rfl) rfl rfl (R.move (hF.ev rfl)) fun a hF => ?_
  refine sv' hF (wy hF rfl rfl rfl) rfl rfl (R.move (hF.ev rfl)) fun a hF => ?_
  refine sv' hF (wy hF rfl rfl rfl) rfl rfl (R.as (u := .bool true) (R.eqlStr (hF.ev rfl) (hF.ev rfl)) (congrArg Value.bool (decide_eq_true (rfl)))) fun a hF => ?_
  refine sv' hF (wn rfl) rfl rfl (R.pickT (hF.ev rfl) (hF.ev rfl)) fun a hF => ?_
  refine sv' hF (wn rfl) rfl rfl (R.move (hF.ev rfl)) fun a hF => ?_
  refine sv' hF (wy hF rfl rfl rfl) rfl rfl (R.loadW agg29 (hF.ev rfl) hS (.t (.t .h)) sz29 (rfl)) fun a hF => ?_
  refine sv' hF (wy hF rfl rfl rfl) rfl rfl (R.loadW agg29 (hF.ev rfl) hS .h sz29 (rfl)) fun a hF => ?_
  refine sv' hF (wy hF rfl rfl rfl) rfl rfl (R.as (u := .bool true) (R.eqlW (x := (prs (bys s)).getD 0) (y := (prs (bys s)).getD 0) (hF.ev rfl) (hF.ev rfl) (prs_getD_lt _) (prs_getD_lt _)) (congrArg Value.bool (decide_eq_true (rfl)))) fun a hF => ?_
  refine sv' hF (wn rfl) rfl rfl (R.pickT (hF.ev rfl) (hF.ev rfl)) fun a hF => ?_
  refine sv' hF (wn rfl) rfl rfl (R.move (hF.ev rfl)) fun a hF => ?_
  refine sv' hF (wy hF rfl rfl rfl) rfl rfl (R.move (hF.ev rfl)) fun a hF => ?_
  refine sv' hF (wy hF rfl rfl rfl) rfl rfl (R.move (hF.ev rfl)) fun a hF => ?_
  refine sv' hF (wy hF rfl rfl rfl) rfl rfl (R.as (u := .bool true) (R.eql (p := if (prs (bys s)).isSome then 0 else 21) (q := if (prs (bys s)).isSome then 0 else 21) (hF.ev rfl) (hF.ev rfl)) (congrArg Value.bool (decide_eq_true (rfl)))) fun a hF => ?_
  refine sv' hF (wn rfl) rfl rfl (R.pickT (hF.ev rfl) (hF.ev rfl)) fun a hF => ?_
  refine sv' hF (wn rfl) rfl rfl (R.assign (hF.ev rfl)) fun a hF => ?_
  refine s0 ?_
  refine then_n (hK7 _ _ ?_)
  refine wp_ret (hR _ _ _ _ _ hF (run_results Try.results9 (.t hF rfl (.nil))) ?_)
  exact ⟨_, [], rfl, ⟨rfl, rfl⟩, hS.none⟩

end Go.Proofs.Ythgecfjpacebeaa
