/- The walk of MachineDifference. -/
import Derived.Test.YtlapmbkfmbkdoaaFi
namespace Go.Proofs.Ytlapmbkfmbkdoaa
open Go Go.Fw Go.RowKit
attribute [local irreducible] Go.Oper.wp Go.Code.wp Go.wpList Go.Fw.WL Go.Calls
set_option maxHeartbeats 4000000 in
theorem difference_calls (x y : Nat) (w0 : World) (hx : x < 115792089237316195423570985008687907853269984665640564039457584007913129639936) (hy : y < 115792089237316195423570985008687907853269984665640564039457584007913129639936) : Ret Try.prog 10 [wv x, wv y] w0 [] (fun v s => v = .bool true ∧ s = []) := by
  refine fn_start Try.func10 rfl Try.ntmps10 rfl [(0, wv x), (1, wv y)] ⟨rfl, rfl, trivial⟩ ?_
  intro Q a hP hF hR hN
  have hS := St.start w0
  refine wp_seq_k fun K1 hK1 => ?_
  refine wp_region_lit ?_
  refine so (wn rfl) (O.box rfl rfl hF (hF.ev rfl) rfl hS fun b2 a w hF hS => ?_)
  refine so (wn rfl) (O.box rfl rfl hF (hF.ev rfl) rfl hS fun b3 a w hF hS => ?_)
  refine sv' hF (wn rfl) rfl rfl (R.assign (hF.ev rfl)) fun a hF => ?_
  refine s0 ?_
  refine then_n (hK1 _ _ ?_)
  refine wp_seq_k fun K2 hK2 => ?_
  refine wp_region_lit ?_
  refine sv' hF (wn rfl) rfl rfl (R.makeFunc (hF.evs rfl)) fun a hF => ?_
  refine sv' hF (wn rfl) rfl rfl (R.assign (hF.ev rfl)) fun a hF => ?_
  refine s0 ?_
  refine then_n (hK2 _ _ ?_)
  refine wp_seq_k fun K3 hK3 => ?_
  refine wp_seq_k fun K4 hK4 => ?_
  refine wp_region_lit ?_
  refine sv' hF (wn rfl) rfl rfl (R.move (hF.ev rfl)) fun a hF => ?_
  refine so (wn rfl) (O.buildSlice (l := [_, _, _, _, _]) rfl rfl hF Try.underlying23 inf5 rfl rfl (hF.evp rfl) (by decide) rfl hS fun b19 a w hF hS => ?_)
  refine so (wn rfl) (O.callC rfl rfl hF (hF.ev rfl) ent19 (hF.evs rfl) hS (two_calls b2 b3 x y (some ⟨b19, 0, none⟩) 5 5 [6, 16, 1, 7, 1] w (Rd.own0 hS .h) rfl (show ∀ b ∈ ([6, 16, 1, 7, 1] : List Nat), b < 256 by decide) (by decide) (Rd.own0 hS (.t (.t .h))) (Rd.own0 hS (.t .h)) hx hy) fun v s20 a w hR hF hS => ?_)
  obtain ⟨rfl, rfl⟩ := hR
  have d1 : ((playN (twoC x y) (pre4 [6, 16, 1, 7, 1]) (fun _ => (0, 0))).e = 0 ∧ (playN (twoC x y) (pre4 [6, 16, 1, 7, 1]) (fun _ => (0, 0))).v = x) ∨ (playN (twoC x y) (pre4 [6, 16, 1, 7, 1]) (fun _ => (0, 0))).e = 104 := diff1 x y _
  refine sv' hF (wn rfl) rfl rfl (R.move (hF.ev rfl)) fun a hF => ?_
  refine sv' hF (wn rfl) rfl rfl (R.extract (hF.ev rfl) rfl) fun a hF => ?_
  refine sv' hF (wn rfl) rfl rfl (R.extract (hF.ev rfl) rfl) fun a hF => ?_
  refine so (wn rfl) (O.alloc rfl rfl hF ze31 rfl hS fun b6 a w hF hS => ?_)
  refine so (wn rfl) (O.storeW sz31 (hF.ev rfl) (hF.ev rfl) (rfl) rfl (by simp [Value.oneCell']) hS .h (rfl) fun w hS => ?_)
  refine sv' hF (wn rfl) rfl rfl (R.assign (hF.ev rfl)) fun a hF => ?_
  refine s0 ?_
  refine then_n (hK4 _ _ ?_)
  refine wp_seq_k fun K5 hK5 => ?_
  refine wp_region_lit ?_
  refine sv' hF (wn rfl) rfl rfl (R.move (hF.ev rfl)) fun a hF => ?_
  refine sv' hF (wn rfl) rfl rfl (R.eql (hF.ev rfl) (hF.ev rfl)) fun a hF => ?_
  refine sv' hF (wn rfl) rfl rfl (R.move (hF.ev rfl)) fun a hF => ?_
  refine hF.splitD (t := 25) rfl (fun h25 hF => ?_) (fun h25 hF => ?_)
  ·
    refine sv' hF (wy hF rfl rfl rfl) rfl rfl (R.loadW agg31 (hF.ev rfl) hS .h sz31 (rfl)) fun a hF => ?_
    refine sv' hF (wy hF rfl rfl rfl) rfl rfl (R.loadW agg31 (hF.ev rfl) hS (.t (.t (.t (.t .h)))) sz31 (rfl)) fun a hF => ?_
    refine sv' hF (wy hF rfl rfl rfl) rfl rfl (R.as (u := .bool false) (R.neqW (x := (playN (twoC x y) (pre4 [6, 16, 1, 7, 1]) (fun _ => (0, 0))).v) (y := x) (hF.ev rfl) (hF.ev rfl) (by rw [(d1.resolve_right (by omega)).2]; exact hx) (hx)) (congrArg Value.bool (decide_eq_false (fun h => h ((d1.resolve_right (by omega)).2))))) fun a hF => ?_
    refine sv' hF (wn rfl) rfl rfl (R.pickT (hF.ev rfl) (hF.ev rfl)) fun a hF => ?_
    refine sv' hF (wn rfl) rfl rfl (R.move (hF.ev rfl)) fun a hF => ?_
    refine sv' hF (wy hF rfl rfl rfl) rfl rfl (R.move (hF.ev rfl)) fun a hF => ?_
    refine sv' hF (wy hF rfl rfl rfl) rfl rfl (R.as (u := .bool false) (R.neq (p := (playN (twoC x y) (pre4 [6, 16, 1, 7, 1]) (fun _ => (0, 0))).e) (q := 0) (hF.ev rfl) (hF.ev rfl)) (congrArg Value.bool (decide_eq_false (fun h => h h25)))) fun a hF => ?_
    refine sv' hF (wy hF rfl rfl rfl) rfl rfl (R.move (hF.ev rfl)) fun a hF => ?_
    refine sk hF (ws hF rfl rfl rfl rfl) rfl rfl fun a hF => ?_
    refine sk hF (ws hF rfl rfl rfl rfl) rfl rfl fun a hF => ?_
    refine sv' hF (wy hF rfl rfl rfl) rfl rfl (R.pickF (hF.ev rfl) (hF.ev rfl)) fun a hF => ?_
    refine sv' hF (wn rfl) rfl rfl (R.pickF (hF.ev rfl) (hF.ev rfl)) fun a hF => ?_
    refine s0 ?_
    refine then_n (hK5 _ _ ?_)
    refine cF hF rfl ?_
    refine wp_skip ?_
    refine then_n (hK3 _ _ ?_)
    refine wp_seq_k fun K6 hK6 => ?_
    refine wp_seq_k fun K7 hK7 => ?_
    refine wp_region_lit ?_
    refine sv' hF (wn rfl) rfl rfl (R.loadW agg31 (hF.ev rfl) hS (.t (.t (.t .h))) sz31 (rfl)) fun a hF => ?_
    refine sv' hF (wn rfl) rfl rfl (R.buildArr (l := [_, _, _, _]) Try.underlying31 ze31 sz29 (hF.evp rfl) rfl) fun a hF => ?_
    refine sv' hF (wn rfl) rfl rfl (R.eqlW (x := y) (y := 0) (hF.ev rfl) (hF.ev rfl) hy (by decide)) fun a hF => ?_
    refine s0 ?_
    refine then_n (hK7 _ _ ?_)
    refine cD hF rfl (fun c2 => ?_) (fun c2 => ?_)
    ·
      refine wp_seq_k fun K8 hK8 => ?_
      refine wp_region_lit ?_
      refine sv' hF (wn rfl) rfl rfl (R.move (hF.ev rfl)) fun a hF => ?_
      refine so (wn rfl) (O.buildSlice (l := [_, _]) rfl rfl hF Try.underlying23 inf5 rfl rfl (hF.evp rfl) (by decide) rfl hS fun b43 a w hF hS => ?_)
      refine so (wn rfl) (O.callC rfl rfl hF (hF.ev rfl) ent19 (hF.evs rfl) hS (two_calls b2 b3 x y (some ⟨b43, 0, none⟩) 2 2 [9, 1] w (Rd.own0 hS .h) rfl (show ∀ b ∈ ([9, 1] : List Nat), b < 256 by decide) (by decide) (Rd.own0 hS (.t (.t (.t (.t (.t .h)))))) (Rd.own0 hS (.t (.t (.t (.t .h))))) hx hy) fun v s44 a w hR hF hS => ?_)
      obtain ⟨rfl, rfl⟩ := hR
      have d2 : (playN (twoC x y) (pre4 [9, 1]) (fun _ => (0, 0))).e = 104 := by (rw [c2]; exact diff2 x _)
      refine sv' hF (wn rfl) rfl rfl (R.move (hF.ev rfl)) fun a hF => ?_
      refine sv' hF (wn rfl) rfl rfl (R.extract (hF.ev rfl) rfl) fun a hF => ?_
      refine sv' hF (wn rfl) rfl rfl (R.extract (hF.ev rfl) rfl) fun a hF => ?_
      refine so (wn rfl) (O.alloc rfl rfl hF ze31 rfl hS fun b8 a w hF hS => ?_)
      refine so (wn rfl) (O.storeW sz31 (hF.ev rfl) (hF.ev rfl) (rfl) rfl (by simp [Value.oneCell']) hS .h (rfl) fun w hS => ?_)
      refine sv' hF (wn rfl) rfl rfl (R.assign (hF.ev rfl)) fun a hF => ?_
      refine s0 ?_
      refine then_n (hK8 _ _ ?_)
      refine wp_seq_k fun K9 hK9 => ?_
      refine wp_region_lit ?_
      refine sv' hF (wn rfl) rfl rfl (R.move (hF.ev rfl)) fun a hF => ?_
      refine so (wn rfl) (O.buildSlice (l := [_, _]) rfl rfl hF Try.underlying23 inf5 rfl rfl (hF.evp rfl) (by decide) rfl hS fun b49 a w hF hS => ?_)
      refine so (wn rfl) (O.callC rfl rfl hF (hF.ev rfl) ent19 (hF.evs rfl) hS (two_calls b2 b3 x y (some ⟨b49, 0, none⟩) 2 2 [10, 1] w (Rd.own0 hS .h) rfl (show ∀ b ∈ ([10, 1] : List Nat), b < 256 by decide) (by decide) (Rd.own0 hS (.t (.t (.t (.t (.t (.t (.t (.t .h))))))))) (Rd.own0 hS (.t (.t (.t (.t (.t (.t (.t .h)))))))) hx hy) fun v s50 a w hR hF hS => ?_)
      obtain ⟨rfl, rfl⟩ := hR
      have d3 : (playN (twoC x y) (pre4 [10, 1]) (fun _ => (0, 0))).e = 104 := by (rw [c2]; exact diff3 x _)
      refine sv' hF (wn rfl) rfl rfl (R.move (hF.ev rfl)) fun a hF => ?_
      refine sv' hF (wn rfl) rfl rfl (R.extract (hF.ev rfl) rfl) fun a hF => ?_
      refine sv' hF (wn rfl) rfl rfl (R.extract (hF.ev rfl) rfl) fun a hF => ?_
      refine so (wn rfl) (O.alloc rfl rfl hF ze31 rfl hS fun b10 a w hF hS => ?_)
      refine so (wn rfl) (O.storeW sz31 (hF.ev rfl) (hF.ev rfl) (rfl) rfl (by simp [Value.oneCell']) hS .h (rfl) fun w hS => ?_)
      refine sv' hF (wn rfl) rfl rfl (R.assign (hF.ev rfl)) fun a hF => ?_
      refine s0 ?_
      refine then_n (hK9 _ _ ?_)
      refine wp_seq_k fun K10 hK10 => ?_
      refine wp_region_lit ?_
      refine sv' hF (wn rfl) rfl rfl (R.move (hF.ev rfl)) fun a hF => ?_
      refine sv' hF (wn rfl) rfl rfl (R.as (u := .bool true) (R.eql (p := (playN (twoC x y) (pre4 [9, 1]) (fun _ => (0, 0))).e) (q := 104) (hF.ev rfl) (hF.ev rfl)) (congrArg Value.bool (decide_eq_true (d2)))) fun a hF => ?_
      refine sv' hF (wn rfl) rfl rfl (R.move (hF.ev rfl)) fun a hF => ?_
      refine sv' hF (wy hF rfl rfl rfl) rfl rfl (R.move (hF.ev rfl)) fun a hF => ?_
      refine sv' hF (wy hF rfl rfl rfl) rfl rfl (R.as (u := .bool true) (R.eql (p := (playN (twoC x y) (pre4 [10, 1]) (fun _ => (0, 0))).e) (q := 104) (hF.ev rfl) (hF.ev rfl)) (congrArg Value.bool (decide_eq_true (d3)))) fun a hF => ?_
      refine sv' hF (wn rfl) rfl rfl (R.pickT (hF.ev rfl) (hF.ev rfl)) fun a hF => ?_
      refine sv' hF (wn rfl) rfl rfl (R.move (hF.ev rfl)) fun a hF => ?_
      refine so (wy hF rfl rfl rfl) (O.call rfl rfl hF ent11 (hF.evs rfl) hS (alive_calls _) fun v s60 a w hR hF hS => ?_)
      obtain ⟨rfl, rfl⟩ := hR
      refine sv' hF (wn rfl) rfl rfl (R.pickT (hF.ev rfl) (hF.ev rfl)) fun a hF => ?_
      refine sv' hF (wn rfl) rfl rfl (R.assign (hF.ev rfl)) fun a hF => ?_
      refine s0 ?_
      refine then_n (hK10 _ _ ?_)
      refine wp_ret (then_r (hR _ _ _ _ _ hF (run_results Try.results10 (.t hF rfl (.nil))) ?_))
      exact ⟨_, [], rfl, ⟨rfl, rfl⟩, hS.none⟩
    ·
      refine wp_skip ?_
      refine then_n (hK6 _ _ ?_)
      refine wp_seq_k fun K11 hK11 => ?_
      refine wp_region_lit ?_
      refine sv' hF (wn rfl) rfl rfl (R.move (hF.ev rfl)) fun a hF => ?_
      refine so (wn rfl) (O.buildSlice (l := [_, _, _, _, _, _, _, _, _, _, _]) rfl rfl hF Try.underlying23 inf5 rfl rfl (hF.evp rfl) (by decide) rfl hS fun b64 a w hF hS => ?_)
      refine so (wn rfl) (O.callC rfl rfl hF (hF.ev rfl) ent19 (hF.evs rfl) hS (two_calls b2 b3 x y (some ⟨b64, 0, none⟩) 11 11 [9, 16, 1, 8, 16, 0, 16, 1, 10, 6, 1] w (Rd.own0 hS .h) rfl (show ∀ b ∈ ([9, 16, 1, 8, 16, 0, 16, 1, 10, 6, 1] : List Nat), b < 256 by decide) (by decide) (Rd.own0 hS (.t (.t (.t (.t (.t .h)))))) (Rd.own0 hS (.t (.t (.t (.t .h))))) hx hy) fun v s65 a w hR hF hS => ?_)
      obtain ⟨rfl, rfl⟩ := hR
      have d4 : (playN (twoC x y) (pre4 [9, 16, 1, 8, 16, 0, 16, 1, 10, 6, 1]) (fun _ => (0, 0))).e = 0 ∧ (playN (twoC x y) (pre4 [9, 16, 1, 8, 16, 0, 16, 1, 10, 6, 1]) (fun _ => (0, 0))).v = x := diff4 x y hx c2 _
      refine sv' hF (wn rfl) rfl rfl (R.move (hF.ev rfl)) fun a hF => ?_
      refine sv' hF (wn rfl) rfl rfl (R.extract (hF.ev rfl) rfl) fun a hF => ?_
      refine sv' hF (wn rfl) rfl rfl (R.extract (hF.ev rfl) rfl) fun a hF => ?_
      refine so (wn rfl) (O.alloc rfl rfl hF ze31 rfl hS fun b12 a w hF hS => ?_)
      refine so (wn rfl) (O.storeW sz31 (hF.ev rfl) (hF.ev rfl) (rfl) rfl (by simp [Value.oneCell']) hS .h (rfl) fun w hS => ?_)
      refine sv' hF (wn rfl) rfl rfl (R.assign (hF.ev rfl)) fun a hF => ?_
      refine s0 ?_
      refine then_n (hK11 _ _ ?_)
      refine wp_seq_k fun K12 hK12 => ?_
      refine wp_region_lit ?_
      refine sv' hF (wn rfl) rfl rfl (R.move (hF.ev rfl)) fun a hF => ?_
      refine so (wn rfl) (O.buildSlice (l := [_, _, _, _, _]) rfl rfl hF Try.underlying23 inf5 rfl rfl (hF.evp rfl) (by decide) rfl hS fun b70 a w hF hS => ?_)
      refine so (wn rfl) (O.callC rfl rfl hF (hF.ev rfl) ent19 (hF.evs rfl) hS (two_calls b2 b3 x y (some ⟨b70, 0, none⟩) 5 5 [10, 16, 1, 11, 1] w (Rd.own0 hS .h) rfl (show ∀ b ∈ ([10, 16, 1, 11, 1] : List Nat), b < 256 by decide) (by decide) (Rd.own0 hS (.t (.t (.t (.t (.t (.t (.t (.t .h))))))))) (Rd.own0 hS (.t (.t (.t (.t (.t (.t (.t .h)))))))) hx hy) fun v s71 a w hR hF hS => ?_)
      obtain ⟨rfl, rfl⟩ := hR
      have d5 : (playN (twoC x y) (pre4 [10, 16, 1, 11, 1]) (fun _ => (0, 0))).e = 0 ∧ (playN (twoC x y) (pre4 [10, 16, 1, 11, 1]) (fun _ => (0, 0))).v = 1 := diff5 x y c2 _
      refine sv' hF (wn rfl) rfl rfl (R.move (hF.ev rfl)) fun a hF => ?_
      refine sv' hF (wn rfl) rfl rfl (R.extract (hF.ev rfl) rfl) fun a hF => ?_
      refine sv' hF (wn rfl) rfl rfl (R.extract (hF.ev rfl) rfl) fun a hF => ?_
      refine so (wn rfl) (O.alloc rfl rfl hF ze31 rfl hS fun b14 a w hF hS => ?_)
      refine so (wn rfl) (O.storeW sz31 (hF.ev rfl) (hF.ev rfl) (rfl) rfl (by simp [Value.oneCell']) hS .h (rfl) fun w hS => ?_)
      refine sv' hF (wn rfl) rfl rfl (R.assign (hF.ev rfl)) fun a hF => ?_
      refine s0 ?_
      refine then_n (hK12 _ _ ?_)
      refine wp_seq_k fun K13 hK13 => ?_
      refine wp_region_lit ?_
      refine sv' hF (wn rfl) rfl rfl (R.move (hF.ev rfl)) fun a hF => ?_
      refine sv' hF (wn rfl) rfl rfl (R.as (u := .bool true) (R.eql (p := (playN (twoC x y) (pre4 [9, 16, 1, 8, 16, 0, 16, 1, 10, 6, 1]) (fun _ => (0, 0))).e) (q := 0) (hF.ev rfl) (hF.ev rfl)) (congrArg Value.bool (decide_eq_true (d4.1)))) fun a hF => ?_
      refine sv' hF (wn rfl) rfl rfl (R.move (hF.ev rfl)) fun a hF => ?_
      refine sv' hF (wy hF rfl rfl rfl) rfl rfl (R.loadW agg31 (hF.ev rfl) hS (.t (.t (.t .h))) sz31 (rfl)) fun a hF => ?_
      refine sv' hF (wy hF rfl rfl rfl) rfl rfl (R.loadW agg31 (hF.ev rfl) hS (.t (.t (.t (.t (.t (.t (.t (.t (.t (.t .h)))))))))) sz31 (rfl)) fun a hF => ?_
      refine sv' hF (wy hF rfl rfl rfl) rfl rfl (R.as (u := .bool true) (R.eqlW (x := (playN (twoC x y) (pre4 [9, 16, 1, 8, 16, 0, 16, 1, 10, 6, 1]) (fun _ => (0, 0))).v) (y := x) (hF.ev rfl) (hF.ev rfl) (by rw [d4.2]; exact hx) (hx)) (congrArg Value.bool (decide_eq_true (d4.2)))) fun a hF => ?_
      refine sv' hF (wn rfl) rfl rfl (R.pickT (hF.ev rfl) (hF.ev rfl)) fun a hF => ?_
      refine sv' hF (wn rfl) rfl rfl (R.move (hF.ev rfl)) fun a hF => ?_
      refine sv' hF (wy hF rfl rfl rfl) rfl rfl (R.move (hF.ev rfl)) fun a hF => ?_
      refine sv' hF (wy hF rfl rfl rfl) rfl rfl (R.as (u := .bool true) (R.eql (p := (playN (twoC x y) (pre4 [10, 16, 1, 11, 1]) (fun _ => (0, 0))).e) (q := 0) (hF.ev rfl) (hF.ev rfl)) (congrArg Value.bool (decide_eq_true (d5.1)))) fun a hF => ?_
      refine sv' hF (wn rfl) rfl rfl (R.pickT (hF.ev rfl) (hF.ev rfl)) fun a hF => ?_
      refine sv' hF (wn rfl) rfl rfl (R.move (hF.ev rfl)) fun a hF => ?_
      refine sv' hF (wy hF rfl rfl rfl) rfl rfl (R.loadW agg31 (hF.ev rfl) hS .h sz31 (rfl)) fun a hF => ?_
      refine sv' hF (wy hF rfl rfl rfl) rfl rfl (R.buildArr (l := [_, _, _, _]) Try.underlying31 ze31 sz29 (hF.evp rfl) rfl) fun a hF => ?_
      refine sv' hF (wy hF rfl rfl rfl) rfl rfl (R.as (u := .bool true) (R.eqlW (x := (playN (twoC x y) (pre4 [10, 16, 1, 11, 1]) (fun _ => (0, 0))).v) (y := 1) (hF.ev rfl) (hF.ev rfl) (by rw [d5.2]; decide) (by decide)) (congrArg Value.bool (decide_eq_true (d5.2)))) fun a hF => ?_
      refine sv' hF (wn rfl) rfl rfl (R.pickT (hF.ev rfl) (hF.ev rfl)) fun a hF => ?_
      refine sv' hF (wn rfl) rfl rfl (R.move (hF.ev rfl)) fun a hF => ?_
      refine so (wy hF rfl rfl rfl) (O.call rfl rfl hF ent11 (hF.evs rfl) hS (alive_calls _) fun v s91 a w hR hF hS => ?_)
      obtain ⟨rfl, rfl⟩ := hR
      refine sv' hF (wn rfl) rfl rfl (R.pickT (hF.ev rfl) (hF.ev rfl)) fun a hF => ?_
      refine sv' hF (wn rfl) rfl rfl (R.assign (hF.ev rfl)) fun a hF => ?_
      refine s0 ?_
      refine then_n (hK13 _ _ ?_)
      refine wp_ret (hR _ _ _ _ _ hF (run_results Try.results10 (.t hF rfl (.nil))) ?_)
      exact ⟨_, [], rfl, ⟨rfl, rfl⟩, hS.none⟩
  ·
    refine sk hF (ws hF rfl rfl rfl rfl) rfl rfl fun a hF => ?_
    refine sk hF (ws hF rfl rfl rfl rfl) rfl rfl fun a hF => ?_
    refine sk hF (ws hF rfl rfl rfl rfl) rfl rfl fun a hF => ?_
    refine sv' hF (wn rfl) rfl rfl (R.pickF (hF.ev rfl) (hF.ev rfl)) fun a hF => ?_
    refine sv' hF (wn rfl) rfl rfl (R.move (hF.ev rfl)) fun a hF => ?_
    refine sv' hF (wy hF rfl rfl rfl) rfl rfl (R.move (hF.ev rfl)) fun a hF => ?_
    refine sv' hF (wy hF rfl rfl rfl) rfl rfl (R.as (u := .bool true) (R.neq (p := (playN (twoC x y) (pre4 [6, 16, 1, 7, 1]) (fun _ => (0, 0))).e) (q := 0) (hF.ev rfl) (hF.ev rfl)) (congrArg Value.bool (decide_eq_true (h25)))) fun a hF => ?_
    refine sv' hF (wy hF rfl rfl rfl) rfl rfl (R.move (hF.ev rfl)) fun a hF => ?_
    refine sv' hF (wy hF rfl rfl rfl) rfl rfl (R.move (hF.ev rfl)) fun a hF => ?_
    refine sv' hF (wy hF rfl rfl rfl) rfl rfl (R.as (u := .bool false) (R.neq (p := (playN (twoC x y) (pre4 [6, 16, 1, 7, 1]) (fun _ => (0, 0))).e) (q := 104) (hF.ev rfl) (hF.ev rfl)) (congrArg Value.bool (decide_eq_false (fun h => h (d1.resolve_left (fun h2 => h25 h2.1)))))) fun a hF => ?_
    refine sv' hF (wy hF rfl rfl rfl) rfl rfl (R.pickT (hF.ev rfl) (hF.ev rfl)) fun a hF => ?_
    refine sv' hF (wn rfl) rfl rfl (R.pickF (hF.ev rfl) (hF.ev rfl)) fun a hF => ?_
    refine s0 ?_
    refine then_n (hK5 _ _ ?_)
    refine cF hF rfl ?_
    refine wp_skip ?_
    refine then_n (hK3 _ _ ?_)
    refine wp_seq_k fun K14 hK14 => ?_
    refine wp_seq_k fun K15 hK15 => ?_
    refine wp_region_lit ?_
    refine sv' hF (wn rfl) rfl rfl (R.loadW agg31 (hF.ev rfl) hS (.t (.t (.t .h))) sz31 (rfl)) fun a hF => ?_
    refine sv' hF (wn rfl) rfl rfl (R.buildArr (l := [_, _, _, _]) Try.underlying31 ze31 sz29 (hF.evp rfl) rfl) fun a hF => ?_
    refine sv' hF (wn rfl) rfl rfl (R.eqlW (x := y) (y := 0) (hF.ev rfl) (hF.ev rfl) hy (by decide)) fun a hF => ?_
    refine s0 ?_
    refine then_n (hK15 _ _ ?_)
    refine cD hF rfl (fun c2 => ?_) (fun c2 => ?_)
    ·
      refine wp_seq_k fun K16 hK16 => ?_
      refine wp_region_lit ?_
      refine sv' hF (wn rfl) rfl rfl (R.move (hF.ev rfl)) fun a hF => ?_
      refine so (wn rfl) (O.buildSlice (l := [_, _]) rfl rfl hF Try.underlying23 inf5 rfl rfl (hF.evp rfl) (by decide) rfl hS fun b43 a w hF hS => ?_)
      refine so (wn rfl) (O.callC rfl rfl hF (hF.ev rfl) ent19 (hF.evs rfl) hS (two_calls b2 b3 x y (some ⟨b43, 0, none⟩) 2 2 [9, 1] w (Rd.own0 hS .h) rfl (show ∀ b ∈ ([9, 1] : List Nat), b < 256 by decide) (by decide) (Rd.own0 hS (.t (.t (.t (.t (.t .h)))))) (Rd.own0 hS (.t (.t (.t (.t .h))))) hx hy) fun v s44 a w hR hF hS => ?_)
      obtain ⟨rfl, rfl⟩ := hR
      have d2 : (playN (twoC x y) (pre4 [9, 1]) (fun _ => (0, 0))).e = 104 := by (rw [c2]; exact diff2 x _)
      refine sv' hF (wn rfl) rfl rfl (R.move (hF.ev rfl)) fun a hF => ?_
      refine sv' hF (wn rfl) rfl rfl (R.extract (hF.ev rfl) rfl) fun a hF => ?_
      refine sv' hF (wn rfl) rfl rfl (R.extract (hF.ev rfl) rfl) fun a hF => ?_
      refine so (wn rfl) (O.alloc rfl rfl hF ze31 rfl hS fun b8 a w hF hS => ?_)
      refine so (wn rfl) (O.storeW sz31 (hF.ev rfl) (hF.ev rfl) (rfl) rfl (by simp [Value.oneCell']) hS .h (rfl) fun w hS => ?_)
      refine sv' hF (wn rfl) rfl rfl (R.assign (hF.ev rfl)) fun a hF => ?_
      refine s0 ?_
      refine then_n (hK16 _ _ ?_)
      refine wp_seq_k fun K17 hK17 => ?_
      refine wp_region_lit ?_
      refine sv' hF (wn rfl) rfl rfl (R.move (hF.ev rfl)) fun a hF => ?_
      refine so (wn rfl) (O.buildSlice (l := [_, _]) rfl rfl hF Try.underlying23 inf5 rfl rfl (hF.evp rfl) (by decide) rfl hS fun b49 a w hF hS => ?_)
      refine so (wn rfl) (O.callC rfl rfl hF (hF.ev rfl) ent19 (hF.evs rfl) hS (two_calls b2 b3 x y (some ⟨b49, 0, none⟩) 2 2 [10, 1] w (Rd.own0 hS .h) rfl (show ∀ b ∈ ([10, 1] : List Nat), b < 256 by decide) (by decide) (Rd.own0 hS (.t (.t (.t (.t (.t (.t (.t (.t .h))))))))) (Rd.own0 hS (.t (.t (.t (.t (.t (.t (.t .h)))))))) hx hy) fun v s50 a w hR hF hS => ?_)
      obtain ⟨rfl, rfl⟩ := hR
      have d3 : (playN (twoC x y) (pre4 [10, 1]) (fun _ => (0, 0))).e = 104 := by (rw [c2]; exact diff3 x _)
      refine sv' hF (wn rfl) rfl rfl (R.move (hF.ev rfl)) fun a hF => ?_
      refine sv' hF (wn rfl) rfl rfl (R.extract (hF.ev rfl) rfl) fun a hF => ?_
      refine sv' hF (wn rfl) rfl rfl (R.extract (hF.ev rfl) rfl) fun a hF => ?_
      refine so (wn rfl) (O.alloc rfl rfl hF ze31 rfl hS fun b10 a w hF hS => ?_)
      refine so (wn rfl) (O.storeW sz31 (hF.ev rfl) (hF.ev rfl) (rfl) rfl (by simp [Value.oneCell']) hS .h (rfl) fun w hS => ?_)
      refine sv' hF (wn rfl) rfl rfl (R.assign (hF.ev rfl)) fun a hF => ?_
      refine s0 ?_
      refine then_n (hK17 _ _ ?_)
      refine wp_seq_k fun K18 hK18 => ?_
      refine wp_region_lit ?_
      refine sv' hF (wn rfl) rfl rfl (R.move (hF.ev rfl)) fun a hF => ?_
      refine sv' hF (wn rfl) rfl rfl (R.as (u := .bool true) (R.eql (p := (playN (twoC x y) (pre4 [9, 1]) (fun _ => (0, 0))).e) (q := 104) (hF.ev rfl) (hF.ev rfl)) (congrArg Value.bool (decide_eq_true (d2)))) fun a hF => ?_
      refine sv' hF (wn rfl) rfl rfl (R.move (hF.ev rfl)) fun a hF => ?_
      refine sv' hF (wy hF rfl rfl rfl) rfl rfl (R.move (hF.ev rfl)) fun a hF => ?_
      refine sv' hF (wy hF rfl rfl rfl) rfl rfl (R.as (u := .bool true) (R.eql (p := (playN (twoC x y) (pre4 [10, 1]) (fun _ => (0, 0))).e) (q := 104) (hF.ev rfl) (hF.ev rfl)) (congrArg Value.bool (decide_eq_true (d3)))) fun a hF => ?_
      refine sv' hF (wn rfl) rfl rfl (R.pickT (hF.ev rfl) (hF.ev rfl)) fun a hF => ?_
      refine sv' hF (wn rfl) rfl rfl (R.move (hF.ev rfl)) fun a hF => ?_
      refine so (wy hF rfl rfl rfl) (O.call rfl rfl hF ent11 (hF.evs rfl) hS (alive_calls _) fun v s60 a w hR hF hS => ?_)
      obtain ⟨rfl, rfl⟩ := hR
      refine sv' hF (wn rfl) rfl rfl (R.pickT (hF.ev rfl) (hF.ev rfl)) fun a hF => ?_
      refine sv' hF (wn rfl) rfl rfl (R.assign (hF.ev rfl)) fun a hF => ?_
      refine s0 ?_
      refine then_n (hK18 _ _ ?_)
      refine wp_ret (then_r (hR _ _ _ _ _ hF (run_results Try.results10 (.t hF rfl (.nil))) ?_))
      exact ⟨_, [], rfl, ⟨rfl, rfl⟩, hS.none⟩
    ·
      refine wp_skip ?_
      refine then_n (hK14 _ _ ?_)
      refine wp_seq_k fun K19 hK19 => ?_
      refine wp_region_lit ?_
      refine sv' hF (wn rfl) rfl rfl (R.move (hF.ev rfl)) fun a hF => ?_
      refine so (wn rfl) (O.buildSlice (l := [_, _, _, _, _, _, _, _, _, _, _]) rfl rfl hF Try.underlying23 inf5 rfl rfl (hF.evp rfl) (by decide) rfl hS fun b64 a w hF hS => ?_)
      refine so (wn rfl) (O.callC rfl rfl hF (hF.ev rfl) ent19 (hF.evs rfl) hS (two_calls b2 b3 x y (some ⟨b64, 0, none⟩) 11 11 [9, 16, 1, 8, 16, 0, 16, 1, 10, 6, 1] w (Rd.own0 hS .h) rfl (show ∀ b ∈ ([9, 16, 1, 8, 16, 0, 16, 1, 10, 6, 1] : List Nat), b < 256 by decide) (by decide) (Rd.own0 hS (.t (.t (.t (.t (.t .h)))))) (Rd.own0 hS (.t (.t (.t (.t .h))))) hx hy) fun v s65 a w hR hF hS => ?_)
      obtain ⟨rfl, rfl⟩ := hR
      have d4 : (playN (twoC x y) (pre4 [9, 16, 1, 8, 16, 0, 16, 1, 10, 6, 1]) (fun _ => (0, 0))).e = 0 ∧ (playN (twoC x y) (pre4 [9, 16, 1, 8, 16, 0, 16, 1, 10, 6, 1]) (fun _ => (0, 0))).v = x := diff4 x y hx c2 _
      refine sv' hF (wn rfl) rfl rfl (R.move (hF.ev rfl)) fun a hF => ?_
      refine sv' hF (wn rfl) rfl rfl (R.extract (hF.ev rfl) rfl) fun a hF => ?_
      refine sv' hF (wn rfl) rfl rfl (R.extract (hF.ev rfl) rfl) fun a hF => ?_
      refine so (wn rfl) (O.alloc rfl rfl hF ze31 rfl hS fun b12 a w hF hS => ?_)
      refine so (wn rfl) (O.storeW sz31 (hF.ev rfl) (hF.ev rfl) (rfl) rfl (by simp [Value.oneCell']) hS .h (rfl) fun w hS => ?_)
      refine sv' hF (wn rfl) rfl rfl (R.assign (hF.ev rfl)) fun a hF => ?_
      refine s0 ?_
      refine then_n (hK19 _ _ ?_)
      refine wp_seq_k fun K20 hK20 => ?_
      refine wp_region_lit ?_
      refine sv' hF (wn rfl) rfl rfl (R.move (hF.ev rfl)) fun a hF => ?_
      refine so (wn rfl) (O.buildSlice (l := [_, _, _, _, _]) rfl rfl hF Try.underlying23 inf5 rfl rfl (hF.evp rfl) (by decide) rfl hS fun b70 a w hF hS => ?_)
      refine so (wn rfl) (O.callC rfl rfl hF (hF.ev rfl) ent19 (hF.evs rfl) hS (two_calls b2 b3 x y (some ⟨b70, 0, none⟩) 5 5 [10, 16, 1, 11, 1] w (Rd.own0 hS .h) rfl (show ∀ b ∈ ([10, 16, 1, 11, 1] : List Nat), b < 256 by decide) (by decide) (Rd.own0 hS (.t (.t (.t (.t (.t (.t (.t (.t .h))))))))) (Rd.own0 hS (.t (.t (.t (.t (.t (.t (.t .h)))))))) hx hy) fun v s71 a w hR hF hS => ?_)
      obtain ⟨rfl, rfl⟩ := hR
      have d5 : (playN (twoC x y) (pre4 [10, 16, 1, 11, 1]) (fun _ => (0, 0))).e = 0 ∧ (playN (twoC x y) (pre4 [10, 16, 1, 11, 1]) (fun _ => (0, 0))).v = 1 := diff5 x y c2 _
      refine sv' hF (wn rfl) rfl rfl (R.move (hF.ev rfl)) fun a hF => ?_
      refine sv' hF (wn rfl) rfl rfl (R.extract (hF.ev rfl) rfl) fun a hF => ?_
      refine sv' hF (wn rfl) rfl rfl (R.extract (hF.ev rfl) rfl) fun a hF => ?_
      refine so (wn rfl) (O.alloc rfl rfl hF ze31 rfl hS fun b14 a w hF hS => ?_)
      refine so (wn rfl) (O.storeW sz31 (hF.ev rfl) (hF.ev rfl) (rfl) rfl (by simp [Value.oneCell']) hS .h (rfl) fun w hS => ?_)
      refine sv' hF (wn rfl) rfl rfl (R.assign (hF.ev rfl)) fun a hF => ?_
      refine s0 ?_
      refine then_n (hK20 _ _ ?_)
      refine wp_seq_k fun K21 hK21 => ?_
      refine wp_region_lit ?_
      refine sv' hF (wn rfl) rfl rfl (R.move (hF.ev rfl)) fun a hF => ?_
      refine sv' hF (wn rfl) rfl rfl (R.as (u := .bool true) (R.eql (p := (playN (twoC x y) (pre4 [9, 16, 1, 8, 16, 0, 16, 1, 10, 6, 1]) (fun _ => (0, 0))).e) (q := 0) (hF.ev rfl) (hF.ev rfl)) (congrArg Value.bool (decide_eq_true (d4.1)))) fun a hF => ?_
      refine sv' hF (wn rfl) rfl rfl (R.move (hF.ev rfl)) fun a hF => ?_
      refine sv' hF (wy hF rfl rfl rfl) rfl rfl (R.loadW agg31 (hF.ev rfl) hS (.t (.t (.t .h))) sz31 (rfl)) fun a hF => ?_
      refine sv' hF (wy hF rfl rfl rfl) rfl rfl (R.loadW agg31 (hF.ev rfl) hS (.t (.t (.t (.t (.t (.t (.t (.t (.t (.t .h)))))))))) sz31 (rfl)) fun a hF => ?_
      refine sv' hF (wy hF rfl rfl rfl) rfl rfl (R.as (u := .bool true) (R.eqlW (x := (playN (twoC x y) (pre4 [9, 16, 1, 8, 16, 0, 16, 1, 10, 6, 1]) (fun _ => (0, 0))).v) (y := x) (hF.ev rfl) (hF.ev rfl) (by rw [d4.2]; exact hx) (hx)) (congrArg Value.bool (decide_eq_true (d4.2)))) fun a hF => ?_
      refine sv' hF (wn rfl) rfl rfl (R.pickT (hF.ev rfl) (hF.ev rfl)) fun a hF => ?_
      refine sv' hF (wn rfl) rfl rfl (R.move (hF.ev rfl)) fun a hF => ?_
      refine sv' hF (wy hF rfl rfl rfl) rfl rfl (R.move (hF.ev rfl)) fun a hF => ?_
      refine sv' hF (wy hF rfl rfl rfl) rfl rfl (R.as (u := .bool true) (R.eql (p := (playN (twoC x y) (pre4 [10, 16, 1, 11, 1]) (fun _ => (0, 0))).e) (q := 0) (hF.ev rfl) (hF.ev rfl)) (congrArg Value.bool (decide_eq_true (d5.1)))) fun a hF => ?_
      refine sv' hF (wn rfl) rfl rfl (R.pickT (hF.ev rfl) (hF.ev rfl)) fun a hF => ?_
      refine sv' hF (wn rfl) rfl rfl (R.move (hF.ev rfl)) fun a hF => ?_
      refine sv' hF (wy hF rfl rfl rfl) rfl rfl (R.loadW agg31 (hF.ev rfl) hS .h sz31 (rfl)) fun a hF => ?_
      refine sv' hF (wy hF rfl rfl rfl) rfl rfl (R.buildArr (l := [_, _, _, _]) Try.underlying31 ze31 sz29 (hF.evp rfl) rfl) fun a hF => ?_
      refine sv' hF (wy hF rfl rfl rfl) rfl rfl (R.as (u := .bool true) (R.eqlW (x := (playN (twoC x y) (pre4 [10, 16, 1, 11, 1]) (fun _ => (0, 0))).v) (y := 1) (hF.ev rfl) (hF.ev rfl) (by rw [d5.2]; decide) (by decide)) (congrArg Value.bool (decide_eq_true (d5.2)))) fun a hF => ?_
      refine sv' hF (wn rfl) rfl rfl (R.pickT (hF.ev rfl) (hF.ev rfl)) fun a hF => ?_
      refine sv' hF (wn rfl) rfl rfl (R.move (hF.ev rfl)) fun a hF => ?_
      refine so (wy hF rfl rfl rfl) (O.call rfl rfl hF ent11 (hF.evs rfl) hS (alive_calls _) fun v s91 a w hR hF hS => ?_)
      obtain ⟨rfl, rfl⟩ := hR
      refine sv' hF (wn rfl) rfl rfl (R.pickT (hF.ev rfl) (hF.ev rfl)) fun a hF => ?_
      refine sv' hF (wn rfl) rfl rfl (R.assign (hF.ev rfl)) fun a hF => ?_
      refine s0 ?_
      refine then_n (hK21 _ _ ?_)
      refine wp_ret (hR _ _ _ _ _ hF (run_results Try.results10 (.t hF rfl (.nil))) ?_)
      exact ⟨_, [], rfl, ⟨rfl, rfl⟩, hS.none⟩

end Go.Proofs.Ytlapmbkfmbkdoaa
