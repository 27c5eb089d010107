/- Part 4 of what the row MachineRefuses needs, with no condition beyond each lemma's own. -/
import Derived.Test.YtlapmbkfmbkdoaaRb3
section
namespace Go.Proofs.Ytlapmbkfmbkdoaa
open Go Go.Fw Go.RowKit
attribute [local irreducible] Go.Oper.wp Go.Code.wp Go.wpList Go.Fw.WL Go.Calls
theorem cmp_lt {x y : Nat} : decide (cmpN x y < 0) = decide (x < y) := by
  unfold cmpN
  apply decide_eq_decide.2
  split
  · omega
  split <;> omega
theorem add_good (F : Fx) (V : Vr) (stk : List Nat) (s : Seg) (vb : Nat) (u : Nat → Nat) (w0 : World) (hRun : RunS F V stk s) (ho : Own w0 s) (hv : RdK w0 (s.map (·.1)) (some ⟨vb, 0, none⟩) (vc u)) (hvM : ∀ i, u i < 115792089237316195423570985008687907853269984665640564039457584007913129639936) (hl : stk.length ≤ 64) (h : (u 0 + u 1 < 115792089237316195423570985008687907853269984665640564039457584007913129639936)) : Ret Try.prog 55 [.pointer (some ⟨F.rb, 0, none⟩), .slice (some ⟨vb, 0, none⟩) 2 3] w0 (s.map (·.1)) (fun v s' => v = .int .i64 0 ∧ RunS F V (stk ++ [u 0 + u 1]) s') := by
  refine fn_start Try.func55 rfl Try.ntmps55 rfl [(0, .pointer (some ⟨F.rb, 0, none⟩)), (1, .slice (some ⟨vb, 0, none⟩) 2 3)] ⟨rfl, rfl, trivial⟩ ?_
  intro Q a hP hF hR hN
  have hS := St.enter ho
  refine wp_seq_k fun K1 hK1 => ?_
  refine wp_region_lit ?_
  refine sv' hF (wn rfl) rfl rfl (R.assign (hF.ev rfl)) fun a hF => ?_
  refine s0 ?_
  refine then_n (hK1 _ _ ?_)
  refine wp_seq_k fun K2 hK2 => ?_
  refine wp_drawG hS (hS.sel [] rfl rfl) [(0, 0), (1, 0), (2, 0), (3, 1), (4, 0), (5, 0), (6, 1), (7, 2), (8, 0), (9, 0), (10, 2), (11, 0)] mix (by kernel_rfl) (hP.then) fun w hS hD => ?_
  refine dq hF rfl (wn rfl) rfl rfl (fun w => R.move (hF.ev rfl)) fun a hF => ?_
  refine dq hF rfl (wn rfl) rfl rfl (fun w => R.move (hF.ev rfl)) fun a hF => ?_
  refine dq hF rfl (wn rfl) rfl rfl (fun w => R.indexO Try.underlying32 sz31 (hF.ev rfl) (by simp) (hF.ev rfl) (by omega) (by omega)) fun a hF => ?_
  refine dr hF rfl (wn rfl) rfl rfl hD (fun w hD => R.loadAO (cs := wc (u 0)) agg31 (hF.ev rfl) (hv.old hD) sz31 rfl (Nat.succ_pos _) (v0_at rfl)) fun a hF => ?_
  refine dq hF rfl (wn rfl) rfl rfl (fun w => R.move (hF.ev rfl)) fun a hF => ?_
  refine dq hF rfl (wn rfl) rfl rfl (fun w => R.indexO Try.underlying32 sz31 (hF.ev rfl) (by simp) (hF.ev rfl) (by omega) (by omega)) fun a hF => ?_
  refine dr hF rfl (wn rfl) rfl rfl hD (fun w hD => R.loadAO (cs := wc (u 1)) agg31 (hF.ev rfl) (hv.old hD) sz31 rfl (Nat.succ_pos _) (v1_at rfl)) fun a hF => ?_
  refine dl rfl (wn rfl) (O.call rfl rfl hF ent81 (hF.evs rfl) hS (add_calls (u 0) (u 1) _ (hvM 0) (hvM 1)) fun v s12 a w hR hF hS => ⟨fun hD => hS.sel [] rfl rfl, ?_⟩)
  obtain ⟨rfl, rfl⟩ := hR
  have hD := hS.sel [] rfl rfl
  rw [show addW (u 0) (u 1) = .tuple #[wv (u 0 + u 1), .int .i64 0] from by simp only [addW, if_pos h]] at hF
  refine dq hF rfl (wn rfl) rfl rfl (fun w => R.extract (hF.ev rfl) rfl) fun a hF => ?_
  refine dq hF rfl (wn rfl) rfl rfl (fun w => R.extract (hF.ev rfl) rfl) fun a hF => ?_
  refine dl rfl (wn rfl) (O.callK rfl rfl hF ent80 (hF.evs rfl) hS (reckoned_good F V stk _ (u 0 + u 1) _ hRun (hS.own1 (.t .h)) (by have := hvM 0; have := hvM 1; first | omega | exact Nat.lt_of_le_of_lt (Nat.div_le_self _ _) (hvM 0) | exact Nat.lt_of_le_of_lt (Nat.mod_le _ _) (hvM 0)) hl) (fun _ => (.t .h)) fun v s15 a w hR hF hS => ⟨fun hD => hS.sel [] rfl rfl, ?_⟩)
  obtain ⟨rfl, hRun2⟩ := hR
  have hD := hS.sel [] rfl rfl
  refine dq hF rfl (wn rfl) rfl rfl (fun w => R.assign (hF.ev rfl)) fun a hF => ?_
  refine d0 ?_
  refine then_n (hK2 _ _ ?_)
  refine wp_ret (hR _ _ _ _ _ hF (run_results Try.results55 (.t hF rfl (.nil))) ?_)
  exact ⟨_, s15, rfl, ⟨rfl, hRun2⟩, hS.one (.t .h)⟩
theorem add_bad (F : Fx) (V : Vr) (stk : List Nat) (s : Seg) (vb : Nat) (u : Nat → Nat) (w0 : World) (hRun : RunS F V stk s) (ho : Own w0 s) (hv : RdK w0 (s.map (·.1)) (some ⟨vb, 0, none⟩) (vc u)) (hvM : ∀ i, u i < 115792089237316195423570985008687907853269984665640564039457584007913129639936) (hl : stk.length ≤ 64) (h : ¬ (u 0 + u 1 < 115792089237316195423570985008687907853269984665640564039457584007913129639936)) : Ret Try.prog 55 [.pointer (some ⟨F.rb, 0, none⟩), .slice (some ⟨vb, 0, none⟩) 2 3] w0 (s.map (·.1)) (fun v s' => v = .int .i64 104 ∧ s' = s) := by
  refine fn_start Try.func55 rfl Try.ntmps55 rfl [(0, .pointer (some ⟨F.rb, 0, none⟩)), (1, .slice (some ⟨vb, 0, none⟩) 2 3)] ⟨rfl, rfl, trivial⟩ ?_
  intro Q a hP hF hR hN
  have hS := St.enter ho
  refine wp_seq_k fun K1 hK1 => ?_
  refine wp_region_lit ?_
  refine sv' hF (wn rfl) rfl rfl (R.assign (hF.ev rfl)) fun a hF => ?_
  refine s0 ?_
  refine then_n (hK1 _ _ ?_)
  refine wp_seq_k fun K2 hK2 => ?_
  refine wp_drawG hS (hS.sel [] rfl rfl) [(0, 0), (1, 0), (2, 0), (3, 1), (4, 0), (5, 0), (6, 1), (7, 2), (8, 0), (9, 0), (10, 2), (11, 0)] mix (by kernel_rfl) (hP.then) fun w hS hD => ?_
  refine dq hF rfl (wn rfl) rfl rfl (fun w => R.move (hF.ev rfl)) fun a hF => ?_
  refine dq hF rfl (wn rfl) rfl rfl (fun w => R.move (hF.ev rfl)) fun a hF => ?_
  refine dq hF rfl (wn rfl) rfl rfl (fun w => R.indexO Try.underlying32 sz31 (hF.ev rfl) (by simp) (hF.ev rfl) (by omega) (by omega)) fun a hF => ?_
  refine dr hF rfl (wn rfl) rfl rfl hD (fun w hD => R.loadAO (cs := wc (u 0)) agg31 (hF.ev rfl) (hv.old hD) sz31 rfl (Nat.succ_pos _) (v0_at rfl)) fun a hF => ?_
  refine dq hF rfl (wn rfl) rfl rfl (fun w => R.move (hF.ev rfl)) fun a hF => ?_
  refine dq hF rfl (wn rfl) rfl rfl (fun w => R.indexO Try.underlying32 sz31 (hF.ev rfl) (by simp) (hF.ev rfl) (by omega) (by omega)) fun a hF => ?_
  refine dr hF rfl (wn rfl) rfl rfl hD (fun w hD => R.loadAO (cs := wc (u 1)) agg31 (hF.ev rfl) (hv.old hD) sz31 rfl (Nat.succ_pos _) (v1_at rfl)) fun a hF => ?_
  refine dl rfl (wn rfl) (O.call rfl rfl hF ent81 (hF.evs rfl) hS (add_calls (u 0) (u 1) _ (hvM 0) (hvM 1)) fun v s12 a w hR hF hS => ⟨fun hD => hS.sel [] rfl rfl, ?_⟩)
  obtain ⟨rfl, rfl⟩ := hR
  have hD := hS.sel [] rfl rfl
  rw [show addW (u 0) (u 1) = .tuple #[wv (0), .int .i64 22] from by simp only [addW, if_neg h]] at hF
  refine dq hF rfl (wn rfl) rfl rfl (fun w => R.extract (hF.ev rfl) rfl) fun a hF => ?_
  refine dq hF rfl (wn rfl) rfl rfl (fun w => R.extract (hF.ev rfl) rfl) fun a hF => ?_
  refine dl rfl (wn rfl) (O.callK rfl rfl hF ent80 (hF.evs rfl) hS (reckoned_bad F _ (0) _ _ (hS.own1 (.t .h)) (by decide)) (fun _ => (.t .h)) fun v s15 a w hR hF hS => ⟨fun hD => hS.sel [] rfl rfl, ?_⟩)
  obtain ⟨rfl, he⟩ := hR
  rw [he] at hS
  have hD := hS.sel [] rfl rfl
  refine dq hF rfl (wn rfl) rfl rfl (fun w => R.assign (hF.ev rfl)) fun a hF => ?_
  refine d0 ?_
  refine then_n (hK2 _ _ ?_)
  refine wp_ret (hR _ _ _ _ _ hF (run_results Try.results55 (.t hF rfl (.nil))) ?_)
  exact ⟨_, s, rfl, ⟨rfl, rfl⟩, hS.one (.t .h)⟩
theorem sub_good (F : Fx) (V : Vr) (stk : List Nat) (s : Seg) (vb : Nat) (u : Nat → Nat) (w0 : World) (hRun : RunS F V stk s) (ho : Own w0 s) (hv : RdK w0 (s.map (·.1)) (some ⟨vb, 0, none⟩) (vc u)) (hvM : ∀ i, u i < 115792089237316195423570985008687907853269984665640564039457584007913129639936) (hl : stk.length ≤ 64) (h : (u 1 ≤ u 0)) : Ret Try.prog 56 [.pointer (some ⟨F.rb, 0, none⟩), .slice (some ⟨vb, 0, none⟩) 2 3] w0 (s.map (·.1)) (fun v s' => v = .int .i64 0 ∧ RunS F V (stk ++ [u 0 - u 1]) s') := by
  refine fn_start Try.func56 rfl Try.ntmps56 rfl [(0, .pointer (some ⟨F.rb, 0, none⟩)), (1, .slice (some ⟨vb, 0, none⟩) 2 3)] ⟨rfl, rfl, trivial⟩ ?_
  intro Q a hP hF hR hN
  have hS := St.enter ho
  refine wp_seq_k fun K1 hK1 => ?_
  refine wp_region_lit ?_
  refine sv' hF (wn rfl) rfl rfl (R.assign (hF.ev rfl)) fun a hF => ?_
  refine s0 ?_
  refine then_n (hK1 _ _ ?_)
  refine wp_seq_k fun K2 hK2 => ?_
  refine wp_drawG hS (hS.sel [] rfl rfl) [(0, 0), (1, 0), (2, 0), (3, 1), (4, 0), (5, 0), (6, 1), (7, 2), (8, 0), (9, 0), (10, 2), (11, 0)] mix (by kernel_rfl) (hP.then) fun w hS hD => ?_
  refine dq hF rfl (wn rfl) rfl rfl (fun w => R.move (hF.ev rfl)) fun a hF => ?_
  refine dq hF rfl (wn rfl) rfl rfl (fun w => R.move (hF.ev rfl)) fun a hF => ?_
  refine dq hF rfl (wn rfl) rfl rfl (fun w => R.indexO Try.underlying32 sz31 (hF.ev rfl) (by simp) (hF.ev rfl) (by omega) (by omega)) fun a hF => ?_
  refine dr hF rfl (wn rfl) rfl rfl hD (fun w hD => R.loadAO (cs := wc (u 0)) agg31 (hF.ev rfl) (hv.old hD) sz31 rfl (Nat.succ_pos _) (v0_at rfl)) fun a hF => ?_
  refine dq hF rfl (wn rfl) rfl rfl (fun w => R.move (hF.ev rfl)) fun a hF => ?_
  refine dq hF rfl (wn rfl) rfl rfl (fun w => R.indexO Try.underlying32 sz31 (hF.ev rfl) (by simp) (hF.ev rfl) (by omega) (by omega)) fun a hF => ?_
  refine dr hF rfl (wn rfl) rfl rfl hD (fun w hD => R.loadAO (cs := wc (u 1)) agg31 (hF.ev rfl) (hv.old hD) sz31 rfl (Nat.succ_pos _) (v1_at rfl)) fun a hF => ?_
  refine dl rfl (wn rfl) (O.call rfl rfl hF ent82 (hF.evs rfl) hS (sub_calls (u 0) (u 1) _ (hvM 0) (hvM 1)) fun v s12 a w hR hF hS => ⟨fun hD => hS.sel [] rfl rfl, ?_⟩)
  obtain ⟨rfl, rfl⟩ := hR
  have hD := hS.sel [] rfl rfl
  rw [show subW (u 0) (u 1) = .tuple #[wv (u 0 - u 1), .int .i64 0] from by simp only [subW, if_pos h]] at hF
  refine dq hF rfl (wn rfl) rfl rfl (fun w => R.extract (hF.ev rfl) rfl) fun a hF => ?_
  refine dq hF rfl (wn rfl) rfl rfl (fun w => R.extract (hF.ev rfl) rfl) fun a hF => ?_
  refine dl rfl (wn rfl) (O.callK rfl rfl hF ent80 (hF.evs rfl) hS (reckoned_good F V stk _ (u 0 - u 1) _ hRun (hS.own1 (.t .h)) (by have := hvM 0; have := hvM 1; first | omega | exact Nat.lt_of_le_of_lt (Nat.div_le_self _ _) (hvM 0) | exact Nat.lt_of_le_of_lt (Nat.mod_le _ _) (hvM 0)) hl) (fun _ => (.t .h)) fun v s15 a w hR hF hS => ⟨fun hD => hS.sel [] rfl rfl, ?_⟩)
  obtain ⟨rfl, hRun2⟩ := hR
  have hD := hS.sel [] rfl rfl
  refine dq hF rfl (wn rfl) rfl rfl (fun w => R.assign (hF.ev rfl)) fun a hF => ?_
  refine d0 ?_
  refine then_n (hK2 _ _ ?_)
  refine wp_ret (hR _ _ _ _ _ hF (run_results Try.results56 (.t hF rfl (.nil))) ?_)
  exact ⟨_, s15, rfl, ⟨rfl, hRun2⟩, hS.one (.t .h)⟩
theorem sub_bad (F : Fx) (V : Vr) (stk : List Nat) (s : Seg) (vb : Nat) (u : Nat → Nat) (w0 : World) (hRun : RunS F V stk s) (ho : Own w0 s) (hv : RdK w0 (s.map (·.1)) (some ⟨vb, 0, none⟩) (vc u)) (hvM : ∀ i, u i < 115792089237316195423570985008687907853269984665640564039457584007913129639936) (hl : stk.length ≤ 64) (h : ¬ (u 1 ≤ u 0)) : Ret Try.prog 56 [.pointer (some ⟨F.rb, 0, none⟩), .slice (some ⟨vb, 0, none⟩) 2 3] w0 (s.map (·.1)) (fun v s' => v = .int .i64 104 ∧ s' = s) := by
  refine fn_start Try.func56 rfl Try.ntmps56 rfl [(0, .pointer (some ⟨F.rb, 0, none⟩)), (1, .slice (some ⟨vb, 0, none⟩) 2 3)] ⟨rfl, rfl, trivial⟩ ?_
  intro Q a hP hF hR hN
  have hS := St.enter ho
  refine wp_seq_k fun K1 hK1 => ?_
  refine wp_region_lit ?_
  refine sv' hF (wn rfl) rfl rfl (R.assign (hF.ev rfl)) fun a hF => ?_
  refine s0 ?_
  refine then_n (hK1 _ _ ?_)
  refine wp_seq_k fun K2 hK2 => ?_
  refine wp_drawG hS (hS.sel [] rfl rfl) [(0, 0), (1, 0), (2, 0), (3, 1), (4, 0), (5, 0), (6, 1), (7, 2), (8, 0), (9, 0), (10, 2), (11, 0)] mix (by kernel_rfl) (hP.then) fun w hS hD => ?_
  refine dq hF rfl (wn rfl) rfl rfl (fun w => R.move (hF.ev rfl)) fun a hF => ?_
  refine dq hF rfl (wn rfl) rfl rfl (fun w => R.move (hF.ev rfl)) fun a hF => ?_
  refine dq hF rfl (wn rfl) rfl rfl (fun w => R.indexO Try.underlying32 sz31 (hF.ev rfl) (by simp) (hF.ev rfl) (by omega) (by omega)) fun a hF => ?_
  refine dr hF rfl (wn rfl) rfl rfl hD (fun w hD => R.loadAO (cs := wc (u 0)) agg31 (hF.ev rfl) (hv.old hD) sz31 rfl (Nat.succ_pos _) (v0_at rfl)) fun a hF => ?_
  refine dq hF rfl (wn rfl) rfl rfl (fun w => R.move (hF.ev rfl)) fun a hF => ?_
  refine dq hF rfl (wn rfl) rfl rfl (fun w => R.indexO Try.underlying32 sz31 (hF.ev rfl) (by simp) (hF.ev rfl) (by omega) (by omega)) fun a hF => ?_
  refine dr hF rfl (wn rfl) rfl rfl hD (fun w hD => R.loadAO (cs := wc (u 1)) agg31 (hF.ev rfl) (hv.old hD) sz31 rfl (Nat.succ_pos _) (v1_at rfl)) fun a hF => ?_
  refine dl rfl (wn rfl) (O.call rfl rfl hF ent82 (hF.evs rfl) hS (sub_calls (u 0) (u 1) _ (hvM 0) (hvM 1)) fun v s12 a w hR hF hS => ⟨fun hD => hS.sel [] rfl rfl, ?_⟩)
  obtain ⟨rfl, rfl⟩ := hR
  have hD := hS.sel [] rfl rfl
  rw [show subW (u 0) (u 1) = .tuple #[wv (0), .int .i64 23] from by simp only [subW, if_neg h]] at hF
  refine dq hF rfl (wn rfl) rfl rfl (fun w => R.extract (hF.ev rfl) rfl) fun a hF => ?_
  refine dq hF rfl (wn rfl) rfl rfl (fun w => R.extract (hF.ev rfl) rfl) fun a hF => ?_
  refine dl rfl (wn rfl) (O.callK rfl rfl hF ent80 (hF.evs rfl) hS (reckoned_bad F _ (0) _ _ (hS.own1 (.t .h)) (by decide)) (fun _ => (.t .h)) fun v s15 a w hR hF hS => ⟨fun hD => hS.sel [] rfl rfl, ?_⟩)
  obtain ⟨rfl, he⟩ := hR
  rw [he] at hS
  have hD := hS.sel [] rfl rfl
  refine dq hF rfl (wn rfl) rfl rfl (fun w => R.assign (hF.ev rfl)) fun a hF => ?_
  refine d0 ?_
  refine then_n (hK2 _ _ ?_)
  refine wp_ret (hR _ _ _ _ _ hF (run_results Try.results56 (.t hF rfl (.nil))) ?_)
  exact ⟨_, s, rfl, ⟨rfl, rfl⟩, hS.one (.t .h)⟩
theorem mul_good (F : Fx) (V : Vr) (stk : List Nat) (s : Seg) (vb : Nat) (u : Nat → Nat) (w0 : World) (hRun : RunS F V stk s) (ho : Own w0 s) (hv : RdK w0 (s.map (·.1)) (some ⟨vb, 0, none⟩) (vc u)) (hvM : ∀ i, u i < 115792089237316195423570985008687907853269984665640564039457584007913129639936) (hl : stk.length ≤ 64) (h : (u 0 * u 1 < 115792089237316195423570985008687907853269984665640564039457584007913129639936)) : Ret Try.prog 57 [.pointer (some ⟨F.rb, 0, none⟩), .slice (some ⟨vb, 0, none⟩) 2 3] w0 (s.map (·.1)) (fun v s' => v = .int .i64 0 ∧ RunS F V (stk ++ [u 0 * u 1]) s') := by
  refine fn_start Try.func57 rfl Try.ntmps57 rfl [(0, .pointer (some ⟨F.rb, 0, none⟩)), (1, .slice (some ⟨vb, 0, none⟩) 2 3)] ⟨rfl, rfl, trivial⟩ ?_
  intro Q a hP hF hR hN
  have hS := St.enter ho
  refine wp_seq_k fun K1 hK1 => ?_
  refine wp_region_lit ?_
  refine sv' hF (wn rfl) rfl rfl (R.assign (hF.ev rfl)) fun a hF => ?_
  refine s0 ?_
  refine then_n (hK1 _ _ ?_)
  refine wp_seq_k fun K2 hK2 => ?_
  refine wp_drawG hS (hS.sel [] rfl rfl) [(0, 0), (1, 0), (2, 0), (3, 1), (4, 0), (5, 0), (6, 1), (7, 2), (8, 0), (9, 0), (10, 2), (11, 0)] mix (by kernel_rfl) (hP.then) fun w hS hD => ?_
  refine dq hF rfl (wn rfl) rfl rfl (fun w => R.move (hF.ev rfl)) fun a hF => ?_
  refine dq hF rfl (wn rfl) rfl rfl (fun w => R.move (hF.ev rfl)) fun a hF => ?_
  refine dq hF rfl (wn rfl) rfl rfl (fun w => R.indexO Try.underlying32 sz31 (hF.ev rfl) (by simp) (hF.ev rfl) (by omega) (by omega)) fun a hF => ?_
  refine dr hF rfl (wn rfl) rfl rfl hD (fun w hD => R.loadAO (cs := wc (u 0)) agg31 (hF.ev rfl) (hv.old hD) sz31 rfl (Nat.succ_pos _) (v0_at rfl)) fun a hF => ?_
  refine dq hF rfl (wn rfl) rfl rfl (fun w => R.move (hF.ev rfl)) fun a hF => ?_
  refine dq hF rfl (wn rfl) rfl rfl (fun w => R.indexO Try.underlying32 sz31 (hF.ev rfl) (by simp) (hF.ev rfl) (by omega) (by omega)) fun a hF => ?_
  refine dr hF rfl (wn rfl) rfl rfl hD (fun w hD => R.loadAO (cs := wc (u 1)) agg31 (hF.ev rfl) (hv.old hD) sz31 rfl (Nat.succ_pos _) (v1_at rfl)) fun a hF => ?_
  refine dl rfl (wn rfl) (O.call rfl rfl hF ent83 (hF.evs rfl) hS (mul_calls (u 0) (u 1) _ (hvM 0) (hvM 1)) fun v s12 a w hR hF hS => ⟨fun hD => hS.sel [] rfl rfl, ?_⟩)
  obtain ⟨rfl, rfl⟩ := hR
  have hD := hS.sel [] rfl rfl
  rw [show mulW (u 0) (u 1) = .tuple #[wv (u 0 * u 1), .int .i64 0] from by simp only [mulW, if_pos h]] at hF
  refine dq hF rfl (wn rfl) rfl rfl (fun w => R.extract (hF.ev rfl) rfl) fun a hF => ?_
  refine dq hF rfl (wn rfl) rfl rfl (fun w => R.extract (hF.ev rfl) rfl) fun a hF => ?_
  refine dl rfl (wn rfl) (O.callK rfl rfl hF ent80 (hF.evs rfl) hS (reckoned_good F V stk _ (u 0 * u 1) _ hRun (hS.own1 (.t .h)) (by have := hvM 0; have := hvM 1; first | omega | exact Nat.lt_of_le_of_lt (Nat.div_le_self _ _) (hvM 0) | exact Nat.lt_of_le_of_lt (Nat.mod_le _ _) (hvM 0)) hl) (fun _ => (.t .h)) fun v s15 a w hR hF hS => ⟨fun hD => hS.sel [] rfl rfl, ?_⟩)
  obtain ⟨rfl, hRun2⟩ := hR
  have hD := hS.sel [] rfl rfl
  refine dq hF rfl (wn rfl) rfl rfl (fun w => R.assign (hF.ev rfl)) fun a hF => ?_
  refine d0 ?_
  refine then_n (hK2 _ _ ?_)
  refine wp_ret (hR _ _ _ _ _ hF (run_results Try.results57 (.t hF rfl (.nil))) ?_)
  exact ⟨_, s15, rfl, ⟨rfl, hRun2⟩, hS.one (.t .h)⟩
theorem mul_bad (F : Fx) (V : Vr) (stk : List Nat) (s : Seg) (vb : Nat) (u : Nat → Nat) (w0 : World) (hRun : RunS F V stk s) (ho : Own w0 s) (hv : RdK w0 (s.map (·.1)) (some ⟨vb, 0, none⟩) (vc u)) (hvM : ∀ i, u i < 115792089237316195423570985008687907853269984665640564039457584007913129639936) (hl : stk.length ≤ 64) (h : ¬ (u 0 * u 1 < 115792089237316195423570985008687907853269984665640564039457584007913129639936)) : Ret Try.prog 57 [.pointer (some ⟨F.rb, 0, none⟩), .slice (some ⟨vb, 0, none⟩) 2 3] w0 (s.map (·.1)) (fun v s' => v = .int .i64 104 ∧ s' = s) := by
  refine fn_start Try.func57 rfl Try.ntmps57 rfl [(0, .pointer (some ⟨F.rb, 0, none⟩)), (1, .slice (some ⟨vb, 0, none⟩) 2 3)] ⟨rfl, rfl, trivial⟩ ?_
  intro Q a hP hF hR hN
  have hS := St.enter ho
  refine wp_seq_k fun K1 hK1 => ?_
  refine wp_region_lit ?_
  refine sv' hF (wn rfl) rfl rfl (R.assign (hF.ev rfl)) fun a hF => ?_
  refine s0 ?_
  refine then_n (hK1 _ _ ?_)
  refine wp_seq_k fun K2 hK2 => ?_
  refine wp_drawG hS (hS.sel [] rfl rfl) [(0, 0), (1, 0), (2, 0), (3, 1), (4, 0), (5, 0), (6, 1), (7, 2), (8, 0), (9, 0), (10, 2), (11, 0)] mix (by kernel_rfl) (hP.then) fun w hS hD => ?_
  refine dq hF rfl (wn rfl) rfl rfl (fun w => R.move (hF.ev rfl)) fun a hF => ?_
  refine dq hF rfl (wn rfl) rfl rfl (fun w => R.move (hF.ev rfl)) fun a hF => ?_
  refine dq hF rfl (wn rfl) rfl rfl (fun w => R.indexO Try.underlying32 sz31 (hF.ev rfl) (by simp) (hF.ev rfl) (by omega) (by omega)) fun a hF => ?_
  refine dr hF rfl (wn rfl) rfl rfl hD (fun w hD => R.loadAO (cs := wc (u 0)) agg31 (hF.ev rfl) (hv.old hD) sz31 rfl (Nat.succ_pos _) (v0_at rfl)) fun a hF => ?_
  refine dq hF rfl (wn rfl) rfl rfl (fun w => R.move (hF.ev rfl)) fun a hF => ?_
  refine dq hF rfl (wn rfl) rfl rfl (fun w => R.indexO Try.underlying32 sz31 (hF.ev rfl) (by simp) (hF.ev rfl) (by omega) (by omega)) fun a hF => ?_
  refine dr hF rfl (wn rfl) rfl rfl hD (fun w hD => R.loadAO (cs := wc (u 1)) agg31 (hF.ev rfl) (hv.old hD) sz31 rfl (Nat.succ_pos _) (v1_at rfl)) fun a hF => ?_
  refine dl rfl (wn rfl) (O.call rfl rfl hF ent83 (hF.evs rfl) hS (mul_calls (u 0) (u 1) _ (hvM 0) (hvM 1)) fun v s12 a w hR hF hS => ⟨fun hD => hS.sel [] rfl rfl, ?_⟩)
  obtain ⟨rfl, rfl⟩ := hR
  have hD := hS.sel [] rfl rfl
  rw [show mulW (u 0) (u 1) = .tuple #[wv (0), .int .i64 22] from by simp only [mulW, if_neg h]] at hF
  refine dq hF rfl (wn rfl) rfl rfl (fun w => R.extract (hF.ev rfl) rfl) fun a hF => ?_
  refine dq hF rfl (wn rfl) rfl rfl (fun w => R.extract (hF.ev rfl) rfl) fun a hF => ?_
  refine dl rfl (wn rfl) (O.callK rfl rfl hF ent80 (hF.evs rfl) hS (reckoned_bad F _ (0) _ _ (hS.own1 (.t .h)) (by decide)) (fun _ => (.t .h)) fun v s15 a w hR hF hS => ⟨fun hD => hS.sel [] rfl rfl, ?_⟩)
  obtain ⟨rfl, he⟩ := hR
  rw [he] at hS
  have hD := hS.sel [] rfl rfl
  refine dq hF rfl (wn rfl) rfl rfl (fun w => R.assign (hF.ev rfl)) fun a hF => ?_
  refine d0 ?_
  refine then_n (hK2 _ _ ?_)
  refine wp_ret (hR _ _ _ _ _ hF (run_results Try.results57 (.t hF rfl (.nil))) ?_)
  exact ⟨_, s, rfl, ⟨rfl, rfl⟩, hS.one (.t .h)⟩
set_option maxHeartbeats 4000000 in
theorem div_good (F : Fx) (V : Vr) (stk : List Nat) (s : Seg) (vb : Nat) (u : Nat → Nat) (w0 : World) (hRun : RunS F V stk s) (ho : Own w0 s) (hv : RdK w0 (s.map (·.1)) (some ⟨vb, 0, none⟩) (vc u)) (hvM : ∀ i, u i < 115792089237316195423570985008687907853269984665640564039457584007913129639936) (hl : stk.length ≤ 64) (h : ¬ u 1 = 0) : Ret Try.prog 58 [.pointer (some ⟨F.rb, 0, none⟩), .slice (some ⟨vb, 0, none⟩) 2 3] w0 (s.map (·.1)) (fun v s' => v = .int .i64 0 ∧ RunS F V (stk ++ [u 0 / u 1]) s') := by
  refine fn_start Try.func58 rfl Try.ntmps58 rfl [(0, .pointer (some ⟨F.rb, 0, none⟩)), (1, .slice (some ⟨vb, 0, none⟩) 2 3)] ⟨rfl, rfl, trivial⟩ ?_
  intro Q a hP hF hR hN
  have hS := St.enter ho
  refine wp_seq_k fun K1 hK1 => ?_
  refine wp_region_lit ?_
  refine sv' hF (wn rfl) rfl rfl (R.assign (hF.ev rfl)) fun a hF => ?_
  refine s0 ?_
  refine then_n (hK1 _ _ ?_)
  refine wp_seq_k fun K2 hK2 => ?_
  refine wp_drawN hS (hS.sel [] rfl rfl) [(0, 0), (1, 0), (2, 1), (3, 0), (4, 0), (5, 1), (6, 2), (7, 0), (8, 0), (9, 0), (10, 0), (11, 2), (12, 2), (13, 2), (14, 2), (15, 0)] (.node [(0, 0), (1, 0), (2, 1), (3, 0), (4, 0), (5, 1)] (.node [(6, 2), (7, 0), (8, 0), (9, 0), (10, 0)] (.leaf [(11, 2), (12, 2), (13, 2), (14, 2), (15, 0)]) (.leaf [(12, 2), (11, 2), (13, 2), (14, 2), (15, 0)])) (.node [] (.node [(11, 2)] (.leaf [(6, 2), (7, 0), (8, 0), (9, 0), (10, 0), (12, 2), (13, 2), (14, 2), (15, 0)]) (.leaf [(12, 2), (6, 2), (7, 0), (8, 0), (9, 0), (10, 0), (13, 2), (14, 2), (15, 0)])) (.node [(12, 2)] (.leaf [(6, 2), (7, 0), (8, 0), (9, 0), (10, 0), (11, 2), (13, 2), (14, 2), (15, 0)]) (.leaf [(11, 2), (6, 2), (7, 0), (8, 0), (9, 0), (10, 0), (13, 2), (14, 2), (15, 0)])))) mix (by kernel_rfl) (hP.then) fun w hS hD => ?_
  refine dq hF rfl (wn rfl) rfl rfl (fun w => R.move (hF.ev rfl)) fun a hF => ?_
  refine dq hF rfl (wn rfl) rfl rfl (fun w => R.indexO Try.underlying32 sz31 (hF.ev rfl) (by simp) (hF.ev rfl) (by omega) (by omega)) fun a hF => ?_
  refine dr hF rfl (wn rfl) rfl rfl hD (fun w hD => R.loadAO (cs := wc (u 0)) agg31 (hF.ev rfl) (hv.old hD) sz31 rfl (Nat.succ_pos _) (v0_at rfl)) fun a hF => ?_
  refine dq hF rfl (wn rfl) rfl rfl (fun w => R.move (hF.ev rfl)) fun a hF => ?_
  refine dq hF rfl (wn rfl) rfl rfl (fun w => R.indexO Try.underlying32 sz31 (hF.ev rfl) (by simp) (hF.ev rfl) (by omega) (by omega)) fun a hF => ?_
  refine dr hF rfl (wn rfl) rfl rfl hD (fun w hD => R.loadAO (cs := wc (u 1)) agg31 (hF.ev rfl) (hv.old hD) sz31 rfl (Nat.succ_pos _) (v1_at rfl)) fun a hF => ?_
  refine d0 ?_
  refine ⟨?_, nd0 ⟨?_, ?_⟩⟩
  ·
    refine dl rfl (wn rfl) (O.call rfl rfl hF ent84 (hF.evs rfl) hS (div_calls (u 0) (u 1) _ (hvM 0) (hvM 1)) fun v s15 a w hR hF hS => ⟨fun hD => hS.sel [] rfl rfl, ?_⟩)
    obtain ⟨rfl, rfl⟩ := hR
    have hD := hS.sel [] rfl rfl
    rw [show divW (u 0) (u 1) = .tuple #[wv (u 0 / u 1), wv (u 0 % u 1), .int .i64 0] from by simp only [divW, if_neg h]] at hF
    refine dq hF rfl (wn rfl) rfl rfl (fun w => R.move (hF.ev rfl)) fun a hF => ?_
    refine dq hF rfl (wn rfl) rfl rfl (fun w => R.extract (hF.ev rfl) rfl) fun a hF => ?_
    refine dq hF rfl (wn rfl) rfl rfl (fun w => R.extract (hF.ev rfl) rfl) fun a hF => ?_
    refine dq hF rfl (wn rfl) rfl rfl (fun w => R.extract (hF.ev rfl) rfl) fun a hF => ?_
    refine d0 ?_
    refine ⟨?_, ?_⟩
    ·
      refine dl rfl (wn rfl) (O.alloc rfl rfl hF ze31 rfl hS fun b5 a w hF hS => ⟨fun hD => hS.sel [] rfl rfl, ?_⟩)
      have hD := hS.sel [] rfl rfl
      refine dl rfl (wn rfl) (O.alloc rfl rfl hF ze31 rfl hS fun b6 a w hF hS => ⟨fun hD => hS.sel [] rfl rfl, ?_⟩)
      have hD := hS.sel [] rfl rfl
      refine dl rfl (wn rfl) (O.storeW sz31 (hF.ev rfl) (hF.ev rfl) (rfl) rfl (by simp [Value.oneCell']) hS (.t .h) (rfl) fun w hS => ⟨fun hD => hS.sel [] rfl rfl, ?_⟩)
      have hD := hS.sel [] rfl rfl
      refine dl rfl (wn rfl) (O.storeW sz31 (hF.ev rfl) (hF.ev rfl) (rfl) rfl (by simp [Value.oneCell']) hS .h (rfl) fun w hS => ⟨fun hD => hS.sel [] rfl rfl, ?_⟩)
      have hD := hS.sel [] rfl rfl
      refine dq hF rfl (wn rfl) rfl rfl (fun w => R.assign (hF.ev rfl)) fun a hF => ?_
      refine d0 ?_
      refine then_n (hK2 _ _ ?_)
      refine wp_seq_k fun K3 hK3 => ?_
      refine wp_region_lit ?_
      refine sv' hF (wn rfl) rfl rfl (R.move (hF.ev rfl)) fun a hF => ?_
      refine sv' hF (wn rfl) rfl rfl (R.loadW agg31 (hF.ev rfl) hS (.t .h) sz31 (rfl)) fun a hF => ?_
      refine sv' hF (wn rfl) rfl rfl (R.move (hF.ev rfl)) fun a hF => ?_
      refine so (wn rfl) (O.callK rfl rfl hF ent80 (hF.evs rfl) hS (reckoned_good F V stk _ (u 0 / u 1) _ hRun (hS.own1 (.t (.t (.t .h)))) (by have := hvM 0; have := hvM 1; first | omega | exact Nat.lt_of_le_of_lt (Nat.div_le_self _ _) (hvM 0) | exact Nat.lt_of_le_of_lt (Nat.mod_le _ _) (hvM 0)) hl) (fun _ => (.t (.t (.t .h)))) fun v s22 a w hR hF hS => ?_)
      obtain ⟨rfl, hRun2⟩ := hR
      refine sv' hF (wn rfl) rfl rfl (R.assign (hF.ev rfl)) fun a hF => ?_
      refine s0 ?_
      refine then_n (hK3 _ _ ?_)
      refine wp_ret (hR _ _ _ _ _ hF (run_results Try.results58 (.t hF rfl (.nil))) ?_)
      exact ⟨_, s22, rfl, ⟨rfl, hRun2⟩, hS.one (.t (.t (.t .h)))⟩
    ·
      refine dl rfl (wn rfl) (O.alloc rfl rfl hF ze31 rfl hS fun b6 a w hF hS => ⟨fun hD => hS.sel [] rfl rfl, ?_⟩)
      have hD := hS.sel [] rfl rfl
      refine dl rfl (wn rfl) (O.alloc rfl rfl hF ze31 rfl hS fun b5 a w hF hS => ⟨fun hD => hS.sel [] rfl rfl, ?_⟩)
      have hD := hS.sel [] rfl rfl
      refine dl rfl (wn rfl) (O.storeW sz31 (hF.ev rfl) (hF.ev rfl) (rfl) rfl (by simp [Value.oneCell']) hS .h (rfl) fun w hS => ⟨fun hD => hS.sel [] rfl rfl, ?_⟩)
      have hD := hS.sel [] rfl rfl
      refine dl rfl (wn rfl) (O.storeW sz31 (hF.ev rfl) (hF.ev rfl) (rfl) rfl (by simp [Value.oneCell']) hS (.t .h) (rfl) fun w hS => ⟨fun hD => hS.sel [] rfl rfl, ?_⟩)
      have hD := hS.sel [] rfl rfl
      refine dq hF rfl (wn rfl) rfl rfl (fun w => R.assign (hF.ev rfl)) fun a hF => ?_
      refine d0 ?_
      refine then_n (hK2 _ _ ?_)
      refine wp_seq_k fun K4 hK4 => ?_
      refine wp_region_lit ?_
      refine sv' hF (wn rfl) rfl rfl (R.move (hF.ev rfl)) fun a hF => ?_
      refine sv' hF (wn rfl) rfl rfl (R.loadW agg31 (hF.ev rfl) hS .h sz31 (rfl)) fun a hF => ?_
      refine sv' hF (wn rfl) rfl rfl (R.move (hF.ev rfl)) fun a hF => ?_
      refine so (wn rfl) (O.callK rfl rfl hF ent80 (hF.evs rfl) hS (reckoned_good F V stk _ (u 0 / u 1) _ hRun (hS.own1 (.t (.t (.t .h)))) (by have := hvM 0; have := hvM 1; first | omega | exact Nat.lt_of_le_of_lt (Nat.div_le_self _ _) (hvM 0) | exact Nat.lt_of_le_of_lt (Nat.mod_le _ _) (hvM 0)) hl) (fun _ => (.t (.t (.t .h)))) fun v s22 a w hR hF hS => ?_)
      obtain ⟨rfl, hRun2⟩ := hR
      refine sv' hF (wn rfl) rfl rfl (R.assign (hF.ev rfl)) fun a hF => ?_
      refine s0 ?_
      refine then_n (hK4 _ _ ?_)
      refine wp_ret (hR _ _ _ _ _ hF (run_results Try.results58 (.t hF rfl (.nil))) ?_)
      exact ⟨_, s22, rfl, ⟨rfl, hRun2⟩, hS.one (.t (.t (.t .h)))⟩
  ·
    refine dl rfl (wn rfl) (O.alloc rfl rfl hF ze31 rfl hS fun b5 a w hF hS => ⟨fun hD => hS.sel [] rfl rfl, ?_⟩)
    have hD := hS.sel [] rfl rfl
    refine d0 ?_
    refine ⟨?_, ?_⟩
    ·
      refine dl rfl (wn rfl) (O.call rfl rfl hF ent84 (hF.evs rfl) hS (div_calls (u 0) (u 1) _ (hvM 0) (hvM 1)) fun v s15 a w hR hF hS => ⟨fun hD => hS.sel [] rfl rfl, ?_⟩)
      obtain ⟨rfl, rfl⟩ := hR
      have hD := hS.sel [] rfl rfl
      rw [show divW (u 0) (u 1) = .tuple #[wv (u 0 / u 1), wv (u 0 % u 1), .int .i64 0] from by simp only [divW, if_neg h]] at hF
      refine dq hF rfl (wn rfl) rfl rfl (fun w => R.move (hF.ev rfl)) fun a hF => ?_
      refine dq hF rfl (wn rfl) rfl rfl (fun w => R.extract (hF.ev rfl) rfl) fun a hF => ?_
      refine dq hF rfl (wn rfl) rfl rfl (fun w => R.extract (hF.ev rfl) rfl) fun a hF => ?_
      refine dq hF rfl (wn rfl) rfl rfl (fun w => R.extract (hF.ev rfl) rfl) fun a hF => ?_
      refine dl rfl (wn rfl) (O.alloc rfl rfl hF ze31 rfl hS fun b6 a w hF hS => ⟨fun hD => hS.sel [] rfl rfl, ?_⟩)
      have hD := hS.sel [] rfl rfl
      refine dl rfl (wn rfl) (O.storeW sz31 (hF.ev rfl) (hF.ev rfl) (rfl) rfl (by simp [Value.oneCell']) hS (.t (.t .h)) (rfl) fun w hS => ⟨fun hD => hS.sel [] rfl rfl, ?_⟩)
      have hD := hS.sel [] rfl rfl
      refine dl rfl (wn rfl) (O.storeW sz31 (hF.ev rfl) (hF.ev rfl) (rfl) rfl (by simp [Value.oneCell']) hS .h (rfl) fun w hS => ⟨fun hD => hS.sel [] rfl rfl, ?_⟩)
      have hD := hS.sel [] rfl rfl
      refine dq hF rfl (wn rfl) rfl rfl (fun w => R.assign (hF.ev rfl)) fun a hF => ?_
      refine d0 ?_
      refine then_n (hK2 _ _ ?_)
      refine wp_seq_k fun K5 hK5 => ?_
      refine wp_region_lit ?_
      refine sv' hF (wn rfl) rfl rfl (R.move (hF.ev rfl)) fun a hF => ?_
      refine sv' hF (wn rfl) rfl rfl (R.loadW agg31 (hF.ev rfl) hS (.t (.t .h)) sz31 (rfl)) fun a hF => ?_
      refine sv' hF (wn rfl) rfl rfl (R.move (hF.ev rfl)) fun a hF => ?_
      refine so (wn rfl) (O.callK rfl rfl hF ent80 (hF.evs rfl) hS (reckoned_good F V stk _ (u 0 / u 1) _ hRun (hS.own1 (.t (.t (.t .h)))) (by have := hvM 0; have := hvM 1; first | omega | exact Nat.lt_of_le_of_lt (Nat.div_le_self _ _) (hvM 0) | exact Nat.lt_of_le_of_lt (Nat.mod_le _ _) (hvM 0)) hl) (fun _ => (.t (.t (.t .h)))) fun v s22 a w hR hF hS => ?_)
      obtain ⟨rfl, hRun2⟩ := hR
      refine sv' hF (wn rfl) rfl rfl (R.assign (hF.ev rfl)) fun a hF => ?_
      refine s0 ?_
      refine then_n (hK5 _ _ ?_)
      refine wp_ret (hR _ _ _ _ _ hF (run_results Try.results58 (.t hF rfl (.nil))) ?_)
      exact ⟨_, s22, rfl, ⟨rfl, hRun2⟩, hS.one (.t (.t (.t .h)))⟩
    ·
      refine dl rfl (wn rfl) (O.alloc rfl rfl hF ze31 rfl hS fun b6 a w hF hS => ⟨fun hD => hS.sel [] rfl rfl, ?_⟩)
      have hD := hS.sel [] rfl rfl
      refine dl rfl (wn rfl) (O.call rfl rfl hF ent84 (hF.evs rfl) hS (div_calls (u 0) (u 1) _ (hvM 0) (hvM 1)) fun v s15 a w hR hF hS => ⟨fun hD => hS.sel [] rfl rfl, ?_⟩)
      obtain ⟨rfl, rfl⟩ := hR
      have hD := hS.sel [] rfl rfl
      rw [show divW (u 0) (u 1) = .tuple #[wv (u 0 / u 1), wv (u 0 % u 1), .int .i64 0] from by simp only [divW, if_neg h]] at hF
      refine dq hF rfl (wn rfl) rfl rfl (fun w => R.move (hF.ev rfl)) fun a hF => ?_
      refine dq hF rfl (wn rfl) rfl rfl (fun w => R.extract (hF.ev rfl) rfl) fun a hF => ?_
      refine dq hF rfl (wn rfl) rfl rfl (fun w => R.extract (hF.ev rfl) rfl) fun a hF => ?_
      refine dq hF rfl (wn rfl) rfl rfl (fun w => R.extract (hF.ev rfl) rfl) fun a hF => ?_
      refine dl rfl (wn rfl) (O.storeW sz31 (hF.ev rfl) (hF.ev rfl) (rfl) rfl (by simp [Value.oneCell']) hS (.t (.t .h)) (rfl) fun w hS => ⟨fun hD => hS.sel [] rfl rfl, ?_⟩)
      have hD := hS.sel [] rfl rfl
      refine dl rfl (wn rfl) (O.storeW sz31 (hF.ev rfl) (hF.ev rfl) (rfl) rfl (by simp [Value.oneCell']) hS (.t .h) (rfl) fun w hS => ⟨fun hD => hS.sel [] rfl rfl, ?_⟩)
      have hD := hS.sel [] rfl rfl
      refine dq hF rfl (wn rfl) rfl rfl (fun w => R.assign (hF.ev rfl)) fun a hF => ?_
      refine d0 ?_
      refine then_n (hK2 _ _ ?_)
      refine wp_seq_k fun K6 hK6 => ?_
      refine wp_region_lit ?_
      refine sv' hF (wn rfl) rfl rfl (R.move (hF.ev rfl)) fun a hF => ?_
      refine sv' hF (wn rfl) rfl rfl (R.loadW agg31 (hF.ev rfl) hS (.t (.t .h)) sz31 (rfl)) fun a hF => ?_
      refine sv' hF (wn rfl) rfl rfl (R.move (hF.ev rfl)) fun a hF => ?_
      refine so (wn rfl) (O.callK rfl rfl hF ent80 (hF.evs rfl) hS (reckoned_good F V stk _ (u 0 / u 1) _ hRun (hS.own1 (.t (.t (.t .h)))) (by have := hvM 0; have := hvM 1; first | omega | exact Nat.lt_of_le_of_lt (Nat.div_le_self _ _) (hvM 0) | exact Nat.lt_of_le_of_lt (Nat.mod_le _ _) (hvM 0)) hl) (fun _ => (.t (.t (.t .h)))) fun v s22 a w hR hF hS => ?_)
      obtain ⟨rfl, hRun2⟩ := hR
      refine sv' hF (wn rfl) rfl rfl (R.assign (hF.ev rfl)) fun a hF => ?_
      refine s0 ?_
      refine then_n (hK6 _ _ ?_)
      refine wp_ret (hR _ _ _ _ _ hF (run_results Try.results58 (.t hF rfl (.nil))) ?_)
      exact ⟨_, s22, rfl, ⟨rfl, hRun2⟩, hS.one (.t (.t (.t .h)))⟩
  ·
    refine dl rfl (wn rfl) (O.alloc rfl rfl hF ze31 rfl hS fun b6 a w hF hS => ⟨fun hD => hS.sel [] rfl rfl, ?_⟩)
    have hD := hS.sel [] rfl rfl
    refine d0 ?_
    refine ⟨?_, ?_⟩
    ·
      refine dl rfl (wn rfl) (O.call rfl rfl hF ent84 (hF.evs rfl) hS (div_calls (u 0) (u 1) _ (hvM 0) (hvM 1)) fun v s15 a w hR hF hS => ⟨fun hD => hS.sel [] rfl rfl, ?_⟩)
      obtain ⟨rfl, rfl⟩ := hR
      have hD := hS.sel [] rfl rfl
      rw [show divW (u 0) (u 1) = .tuple #[wv (u 0 / u 1), wv (u 0 % u 1), .int .i64 0] from by simp only [divW, if_neg h]] at hF
      refine dq hF rfl (wn rfl) rfl rfl (fun w => R.move (hF.ev rfl)) fun a hF => ?_
      refine dq hF rfl (wn rfl) rfl rfl (fun w => R.extract (hF.ev rfl) rfl) fun a hF => ?_
      refine dq hF rfl (wn rfl) rfl rfl (fun w => R.extract (hF.ev rfl) rfl) fun a hF => ?_
      refine dq hF rfl (wn rfl) rfl rfl (fun w => R.extract (hF.ev rfl) rfl) fun a hF => ?_
      refine dl rfl (wn rfl) (O.alloc rfl rfl hF ze31 rfl hS fun b5 a w hF hS => ⟨fun hD => hS.sel [] rfl rfl, ?_⟩)
      have hD := hS.sel [] rfl rfl
      refine dl rfl (wn rfl) (O.storeW sz31 (hF.ev rfl) (hF.ev rfl) (rfl) rfl (by simp [Value.oneCell']) hS .h (rfl) fun w hS => ⟨fun hD => hS.sel [] rfl rfl, ?_⟩)
      have hD := hS.sel [] rfl rfl
      refine dl rfl (wn rfl) (O.storeW sz31 (hF.ev rfl) (hF.ev rfl) (rfl) rfl (by simp [Value.oneCell']) hS (.t (.t .h)) (rfl) fun w hS => ⟨fun hD => hS.sel [] rfl rfl, ?_⟩)
      have hD := hS.sel [] rfl rfl
      refine dq hF rfl (wn rfl) rfl rfl (fun w => R.assign (hF.ev rfl)) fun a hF => ?_
      refine d0 ?_
      refine then_n (hK2 _ _ ?_)
      refine wp_seq_k fun K7 hK7 => ?_
      refine wp_region_lit ?_
      refine sv' hF (wn rfl) rfl rfl (R.move (hF.ev rfl)) fun a hF => ?_
      refine sv' hF (wn rfl) rfl rfl (R.loadW agg31 (hF.ev rfl) hS .h sz31 (rfl)) fun a hF => ?_
      refine sv' hF (wn rfl) rfl rfl (R.move (hF.ev rfl)) fun a hF => ?_
      refine so (wn rfl) (O.callK rfl rfl hF ent80 (hF.evs rfl) hS (reckoned_good F V stk _ (u 0 / u 1) _ hRun (hS.own1 (.t (.t (.t .h)))) (by have := hvM 0; have := hvM 1; first | omega | exact Nat.lt_of_le_of_lt (Nat.div_le_self _ _) (hvM 0) | exact Nat.lt_of_le_of_lt (Nat.mod_le _ _) (hvM 0)) hl) (fun _ => (.t (.t (.t .h)))) fun v s22 a w hR hF hS => ?_)
      obtain ⟨rfl, hRun2⟩ := hR
      refine sv' hF (wn rfl) rfl rfl (R.assign (hF.ev rfl)) fun a hF => ?_
      refine s0 ?_
      refine then_n (hK7 _ _ ?_)
      refine wp_ret (hR _ _ _ _ _ hF (run_results Try.results58 (.t hF rfl (.nil))) ?_)
      exact ⟨_, s22, rfl, ⟨rfl, hRun2⟩, hS.one (.t (.t (.t .h)))⟩
    ·
      refine dl rfl (wn rfl) (O.alloc rfl rfl hF ze31 rfl hS fun b5 a w hF hS => ⟨fun hD => hS.sel [] rfl rfl, ?_⟩)
      have hD := hS.sel [] rfl rfl
      refine dl rfl (wn rfl) (O.call rfl rfl hF ent84 (hF.evs rfl) hS (div_calls (u 0) (u 1) _ (hvM 0) (hvM 1)) fun v s15 a w hR hF hS => ⟨fun hD => hS.sel [] rfl rfl, ?_⟩)
      obtain ⟨rfl, rfl⟩ := hR
      have hD := hS.sel [] rfl rfl
      rw [show divW (u 0) (u 1) = .tuple #[wv (u 0 / u 1), wv (u 0 % u 1), .int .i64 0] from by simp only [divW, if_neg h]] at hF
      refine dq hF rfl (wn rfl) rfl rfl (fun w => R.move (hF.ev rfl)) fun a hF => ?_
      refine dq hF rfl (wn rfl) rfl rfl (fun w => R.extract (hF.ev rfl) rfl) fun a hF => ?_
      refine dq hF rfl (wn rfl) rfl rfl (fun w => R.extract (hF.ev rfl) rfl) fun a hF => ?_
      refine dq hF rfl (wn rfl) rfl rfl (fun w => R.extract (hF.ev rfl) rfl) fun a hF => ?_
      refine dl rfl (wn rfl) (O.storeW sz31 (hF.ev rfl) (hF.ev rfl) (rfl) rfl (by simp [Value.oneCell']) hS (.t .h) (rfl) fun w hS => ⟨fun hD => hS.sel [] rfl rfl, ?_⟩)
      have hD := hS.sel [] rfl rfl
      refine dl rfl (wn rfl) (O.storeW sz31 (hF.ev rfl) (hF.ev rfl) (rfl) rfl (by simp [Value.oneCell']) hS (.t (.t .h)) (rfl) fun w hS => ⟨fun hD => hS.sel [] rfl rfl, ?_⟩)
      have hD := hS.sel [] rfl rfl
      refine dq hF rfl (wn rfl) rfl rfl (fun w => R.assign (hF.ev rfl)) fun a hF => ?_
      refine d0 ?_
      refine then_n (hK2 _ _ ?_)
      refine wp_seq_k fun K8 hK8 => ?_
      refine wp_region_lit ?_
      refine sv' hF (wn rfl) rfl rfl (R.move (hF.ev rfl)) fun a hF => ?_
      refine sv' hF (wn rfl) rfl rfl (R.loadW agg31 (hF.ev rfl) hS (.t .h) sz31 (rfl)) fun a hF => ?_
      refine sv' hF (wn rfl) rfl rfl (R.move (hF.ev rfl)) fun a hF => ?_
      refine so (wn rfl) (O.callK rfl rfl hF ent80 (hF.evs rfl) hS (reckoned_good F V stk _ (u 0 / u 1) _ hRun (hS.own1 (.t (.t (.t .h)))) (by have := hvM 0; have := hvM 1; first | omega | exact Nat.lt_of_le_of_lt (Nat.div_le_self _ _) (hvM 0) | exact Nat.lt_of_le_of_lt (Nat.mod_le _ _) (hvM 0)) hl) (fun _ => (.t (.t (.t .h)))) fun v s22 a w hR hF hS => ?_)
      obtain ⟨rfl, hRun2⟩ := hR
      refine sv' hF (wn rfl) rfl rfl (R.assign (hF.ev rfl)) fun a hF => ?_
      refine s0 ?_
      refine then_n (hK8 _ _ ?_)
      refine wp_ret (hR _ _ _ _ _ hF (run_results Try.results58 (.t hF rfl (.nil))) ?_)
      exact ⟨_, s22, rfl, ⟨rfl, hRun2⟩, hS.one (.t (.t (.t .h)))⟩
set_option maxHeartbeats 4000000 in
theorem div_bad (F : Fx) (V : Vr) (stk : List Nat) (s : Seg) (vb : Nat) (u : Nat → Nat) (w0 : World) (hRun : RunS F V stk s) (ho : Own w0 s) (hv : RdK w0 (s.map (·.1)) (some ⟨vb, 0, none⟩) (vc u)) (hvM : ∀ i, u i < 115792089237316195423570985008687907853269984665640564039457584007913129639936) (hl : stk.length ≤ 64) (h : u 1 = 0) : Ret Try.prog 58 [.pointer (some ⟨F.rb, 0, none⟩), .slice (some ⟨vb, 0, none⟩) 2 3] w0 (s.map (·.1)) (fun v s' => v = .int .i64 104 ∧ s' = s) := by
  refine fn_start Try.func58 rfl Try.ntmps58 rfl [(0, .pointer (some ⟨F.rb, 0, none⟩)), (1, .slice (some ⟨vb, 0, none⟩) 2 3)] ⟨rfl, rfl, trivial⟩ ?_
  intro Q a hP hF hR hN
  have hS := St.enter ho
  refine wp_seq_k fun K1 hK1 => ?_
  refine wp_region_lit ?_
  refine sv' hF (wn rfl) rfl rfl (R.assign (hF.ev rfl)) fun a hF => ?_
  refine s0 ?_
  refine then_n (hK1 _ _ ?_)
  refine wp_seq_k fun K2 hK2 => ?_
  refine wp_drawN hS (hS.sel [] rfl rfl) [(0, 0), (1, 0), (2, 1), (3, 0), (4, 0), (5, 1), (6, 2), (7, 0), (8, 0), (9, 0), (10, 0), (11, 2), (12, 2), (13, 2), (14, 2), (15, 0)] (.node [(0, 0), (1, 0), (2, 1), (3, 0), (4, 0), (5, 1)] (.node [(6, 2), (7, 0), (8, 0), (9, 0), (10, 0)] (.leaf [(11, 2), (12, 2), (13, 2), (14, 2), (15, 0)]) (.leaf [(12, 2), (11, 2), (13, 2), (14, 2), (15, 0)])) (.node [] (.node [(11, 2)] (.leaf [(6, 2), (7, 0), (8, 0), (9, 0), (10, 0), (12, 2), (13, 2), (14, 2), (15, 0)]) (.leaf [(12, 2), (6, 2), (7, 0), (8, 0), (9, 0), (10, 0), (13, 2), (14, 2), (15, 0)])) (.node [(12, 2)] (.leaf [(6, 2), (7, 0), (8, 0), (9, 0), (10, 0), (11, 2), (13, 2), (14, 2), (15, 0)]) (.leaf [(11, 2), (6, 2), (7, 0), (8, 0), (9, 0), (10, 0), (13, 2), (14, 2), (15, 0)])))) mix (by kernel_rfl) (hP.then) fun w hS hD => ?_
  refine dq hF rfl (wn rfl) rfl rfl (fun w => R.move (hF.ev rfl)) fun a hF => ?_
  refine dq hF rfl (wn rfl) rfl rfl (fun w => R.indexO Try.underlying32 sz31 (hF.ev rfl) (by simp) (hF.ev rfl) (by omega) (by omega)) fun a hF => ?_
  refine dr hF rfl (wn rfl) rfl rfl hD (fun w hD => R.loadAO (cs := wc (u 0)) agg31 (hF.ev rfl) (hv.old hD) sz31 rfl (Nat.succ_pos _) (v0_at rfl)) fun a hF => ?_
  refine dq hF rfl (wn rfl) rfl rfl (fun w => R.move (hF.ev rfl)) fun a hF => ?_
  refine dq hF rfl (wn rfl) rfl rfl (fun w => R.indexO Try.underlying32 sz31 (hF.ev rfl) (by simp) (hF.ev rfl) (by omega) (by omega)) fun a hF => ?_
  refine dr hF rfl (wn rfl) rfl rfl hD (fun w hD => R.loadAO (cs := wc (u 1)) agg31 (hF.ev rfl) (hv.old hD) sz31 rfl (Nat.succ_pos _) (v1_at rfl)) fun a hF => ?_
  refine d0 ?_
  refine ⟨?_, nd0 ⟨?_, ?_⟩⟩
  ·
    refine dl rfl (wn rfl) (O.call rfl rfl hF ent84 (hF.evs rfl) hS (div_calls (u 0) (u 1) _ (hvM 0) (hvM 1)) fun v s15 a w hR hF hS => ⟨fun hD => hS.sel [] rfl rfl, ?_⟩)
    obtain ⟨rfl, rfl⟩ := hR
    have hD := hS.sel [] rfl rfl
    rw [show divW (u 0) (u 1) = .tuple #[wv (0), wv (0), .int .i64 24] from by simp only [divW, if_pos h]] at hF
    refine dq hF rfl (wn rfl) rfl rfl (fun w => R.move (hF.ev rfl)) fun a hF => ?_
    refine dq hF rfl (wn rfl) rfl rfl (fun w => R.extract (hF.ev rfl) rfl) fun a hF => ?_
    refine dq hF rfl (wn rfl) rfl rfl (fun w => R.extract (hF.ev rfl) rfl) fun a hF => ?_
    refine dq hF rfl (wn rfl) rfl rfl (fun w => R.extract (hF.ev rfl) rfl) fun a hF => ?_
    refine d0 ?_
    refine ⟨?_, ?_⟩
    ·
      refine dl rfl (wn rfl) (O.alloc rfl rfl hF ze31 rfl hS fun b5 a w hF hS => ⟨fun hD => hS.sel [] rfl rfl, ?_⟩)
      have hD := hS.sel [] rfl rfl
      refine dl rfl (wn rfl) (O.alloc rfl rfl hF ze31 rfl hS fun b6 a w hF hS => ⟨fun hD => hS.sel [] rfl rfl, ?_⟩)
      have hD := hS.sel [] rfl rfl
      refine dl rfl (wn rfl) (O.storeW sz31 (hF.ev rfl) (hF.ev rfl) (rfl) rfl (by simp [Value.oneCell']) hS (.t .h) (rfl) fun w hS => ⟨fun hD => hS.sel [] rfl rfl, ?_⟩)
      have hD := hS.sel [] rfl rfl
      refine dl rfl (wn rfl) (O.storeW sz31 (hF.ev rfl) (hF.ev rfl) (rfl) rfl (by simp [Value.oneCell']) hS .h (rfl) fun w hS => ⟨fun hD => hS.sel [] rfl rfl, ?_⟩)
      have hD := hS.sel [] rfl rfl
      refine dq hF rfl (wn rfl) rfl rfl (fun w => R.assign (hF.ev rfl)) fun a hF => ?_
      refine d0 ?_
      refine then_n (hK2 _ _ ?_)
      refine wp_seq_k fun K3 hK3 => ?_
      refine wp_region_lit ?_
      refine sv' hF (wn rfl) rfl rfl (R.move (hF.ev rfl)) fun a hF => ?_
      refine sv' hF (wn rfl) rfl rfl (R.loadW agg31 (hF.ev rfl) hS (.t .h) sz31 (rfl)) fun a hF => ?_
      refine sv' hF (wn rfl) rfl rfl (R.move (hF.ev rfl)) fun a hF => ?_
      refine so (wn rfl) (O.callK rfl rfl hF ent80 (hF.evs rfl) hS (reckoned_bad F _ (0) _ _ (hS.own1 (.t (.t (.t .h)))) (by decide)) (fun _ => (.t (.t (.t .h)))) fun v s22 a w hR hF hS => ?_)
      obtain ⟨rfl, he⟩ := hR
      rw [he] at hS
      refine sv' hF (wn rfl) rfl rfl (R.assign (hF.ev rfl)) fun a hF => ?_
      refine s0 ?_
      refine then_n (hK3 _ _ ?_)
      refine wp_ret (hR _ _ _ _ _ hF (run_results Try.results58 (.t hF rfl (.nil))) ?_)
      exact ⟨_, s, rfl, ⟨rfl, rfl⟩, hS.one (.t (.t (.t .h)))⟩
    ·
      refine dl rfl (wn rfl) (O.alloc rfl rfl hF ze31 rfl hS fun b6 a w hF hS => ⟨fun hD => hS.sel [] rfl rfl, ?_⟩)
      have hD := hS.sel [] rfl rfl
      refine dl rfl (wn rfl) (O.alloc rfl rfl hF ze31 rfl hS fun b5 a w hF hS => ⟨fun hD => hS.sel [] rfl rfl, ?_⟩)
      have hD := hS.sel [] rfl rfl
      refine dl rfl (wn rfl) (O.storeW sz31 (hF.ev rfl) (hF.ev rfl) (rfl) rfl (by simp [Value.oneCell']) hS .h (rfl) fun w hS => ⟨fun hD => hS.sel [] rfl rfl, ?_⟩)
      have hD := hS.sel [] rfl rfl
      refine dl rfl (wn rfl) (O.storeW sz31 (hF.ev rfl) (hF.ev rfl) (rfl) rfl (by simp [Value.oneCell']) hS (.t .h) (rfl) fun w hS => ⟨fun hD => hS.sel [] rfl rfl, ?_⟩)
      have hD := hS.sel [] rfl rfl
      refine dq hF rfl (wn rfl) rfl rfl (fun w => R.assign (hF.ev rfl)) fun a hF => ?_
      refine d0 ?_
      refine then_n (hK2 _ _ ?_)
      refine wp_seq_k fun K4 hK4 => ?_
      refine wp_region_lit ?_
      refine sv' hF (wn rfl) rfl rfl (R.move (hF.ev rfl)) fun a hF => ?_
      refine sv' hF (wn rfl) rfl rfl (R.loadW agg31 (hF.ev rfl) hS .h sz31 (rfl)) fun a hF => ?_
      refine sv' hF (wn rfl) rfl rfl (R.move (hF.ev rfl)) fun a hF => ?_
      refine so (wn rfl) (O.callK rfl rfl hF ent80 (hF.evs rfl) hS (reckoned_bad F _ (0) _ _ (hS.own1 (.t (.t (.t .h)))) (by decide)) (fun _ => (.t (.t (.t .h)))) fun v s22 a w hR hF hS => ?_)
      obtain ⟨rfl, he⟩ := hR
      rw [he] at hS
      refine sv' hF (wn rfl) rfl rfl (R.assign (hF.ev rfl)) fun a hF => ?_
      refine s0 ?_
      refine then_n (hK4 _ _ ?_)
      refine wp_ret (hR _ _ _ _ _ hF (run_results Try.results58 (.t hF rfl (.nil))) ?_)
      exact ⟨_, s, rfl, ⟨rfl, rfl⟩, hS.one (.t (.t (.t .h)))⟩
  ·
    refine dl rfl (wn rfl) (O.alloc rfl rfl hF ze31 rfl hS fun b5 a w hF hS => ⟨fun hD => hS.sel [] rfl rfl, ?_⟩)
    have hD := hS.sel [] rfl rfl
    refine d0 ?_
    refine ⟨?_, ?_⟩
    ·
      refine dl rfl (wn rfl) (O.call rfl rfl hF ent84 (hF.evs rfl) hS (div_calls (u 0) (u 1) _ (hvM 0) (hvM 1)) fun v s15 a w hR hF hS => ⟨fun hD => hS.sel [] rfl rfl, ?_⟩)
      obtain ⟨rfl, rfl⟩ := hR
      have hD := hS.sel [] rfl rfl
      rw [show divW (u 0) (u 1) = .tuple #[wv (0), wv (0), .int .i64 24] from by simp only [divW, if_pos h]] at hF
      refine dq hF rfl (wn rfl) rfl rfl (fun w => R.move (hF.ev rfl)) fun a hF => ?_
      refine dq hF rfl (wn rfl) rfl rfl (fun w => R.extract (hF.ev rfl) rfl) fun a hF => ?_
      refine dq hF rfl (wn rfl) rfl rfl (fun w => R.extract (hF.ev rfl) rfl) fun a hF => ?_
      refine dq hF rfl (wn rfl) rfl rfl (fun w => R.extract (hF.ev rfl) rfl) fun a hF => ?_
      refine dl rfl (wn rfl) (O.alloc rfl rfl hF ze31 rfl hS fun b6 a w hF hS => ⟨fun hD => hS.sel [] rfl rfl, ?_⟩)
      have hD := hS.sel [] rfl rfl
      refine dl rfl (wn rfl) (O.storeW sz31 (hF.ev rfl) (hF.ev rfl) (rfl) rfl (by simp [Value.oneCell']) hS (.t (.t .h)) (rfl) fun w hS => ⟨fun hD => hS.sel [] rfl rfl, ?_⟩)
      have hD := hS.sel [] rfl rfl
      refine dl rfl (wn rfl) (O.storeW sz31 (hF.ev rfl) (hF.ev rfl) (rfl) rfl (by simp [Value.oneCell']) hS .h (rfl) fun w hS => ⟨fun hD => hS.sel [] rfl rfl, ?_⟩)
      have hD := hS.sel [] rfl rfl
      refine dq hF rfl (wn rfl) rfl rfl (fun w => R.assign (hF.ev rfl)) fun a hF => ?_
      refine d0 ?_
      refine then_n (hK2 _ _ ?_)
      refine wp_seq_k fun K5 hK5 => ?_
      refine wp_region_lit ?_
      refine sv' hF (wn rfl) rfl rfl (R.move (hF.ev rfl)) fun a hF => ?_
      refine sv' hF (wn rfl) rfl rfl (R.loadW agg31 (hF.ev rfl) hS (.t (.t .h)) sz31 (rfl)) fun a hF => ?_
      refine sv' hF (wn rfl) rfl rfl (R.move (hF.ev rfl)) fun a hF => ?_
      refine so (wn rfl) (O.callK rfl rfl hF ent80 (hF.evs rfl) hS (reckoned_bad F _ (0) _ _ (hS.own1 (.t (.t (.t .h)))) (by decide)) (fun _ => (.t (.t (.t .h)))) fun v s22 a w hR hF hS => ?_)
      obtain ⟨rfl, he⟩ := hR
      rw [he] at hS
      refine sv' hF (wn rfl) rfl rfl (R.assign (hF.ev rfl)) fun a hF => ?_
      refine s0 ?_
      refine then_n (hK5 _ _ ?_)
      refine wp_ret (hR _ _ _ _ _ hF (run_results Try.results58 (.t hF rfl (.nil))) ?_)
      exact ⟨_, s, rfl, ⟨rfl, rfl⟩, hS.one (.t (.t (.t .h)))⟩
    ·
      refine dl rfl (wn rfl) (O.alloc rfl rfl hF ze31 rfl hS fun b6 a w hF hS => ⟨fun hD => hS.sel [] rfl rfl, ?_⟩)
      have hD := hS.sel [] rfl rfl
      refine dl rfl (wn rfl) (O.call rfl rfl hF ent84 (hF.evs rfl) hS (div_calls (u 0) (u 1) _ (hvM 0) (hvM 1)) fun v s15 a w hR hF hS => ⟨fun hD => hS.sel [] rfl rfl, ?_⟩)
      obtain ⟨rfl, rfl⟩ := hR
      have hD := hS.sel [] rfl rfl
      rw [show divW (u 0) (u 1) = .tuple #[wv (0), wv (0), .int .i64 24] from by simp only [divW, if_pos h]] at hF
      refine dq hF rfl (wn rfl) rfl rfl (fun w => R.move (hF.ev rfl)) fun a hF => ?_
      refine dq hF rfl (wn rfl) rfl rfl (fun w => R.extract (hF.ev rfl) rfl) fun a hF => ?_
      refine dq hF rfl (wn rfl) rfl rfl (fun w => R.extract (hF.ev rfl) rfl) fun a hF => ?_
      refine dq hF rfl (wn rfl) rfl rfl (fun w => R.extract (hF.ev rfl) rfl) fun a hF => ?_
      refine dl rfl (wn rfl) (O.storeW sz31 (hF.ev rfl) (hF.ev rfl) (rfl) rfl (by simp [Value.oneCell']) hS (.t (.t .h)) (rfl) fun w hS => ⟨fun hD => hS.sel [] rfl rfl, ?_⟩)
      have hD := hS.sel [] rfl rfl
      refine dl rfl (wn rfl) (O.storeW sz31 (hF.ev rfl) (hF.ev rfl) (rfl) rfl (by simp [Value.oneCell']) hS (.t .h) (rfl) fun w hS => ⟨fun hD => hS.sel [] rfl rfl, ?_⟩)
      have hD := hS.sel [] rfl rfl
      refine dq hF rfl (wn rfl) rfl rfl (fun w => R.assign (hF.ev rfl)) fun a hF => ?_
      refine d0 ?_
      refine then_n (hK2 _ _ ?_)
      refine wp_seq_k fun K6 hK6 => ?_
      refine wp_region_lit ?_
      refine sv' hF (wn rfl) rfl rfl (R.move (hF.ev rfl)) fun a hF => ?_
      refine sv' hF (wn rfl) rfl rfl (R.loadW agg31 (hF.ev rfl) hS (.t (.t .h)) sz31 (rfl)) fun a hF => ?_
      refine sv' hF (wn rfl) rfl rfl (R.move (hF.ev rfl)) fun a hF => ?_
      refine so (wn rfl) (O.callK rfl rfl hF ent80 (hF.evs rfl) hS (reckoned_bad F _ (0) _ _ (hS.own1 (.t (.t (.t .h)))) (by decide)) (fun _ => (.t (.t (.t .h)))) fun v s22 a w hR hF hS => ?_)
      obtain ⟨rfl, he⟩ := hR
      rw [he] at hS
      refine sv' hF (wn rfl) rfl rfl (R.assign (hF.ev rfl)) fun a hF => ?_
      refine s0 ?_
      refine then_n (hK6 _ _ ?_)
      refine wp_ret (hR _ _ _ _ _ hF (run_results Try.results58 (.t hF rfl (.nil))) ?_)
      exact ⟨_, s, rfl, ⟨rfl, rfl⟩, hS.one (.t (.t (.t .h)))⟩
  ·
    refine dl rfl (wn rfl) (O.alloc rfl rfl hF ze31 rfl hS fun b6 a w hF hS => ⟨fun hD => hS.sel [] rfl rfl, ?_⟩)
    have hD := hS.sel [] rfl rfl
    refine d0 ?_
    refine ⟨?_, ?_⟩
    ·
      refine dl rfl (wn rfl) (O.call rfl rfl hF ent84 (hF.evs rfl) hS (div_calls (u 0) (u 1) _ (hvM 0) (hvM 1)) fun v s15 a w hR hF hS => ⟨fun hD => hS.sel [] rfl rfl, ?_⟩)
      obtain ⟨rfl, rfl⟩ := hR
      have hD := hS.sel [] rfl rfl
      rw [show divW (u 0) (u 1) = .tuple #[wv (0), wv (0), .int .i64 24] from by simp only [divW, if_pos h]] at hF
      refine dq hF rfl (wn rfl) rfl rfl (fun w => R.move (hF.ev rfl)) fun a hF => ?_
      refine dq hF rfl (wn rfl) rfl rfl (fun w => R.extract (hF.ev rfl) rfl) fun a hF => ?_
      refine dq hF rfl (wn rfl) rfl rfl (fun w => R.extract (hF.ev rfl) rfl) fun a hF => ?_
      refine dq hF rfl (wn rfl) rfl rfl (fun w => R.extract (hF.ev rfl) rfl) fun a hF => ?_
      refine dl rfl (wn rfl) (O.alloc rfl rfl hF ze31 rfl hS fun b5 a w hF hS => ⟨fun hD => hS.sel [] rfl rfl, ?_⟩)
      have hD := hS.sel [] rfl rfl
      refine dl rfl (wn rfl) (O.storeW sz31 (hF.ev rfl) (hF.ev rfl) (rfl) rfl (by simp [Value.oneCell']) hS .h (rfl) fun w hS => ⟨fun hD => hS.sel [] rfl rfl, ?_⟩)
      have hD := hS.sel [] rfl rfl
      refine dl rfl (wn rfl) (O.storeW sz31 (hF.ev rfl) (hF.ev rfl) (rfl) rfl (by simp [Value.oneCell']) hS (.t (.t .h)) (rfl) fun w hS => ⟨fun hD => hS.sel [] rfl rfl, ?_⟩)
      have hD := hS.sel [] rfl rfl
      refine dq hF rfl (wn rfl) rfl rfl (fun w => R.assign (hF.ev rfl)) fun a hF => ?_
      refine d0 ?_
      refine then_n (hK2 _ _ ?_)
      refine wp_seq_k fun K7 hK7 => ?_
      refine wp_region_lit ?_
      refine sv' hF (wn rfl) rfl rfl (R.move (hF.ev rfl)) fun a hF => ?_
      refine sv' hF (wn rfl) rfl rfl (R.loadW agg31 (hF.ev rfl) hS .h sz31 (rfl)) fun a hF => ?_
      refine sv' hF (wn rfl) rfl rfl (R.move (hF.ev rfl)) fun a hF => ?_
      refine so (wn rfl) (O.callK rfl rfl hF ent80 (hF.evs rfl) hS (reckoned_bad F _ (0) _ _ (hS.own1 (.t (.t (.t .h)))) (by decide)) (fun _ => (.t (.t (.t .h)))) fun v s22 a w hR hF hS => ?_)
      obtain ⟨rfl, he⟩ := hR
      rw [he] at hS
      refine sv' hF (wn rfl) rfl rfl (R.assign (hF.ev rfl)) fun a hF => ?_
      refine s0 ?_
      refine then_n (hK7 _ _ ?_)
      refine wp_ret (hR _ _ _ _ _ hF (run_results Try.results58 (.t hF rfl (.nil))) ?_)
      exact ⟨_, s, rfl, ⟨rfl, rfl⟩, hS.one (.t (.t (.t .h)))⟩
    ·
      refine dl rfl (wn rfl) (O.alloc rfl rfl hF ze31 rfl hS fun b5 a w hF hS => ⟨fun hD => hS.sel [] rfl rfl, ?_⟩)
      have hD := hS.sel [] rfl rfl
      refine dl rfl (wn rfl) (O.call rfl rfl hF ent84 (hF.evs rfl) hS (div_calls (u 0) (u 1) _ (hvM 0) (hvM 1)) fun v s15 a w hR hF hS => ⟨fun hD => hS.sel [] rfl rfl, ?_⟩)
      obtain ⟨rfl, rfl⟩ := hR
      have hD := hS.sel [] rfl rfl
      rw [show divW (u 0) (u 1) = .tuple #[wv (0), wv (0), .int .i64 24] from by simp only [divW, if_pos h]] at hF
      refine dq hF rfl (wn rfl) rfl rfl (fun w => R.move (hF.ev rfl)) fun a hF => ?_
      refine dq hF rfl (wn rfl) rfl rfl (fun w => R.extract (hF.ev rfl) rfl) fun a hF => ?_
      refine dq hF rfl (wn rfl) rfl rfl (fun w => R.extract (hF.ev rfl) rfl) fun a hF => ?_
      refine dq hF rfl (wn rfl) rfl rfl (fun w => R.extract (hF.ev rfl) rfl) fun a hF => ?_
      refine dl rfl (wn rfl) (O.storeW sz31 (hF.ev rfl) (hF.ev rfl) (rfl) rfl (by simp [Value.oneCell']) hS (.t .h) (rfl) fun w hS => ⟨fun hD => hS.sel [] rfl rfl, ?_⟩)
      have hD := hS.sel [] rfl rfl
      refine dl rfl (wn rfl) (O.storeW sz31 (hF.ev rfl) (hF.ev rfl) (rfl) rfl (by simp [Value.oneCell']) hS (.t (.t .h)) (rfl) fun w hS => ⟨fun hD => hS.sel [] rfl rfl, ?_⟩)
      have hD := hS.sel [] rfl rfl
      refine dq hF rfl (wn rfl) rfl rfl (fun w => R.assign (hF.ev rfl)) fun a hF => ?_
      refine d0 ?_
      refine then_n (hK2 _ _ ?_)
      refine wp_seq_k fun K8 hK8 => ?_
      refine wp_region_lit ?_
      refine sv' hF (wn rfl) rfl rfl (R.move (hF.ev rfl)) fun a hF => ?_
      refine sv' hF (wn rfl) rfl rfl (R.loadW agg31 (hF.ev rfl) hS (.t .h) sz31 (rfl)) fun a hF => ?_
      refine sv' hF (wn rfl) rfl rfl (R.move (hF.ev rfl)) fun a hF => ?_
      refine so (wn rfl) (O.callK rfl rfl hF ent80 (hF.evs rfl) hS (reckoned_bad F _ (0) _ _ (hS.own1 (.t (.t (.t .h)))) (by decide)) (fun _ => (.t (.t (.t .h)))) fun v s22 a w hR hF hS => ?_)
      obtain ⟨rfl, he⟩ := hR
      rw [he] at hS
      refine sv' hF (wn rfl) rfl rfl (R.assign (hF.ev rfl)) fun a hF => ?_
      refine s0 ?_
      refine then_n (hK8 _ _ ?_)
      refine wp_ret (hR _ _ _ _ _ hF (run_results Try.results58 (.t hF rfl (.nil))) ?_)
      exact ⟨_, s, rfl, ⟨rfl, rfl⟩, hS.one (.t (.t (.t .h)))⟩
set_option maxHeartbeats 4000000 in
theorem mod_good (F : Fx) (V : Vr) (stk : List Nat) (s : Seg) (vb : Nat) (u : Nat → Nat) (w0 : World) (hRun : RunS F V stk s) (ho : Own w0 s) (hv : RdK w0 (s.map (·.1)) (some ⟨vb, 0, none⟩) (vc u)) (hvM : ∀ i, u i < 115792089237316195423570985008687907853269984665640564039457584007913129639936) (hl : stk.length ≤ 64) (h : ¬ u 1 = 0) : Ret Try.prog 59 [.pointer (some ⟨F.rb, 0, none⟩), .slice (some ⟨vb, 0, none⟩) 2 3] w0 (s.map (·.1)) (fun v s' => v = .int .i64 0 ∧ RunS F V (stk ++ [u 0 % u 1]) s') := by
  refine fn_start Try.func59 rfl Try.ntmps59 rfl [(0, .pointer (some ⟨F.rb, 0, none⟩)), (1, .slice (some ⟨vb, 0, none⟩) 2 3)] ⟨rfl, rfl, trivial⟩ ?_
  intro Q a hP hF hR hN
  have hS := St.enter ho
  refine wp_seq_k fun K1 hK1 => ?_
  refine wp_region_lit ?_
  refine sv' hF (wn rfl) rfl rfl (R.assign (hF.ev rfl)) fun a hF => ?_
  refine s0 ?_
  refine then_n (hK1 _ _ ?_)
  refine wp_seq_k fun K2 hK2 => ?_
  refine wp_drawN hS (hS.sel [] rfl rfl) [(0, 0), (1, 0), (2, 1), (3, 0), (4, 0), (5, 1), (6, 2), (7, 0), (8, 0), (9, 0), (10, 0), (11, 2), (12, 2), (13, 2), (14, 2), (15, 0)] (.node [(0, 0), (1, 0), (2, 1), (3, 0), (4, 0), (5, 1)] (.node [(6, 2), (7, 0), (8, 0), (9, 0), (10, 0)] (.leaf [(11, 2), (12, 2), (13, 2), (14, 2), (15, 0)]) (.leaf [(12, 2), (11, 2), (13, 2), (14, 2), (15, 0)])) (.node [] (.node [(11, 2)] (.leaf [(6, 2), (7, 0), (8, 0), (9, 0), (10, 0), (12, 2), (13, 2), (14, 2), (15, 0)]) (.leaf [(12, 2), (6, 2), (7, 0), (8, 0), (9, 0), (10, 0), (13, 2), (14, 2), (15, 0)])) (.node [(12, 2)] (.leaf [(6, 2), (7, 0), (8, 0), (9, 0), (10, 0), (11, 2), (13, 2), (14, 2), (15, 0)]) (.leaf [(11, 2), (6, 2), (7, 0), (8, 0), (9, 0), (10, 0), (13, 2), (14, 2), (15, 0)])))) mix (by kernel_rfl) (hP.then) fun w hS hD => ?_
  refine dq hF rfl (wn rfl) rfl rfl (fun w => R.move (hF.ev rfl)) fun a hF => ?_
  refine dq hF rfl (wn rfl) rfl rfl (fun w => R.indexO Try.underlying32 sz31 (hF.ev rfl) (by simp) (hF.ev rfl) (by omega) (by omega)) fun a hF => ?_
  refine dr hF rfl (wn rfl) rfl rfl hD (fun w hD => R.loadAO (cs := wc (u 0)) agg31 (hF.ev rfl) (hv.old hD) sz31 rfl (Nat.succ_pos _) (v0_at rfl)) fun a hF => ?_
  refine dq hF rfl (wn rfl) rfl rfl (fun w => R.move (hF.ev rfl)) fun a hF => ?_
  refine dq hF rfl (wn rfl) rfl rfl (fun w => R.indexO Try.underlying32 sz31 (hF.ev rfl) (by simp) (hF.ev rfl) (by omega) (by omega)) fun a hF => ?_
  refine dr hF rfl (wn rfl) rfl rfl hD (fun w hD => R.loadAO (cs := wc (u 1)) agg31 (hF.ev rfl) (hv.old hD) sz31 rfl (Nat.succ_pos _) (v1_at rfl)) fun a hF => ?_
  refine d0 ?_
  refine ⟨?_, nd0 ⟨?_, ?_⟩⟩
  ·
    refine dl rfl (wn rfl) (O.call rfl rfl hF ent84 (hF.evs rfl) hS (div_calls (u 0) (u 1) _ (hvM 0) (hvM 1)) fun v s15 a w hR hF hS => ⟨fun hD => hS.sel [] rfl rfl, ?_⟩)
    obtain ⟨rfl, rfl⟩ := hR
    have hD := hS.sel [] rfl rfl
    rw [show divW (u 0) (u 1) = .tuple #[wv (u 0 / u 1), wv (u 0 % u 1), .int .i64 0] from by simp only [divW, if_neg h]] at hF
    refine dq hF rfl (wn rfl) rfl rfl (fun w => R.move (hF.ev rfl)) fun a hF => ?_
    refine dq hF rfl (wn rfl) rfl rfl (fun w => R.extract (hF.ev rfl) rfl) fun a hF => ?_
    refine dq hF rfl (wn rfl) rfl rfl (fun w => R.extract (hF.ev rfl) rfl) fun a hF => ?_
    refine dq hF rfl (wn rfl) rfl rfl (fun w => R.extract (hF.ev rfl) rfl) fun a hF => ?_
    refine d0 ?_
    refine ⟨?_, ?_⟩
    ·
      refine dl rfl (wn rfl) (O.alloc rfl rfl hF ze31 rfl hS fun b5 a w hF hS => ⟨fun hD => hS.sel [] rfl rfl, ?_⟩)
      have hD := hS.sel [] rfl rfl
      refine dl rfl (wn rfl) (O.alloc rfl rfl hF ze31 rfl hS fun b6 a w hF hS => ⟨fun hD => hS.sel [] rfl rfl, ?_⟩)
      have hD := hS.sel [] rfl rfl
      refine dl rfl (wn rfl) (O.storeW sz31 (hF.ev rfl) (hF.ev rfl) (rfl) rfl (by simp [Value.oneCell']) hS (.t .h) (rfl) fun w hS => ⟨fun hD => hS.sel [] rfl rfl, ?_⟩)
      have hD := hS.sel [] rfl rfl
      refine dl rfl (wn rfl) (O.storeW sz31 (hF.ev rfl) (hF.ev rfl) (rfl) rfl (by simp [Value.oneCell']) hS .h (rfl) fun w hS => ⟨fun hD => hS.sel [] rfl rfl, ?_⟩)
      have hD := hS.sel [] rfl rfl
      refine dq hF rfl (wn rfl) rfl rfl (fun w => R.assign (hF.ev rfl)) fun a hF => ?_
      refine d0 ?_
      refine then_n (hK2 _ _ ?_)
      refine wp_seq_k fun K3 hK3 => ?_
      refine wp_region_lit ?_
      refine sv' hF (wn rfl) rfl rfl (R.move (hF.ev rfl)) fun a hF => ?_
      refine sv' hF (wn rfl) rfl rfl (R.loadW agg31 (hF.ev rfl) hS .h sz31 (rfl)) fun a hF => ?_
      refine sv' hF (wn rfl) rfl rfl (R.move (hF.ev rfl)) fun a hF => ?_
      refine so (wn rfl) (O.callK rfl rfl hF ent80 (hF.evs rfl) hS (reckoned_good F V stk _ (u 0 % u 1) _ hRun (hS.own1 (.t (.t (.t .h)))) (by have := hvM 0; have := hvM 1; first | omega | exact Nat.lt_of_le_of_lt (Nat.div_le_self _ _) (hvM 0) | exact Nat.lt_of_le_of_lt (Nat.mod_le _ _) (hvM 0)) hl) (fun _ => (.t (.t (.t .h)))) fun v s22 a w hR hF hS => ?_)
      obtain ⟨rfl, hRun2⟩ := hR
      refine sv' hF (wn rfl) rfl rfl (R.assign (hF.ev rfl)) fun a hF => ?_
      refine s0 ?_
      refine then_n (hK3 _ _ ?_)
      refine wp_ret (hR _ _ _ _ _ hF (run_results Try.results59 (.t hF rfl (.nil))) ?_)
      exact ⟨_, s22, rfl, ⟨rfl, hRun2⟩, hS.one (.t (.t (.t .h)))⟩
    ·
      refine dl rfl (wn rfl) (O.alloc rfl rfl hF ze31 rfl hS fun b6 a w hF hS => ⟨fun hD => hS.sel [] rfl rfl, ?_⟩)
      have hD := hS.sel [] rfl rfl
      refine dl rfl (wn rfl) (O.alloc rfl rfl hF ze31 rfl hS fun b5 a w hF hS => ⟨fun hD => hS.sel [] rfl rfl, ?_⟩)
      have hD := hS.sel [] rfl rfl
      refine dl rfl (wn rfl) (O.storeW sz31 (hF.ev rfl) (hF.ev rfl) (rfl) rfl (by simp [Value.oneCell']) hS .h (rfl) fun w hS => ⟨fun hD => hS.sel [] rfl rfl, ?_⟩)
      have hD := hS.sel [] rfl rfl
      refine dl rfl (wn rfl) (O.storeW sz31 (hF.ev rfl) (hF.ev rfl) (rfl) rfl (by simp [Value.oneCell']) hS (.t .h) (rfl) fun w hS => ⟨fun hD => hS.sel [] rfl rfl, ?_⟩)
      have hD := hS.sel [] rfl rfl
      refine dq hF rfl (wn rfl) rfl rfl (fun w => R.assign (hF.ev rfl)) fun a hF => ?_
      refine d0 ?_
      refine then_n (hK2 _ _ ?_)
      refine wp_seq_k fun K4 hK4 => ?_
      refine wp_region_lit ?_
      refine sv' hF (wn rfl) rfl rfl (R.move (hF.ev rfl)) fun a hF => ?_
      refine sv' hF (wn rfl) rfl rfl (R.loadW agg31 (hF.ev rfl) hS (.t .h) sz31 (rfl)) fun a hF => ?_
      refine sv' hF (wn rfl) rfl rfl (R.move (hF.ev rfl)) fun a hF => ?_
      refine so (wn rfl) (O.callK rfl rfl hF ent80 (hF.evs rfl) hS (reckoned_good F V stk _ (u 0 % u 1) _ hRun (hS.own1 (.t (.t (.t .h)))) (by have := hvM 0; have := hvM 1; first | omega | exact Nat.lt_of_le_of_lt (Nat.div_le_self _ _) (hvM 0) | exact Nat.lt_of_le_of_lt (Nat.mod_le _ _) (hvM 0)) hl) (fun _ => (.t (.t (.t .h)))) fun v s22 a w hR hF hS => ?_)
      obtain ⟨rfl, hRun2⟩ := hR
      refine sv' hF (wn rfl) rfl rfl (R.assign (hF.ev rfl)) fun a hF => ?_
      refine s0 ?_
      refine then_n (hK4 _ _ ?_)
      refine wp_ret (hR _ _ _ _ _ hF (run_results Try.results59 (.t hF rfl (.nil))) ?_)
      exact ⟨_, s22, rfl, ⟨rfl, hRun2⟩, hS.one (.t (.t (.t .h)))⟩
  ·
    refine dl rfl (wn rfl) (O.alloc rfl rfl hF ze31 rfl hS fun b5 a w hF hS => ⟨fun hD => hS.sel [] rfl rfl, ?_⟩)
    have hD := hS.sel [] rfl rfl
    refine d0 ?_
    refine ⟨?_, ?_⟩
    ·
      refine dl rfl (wn rfl) (O.call rfl rfl hF ent84 (hF.evs rfl) hS (div_calls (u 0) (u 1) _ (hvM 0) (hvM 1)) fun v s15 a w hR hF hS => ⟨fun hD => hS.sel [] rfl rfl, ?_⟩)
      obtain ⟨rfl, rfl⟩ := hR
      have hD := hS.sel [] rfl rfl
      rw [show divW (u 0) (u 1) = .tuple #[wv (u 0 / u 1), wv (u 0 % u 1), .int .i64 0] from by simp only [divW, if_neg h]] at hF
      refine dq hF rfl (wn rfl) rfl rfl (fun w => R.move (hF.ev rfl)) fun a hF => ?_
      refine dq hF rfl (wn rfl) rfl rfl (fun w => R.extract (hF.ev rfl) rfl) fun a hF => ?_
      refine dq hF rfl (wn rfl) rfl rfl (fun w => R.extract (hF.ev rfl) rfl) fun a hF => ?_
      refine dq hF rfl (wn rfl) rfl rfl (fun w => R.extract (hF.ev rfl) rfl) fun a hF => ?_
      refine dl rfl (wn rfl) (O.alloc rfl rfl hF ze31 rfl hS fun b6 a w hF hS => ⟨fun hD => hS.sel [] rfl rfl, ?_⟩)
      have hD := hS.sel [] rfl rfl
      refine dl rfl (wn rfl) (O.storeW sz31 (hF.ev rfl) (hF.ev rfl) (rfl) rfl (by simp [Value.oneCell']) hS (.t (.t .h)) (rfl) fun w hS => ⟨fun hD => hS.sel [] rfl rfl, ?_⟩)
      have hD := hS.sel [] rfl rfl
      refine dl rfl (wn rfl) (O.storeW sz31 (hF.ev rfl) (hF.ev rfl) (rfl) rfl (by simp [Value.oneCell']) hS .h (rfl) fun w hS => ⟨fun hD => hS.sel [] rfl rfl, ?_⟩)
      have hD := hS.sel [] rfl rfl
      refine dq hF rfl (wn rfl) rfl rfl (fun w => R.assign (hF.ev rfl)) fun a hF => ?_
      refine d0 ?_
      refine then_n (hK2 _ _ ?_)
      refine wp_seq_k fun K5 hK5 => ?_
      refine wp_region_lit ?_
      refine sv' hF (wn rfl) rfl rfl (R.move (hF.ev rfl)) fun a hF => ?_
      refine sv' hF (wn rfl) rfl rfl (R.loadW agg31 (hF.ev rfl) hS .h sz31 (rfl)) fun a hF => ?_
      refine sv' hF (wn rfl) rfl rfl (R.move (hF.ev rfl)) fun a hF => ?_
      refine so (wn rfl) (O.callK rfl rfl hF ent80 (hF.evs rfl) hS (reckoned_good F V stk _ (u 0 % u 1) _ hRun (hS.own1 (.t (.t (.t .h)))) (by have := hvM 0; have := hvM 1; first | omega | exact Nat.lt_of_le_of_lt (Nat.div_le_self _ _) (hvM 0) | exact Nat.lt_of_le_of_lt (Nat.mod_le _ _) (hvM 0)) hl) (fun _ => (.t (.t (.t .h)))) fun v s22 a w hR hF hS => ?_)
      obtain ⟨rfl, hRun2⟩ := hR
      refine sv' hF (wn rfl) rfl rfl (R.assign (hF.ev rfl)) fun a hF => ?_
      refine s0 ?_
      refine then_n (hK5 _ _ ?_)
      refine wp_ret (hR _ _ _ _ _ hF (run_results Try.results59 (.t hF rfl (.nil))) ?_)
      exact ⟨_, s22, rfl, ⟨rfl, hRun2⟩, hS.one (.t (.t (.t .h)))⟩
    ·
      refine dl rfl (wn rfl) (O.alloc rfl rfl hF ze31 rfl hS fun b6 a w hF hS => ⟨fun hD => hS.sel [] rfl rfl, ?_⟩)
      have hD := hS.sel [] rfl rfl
      refine dl rfl (wn rfl) (O.call rfl rfl hF ent84 (hF.evs rfl) hS (div_calls (u 0) (u 1) _ (hvM 0) (hvM 1)) fun v s15 a w hR hF hS => ⟨fun hD => hS.sel [] rfl rfl, ?_⟩)
      obtain ⟨rfl, rfl⟩ := hR
      have hD := hS.sel [] rfl rfl
      rw [show divW (u 0) (u 1) = .tuple #[wv (u 0 / u 1), wv (u 0 % u 1), .int .i64 0] from by simp only [divW, if_neg h]] at hF
      refine dq hF rfl (wn rfl) rfl rfl (fun w => R.move (hF.ev rfl)) fun a hF => ?_
      refine dq hF rfl (wn rfl) rfl rfl (fun w => R.extract (hF.ev rfl) rfl) fun a hF => ?_
      refine dq hF rfl (wn rfl) rfl rfl (fun w => R.extract (hF.ev rfl) rfl) fun a hF => ?_
      refine dq hF rfl (wn rfl) rfl rfl (fun w => R.extract (hF.ev rfl) rfl) fun a hF => ?_
      refine dl rfl (wn rfl) (O.storeW sz31 (hF.ev rfl) (hF.ev rfl) (rfl) rfl (by simp [Value.oneCell']) hS (.t (.t .h)) (rfl) fun w hS => ⟨fun hD => hS.sel [] rfl rfl, ?_⟩)
      have hD := hS.sel [] rfl rfl
      refine dl rfl (wn rfl) (O.storeW sz31 (hF.ev rfl) (hF.ev rfl) (rfl) rfl (by simp [Value.oneCell']) hS (.t .h) (rfl) fun w hS => ⟨fun hD => hS.sel [] rfl rfl, ?_⟩)
      have hD := hS.sel [] rfl rfl
      refine dq hF rfl (wn rfl) rfl rfl (fun w => R.assign (hF.ev rfl)) fun a hF => ?_
      refine d0 ?_
      refine then_n (hK2 _ _ ?_)
      refine wp_seq_k fun K6 hK6 => ?_
      refine wp_region_lit ?_
      refine sv' hF (wn rfl) rfl rfl (R.move (hF.ev rfl)) fun a hF => ?_
      refine sv' hF (wn rfl) rfl rfl (R.loadW agg31 (hF.ev rfl) hS (.t .h) sz31 (rfl)) fun a hF => ?_
      refine sv' hF (wn rfl) rfl rfl (R.move (hF.ev rfl)) fun a hF => ?_
      refine so (wn rfl) (O.callK rfl rfl hF ent80 (hF.evs rfl) hS (reckoned_good F V stk _ (u 0 % u 1) _ hRun (hS.own1 (.t (.t (.t .h)))) (by have := hvM 0; have := hvM 1; first | omega | exact Nat.lt_of_le_of_lt (Nat.div_le_self _ _) (hvM 0) | exact Nat.lt_of_le_of_lt (Nat.mod_le _ _) (hvM 0)) hl) (fun _ => (.t (.t (.t .h)))) fun v s22 a w hR hF hS => ?_)
      obtain ⟨rfl, hRun2⟩ := hR
      refine sv' hF (wn rfl) rfl rfl (R.assign (hF.ev rfl)) fun a hF => ?_
      refine s0 ?_
      refine then_n (hK6 _ _ ?_)
      refine wp_ret (hR _ _ _ _ _ hF (run_results Try.results59 (.t hF rfl (.nil))) ?_)
      exact ⟨_, s22, rfl, ⟨rfl, hRun2⟩, hS.one (.t (.t (.t .h)))⟩
  ·
    refine dl rfl (wn rfl) (O.alloc rfl rfl hF ze31 rfl hS fun b6 a w hF hS => ⟨fun hD => hS.sel [] rfl rfl, ?_⟩)
    have hD := hS.sel [] rfl rfl
    refine d0 ?_
    refine ⟨?_, ?_⟩
    ·
      refine dl rfl (wn rfl) (O.call rfl rfl hF ent84 (hF.evs rfl) hS (div_calls (u 0) (u 1) _ (hvM 0) (hvM 1)) fun v s15 a w hR hF hS => ⟨fun hD => hS.sel [] rfl rfl, ?_⟩)
      obtain ⟨rfl, rfl⟩ := hR
      have hD := hS.sel [] rfl rfl
      rw [show divW (u 0) (u 1) = .tuple #[wv (u 0 / u 1), wv (u 0 % u 1), .int .i64 0] from by simp only [divW, if_neg h]] at hF
      refine dq hF rfl (wn rfl) rfl rfl (fun w => R.move (hF.ev rfl)) fun a hF => ?_
      refine dq hF rfl (wn rfl) rfl rfl (fun w => R.extract (hF.ev rfl) rfl) fun a hF => ?_
      refine dq hF rfl (wn rfl) rfl rfl (fun w => R.extract (hF.ev rfl) rfl) fun a hF => ?_
      refine dq hF rfl (wn rfl) rfl rfl (fun w => R.extract (hF.ev rfl) rfl) fun a hF => ?_
      refine dl rfl (wn rfl) (O.alloc rfl rfl hF ze31 rfl hS fun b5 a w hF hS => ⟨fun hD => hS.sel [] rfl rfl, ?_⟩)
      have hD := hS.sel [] rfl rfl
      refine dl rfl (wn rfl) (O.storeW sz31 (hF.ev rfl) (hF.ev rfl) (rfl) rfl (by simp [Value.oneCell']) hS .h (rfl) fun w hS => ⟨fun hD => hS.sel [] rfl rfl, ?_⟩)
      have hD := hS.sel [] rfl rfl
      refine dl rfl (wn rfl) (O.storeW sz31 (hF.ev rfl) (hF.ev rfl) (rfl) rfl (by simp [Value.oneCell']) hS (.t (.t .h)) (rfl) fun w hS => ⟨fun hD => hS.sel [] rfl rfl, ?_⟩)
      have hD := hS.sel [] rfl rfl
      refine dq hF rfl (wn rfl) rfl rfl (fun w => R.assign (hF.ev rfl)) fun a hF => ?_
      refine d0 ?_
      refine then_n (hK2 _ _ ?_)
      refine wp_seq_k fun K7 hK7 => ?_
      refine wp_region_lit ?_
      refine sv' hF (wn rfl) rfl rfl (R.move (hF.ev rfl)) fun a hF => ?_
      refine sv' hF (wn rfl) rfl rfl (R.loadW agg31 (hF.ev rfl) hS (.t (.t .h)) sz31 (rfl)) fun a hF => ?_
      refine sv' hF (wn rfl) rfl rfl (R.move (hF.ev rfl)) fun a hF => ?_
      refine so (wn rfl) (O.callK rfl rfl hF ent80 (hF.evs rfl) hS (reckoned_good F V stk _ (u 0 % u 1) _ hRun (hS.own1 (.t (.t (.t .h)))) (by have := hvM 0; have := hvM 1; first | omega | exact Nat.lt_of_le_of_lt (Nat.div_le_self _ _) (hvM 0) | exact Nat.lt_of_le_of_lt (Nat.mod_le _ _) (hvM 0)) hl) (fun _ => (.t (.t (.t .h)))) fun v s22 a w hR hF hS => ?_)
      obtain ⟨rfl, hRun2⟩ := hR
      refine sv' hF (wn rfl) rfl rfl (R.assign (hF.ev rfl)) fun a hF => ?_
      refine s0 ?_
      refine then_n (hK7 _ _ ?_)
      refine wp_ret (hR _ _ _ _ _ hF (run_results Try.results59 (.t hF rfl (.nil))) ?_)
      exact ⟨_, s22, rfl, ⟨rfl, hRun2⟩, hS.one (.t (.t (.t .h)))⟩
    ·
      refine dl rfl (wn rfl) (O.alloc rfl rfl hF ze31 rfl hS fun b5 a w hF hS => ⟨fun hD => hS.sel [] rfl rfl, ?_⟩)
      have hD := hS.sel [] rfl rfl
      refine dl rfl (wn rfl) (O.call rfl rfl hF ent84 (hF.evs rfl) hS (div_calls (u 0) (u 1) _ (hvM 0) (hvM 1)) fun v s15 a w hR hF hS => ⟨fun hD => hS.sel [] rfl rfl, ?_⟩)
      obtain ⟨rfl, rfl⟩ := hR
      have hD := hS.sel [] rfl rfl
      rw [show divW (u 0) (u 1) = .tuple #[wv (u 0 / u 1), wv (u 0 % u 1), .int .i64 0] from by simp only [divW, if_neg h]] at hF
      refine dq hF rfl (wn rfl) rfl rfl (fun w => R.move (hF.ev rfl)) fun a hF => ?_
      refine dq hF rfl (wn rfl) rfl rfl (fun w => R.extract (hF.ev rfl) rfl) fun a hF => ?_
      refine dq hF rfl (wn rfl) rfl rfl (fun w => R.extract (hF.ev rfl) rfl) fun a hF => ?_
      refine dq hF rfl (wn rfl) rfl rfl (fun w => R.extract (hF.ev rfl) rfl) fun a hF => ?_
      refine dl rfl (wn rfl) (O.storeW sz31 (hF.ev rfl) (hF.ev rfl) (rfl) rfl (by simp [Value.oneCell']) hS (.t .h) (rfl) fun w hS => ⟨fun hD => hS.sel [] rfl rfl, ?_⟩)
      have hD := hS.sel [] rfl rfl
      refine dl rfl (wn rfl) (O.storeW sz31 (hF.ev rfl) (hF.ev rfl) (rfl) rfl (by simp [Value.oneCell']) hS (.t (.t .h)) (rfl) fun w hS => ⟨fun hD => hS.sel [] rfl rfl, ?_⟩)
      have hD := hS.sel [] rfl rfl
      refine dq hF rfl (wn rfl) rfl rfl (fun w => R.assign (hF.ev rfl)) fun a hF => ?_
      refine d0 ?_
      refine then_n (hK2 _ _ ?_)
      refine wp_seq_k fun K8 hK8 => ?_
      refine wp_region_lit ?_
      refine sv' hF (wn rfl) rfl rfl (R.move (hF.ev rfl)) fun a hF => ?_
      refine sv' hF (wn rfl) rfl rfl (R.loadW agg31 (hF.ev rfl) hS (.t (.t .h)) sz31 (rfl)) fun a hF => ?_
      refine sv' hF (wn rfl) rfl rfl (R.move (hF.ev rfl)) fun a hF => ?_
      refine so (wn rfl) (O.callK rfl rfl hF ent80 (hF.evs rfl) hS (reckoned_good F V stk _ (u 0 % u 1) _ hRun (hS.own1 (.t (.t (.t .h)))) (by have := hvM 0; have := hvM 1; first | omega | exact Nat.lt_of_le_of_lt (Nat.div_le_self _ _) (hvM 0) | exact Nat.lt_of_le_of_lt (Nat.mod_le _ _) (hvM 0)) hl) (fun _ => (.t (.t (.t .h)))) fun v s22 a w hR hF hS => ?_)
      obtain ⟨rfl, hRun2⟩ := hR
      refine sv' hF (wn rfl) rfl rfl (R.assign (hF.ev rfl)) fun a hF => ?_
      refine s0 ?_
      refine then_n (hK8 _ _ ?_)
      refine wp_ret (hR _ _ _ _ _ hF (run_results Try.results59 (.t hF rfl (.nil))) ?_)
      exact ⟨_, s22, rfl, ⟨rfl, hRun2⟩, hS.one (.t (.t (.t .h)))⟩
set_option maxHeartbeats 4000000 in
theorem mod_bad (F : Fx) (V : Vr) (stk : List Nat) (s : Seg) (vb : Nat) (u : Nat → Nat) (w0 : World) (hRun : RunS F V stk s) (ho : Own w0 s) (hv : RdK w0 (s.map (·.1)) (some ⟨vb, 0, none⟩) (vc u)) (hvM : ∀ i, u i < 115792089237316195423570985008687907853269984665640564039457584007913129639936) (hl : stk.length ≤ 64) (h : u 1 = 0) : Ret Try.prog 59 [.pointer (some ⟨F.rb, 0, none⟩), .slice (some ⟨vb, 0, none⟩) 2 3] w0 (s.map (·.1)) (fun v s' => v = .int .i64 104 ∧ s' = s) := by
  refine fn_start Try.func59 rfl Try.ntmps59 rfl [(0, .pointer (some ⟨F.rb, 0, none⟩)), (1, .slice (some ⟨vb, 0, none⟩) 2 3)] ⟨rfl, rfl, trivial⟩ ?_
  intro Q a hP hF hR hN
  have hS := St.enter ho
  refine wp_seq_k fun K1 hK1 => ?_
  refine wp_region_lit ?_
  refine sv' hF (wn rfl) rfl rfl (R.assign (hF.ev rfl)) fun a hF => ?_
  refine s0 ?_
  refine then_n (hK1 _ _ ?_)
  refine wp_seq_k fun K2 hK2 => ?_
  refine wp_drawN hS (hS.sel [] rfl rfl) [(0, 0), (1, 0), (2, 1), (3, 0), (4, 0), (5, 1), (6, 2), (7, 0), (8, 0), (9, 0), (10, 0), (11, 2), (12, 2), (13, 2), (14, 2), (15, 0)] (.node [(0, 0), (1, 0), (2, 1), (3, 0), (4, 0), (5, 1)] (.node [(6, 2), (7, 0), (8, 0), (9, 0), (10, 0)] (.leaf [(11, 2), (12, 2), (13, 2), (14, 2), (15, 0)]) (.leaf [(12, 2), (11, 2), (13, 2), (14, 2), (15, 0)])) (.node [] (.node [(11, 2)] (.leaf [(6, 2), (7, 0), (8, 0), (9, 0), (10, 0), (12, 2), (13, 2), (14, 2), (15, 0)]) (.leaf [(12, 2), (6, 2), (7, 0), (8, 0), (9, 0), (10, 0), (13, 2), (14, 2), (15, 0)])) (.node [(12, 2)] (.leaf [(6, 2), (7, 0), (8, 0), (9, 0), (10, 0), (11, 2), (13, 2), (14, 2), (15, 0)]) (.leaf [(11, 2), (6, 2), (7, 0), (8, 0), (9, 0), (10, 0), (13, 2), (14, 2), (15, 0)])))) mix (by kernel_rfl) (hP.then) fun w hS hD => ?_
  refine dq hF rfl (wn rfl) rfl rfl (fun w => R.move (hF.ev rfl)) fun a hF => ?_
  refine dq hF rfl (wn rfl) rfl rfl (fun w => R.indexO Try.underlying32 sz31 (hF.ev rfl) (by simp) (hF.ev rfl) (by omega) (by omega)) fun a hF => ?_
  refine dr hF rfl (wn rfl) rfl rfl hD (fun w hD => R.loadAO (cs := wc (u 0)) agg31 (hF.ev rfl) (hv.old hD) sz31 rfl (Nat.succ_pos _) (v0_at rfl)) fun a hF => ?_
  refine dq hF rfl (wn rfl) rfl rfl (fun w => R.move (hF.ev rfl)) fun a hF => ?_
  refine dq hF rfl (wn rfl) rfl rfl (fun w => R.indexO Try.underlying32 sz31 (hF.ev rfl) (by simp) (hF.ev rfl) (by omega) (by omega)) fun a hF => ?_
  refine dr hF rfl (wn rfl) rfl rfl hD (fun w hD => R.loadAO (cs := wc (u 1)) agg31 (hF.ev rfl) (hv.old hD) sz31 rfl (Nat.succ_pos _) (v1_at rfl)) fun a hF => ?_
  refine d0 ?_
  refine ⟨?_, nd0 ⟨?_, ?_⟩⟩
  ·
    refine dl rfl (wn rfl) (O.call rfl rfl hF ent84 (hF.evs rfl) hS (div_calls (u 0) (u 1) _ (hvM 0) (hvM 1)) fun v s15 a w hR hF hS => ⟨fun hD => hS.sel [] rfl rfl, ?_⟩)
    obtain ⟨rfl, rfl⟩ := hR
    have hD := hS.sel [] rfl rfl
    rw [show divW (u 0) (u 1) = .tuple #[wv (0), wv (0), .int .i64 24] from by simp only [divW, if_pos h]] at hF
    refine dq hF rfl (wn rfl) rfl rfl (fun w => R.move (hF.ev rfl)) fun a hF => ?_
    refine dq hF rfl (wn rfl) rfl rfl (fun w => R.extract (hF.ev rfl) rfl) fun a hF => ?_
    refine dq hF rfl (wn rfl) rfl rfl (fun w => R.extract (hF.ev rfl) rfl) fun a hF => ?_
    refine dq hF rfl (wn rfl) rfl rfl (fun w => R.extract (hF.ev rfl) rfl) fun a hF => ?_
    refine d0 ?_
    refine ⟨?_, ?_⟩
    ·
      refine dl rfl (wn rfl) (O.alloc rfl rfl hF ze31 rfl hS fun b5 a w hF hS => ⟨fun hD => hS.sel [] rfl rfl, ?_⟩)
      have hD := hS.sel [] rfl rfl
      refine dl rfl (wn rfl) (O.alloc rfl rfl hF ze31 rfl hS fun b6 a w hF hS => ⟨fun hD => hS.sel [] rfl rfl, ?_⟩)
      have hD := hS.sel [] rfl rfl
      refine dl rfl (wn rfl) (O.storeW sz31 (hF.ev rfl) (hF.ev rfl) (rfl) rfl (by simp [Value.oneCell']) hS (.t .h) (rfl) fun w hS => ⟨fun hD => hS.sel [] rfl rfl, ?_⟩)
      have hD := hS.sel [] rfl rfl
      refine dl rfl (wn rfl) (O.storeW sz31 (hF.ev rfl) (hF.ev rfl) (rfl) rfl (by simp [Value.oneCell']) hS .h (rfl) fun w hS => ⟨fun hD => hS.sel [] rfl rfl, ?_⟩)
      have hD := hS.sel [] rfl rfl
      refine dq hF rfl (wn rfl) rfl rfl (fun w => R.assign (hF.ev rfl)) fun a hF => ?_
      refine d0 ?_
      refine then_n (hK2 _ _ ?_)
      refine wp_seq_k fun K3 hK3 => ?_
      refine wp_region_lit ?_
      refine sv' hF (wn rfl) rfl rfl (R.move (hF.ev rfl)) fun a hF => ?_
      refine sv' hF (wn rfl) rfl rfl (R.loadW agg31 (hF.ev rfl) hS .h sz31 (rfl)) fun a hF => ?_
      refine sv' hF (wn rfl) rfl rfl (R.move (hF.ev rfl)) fun a hF => ?_
      refine so (wn rfl) (O.callK rfl rfl hF ent80 (hF.evs rfl) hS (reckoned_bad F _ (0) _ _ (hS.own1 (.t (.t (.t .h)))) (by decide)) (fun _ => (.t (.t (.t .h)))) fun v s22 a w hR hF hS => ?_)
      obtain ⟨rfl, he⟩ := hR
      rw [he] at hS
      refine sv' hF (wn rfl) rfl rfl (R.assign (hF.ev rfl)) fun a hF => ?_
      refine s0 ?_
      refine then_n (hK3 _ _ ?_)
      refine wp_ret (hR _ _ _ _ _ hF (run_results Try.results59 (.t hF rfl (.nil))) ?_)
      exact ⟨_, s, rfl, ⟨rfl, rfl⟩, hS.one (.t (.t (.t .h)))⟩
    ·
      refine dl rfl (wn rfl) (O.alloc rfl rfl hF ze31 rfl hS fun b6 a w hF hS => ⟨fun hD => hS.sel [] rfl rfl, ?_⟩)
      have hD := hS.sel [] rfl rfl
      refine dl rfl (wn rfl) (O.alloc rfl rfl hF ze31 rfl hS fun b5 a w hF hS => ⟨fun hD => hS.sel [] rfl rfl, ?_⟩)
      have hD := hS.sel [] rfl rfl
      refine dl rfl (wn rfl) (O.storeW sz31 (hF.ev rfl) (hF.ev rfl) (rfl) rfl (by simp [Value.oneCell']) hS .h (rfl) fun w hS => ⟨fun hD => hS.sel [] rfl rfl, ?_⟩)
      have hD := hS.sel [] rfl rfl
      refine dl rfl (wn rfl) (O.storeW sz31 (hF.ev rfl) (hF.ev rfl) (rfl) rfl (by simp [Value.oneCell']) hS (.t .h) (rfl) fun w hS => ⟨fun hD => hS.sel [] rfl rfl, ?_⟩)
      have hD := hS.sel [] rfl rfl
      refine dq hF rfl (wn rfl) rfl rfl (fun w => R.assign (hF.ev rfl)) fun a hF => ?_
      refine d0 ?_
      refine then_n (hK2 _ _ ?_)
      refine wp_seq_k fun K4 hK4 => ?_
      refine wp_region_lit ?_
      refine sv' hF (wn rfl) rfl rfl (R.move (hF.ev rfl)) fun a hF => ?_
      refine sv' hF (wn rfl) rfl rfl (R.loadW agg31 (hF.ev rfl) hS (.t .h) sz31 (rfl)) fun a hF => ?_
      refine sv' hF (wn rfl) rfl rfl (R.move (hF.ev rfl)) fun a hF => ?_
      refine so (wn rfl) (O.callK rfl rfl hF ent80 (hF.evs rfl) hS (reckoned_bad F _ (0) _ _ (hS.own1 (.t (.t (.t .h)))) (by decide)) (fun _ => (.t (.t (.t .h)))) fun v s22 a w hR hF hS => ?_)
      obtain ⟨rfl, he⟩ := hR
      rw [he] at hS
      refine sv' hF (wn rfl) rfl rfl (R.assign (hF.ev rfl)) fun a hF => ?_
      refine s0 ?_
      refine then_n (hK4 _ _ ?_)
      refine wp_ret (hR _ _ _ _ _ hF (run_results Try.results59 (.t hF rfl (.nil))) ?_)
      exact ⟨_, s, rfl, ⟨rfl, rfl⟩, hS.one (.t (.t (.t .h)))⟩
  ·
    refine dl rfl (wn rfl) (O.alloc rfl rfl hF ze31 rfl hS fun b5 a w hF hS => ⟨fun hD => hS.sel [] rfl rfl, ?_⟩)
    have hD := hS.sel [] rfl rfl
    refine d0 ?_
    refine ⟨?_, ?_⟩
    ·
      refine dl rfl (wn rfl) (O.call rfl rfl hF ent84 (hF.evs rfl) hS (div_calls (u 0) (u 1) _ (hvM 0) (hvM 1)) fun v s15 a w hR hF hS => ⟨fun hD => hS.sel [] rfl rfl, ?_⟩)
      obtain ⟨rfl, rfl⟩ := hR
      have hD := hS.sel [] rfl rfl
      rw [show divW (u 0) (u 1) = .tuple #[wv (0), wv (0), .int .i64 24] from by simp only [divW, if_pos h]] at hF
      refine dq hF rfl (wn rfl) rfl rfl (fun w => R.move (hF.ev rfl)) fun a hF => ?_
      refine dq hF rfl (wn rfl) rfl rfl (fun w => R.extract (hF.ev rfl) rfl) fun a hF => ?_
      refine dq hF rfl (wn rfl) rfl rfl (fun w => R.extract (hF.ev rfl) rfl) fun a hF => ?_
      refine dq hF rfl (wn rfl) rfl rfl (fun w => R.extract (hF.ev rfl) rfl) fun a hF => ?_
      refine dl rfl (wn rfl) (O.alloc rfl rfl hF ze31 rfl hS fun b6 a w hF hS => ⟨fun hD => hS.sel [] rfl rfl, ?_⟩)
      have hD := hS.sel [] rfl rfl
      refine dl rfl (wn rfl) (O.storeW sz31 (hF.ev rfl) (hF.ev rfl) (rfl) rfl (by simp [Value.oneCell']) hS (.t (.t .h)) (rfl) fun w hS => ⟨fun hD => hS.sel [] rfl rfl, ?_⟩)
      have hD := hS.sel [] rfl rfl
      refine dl rfl (wn rfl) (O.storeW sz31 (hF.ev rfl) (hF.ev rfl) (rfl) rfl (by simp [Value.oneCell']) hS .h (rfl) fun w hS => ⟨fun hD => hS.sel [] rfl rfl, ?_⟩)
      have hD := hS.sel [] rfl rfl
      refine dq hF rfl (wn rfl) rfl rfl (fun w => R.assign (hF.ev rfl)) fun a hF => ?_
      refine d0 ?_
      refine then_n (hK2 _ _ ?_)
      refine wp_seq_k fun K5 hK5 => ?_
      refine wp_region_lit ?_
      refine sv' hF (wn rfl) rfl rfl (R.move (hF.ev rfl)) fun a hF => ?_
      refine sv' hF (wn rfl) rfl rfl (R.loadW agg31 (hF.ev rfl) hS .h sz31 (rfl)) fun a hF => ?_
      refine sv' hF (wn rfl) rfl rfl (R.move (hF.ev rfl)) fun a hF => ?_
      refine so (wn rfl) (O.callK rfl rfl hF ent80 (hF.evs rfl) hS (reckoned_bad F _ (0) _ _ (hS.own1 (.t (.t (.t .h)))) (by decide)) (fun _ => (.t (.t (.t .h)))) fun v s22 a w hR hF hS => ?_)
      obtain ⟨rfl, he⟩ := hR
      rw [he] at hS
      refine sv' hF (wn rfl) rfl rfl (R.assign (hF.ev rfl)) fun a hF => ?_
      refine s0 ?_
      refine then_n (hK5 _ _ ?_)
      refine wp_ret (hR _ _ _ _ _ hF (run_results Try.results59 (.t hF rfl (.nil))) ?_)
      exact ⟨_, s, rfl, ⟨rfl, rfl⟩, hS.one (.t (.t (.t .h)))⟩
    ·
      refine dl rfl (wn rfl) (O.alloc rfl rfl hF ze31 rfl hS fun b6 a w hF hS => ⟨fun hD => hS.sel [] rfl rfl, ?_⟩)
      have hD := hS.sel [] rfl rfl
      refine dl rfl (wn rfl) (O.call rfl rfl hF ent84 (hF.evs rfl) hS (div_calls (u 0) (u 1) _ (hvM 0) (hvM 1)) fun v s15 a w hR hF hS => ⟨fun hD => hS.sel [] rfl rfl, ?_⟩)
      obtain ⟨rfl, rfl⟩ := hR
      have hD := hS.sel [] rfl rfl
      rw [show divW (u 0) (u 1) = .tuple #[wv (0), wv (0), .int .i64 24] from by simp only [divW, if_pos h]] at hF
      refine dq hF rfl (wn rfl) rfl rfl (fun w => R.move (hF.ev rfl)) fun a hF => ?_
      refine dq hF rfl (wn rfl) rfl rfl (fun w => R.extract (hF.ev rfl) rfl) fun a hF => ?_
      refine dq hF rfl (wn rfl) rfl rfl (fun w => R.extract (hF.ev rfl) rfl) fun a hF => ?_
      refine dq hF rfl (wn rfl) rfl rfl (fun w => R.extract (hF.ev rfl) rfl) fun a hF => ?_
      refine dl rfl (wn rfl) (O.storeW sz31 (hF.ev rfl) (hF.ev rfl) (rfl) rfl (by simp [Value.oneCell']) hS (.t (.t .h)) (rfl) fun w hS => ⟨fun hD => hS.sel [] rfl rfl, ?_⟩)
      have hD := hS.sel [] rfl rfl
      refine dl rfl (wn rfl) (O.storeW sz31 (hF.ev rfl) (hF.ev rfl) (rfl) rfl (by simp [Value.oneCell']) hS (.t .h) (rfl) fun w hS => ⟨fun hD => hS.sel [] rfl rfl, ?_⟩)
      have hD := hS.sel [] rfl rfl
      refine dq hF rfl (wn rfl) rfl rfl (fun w => R.assign (hF.ev rfl)) fun a hF => ?_
      refine d0 ?_
      refine then_n (hK2 _ _ ?_)
      refine wp_seq_k fun K6 hK6 => ?_
      refine wp_region_lit ?_
      refine sv' hF (wn rfl) rfl rfl (R.move (hF.ev rfl)) fun a hF => ?_
      refine sv' hF (wn rfl) rfl rfl (R.loadW agg31 (hF.ev rfl) hS (.t .h) sz31 (rfl)) fun a hF => ?_
      refine sv' hF (wn rfl) rfl rfl (R.move (hF.ev rfl)) fun a hF => ?_
      refine so (wn rfl) (O.callK rfl rfl hF ent80 (hF.evs rfl) hS (reckoned_bad F _ (0) _ _ (hS.own1 (.t (.t (.t .h)))) (by decide)) (fun _ => (.t (.t (.t .h)))) fun v s22 a w hR hF hS => ?_)
      obtain ⟨rfl, he⟩ := hR
      rw [he] at hS
      refine sv' hF (wn rfl) rfl rfl (R.assign (hF.ev rfl)) fun a hF => ?_
      refine s0 ?_
      refine then_n (hK6 _ _ ?_)
      refine wp_ret (hR _ _ _ _ _ hF (run_results Try.results59 (.t hF rfl (.nil))) ?_)
      exact ⟨_, s, rfl, ⟨rfl, rfl⟩, hS.one (.t (.t (.t .h)))⟩
  ·
    refine dl rfl (wn rfl) (O.alloc rfl rfl hF ze31 rfl hS fun b6 a w hF hS => ⟨fun hD => hS.sel [] rfl rfl, ?_⟩)
    have hD := hS.sel [] rfl rfl
    refine d0 ?_
    refine ⟨?_, ?_⟩
    ·
      refine dl rfl (wn rfl) (O.call rfl rfl hF ent84 (hF.evs rfl) hS (div_calls (u 0) (u 1) _ (hvM 0) (hvM 1)) fun v s15 a w hR hF hS => ⟨fun hD => hS.sel [] rfl rfl, ?_⟩)
      obtain ⟨rfl, rfl⟩ := hR
      have hD := hS.sel [] rfl rfl
      rw [show divW (u 0) (u 1) = .tuple #[wv (0), wv (0), .int .i64 24] from by simp only [divW, if_pos h]] at hF
      refine dq hF rfl (wn rfl) rfl rfl (fun w => R.move (hF.ev rfl)) fun a hF => ?_
      refine dq hF rfl (wn rfl) rfl rfl (fun w => R.extract (hF.ev rfl) rfl) fun a hF => ?_
      refine dq hF rfl (wn rfl) rfl rfl (fun w => R.extract (hF.ev rfl) rfl) fun a hF => ?_
      refine dq hF rfl (wn rfl) rfl rfl (fun w => R.extract (hF.ev rfl) rfl) fun a hF => ?_
      refine dl rfl (wn rfl) (O.alloc rfl rfl hF ze31 rfl hS fun b5 a w hF hS => ⟨fun hD => hS.sel [] rfl rfl, ?_⟩)
      have hD := hS.sel [] rfl rfl
      refine dl rfl (wn rfl) (O.storeW sz31 (hF.ev rfl) (hF.ev rfl) (rfl) rfl (by simp [Value.oneCell']) hS .h (rfl) fun w hS => ⟨fun hD => hS.sel [] rfl rfl, ?_⟩)
      have hD := hS.sel [] rfl rfl
      refine dl rfl (wn rfl) (O.storeW sz31 (hF.ev rfl) (hF.ev rfl) (rfl) rfl (by simp [Value.oneCell']) hS (.t (.t .h)) (rfl) fun w hS => ⟨fun hD => hS.sel [] rfl rfl, ?_⟩)
      have hD := hS.sel [] rfl rfl
      refine dq hF rfl (wn rfl) rfl rfl (fun w => R.assign (hF.ev rfl)) fun a hF => ?_
      refine d0 ?_
      refine then_n (hK2 _ _ ?_)
      refine wp_seq_k fun K7 hK7 => ?_
      refine wp_region_lit ?_
      refine sv' hF (wn rfl) rfl rfl (R.move (hF.ev rfl)) fun a hF => ?_
      refine sv' hF (wn rfl) rfl rfl (R.loadW agg31 (hF.ev rfl) hS (.t (.t .h)) sz31 (rfl)) fun a hF => ?_
      refine sv' hF (wn rfl) rfl rfl (R.move (hF.ev rfl)) fun a hF => ?_
      refine so (wn rfl) (O.callK rfl rfl hF ent80 (hF.evs rfl) hS (reckoned_bad F _ (0) _ _ (hS.own1 (.t (.t (.t .h)))) (by decide)) (fun _ => (.t (.t (.t .h)))) fun v s22 a w hR hF hS => ?_)
      obtain ⟨rfl, he⟩ := hR
      rw [he] at hS
      refine sv' hF (wn rfl) rfl rfl (R.assign (hF.ev rfl)) fun a hF => ?_
      refine s0 ?_
      refine then_n (hK7 _ _ ?_)
      refine wp_ret (hR _ _ _ _ _ hF (run_results Try.results59 (.t hF rfl (.nil))) ?_)
      exact ⟨_, s, rfl, ⟨rfl, rfl⟩, hS.one (.t (.t (.t .h)))⟩
    ·
      refine dl rfl (wn rfl) (O.alloc rfl rfl hF ze31 rfl hS fun b5 a w hF hS => ⟨fun hD => hS.sel [] rfl rfl, ?_⟩)
      have hD := hS.sel [] rfl rfl
      refine dl rfl (wn rfl) (O.call rfl rfl hF ent84 (hF.evs rfl) hS (div_calls (u 0) (u 1) _ (hvM 0) (hvM 1)) fun v s15 a w hR hF hS => ⟨fun hD => hS.sel [] rfl rfl, ?_⟩)
      obtain ⟨rfl, rfl⟩ := hR
      have hD := hS.sel [] rfl rfl
      rw [show divW (u 0) (u 1) = .tuple #[wv (0), wv (0), .int .i64 24] from by simp only [divW, if_pos h]] at hF
      refine dq hF rfl (wn rfl) rfl rfl (fun w => R.move (hF.ev rfl)) fun a hF => ?_
      refine dq hF rfl (wn rfl) rfl rfl (fun w => R.extract (hF.ev rfl) rfl) fun a hF => ?_
      refine dq hF rfl (wn rfl) rfl rfl (fun w => R.extract (hF.ev rfl) rfl) fun a hF => ?_
      refine dq hF rfl (wn rfl) rfl rfl (fun w => R.extract (hF.ev rfl) rfl) fun a hF => ?_
      refine dl rfl (wn rfl) (O.storeW sz31 (hF.ev rfl) (hF.ev rfl) (rfl) rfl (by simp [Value.oneCell']) hS (.t .h) (rfl) fun w hS => ⟨fun hD => hS.sel [] rfl rfl, ?_⟩)
      have hD := hS.sel [] rfl rfl
      refine dl rfl (wn rfl) (O.storeW sz31 (hF.ev rfl) (hF.ev rfl) (rfl) rfl (by simp [Value.oneCell']) hS (.t (.t .h)) (rfl) fun w hS => ⟨fun hD => hS.sel [] rfl rfl, ?_⟩)
      have hD := hS.sel [] rfl rfl
      refine dq hF rfl (wn rfl) rfl rfl (fun w => R.assign (hF.ev rfl)) fun a hF => ?_
      refine d0 ?_
      refine then_n (hK2 _ _ ?_)
      refine wp_seq_k fun K8 hK8 => ?_
      refine wp_region_lit ?_
      refine sv' hF (wn rfl) rfl rfl (R.move (hF.ev rfl)) fun a hF => ?_
      refine sv' hF (wn rfl) rfl rfl (R.loadW agg31 (hF.ev rfl) hS (.t (.t .h)) sz31 (rfl)) fun a hF => ?_
      refine sv' hF (wn rfl) rfl rfl (R.move (hF.ev rfl)) fun a hF => ?_
      refine so (wn rfl) (O.callK rfl rfl hF ent80 (hF.evs rfl) hS (reckoned_bad F _ (0) _ _ (hS.own1 (.t (.t (.t .h)))) (by decide)) (fun _ => (.t (.t (.t .h)))) fun v s22 a w hR hF hS => ?_)
      obtain ⟨rfl, he⟩ := hR
      rw [he] at hS
      refine sv' hF (wn rfl) rfl rfl (R.assign (hF.ev rfl)) fun a hF => ?_
      refine s0 ?_
      refine then_n (hK8 _ _ ?_)
      refine wp_ret (hR _ _ _ _ _ hF (run_results Try.results59 (.t hF rfl (.nil))) ?_)
      exact ⟨_, s, rfl, ⟨rfl, rfl⟩, hS.one (.t (.t (.t .h)))⟩
theorem less_op (F : Fx) (V : Vr) (stk : List Nat) (s : Seg) (vb : Nat) (u : Nat → Nat) (w0 : World) (hRun : RunS F V stk s) (ho : Own w0 s) (hv : RdK w0 (s.map (·.1)) (some ⟨vb, 0, none⟩) (vc u)) (hvM : ∀ i, u i < 115792089237316195423570985008687907853269984665640564039457584007913129639936) (hl : stk.length ≤ 64) : Ret Try.prog 60 [.pointer (some ⟨F.rb, 0, none⟩), .slice (some ⟨vb, 0, none⟩) 2 3] w0 (s.map (·.1)) (fun v s' => v = .int .i64 0 ∧ RunS F V (stk ++ [bit1 (decide (u 0 < u 1))]) s') := by
  refine fn_start Try.func60 rfl Try.ntmps60 rfl [(0, .pointer (some ⟨F.rb, 0, none⟩)), (1, .slice (some ⟨vb, 0, none⟩) 2 3)] ⟨rfl, rfl, trivial⟩ ?_
  intro Q a hP hF hR hN
  have hS := St.enter ho
  refine wp_seq_k fun K1 hK1 => ?_
  refine wp_region_lit ?_
  refine sv' hF (wn rfl) rfl rfl (R.assign (hF.ev rfl)) fun a hF => ?_
  refine s0 ?_
  refine then_n (hK1 _ _ ?_)
  refine wp_seq_k fun K2 hK2 => ?_
  refine wp_drawG hS (hS.sel [] rfl rfl) [(0, 0), (1, 0), (2, 0), (3, 1), (4, 0), (5, 0), (6, 1), (7, 2), (8, 0), (9, 2), (10, 2), (11, 0)] mix (by kernel_rfl) (hP.then) fun w hS hD => ?_
  refine dq hF rfl (wn rfl) rfl rfl (fun w => R.move (hF.ev rfl)) fun a hF => ?_
  refine dq hF rfl (wn rfl) rfl rfl (fun w => R.move (hF.ev rfl)) fun a hF => ?_
  refine dq hF rfl (wn rfl) rfl rfl (fun w => R.indexO Try.underlying32 sz31 (hF.ev rfl) (by simp) (hF.ev rfl) (by omega) (by omega)) fun a hF => ?_
  refine dr hF rfl (wn rfl) rfl rfl hD (fun w hD => R.loadAO (cs := wc (u 0)) agg31 (hF.ev rfl) (hv.old hD) sz31 rfl (Nat.succ_pos _) (v0_at rfl)) fun a hF => ?_
  refine dq hF rfl (wn rfl) rfl rfl (fun w => R.move (hF.ev rfl)) fun a hF => ?_
  refine dq hF rfl (wn rfl) rfl rfl (fun w => R.indexO Try.underlying32 sz31 (hF.ev rfl) (by simp) (hF.ev rfl) (by omega) (by omega)) fun a hF => ?_
  refine dr hF rfl (wn rfl) rfl rfl hD (fun w hD => R.loadAO (cs := wc (u 1)) agg31 (hF.ev rfl) (hv.old hD) sz31 rfl (Nat.succ_pos _) (v1_at rfl)) fun a hF => ?_
  refine dl rfl (wn rfl) (O.call rfl rfl hF ent86 (hF.evs rfl) hS (cmp_calls (u 0) (u 1) _ (hvM 0) (hvM 1)) fun v s12 a w hR hF hS => ⟨fun hD => hS.sel [] rfl rfl, ?_⟩)
  obtain ⟨rfl, rfl⟩ := hR
  have hD := hS.sel [] rfl rfl
  refine dq hF rfl (wn rfl) rfl rfl (fun w => R.lss (hF.ev rfl) (hF.ev rfl)) fun a hF => ?_
  rw [cmp_lt] at hF
  refine dl rfl (wn rfl) (O.call rfl rfl hF ent85 (hF.evs rfl) hS (truth_calls (decide (u 0 < u 1)) _) fun v s14 a w hR hF hS => ⟨fun hD => hS.sel [] rfl rfl, ?_⟩)
  obtain ⟨rfl, rfl⟩ := hR
  have hD := hS.sel [] rfl rfl
  refine dl rfl (wn rfl) (O.callK rfl rfl hF ent79 (hF.evs rfl) hS (on_calls F V stk _ (bit1 (decide (u 0 < u 1))) _ hRun (hS.own1 (.t (.t .h))) (hl)) (fun _ => (.t (.t .h))) fun v s15 a w hR hF hS => ⟨fun hD => hS.sel [] rfl rfl, ?_⟩)
  obtain ⟨rfl, hRun2⟩ := hR
  have hD := hS.sel [] rfl rfl
  refine dq hF rfl (wn rfl) rfl rfl (fun w => R.assign (hF.ev rfl)) fun a hF => ?_
  refine d0 ?_
  refine then_n (hK2 _ _ ?_)
  refine wp_ret (hR _ _ _ _ _ hF (run_results Try.results60 (.t hF rfl (.nil))) ?_)
  exact ⟨_, s15, rfl, ⟨rfl, hRun2⟩, hS.one (.t (.t .h))⟩
theorem same_op (F : Fx) (V : Vr) (stk : List Nat) (s : Seg) (vb : Nat) (u : Nat → Nat) (w0 : World) (hRun : RunS F V stk s) (ho : Own w0 s) (hv : RdK w0 (s.map (·.1)) (some ⟨vb, 0, none⟩) (vc u)) (hvM : ∀ i, u i < 115792089237316195423570985008687907853269984665640564039457584007913129639936) (hl : stk.length ≤ 64) : Ret Try.prog 61 [.pointer (some ⟨F.rb, 0, none⟩), .slice (some ⟨vb, 0, none⟩) 2 3] w0 (s.map (·.1)) (fun v s' => v = .int .i64 0 ∧ RunS F V (stk ++ [bit1 (decide (u 0 = u 1))]) s') := by
  refine fn_start Try.func61 rfl Try.ntmps61 rfl [(0, .pointer (some ⟨F.rb, 0, none⟩)), (1, .slice (some ⟨vb, 0, none⟩) 2 3)] ⟨rfl, rfl, trivial⟩ ?_
  intro Q a hP hF hR hN
  have hS := St.enter ho
  refine wp_seq_k fun K1 hK1 => ?_
  refine wp_region_lit ?_
  refine sv' hF (wn rfl) rfl rfl (R.assign (hF.ev rfl)) fun a hF => ?_
  refine s0 ?_
  refine then_n (hK1 _ _ ?_)
  refine wp_seq_k fun K2 hK2 => ?_
  refine wp_drawG hS (hS.sel [] rfl rfl) [(0, 0), (1, 0), (2, 0), (3, 1), (4, 0), (5, 0), (6, 1), (7, 0), (8, 2), (9, 2), (10, 0)] mix (by kernel_rfl) (hP.then) fun w hS hD => ?_
  refine dq hF rfl (wn rfl) rfl rfl (fun w => R.move (hF.ev rfl)) fun a hF => ?_
  refine dq hF rfl (wn rfl) rfl rfl (fun w => R.move (hF.ev rfl)) fun a hF => ?_
  refine dq hF rfl (wn rfl) rfl rfl (fun w => R.indexO Try.underlying32 sz31 (hF.ev rfl) (by simp) (hF.ev rfl) (by omega) (by omega)) fun a hF => ?_
  refine dr hF rfl (wn rfl) rfl rfl hD (fun w hD => R.loadAO (cs := wc (u 0)) agg31 (hF.ev rfl) (hv.old hD) sz31 rfl (Nat.succ_pos _) (v0_at rfl)) fun a hF => ?_
  refine dq hF rfl (wn rfl) rfl rfl (fun w => R.move (hF.ev rfl)) fun a hF => ?_
  refine dq hF rfl (wn rfl) rfl rfl (fun w => R.indexO Try.underlying32 sz31 (hF.ev rfl) (by simp) (hF.ev rfl) (by omega) (by omega)) fun a hF => ?_
  refine dr hF rfl (wn rfl) rfl rfl hD (fun w hD => R.loadAO (cs := wc (u 1)) agg31 (hF.ev rfl) (hv.old hD) sz31 rfl (Nat.succ_pos _) (v1_at rfl)) fun a hF => ?_
  refine dq hF rfl (wn rfl) rfl rfl (fun w => R.eqlW (x := u 0) (y := u 1) (hF.ev rfl) (hF.ev rfl) (hvM 0) (hvM 1)) fun a hF => ?_
  refine dl rfl (wn rfl) (O.call rfl rfl hF ent85 (hF.evs rfl) hS (truth_calls (decide (u 0 = u 1)) _) fun v s13 a w hR hF hS => ⟨fun hD => hS.sel [] rfl rfl, ?_⟩)
  obtain ⟨rfl, rfl⟩ := hR
  have hD := hS.sel [] rfl rfl
  refine dl rfl (wn rfl) (O.callK rfl rfl hF ent79 (hF.evs rfl) hS (on_calls F V stk _ (bit1 (decide (u 0 = u 1))) _ hRun (hS.own1 (.t .h)) (hl)) (fun _ => (.t .h)) fun v s14 a w hR hF hS => ⟨fun hD => hS.sel [] rfl rfl, ?_⟩)
  obtain ⟨rfl, hRun2⟩ := hR
  have hD := hS.sel [] rfl rfl
  refine dq hF rfl (wn rfl) rfl rfl (fun w => R.assign (hF.ev rfl)) fun a hF => ?_
  refine d0 ?_
  refine then_n (hK2 _ _ ?_)
  refine wp_ret (hR _ _ _ _ _ hF (run_results Try.results61 (.t hF rfl (.nil))) ?_)
  exact ⟨_, s14, rfl, ⟨rfl, hRun2⟩, hS.one (.t .h)⟩
theorem not_op (F : Fx) (V : Vr) (stk : List Nat) (s : Seg) (vb : Nat) (u : Nat → Nat) (w0 : World) (hRun : RunS F V stk s) (ho : Own w0 s) (hv : RdK w0 (s.map (·.1)) (some ⟨vb, 0, none⟩) (vc u)) (hvM : ∀ i, u i < 115792089237316195423570985008687907853269984665640564039457584007913129639936) (hl : stk.length ≤ 64) : Ret Try.prog 62 [.pointer (some ⟨F.rb, 0, none⟩), .slice (some ⟨vb, 0, none⟩) 1 3] w0 (s.map (·.1)) (fun v s' => v = .int .i64 0 ∧ RunS F V (stk ++ [bit1 (decide (u 0 = 0))]) s') := by
  refine fn_start Try.func62 rfl Try.ntmps62 rfl [(0, .pointer (some ⟨F.rb, 0, none⟩)), (1, .slice (some ⟨vb, 0, none⟩) 1 3)] ⟨rfl, rfl, trivial⟩ ?_
  intro Q a hP hF hR hN
  have hS := St.enter ho
  refine wp_seq_k fun K1 hK1 => ?_
  refine wp_region_lit ?_
  refine sv' hF (wn rfl) rfl rfl (R.assign (hF.ev rfl)) fun a hF => ?_
  refine s0 ?_
  refine then_n (hK1 _ _ ?_)
  refine wp_seq_k fun K2 hK2 => ?_
  refine wp_region_lit ?_
  refine sv' hF (wn rfl) rfl rfl (R.move (hF.ev rfl)) fun a hF => ?_
  refine sv' hF (wn rfl) rfl rfl (R.move (hF.ev rfl)) fun a hF => ?_
  refine sv' hF (wn rfl) rfl rfl (R.indexO Try.underlying32 sz31 (hF.ev rfl) (by simp) (hF.ev rfl) (by omega) (by omega)) fun a hF => ?_
  refine sv' hF (wn rfl) rfl rfl (R.loadAO (cs := wc (u 0)) agg31 (hF.ev rfl) (hv.old hS) sz31 rfl (Nat.succ_pos _) (v0_at rfl)) fun a hF => ?_
  refine so (wn rfl) (O.call rfl rfl hF ent87 (hF.evs rfl) hS (isZero_calls (u 0) _ (hvM 0)) fun v s9 a w hR hF hS => ?_)
  obtain ⟨rfl, rfl⟩ := hR
  refine so (wn rfl) (O.call rfl rfl hF ent85 (hF.evs rfl) hS (truth_calls (decide (u 0 = 0)) _) fun v s10 a w hR hF hS => ?_)
  obtain ⟨rfl, rfl⟩ := hR
  refine so (wn rfl) (O.callK rfl rfl hF ent79 (hF.evs rfl) hS (on_calls F V stk _ (bit1 (decide (u 0 = 0))) _ hRun (hS.own1 (.t (.t .h))) (hl)) (fun _ => (.t (.t .h))) fun v s11 a w hR hF hS => ?_)
  obtain ⟨rfl, hRun2⟩ := hR
  refine sv' hF (wn rfl) rfl rfl (R.assign (hF.ev rfl)) fun a hF => ?_
  refine s0 ?_
  refine then_n (hK2 _ _ ?_)
  refine wp_ret (hR _ _ _ _ _ hF (run_results Try.results62 (.t hF rfl (.nil))) ?_)
  exact ⟨_, s11, rfl, ⟨rfl, hRun2⟩, hS.one (.t (.t .h))⟩
theorem stop_op (s : Seg) (x : Value) (rb : Nat) (w0 : World) (ho : Own w0 s) : Ret Try.prog 49 [.pointer (some ⟨rb, 0, none⟩), x] w0 (s.map (·.1)) (fun v s' => v = .int .i64 105 ∧ s' = s) := by
  refine fn_start Try.func49 rfl Try.ntmps49 rfl [(0, .pointer (some ⟨rb, 0, none⟩)), (1, x)] ⟨rfl, rfl, trivial⟩ ?_
  intro Q a hP hF hR hN
  have hS := St.enter ho
  refine wp_seq_k fun K1 hK1 => ?_
  refine wp_region_lit ?_
  refine sv' hF (wn rfl) rfl rfl (R.assign (hF.ev rfl)) fun a hF => ?_
  refine s0 ?_
  refine then_n (hK1 _ _ ?_)
  refine wp_seq_k fun K2 hK2 => ?_
  refine wp_region_lit ?_
  refine sv' hF (wn rfl) rfl rfl (R.assign (hF.ev rfl)) fun a hF => ?_
  refine s0 ?_
  refine then_n (hK2 _ _ ?_)
  refine wp_ret (hR _ _ _ _ _ hF (run_results Try.results49 (.t hF rfl (.nil))) ?_)
  exact ⟨_, s, rfl, ⟨rfl, rfl⟩, hS⟩
theorem pop_op (s : Seg) (x : Value) (rb : Nat) (w0 : World) (ho : Own w0 s) : Ret Try.prog 52 [.pointer (some ⟨rb, 0, none⟩), x] w0 (s.map (·.1)) (fun v s' => v = .int .i64 0 ∧ s' = s) := by
  refine fn_start Try.func52 rfl Try.ntmps52 rfl [(0, .pointer (some ⟨rb, 0, none⟩)), (1, x)] ⟨rfl, rfl, trivial⟩ ?_
  intro Q a hP hF hR hN
  have hS := St.enter ho
  refine wp_seq_k fun K1 hK1 => ?_
  refine wp_region_lit ?_
  refine sv' hF (wn rfl) rfl rfl (R.assign (hF.ev rfl)) fun a hF => ?_
  refine s0 ?_
  refine then_n (hK1 _ _ ?_)
  refine wp_seq_k fun K2 hK2 => ?_
  refine wp_region_lit ?_
  refine sv' hF (wn rfl) rfl rfl (R.assign (hF.ev rfl)) fun a hF => ?_
  refine s0 ?_
  refine then_n (hK2 _ _ ?_)
  refine wp_ret (hR _ _ _ _ _ hF (run_results Try.results52 (.t hF rfl (.nil))) ?_)
  exact ⟨_, s, rfl, ⟨rfl, rfl⟩, hS⟩
end Go.Proofs.Ytlapmbkfmbkdoaa
namespace Go.Proofs.Ytlapmbkfmbkdoaa
open Go Go.Fw Go.RowKit
attribute [local irreducible] Go.Oper.wp Go.Code.wp Go.wpList Go.Fw.WL Go.Calls
theorem callOk_tok {cl : Cl} (h : callOk cl = true) : 0 ≤ cl.token ∧ cl.token < 64 ∧ cl.args.length ≤ 8 ∧ 0 ≤ cl.time ∧ cl.time ≤ 4611686018427387904 ∧ 1 ≤ cl.gas ∧ cl.gas ≤ 10000 := by
  simpa [callOk, and_assoc] using h
theorem arg_at {l : List Nat} {k off : Nat} (hk : k < l.length) (ho : off = k * 4) : ∀ j v, (wc (l.getD k 0))[j]? = some v → (l.flatMap wc)[off + j]? = some v := wcs_at hk ho
theorem args_op (F : Fx) (V : Vr) (stk : List Nat) (s : Seg) (vx : Value) (w0 : World) (hRun : RunS F V stk s) (ho : Own w0 s) (hK : F.Ok) (hA : RdK w0 (s.map (·.1)) F.aA (F.cl.args.flatMap wc)) (hl : stk.length ≤ 64) : Ret Try.prog 66 [.pointer (some ⟨F.rb, 0, none⟩), vx] w0 (s.map (·.1)) (fun v s' => v = .int .i64 0 ∧ RunS F V (stk ++ [F.cl.args.length]) s') := by
  refine fn_start Try.func66 rfl Try.ntmps66 rfl [(0, .pointer (some ⟨F.rb, 0, none⟩)), (1, vx)] ⟨rfl, rfl, trivial⟩ ?_
  intro Q a hP hF hR hN
  have hS := St.enter ho
  obtain ⟨A, c, sg, hs, hO⟩ := hRun; have hS := hS.flat (bs' := [[(F.rb, Cel (rcells F (.slice A stk.length c) V) 81)], sg]) (by simp [hs])
  refine wp_seq_k fun K1 hK1 => ?_
  refine wp_region_lit ?_
  refine sv' hF (wn rfl) rfl rfl (R.assign (hF.ev rfl)) fun a hF => ?_
  refine s0 ?_
  refine then_n (hK1 _ _ ?_)
  refine wp_seq_k fun K2 hK2 => ?_
  refine wp_region_lit ?_
  refine sv' hF (wn rfl) rfl rfl (R.move (hF.ev rfl)) fun a hF => ?_
  refine sv' hF (wn rfl) rfl rfl (R.move (hF.ev rfl)) fun a hF => ?_
  refine sv' hF (wn rfl) rfl rfl (R.nilCheck (hF.ev rfl)) fun a hF => ?_
  refine sv' hF (wn rfl) rfl rfl (R.fieldAddr (k := 1) Try.underlying81 rfl nz34 (hF.ev rfl) rfl) fun a hF => ?_
  refine sv' hF (wn rfl) rfl rfl (R.fieldAddr (k := 45) Try.underlying34 rfl nz32 (hF.ev rfl) rfl) fun a hF => ?_
  refine sv' hF (wn rfl) rfl rfl (R.load one32 (hF.ev rfl) hS .h (rfl)) fun a hF => ?_
  refine sv' hF (wn rfl) rfl rfl (R.len Try.underlying32 (hF.ev rfl)) fun a hF => ?_
  have hS := (hS.sel [0, 1] rfl rfl).flat (bs' := [(F.rb, Cel (rcells F (.slice A stk.length c) V) 81) :: sg]) (by simp [selS])
  refine so (wn rfl) (O.callK rfl rfl hF ent88 (hF.evs rfl) hS (count_calls F V stk _ (F.cl.args.length) _ ⟨A, c, sg, rfl, hO⟩ (hS.own1 .h) (by have := callOk_tok hK.call; omega) hl) (fun _ => .h) fun v s12 a w hR hF hS => ?_)
  obtain ⟨rfl, hRun2⟩ := hR
  refine sv' hF (wn rfl) rfl rfl (R.assign (hF.ev rfl)) fun a hF => ?_
  refine s0 ?_
  refine then_n (hK2 _ _ ?_)
  refine wp_ret (hR _ _ _ _ _ hF (run_results Try.results66 (.t hF rfl (.nil))) ?_)
  exact ⟨_, s12, rfl, ⟨rfl, hRun2⟩, hS.one .h⟩
theorem token_op (F : Fx) (V : Vr) (stk : List Nat) (s : Seg) (vx : Value) (w0 : World) (hRun : RunS F V stk s) (ho : Own w0 s) (hK : F.Ok) (hA : RdK w0 (s.map (·.1)) F.aA (F.cl.args.flatMap wc)) (hl : stk.length ≤ 64) : Ret Try.prog 69 [.pointer (some ⟨F.rb, 0, none⟩), vx] w0 (s.map (·.1)) (fun v s' => v = .int .i64 0 ∧ RunS F V (stk ++ [F.cl.token.toNat]) s') := by
  refine fn_start Try.func69 rfl Try.ntmps69 rfl [(0, .pointer (some ⟨F.rb, 0, none⟩)), (1, vx)] ⟨rfl, rfl, trivial⟩ ?_
  intro Q a hP hF hR hN
  have hS := St.enter ho
  obtain ⟨A, c, sg, hs, hO⟩ := hRun; have hS := hS.flat (bs' := [[(F.rb, Cel (rcells F (.slice A stk.length c) V) 81)], sg]) (by simp [hs])
  refine wp_seq_k fun K1 hK1 => ?_
  refine wp_region_lit ?_
  refine sv' hF (wn rfl) rfl rfl (R.assign (hF.ev rfl)) fun a hF => ?_
  refine s0 ?_
  refine then_n (hK1 _ _ ?_)
  refine wp_seq_k fun K2 hK2 => ?_
  refine wp_region_lit ?_
  refine sv' hF (wn rfl) rfl rfl (R.move (hF.ev rfl)) fun a hF => ?_
  refine sv' hF (wn rfl) rfl rfl (R.move (hF.ev rfl)) fun a hF => ?_
  refine sv' hF (wn rfl) rfl rfl (R.nilCheck (hF.ev rfl)) fun a hF => ?_
  refine sv' hF (wn rfl) rfl rfl (R.fieldAddr (k := 1) Try.underlying81 rfl nz34 (hF.ev rfl) rfl) fun a hF => ?_
  refine sv' hF (wn rfl) rfl rfl (R.fieldAddr (k := 40) Try.underlying34 rfl nz3 (hF.ev rfl) rfl) fun a hF => ?_
  refine sv' hF (wn rfl) rfl rfl (R.as (u := .int .i64 ((F.cl.token.toNat : Nat) : Int)) (R.load one3 (hF.ev rfl) hS .h rfl) (congrArg (Value.int .i64) (by have := callOk_tok hK.call; omega))) fun a hF => ?_
  have hS := (hS.sel [0, 1] rfl rfl).flat (bs' := [(F.rb, Cel (rcells F (.slice A stk.length c) V) 81) :: sg]) (by simp [selS])
  refine so (wn rfl) (O.callK rfl rfl hF ent88 (hF.evs rfl) hS (count_calls F V stk _ (F.cl.token.toNat) _ ⟨A, c, sg, rfl, hO⟩ (hS.own1 .h) (by have := callOk_tok hK.call; omega) hl) (fun _ => .h) fun v s11 a w hR hF hS => ?_)
  obtain ⟨rfl, hRun2⟩ := hR
  refine sv' hF (wn rfl) rfl rfl (R.assign (hF.ev rfl)) fun a hF => ?_
  refine s0 ?_
  refine then_n (hK2 _ _ ?_)
  refine wp_ret (hR _ _ _ _ _ hF (run_results Try.results69 (.t hF rfl (.nil))) ?_)
  exact ⟨_, s11, rfl, ⟨rfl, hRun2⟩, hS.one .h⟩
theorem time_op (F : Fx) (V : Vr) (stk : List Nat) (s : Seg) (vx : Value) (w0 : World) (hRun : RunS F V stk s) (ho : Own w0 s) (hK : F.Ok) (hA : RdK w0 (s.map (·.1)) F.aA (F.cl.args.flatMap wc)) (hl : stk.length ≤ 64) : Ret Try.prog 71 [.pointer (some ⟨F.rb, 0, none⟩), vx] w0 (s.map (·.1)) (fun v s' => v = .int .i64 0 ∧ RunS F V (stk ++ [F.cl.time.toNat]) s') := by
  refine fn_start Try.func71 rfl Try.ntmps71 rfl [(0, .pointer (some ⟨F.rb, 0, none⟩)), (1, vx)] ⟨rfl, rfl, trivial⟩ ?_
  intro Q a hP hF hR hN
  have hS := St.enter ho
  obtain ⟨A, c, sg, hs, hO⟩ := hRun; have hS := hS.flat (bs' := [[(F.rb, Cel (rcells F (.slice A stk.length c) V) 81)], sg]) (by simp [hs])
  refine wp_seq_k fun K1 hK1 => ?_
  refine wp_region_lit ?_
  refine sv' hF (wn rfl) rfl rfl (R.assign (hF.ev rfl)) fun a hF => ?_
  refine s0 ?_
  refine then_n (hK1 _ _ ?_)
  refine wp_seq_k fun K2 hK2 => ?_
  refine wp_region_lit ?_
  refine sv' hF (wn rfl) rfl rfl (R.move (hF.ev rfl)) fun a hF => ?_
  refine sv' hF (wn rfl) rfl rfl (R.move (hF.ev rfl)) fun a hF => ?_
  refine sv' hF (wn rfl) rfl rfl (R.nilCheck (hF.ev rfl)) fun a hF => ?_
  refine sv' hF (wn rfl) rfl rfl (R.fieldAddr (k := 1) Try.underlying81 rfl nz34 (hF.ev rfl) rfl) fun a hF => ?_
  refine sv' hF (wn rfl) rfl rfl (R.fieldAddr (k := 46) Try.underlying34 rfl nz3 (hF.ev rfl) rfl) fun a hF => ?_
  refine sv' hF (wn rfl) rfl rfl (R.as (u := .int .i64 ((F.cl.time.toNat : Nat) : Int)) (R.load one3 (hF.ev rfl) hS .h rfl) (congrArg (Value.int .i64) (by have := callOk_tok hK.call; omega))) fun a hF => ?_
  have hS := (hS.sel [0, 1] rfl rfl).flat (bs' := [(F.rb, Cel (rcells F (.slice A stk.length c) V) 81) :: sg]) (by simp [selS])
  refine so (wn rfl) (O.callK rfl rfl hF ent88 (hF.evs rfl) hS (count_calls F V stk _ (F.cl.time.toNat) _ ⟨A, c, sg, rfl, hO⟩ (hS.own1 .h) (by have := callOk_tok hK.call; omega) hl) (fun _ => .h) fun v s11 a w hR hF hS => ?_)
  obtain ⟨rfl, hRun2⟩ := hR
  refine sv' hF (wn rfl) rfl rfl (R.assign (hF.ev rfl)) fun a hF => ?_
  refine s0 ?_
  refine then_n (hK2 _ _ ?_)
  refine wp_ret (hR _ _ _ _ _ hF (run_results Try.results71 (.t hF rfl (.nil))) ?_)
  exact ⟨_, s11, rfl, ⟨rfl, hRun2⟩, hS.one .h⟩
theorem gas_op (F : Fx) (V : Vr) (stk : List Nat) (s : Seg) (vx : Value) (w0 : World) (hRun : RunS F V stk s) (ho : Own w0 s) (hK : F.Ok) (hA : RdK w0 (s.map (·.1)) F.aA (F.cl.args.flatMap wc)) (hl : stk.length ≤ 64) (hq : V.left ≤ 9223372036854775807) : Ret Try.prog 72 [.pointer (some ⟨F.rb, 0, none⟩), vx] w0 (s.map (·.1)) (fun v s' => v = .int .i64 0 ∧ RunS F V (stk ++ [V.left]) s') := by
  refine fn_start Try.func72 rfl Try.ntmps72 rfl [(0, .pointer (some ⟨F.rb, 0, none⟩)), (1, vx)] ⟨rfl, rfl, trivial⟩ ?_
  intro Q a hP hF hR hN
  have hS := St.enter ho
  obtain ⟨A, c, sg, hs, hO⟩ := hRun; have hS := hS.flat (bs' := [[(F.rb, Cel (rcells F (.slice A stk.length c) V) 81)], sg]) (by simp [hs])
  refine wp_seq_k fun K1 hK1 => ?_
  refine wp_region_lit ?_
  refine sv' hF (wn rfl) rfl rfl (R.assign (hF.ev rfl)) fun a hF => ?_
  refine s0 ?_
  refine then_n (hK1 _ _ ?_)
  refine wp_seq_k fun K2 hK2 => ?_
  refine wp_region_lit ?_
  refine sv' hF (wn rfl) rfl rfl (R.move (hF.ev rfl)) fun a hF => ?_
  refine sv' hF (wn rfl) rfl rfl (R.move (hF.ev rfl)) fun a hF => ?_
  refine sv' hF (wn rfl) rfl rfl (R.nilCheck (hF.ev rfl)) fun a hF => ?_
  refine sv' hF (wn rfl) rfl rfl (R.fieldAddr (k := 51) Try.underlying81 rfl nz3 (hF.ev rfl) rfl) fun a hF => ?_
  refine sv' hF (wn rfl) rfl rfl (R.load one3 (hF.ev rfl) hS .h (rfl)) fun a hF => ?_
  have hS := (hS.sel [0, 1] rfl rfl).flat (bs' := [(F.rb, Cel (rcells F (.slice A stk.length c) V) 81) :: sg]) (by simp [selS])
  refine so (wn rfl) (O.callK rfl rfl hF ent88 (hF.evs rfl) hS (count_calls F V stk _ V.left _ ⟨A, c, sg, rfl, hO⟩ (hS.own1 .h) hq hl) (fun _ => .h) fun v s10 a w hR hF hS => ?_)
  obtain ⟨rfl, hRun2⟩ := hR
  refine sv' hF (wn rfl) rfl rfl (R.assign (hF.ev rfl)) fun a hF => ?_
  refine s0 ?_
  refine then_n (hK2 _ _ ?_)
  refine wp_ret (hR _ _ _ _ _ hF (run_results Try.results72 (.t hF rfl (.nil))) ?_)
  exact ⟨_, s10, rfl, ⟨rfl, hRun2⟩, hS.one .h⟩
theorem caller_op (F : Fx) (V : Vr) (stk : List Nat) (s : Seg) (vx : Value) (w0 : World) (hRun : RunS F V stk s) (ho : Own w0 s) (hK : F.Ok) (hA : RdK w0 (s.map (·.1)) F.aA (F.cl.args.flatMap wc)) (hl : stk.length ≤ 64) : Ret Try.prog 67 [.pointer (some ⟨F.rb, 0, none⟩), vx] w0 (s.map (·.1)) (fun v s' => v = .int .i64 0 ∧ RunS F V (stk ++ [adN F.cl.caller]) s') := by
  refine fn_start Try.func67 rfl Try.ntmps67 rfl [(0, .pointer (some ⟨F.rb, 0, none⟩)), (1, vx)] ⟨rfl, rfl, trivial⟩ ?_
  intro Q a hP hF hR hN
  have hS := St.enter ho
  obtain ⟨A, c, sg, hs, hO⟩ := hRun; have hS := hS.flat (bs' := [[(F.rb, Cel (rcells F (.slice A stk.length c) V) 81)], sg]) (by simp [hs])
  refine wp_seq_k fun K1 hK1 => ?_
  refine wp_region_lit ?_
  refine sv' hF (wn rfl) rfl rfl (R.assign (hF.ev rfl)) fun a hF => ?_
  refine s0 ?_
  refine then_n (hK1 _ _ ?_)
  refine wp_seq_k fun K2 hK2 => ?_
  refine wp_region_lit ?_
  refine sv' hF (wn rfl) rfl rfl (R.move (hF.ev rfl)) fun a hF => ?_
  refine sv' hF (wn rfl) rfl rfl (R.move (hF.ev rfl)) fun a hF => ?_
  refine sv' hF (wn rfl) rfl rfl (R.nilCheck (hF.ev rfl)) fun a hF => ?_
  refine sv' hF (wn rfl) rfl rfl (R.fieldAddr (k := 1) Try.underlying81 rfl nz34 (hF.ev rfl) rfl) fun a hF => ?_
  refine sv' hF (wn rfl) rfl rfl (R.fieldAddr (k := 20) Try.underlying34 rfl nz28 (hF.ev rfl) rfl) fun a hF => ?_
  refine sv' hF (wn rfl) rfl rfl (R.loadA (cs := [_, _, _, _, _, _, _, _, _, _, _, _, _, _, _, _, _, _, _, _]) agg28 (hF.ev rfl) hS .h sz28 rfl (getAt rfl)) fun a hF => ?_
  have hS := (hS.sel [0, 1] rfl rfl).flat (bs' := [(F.rb, Cel (rcells F (.slice A stk.length c) V) 81) :: sg]) (by simp [selS])
  refine so (wn rfl) (O.callK rfl rfl hF ent89 (hF.evs rfl) hS (who_calls F V stk _ F.cl.caller _ ⟨A, c, sg, rfl, hO⟩ (hS.own1 .h) hK.caller hl) (fun _ => .h) fun v s11 a w hR hF hS => ?_)
  obtain ⟨rfl, hRun2⟩ := hR
  refine sv' hF (wn rfl) rfl rfl (R.assign (hF.ev rfl)) fun a hF => ?_
  refine s0 ?_
  refine then_n (hK2 _ _ ?_)
  refine wp_ret (hR _ _ _ _ _ hF (run_results Try.results67 (.t hF rfl (.nil))) ?_)
  exact ⟨_, s11, rfl, ⟨rfl, hRun2⟩, hS.one .h⟩
theorem self_op (F : Fx) (V : Vr) (stk : List Nat) (s : Seg) (vx : Value) (w0 : World) (hRun : RunS F V stk s) (ho : Own w0 s) (hK : F.Ok) (hA : RdK w0 (s.map (·.1)) F.aA (F.cl.args.flatMap wc)) (hl : stk.length ≤ 64) : Ret Try.prog 68 [.pointer (some ⟨F.rb, 0, none⟩), vx] w0 (s.map (·.1)) (fun v s' => v = .int .i64 0 ∧ RunS F V (stk ++ [adN F.cl.self]) s') := by
  refine fn_start Try.func68 rfl Try.ntmps68 rfl [(0, .pointer (some ⟨F.rb, 0, none⟩)), (1, vx)] ⟨rfl, rfl, trivial⟩ ?_
  intro Q a hP hF hR hN
  have hS := St.enter ho
  obtain ⟨A, c, sg, hs, hO⟩ := hRun; have hS := hS.flat (bs' := [[(F.rb, Cel (rcells F (.slice A stk.length c) V) 81)], sg]) (by simp [hs])
  refine wp_seq_k fun K1 hK1 => ?_
  refine wp_region_lit ?_
  refine sv' hF (wn rfl) rfl rfl (R.assign (hF.ev rfl)) fun a hF => ?_
  refine s0 ?_
  refine then_n (hK1 _ _ ?_)
  refine wp_seq_k fun K2 hK2 => ?_
  refine wp_region_lit ?_
  refine sv' hF (wn rfl) rfl rfl (R.move (hF.ev rfl)) fun a hF => ?_
  refine sv' hF (wn rfl) rfl rfl (R.move (hF.ev rfl)) fun a hF => ?_
  refine sv' hF (wn rfl) rfl rfl (R.nilCheck (hF.ev rfl)) fun a hF => ?_
  refine sv' hF (wn rfl) rfl rfl (R.fieldAddr (k := 1) Try.underlying81 rfl nz34 (hF.ev rfl) rfl) fun a hF => ?_
  refine sv' hF (wn rfl) rfl rfl (R.fieldAddr (k := 0) Try.underlying34 rfl nz28 (hF.ev rfl) rfl) fun a hF => ?_
  refine sv' hF (wn rfl) rfl rfl (R.loadA (cs := [_, _, _, _, _, _, _, _, _, _, _, _, _, _, _, _, _, _, _, _]) agg28 (hF.ev rfl) hS .h sz28 rfl (getAt rfl)) fun a hF => ?_
  have hS := (hS.sel [0, 1] rfl rfl).flat (bs' := [(F.rb, Cel (rcells F (.slice A stk.length c) V) 81) :: sg]) (by simp [selS])
  refine so (wn rfl) (O.callK rfl rfl hF ent89 (hF.evs rfl) hS (who_calls F V stk _ F.cl.self _ ⟨A, c, sg, rfl, hO⟩ (hS.own1 .h) hK.self hl) (fun _ => .h) fun v s11 a w hR hF hS => ?_)
  obtain ⟨rfl, hRun2⟩ := hR
  refine sv' hF (wn rfl) rfl rfl (R.assign (hF.ev rfl)) fun a hF => ?_
  refine s0 ?_
  refine then_n (hK2 _ _ ?_)
  refine wp_ret (hR _ _ _ _ _ hF (run_results Try.results68 (.t hF rfl (.nil))) ?_)
  exact ⟨_, s11, rfl, ⟨rfl, hRun2⟩, hS.one .h⟩
theorem amount_op (F : Fx) (V : Vr) (stk : List Nat) (s : Seg) (vx : Value) (w0 : World) (hRun : RunS F V stk s) (ho : Own w0 s) (hK : F.Ok) (hA : RdK w0 (s.map (·.1)) F.aA (F.cl.args.flatMap wc)) (hl : stk.length ≤ 64) : Ret Try.prog 70 [.pointer (some ⟨F.rb, 0, none⟩), vx] w0 (s.map (·.1)) (fun v s' => v = .int .i64 0 ∧ RunS F V (stk ++ [F.cl.amount]) s') := by
  refine fn_start Try.func70 rfl Try.ntmps70 rfl [(0, .pointer (some ⟨F.rb, 0, none⟩)), (1, vx)] ⟨rfl, rfl, trivial⟩ ?_
  intro Q a hP hF hR hN
  have hS := St.enter ho
  obtain ⟨A, c, sg, hs, hO⟩ := hRun; have hS := hS.flat (bs' := [[(F.rb, Cel (rcells F (.slice A stk.length c) V) 81)], sg]) (by simp [hs])
  refine wp_seq_k fun K1 hK1 => ?_
  refine wp_region_lit ?_
  refine sv' hF (wn rfl) rfl rfl (R.assign (hF.ev rfl)) fun a hF => ?_
  refine s0 ?_
  refine then_n (hK1 _ _ ?_)
  refine wp_seq_k fun K2 hK2 => ?_
  refine wp_region_lit ?_
  refine sv' hF (wn rfl) rfl rfl (R.move (hF.ev rfl)) fun a hF => ?_
  refine sv' hF (wn rfl) rfl rfl (R.move (hF.ev rfl)) fun a hF => ?_
  refine sv' hF (wn rfl) rfl rfl (R.nilCheck (hF.ev rfl)) fun a hF => ?_
  refine sv' hF (wn rfl) rfl rfl (R.fieldAddr (k := 1) Try.underlying81 rfl nz34 (hF.ev rfl) rfl) fun a hF => ?_
  refine sv' hF (wn rfl) rfl rfl (R.fieldAddr (k := 41) Try.underlying34 rfl nz31 (hF.ev rfl) rfl) fun a hF => ?_
  refine sv' hF (wn rfl) rfl rfl (R.loadA (cs := [_, _, _, _]) agg31 (hF.ev rfl) hS .h sz31 rfl (getAt rfl)) fun a hF => ?_
  have hS := (hS.sel [0, 1] rfl rfl).flat (bs' := [(F.rb, Cel (rcells F (.slice A stk.length c) V) 81) :: sg]) (by simp [selS])
  refine so (wn rfl) (O.callK rfl rfl hF ent79 (hF.evs rfl) hS (on_calls F V stk _ (F.cl.amount) _ ⟨A, c, sg, rfl, hO⟩ (hS.own1 .h) (hl)) (fun _ => .h) fun v s11 a w hR hF hS => ?_)
  obtain ⟨rfl, hRun2⟩ := hR
  refine sv' hF (wn rfl) rfl rfl (R.assign (hF.ev rfl)) fun a hF => ?_
  refine s0 ?_
  refine then_n (hK2 _ _ ?_)
  refine wp_ret (hR _ _ _ _ _ hF (run_results Try.results70 (.t hF rfl (.nil))) ?_)
  exact ⟨_, s11, rfl, ⟨rfl, hRun2⟩, hS.one .h⟩
theorem arg_op (F : Fx) (V : Vr) (stk : List Nat) (s : Seg) (vx : Value) (w0 : World) (hRun : RunS F V stk s) (ho : Own w0 s) (hK : F.Ok) (hA : RdK w0 (s.map (·.1)) F.aA (F.cl.args.flatMap wc)) (hl : stk.length ≤ 64) (hC : RdK w0 (s.map (·.1)) F.cA (byts F.code)) (hp : V.p + 1 < F.code.length) : Ret Try.prog 65 [.pointer (some ⟨F.rb, 0, none⟩), vx] w0 (s.map (·.1)) (fun v s' => v = .int .i64 0 ∧ RunS F V (stk ++ [F.cl.args.getD (cAt F.code (V.p + 1)) 0]) s') := by
  refine fn_start Try.func65 rfl Try.ntmps65 rfl [(0, .pointer (some ⟨F.rb, 0, none⟩)), (1, vx)] ⟨rfl, rfl, trivial⟩ ?_
  intro Q a hP hF hR hN
  have hS := St.enter ho
  obtain ⟨A, c, sg, hs, hO⟩ := hRun; have hS := hS.flat (bs' := [[(F.rb, Cel (rcells F (.slice A stk.length c) V) 81)], sg]) (by simp [hs]); have hb := cAt_lt hK.byt (V.p + 1); have hcl := callOk_tok hK.call
  refine wp_seq_k fun K1 hK1 => ?_
  refine wp_region_lit ?_
  refine sv' hF (wn rfl) rfl rfl (R.assign (hF.ev rfl)) fun a hF => ?_
  refine s0 ?_
  refine then_n (hK1 _ _ ?_)
  refine wp_seq_k fun K2 hK2 => ?_
  refine wp_seq_k fun K3 hK3 => ?_
  refine wp_region_lit ?_
  refine sv' hF (wn rfl) rfl rfl (R.move (hF.ev rfl)) fun a hF => ?_
  refine so (wn rfl) (O.call rfl rfl hF ent77 (hF.evs rfl) hS (operand_calls F V _ _ (Rd.own0 hS .h) (hC.old hS) hK.byt hK.len hp) fun v s7 a w hR hF hS => ?_)
  obtain ⟨rfl, rfl⟩ := hR
  refine sv' hF (wn rfl) rfl rfl (R.assign (hF.ev rfl)) fun a hF => ?_
  refine s0 ?_
  refine then_n (hK3 _ _ ?_)
  refine wp_seq_k fun K4 hK4 => ?_
  refine wp_region_lit ?_
  refine sv' hF (wn rfl) rfl rfl (R.move (hF.ev rfl)) fun a hF => ?_
  refine sv' hF (wn rfl) rfl rfl (R.move (hF.ev rfl)) fun a hF => ?_
  refine sv' hF (wn rfl) rfl rfl (R.nilCheck (hF.ev rfl)) fun a hF => ?_
  refine sv' hF (wn rfl) rfl rfl (R.fieldAddr (k := 1) Try.underlying81 rfl nz34 (hF.ev rfl) rfl) fun a hF => ?_
  refine sv' hF (wn rfl) rfl rfl (R.fieldAddr (k := 45) Try.underlying34 rfl nz32 (hF.ev rfl) rfl) fun a hF => ?_
  refine sv' hF (wn rfl) rfl rfl (R.load one32 (hF.ev rfl) hS (.t .h) (rfl)) fun a hF => ?_
  refine sv' hF (wn rfl) rfl rfl (R.len Try.underlying32 (hF.ev rfl)) fun a hF => ?_
  refine sv' hF (wn rfl) rfl rfl (R.lss (hF.ev rfl) (hF.ev rfl)) fun a hF => ?_
  refine s0 ?_
  refine then_n (hK4 _ _ ?_)
  refine cD hF rfl (fun c1 => ?_) (fun c1 => ?_)
  ·
    refine wp_seq_k fun K5 hK5 => ?_
    refine wp_region_lit ?_
    refine sv' hF (wn rfl) rfl rfl (R.move (hF.ev rfl)) fun a hF => ?_
    refine sv' hF (wn rfl) rfl rfl (R.move (hF.ev rfl)) fun a hF => ?_
    refine sv' hF (wn rfl) rfl rfl (R.nilCheck (hF.ev rfl)) fun a hF => ?_
    refine sv' hF (wn rfl) rfl rfl (R.fieldAddr (k := 1) Try.underlying81 rfl nz34 (hF.ev rfl) rfl) fun a hF => ?_
    refine sv' hF (wn rfl) rfl rfl (R.fieldAddr (k := 45) Try.underlying34 rfl nz32 (hF.ev rfl) rfl) fun a hF => ?_
    refine sv' hF (wn rfl) rfl rfl (R.load one32 (hF.ev rfl) hS (.t .h) (rfl)) fun a hF => ?_
    refine sv' hF (wn rfl) rfl rfl (R.move (hF.ev rfl)) fun a hF => ?_
    refine sv' hF (wn rfl) rfl rfl (R.indexO Try.underlying32 sz31 (hF.ev rfl) (Rd.ne (hA.old hS) (by rw [wcs_length]; omega)) (hF.ev rfl) (by omega) (by omega)) fun a hF => ?_
    refine sv' hF (wn rfl) rfl rfl (R.loadAO (cs := wc (F.cl.args.getD (cAt F.code (V.p + 1)) 0)) agg31 (hF.ev rfl) (hA.old hS) sz31 rfl (Nat.succ_pos _) (arg_at (k := cAt F.code (V.p + 1)) (by omega) (by omega))) fun a hF => ?_
    have hS := (hS.sel [1, 2] rfl rfl).flat (bs' := [(F.rb, Cel (rcells F (.slice A stk.length c) V) 81) :: sg]) (by simp [selS])
    refine so (wn rfl) (O.callK rfl rfl hF ent79 (hF.evs rfl) hS (on_calls F V stk _ (F.cl.args.getD (cAt F.code (V.p + 1)) 0) _ ⟨A, c, sg, rfl, hO⟩ (hS.own1 .h) (hl)) (fun _ => .h) fun v s25 a w hR hF hS => ?_)
    obtain ⟨rfl, hRun2⟩ := hR
    refine sv' hF (wn rfl) rfl rfl (R.assign (hF.ev rfl)) fun a hF => ?_
    refine s0 ?_
    refine then_n (hK5 _ _ ?_)
    refine wp_ret (then_r (hR _ _ _ _ _ hF (run_results Try.results65 (.t hF rfl (.nil))) ?_))
    exact ⟨_, s25, rfl, ⟨rfl, hRun2⟩, hS.one .h⟩
  ·
    have hz : F.cl.args.getD (cAt F.code (V.p + 1)) 0 = 0 := by rw [List.getD_eq_getElem?_getD, List.getElem?_eq_none (by omega)]; rfl
    refine wp_skip ?_
    refine then_n (hK2 _ _ ?_)
    refine wp_seq_k fun K6 hK6 => ?_
    refine wp_region_lit ?_
    refine sv' hF (wn rfl) rfl rfl (R.move (hF.ev rfl)) fun a hF => ?_
    refine sv' hF (wn rfl) rfl rfl (R.buildArr (l := [_, _, _, _]) Try.underlying31 ze31 sz29 (hF.evp rfl) rfl) fun a hF => ?_
    have hS := (hS.sel [1, 2] rfl rfl).flat (bs' := [(F.rb, Cel (rcells F (.slice A stk.length c) V) 81) :: sg]) (by simp [selS])
    refine so (wn rfl) (O.callK rfl rfl hF ent79 (hF.evs rfl) hS (on_calls F V stk _ (0) _ ⟨A, c, sg, rfl, hO⟩ (hS.own1 .h) (hl)) (fun _ => .h) fun v s28 a w hR hF hS => ?_)
    obtain ⟨rfl, hRun2⟩ := hR
    refine sv' hF (wn rfl) rfl rfl (R.assign (hF.ev rfl)) fun a hF => ?_
    refine s0 ?_
    refine then_n (hK6 _ _ ?_)
    refine wp_ret (hR _ _ _ _ _ hF (run_results Try.results65 (.t hF rfl (.nil))) ?_)
    rw [hz]
    exact ⟨_, s28, rfl, ⟨rfl, hRun2⟩, hS.one .h⟩
theorem done_op (F : Fx) (V : Vr) (stk : List Nat) (s : Seg) (vb : Nat) (u : Nat → Nat) (w0 : World) (hRun : RunS F V stk s) (ho : Own w0 s) (hv : RdK w0 (s.map (·.1)) (some ⟨vb, 0, none⟩) (vc u)) (hvM : ∀ i, u i < 115792089237316195423570985008687907853269984665640564039457584007913129639936) (hl : stk.length ≤ 64) : Ret Try.prog 50 [.pointer (some ⟨F.rb, 0, none⟩), .slice (some ⟨vb, 0, none⟩) 1 3] w0 (s.map (·.1)) (fun x s' => x = .int .i64 0 ∧ RunS F { V with ended := true, value := u 0 } stk s') := by
  refine fn_start Try.func50 rfl Try.ntmps50 rfl [(0, .pointer (some ⟨F.rb, 0, none⟩)), (1, .slice (some ⟨vb, 0, none⟩) 1 3)] ⟨rfl, rfl, trivial⟩ ?_
  intro Q a hP hF hR hN
  have hS := St.enter ho
  obtain ⟨A, c, sg, hs, hO⟩ := hRun; have hS := hS.flat (bs' := [[(F.rb, Cel (rcells F (.slice A stk.length c) V) 81)], sg]) (by simp [hs])
  refine wp_seq_k fun K1 hK1 => ?_
  refine wp_region_lit ?_
  refine sv' hF (wn rfl) rfl rfl (R.assign (hF.ev rfl)) fun a hF => ?_
  refine s0 ?_
  refine then_n (hK1 _ _ ?_)
  refine wp_seq_k fun K2 hK2 => ?_
  refine wp_region_lit ?_
  refine sv' hF (wn rfl) rfl rfl (R.move (hF.ev rfl)) fun a hF => ?_
  refine sv' hF (wn rfl) rfl rfl (R.nilCheck (hF.ev rfl)) fun a hF => ?_
  refine sv' hF (wn rfl) rfl rfl (R.fieldAddr (k := 54) Try.underlying81 rfl nz4 (hF.ev rfl) rfl) fun a hF => ?_
  refine so (wn rfl) (O.store sz4 (hF.ev rfl) (hF.ev rfl) rfl rfl hS .h (show List.set _ _ _ = rcells F (.slice A stk.length c) { V with ended := true } from rfl) (by first | decide | omega | (show _ < 59; decide) | (show _ < 3; decide) | simp) fun w hS => ?_)
  refine s0 ?_
  refine then_n (hK2 _ _ ?_)
  refine wp_seq_k fun K3 hK3 => ?_
  refine wp_region_lit ?_
  refine sv' hF (wn rfl) rfl rfl (R.move (hF.ev rfl)) fun a hF => ?_
  refine sv' hF (wn rfl) rfl rfl (R.move (hF.ev rfl)) fun a hF => ?_
  refine sv' hF (wn rfl) rfl rfl (R.indexO Try.underlying32 sz31 (hF.ev rfl) (by simp) (hF.ev rfl) (by omega) (by omega)) fun a hF => ?_
  refine sv' hF (wn rfl) rfl rfl (R.loadAO (cs := wc (u 0)) agg31 (hF.ev rfl) (hv.old hS) sz31 rfl (Nat.succ_pos _) (v0_at rfl)) fun a hF => ?_
  refine sv' hF (wn rfl) rfl rfl (R.nilCheck (hF.ev rfl)) fun a hF => ?_
  refine sv' hF (wn rfl) rfl rfl (R.fieldAddr (k := 55) Try.underlying81 rfl nz31 (hF.ev rfl) rfl) fun a hF => ?_
  refine so (wn rfl) (O.storeA sz31 (hF.ev rfl) (hF.ev rfl) rfl rfl (by simp [Value.oneCell']) hS .h (show spl _ _ _ = rcells F (.slice A stk.length c) { V with ended := true, value := u 0 } from rfl) (by show 55 + 4 ≤ 59; decide) fun w hS => ?_)
  refine s0 ?_
  refine then_n (hK3 _ _ ?_)
  refine wp_seq_k fun K4 hK4 => ?_
  refine wp_region_lit ?_
  refine sv' hF (wn rfl) rfl rfl (R.assign (hF.ev rfl)) fun a hF => ?_
  refine s0 ?_
  refine then_n (hK4 _ _ ?_)
  refine wp_ret (hR _ _ _ _ _ hF (run_results Try.results50 (.t hF rfl (.nil))) ?_)
  obtain ⟨s', h1, h2⟩ := RunS.close (F := F) (V := { V with ended := true, value := u 0 }) (stk := stk) (hS.sel [0, 1] rfl rfl) (by simp) (hO)
  exact ⟨_, s', rfl, ⟨rfl, h1⟩, h2⟩
theorem jump_op (F : Fx) (V : Vr) (stk : List Nat) (s : Seg) (vx : Value) (w0 : World) (hRun : RunS F V stk s) (ho : Own w0 s) (hK : F.Ok) (hC : RdK w0 (s.map (·.1)) F.cA (byts F.code)) (hl : stk.length ≤ 64) (hp : V.p + 3 ≤ F.code.length) : Ret Try.prog 63 [.pointer (some ⟨F.rb, 0, none⟩), vx] w0 (s.map (·.1)) (fun x s' => x = .int .i64 0 ∧ RunS F { V with next := targetN F.code V.p } stk s') := by
  refine fn_start Try.func63 rfl Try.ntmps63 rfl [(0, .pointer (some ⟨F.rb, 0, none⟩)), (1, vx)] ⟨rfl, rfl, trivial⟩ ?_
  intro Q a hP hF hR hN
  have hS := St.enter ho
  obtain ⟨A, c, sg, hs, hO⟩ := hRun; have hS := hS.flat (bs' := [[(F.rb, Cel (rcells F (.slice A stk.length c) V) 81)], sg]) (by simp [hs])
  refine wp_seq_k fun K1 hK1 => ?_
  refine wp_region_lit ?_
  refine sv' hF (wn rfl) rfl rfl (R.assign (hF.ev rfl)) fun a hF => ?_
  refine s0 ?_
  refine then_n (hK1 _ _ ?_)
  refine wp_seq_k fun K2 hK2 => ?_
  refine wp_drawG hS (hS.sel [0] rfl rfl) [(0, 0), (1, 0), (2, 0), (3, 0), (4, 1), (5, 0), (6, 0), (7, 0), (8, 1), (9, 2), (10, 0), (11, 0), (12, 3)] mix (by kernel_rfl) (hP.then) fun w hS hD => ?_
  refine dq hF rfl (wn rfl) rfl rfl (fun w => R.move (hF.ev rfl)) fun a hF => ?_
  refine dq hF rfl (wn rfl) rfl rfl (fun w => R.move (hF.ev rfl)) fun a hF => ?_
  refine dq hF rfl (wn rfl) rfl rfl (fun w => R.nilCheck (hF.ev rfl)) fun a hF => ?_
  refine dq hF rfl (wn rfl) rfl rfl (fun w => R.fieldAddr (k := 0) Try.underlying81 rfl nz23 (hF.ev rfl) rfl) fun a hF => ?_
  refine dr hF rfl (wn rfl) rfl rfl hD (fun w hD => R.load one23 (hF.ev rfl) hD .h (rfl)) fun a hF => ?_
  refine dq hF rfl (wn rfl) rfl rfl (fun w => R.move (hF.ev rfl)) fun a hF => ?_
  refine dq hF rfl (wn rfl) rfl rfl (fun w => R.nilCheck (hF.ev rfl)) fun a hF => ?_
  refine dq hF rfl (wn rfl) rfl rfl (fun w => R.fieldAddr (k := 52) Try.underlying81 rfl nz3 (hF.ev rfl) rfl) fun a hF => ?_
  refine dr hF rfl (wn rfl) rfl rfl hD (fun w hD => R.load one3 (hF.ev rfl) hD .h (rfl)) fun a hF => ?_
  refine dl rfl (wn rfl) (O.call rfl rfl hF ent21 (hF.evs rfl) hS (target_calls F.cA F.code.length F.cc F.code V.p _ (hC.old hS) rfl hK.cap hK.cap2 hK.byt hp) fun v s14 a w hR hF hS => ⟨fun hD => hS.sel [1] rfl rfl, ?_⟩)
  obtain ⟨rfl, rfl⟩ := hR
  have hD := hS.sel [1] rfl rfl
  refine dq hF rfl (wn rfl) rfl rfl (fun w => R.nilCheck (hF.ev rfl)) fun a hF => ?_
  refine dq hF rfl (wn rfl) rfl rfl (fun w => R.fieldAddr (k := 53) Try.underlying81 rfl nz3 (hF.ev rfl) rfl) fun a hF => ?_
  refine dw rfl (wn rfl) (O.store sz3 (hF.ev rfl) (hF.ev rfl) rfl rfl hS (.t .h) (show List.set _ _ _ = rcells F (.slice A stk.length c) { V with next := targetN F.code V.p } from rfl) (by first | decide | omega | (show _ < 59; decide) | (show _ < 3; decide) | simp) fun w hS => ?_)
  refine d0 ?_
  refine then_n (hK2 _ _ ?_)
  refine wp_seq_k fun K3 hK3 => ?_
  refine wp_region_lit ?_
  refine sv' hF (wn rfl) rfl rfl (R.assign (hF.ev rfl)) fun a hF => ?_
  refine s0 ?_
  refine then_n (hK3 _ _ ?_)
  refine wp_ret (hR _ _ _ _ _ hF (run_results Try.results63 (.t hF rfl (.nil))) ?_)
  obtain ⟨s', h1, h2⟩ := RunS.close (F := F) (V := { V with next := targetN F.code V.p }) (stk := stk) (hS.sel [1, 2] rfl rfl) (by simp) (hO)
  exact ⟨_, s', rfl, ⟨rfl, h1⟩, h2⟩
theorem when_go (F : Fx) (V : Vr) (stk : List Nat) (s : Seg) (vb : Nat) (u : Nat → Nat) (w0 : World) (hRun : RunS F V stk s) (ho : Own w0 s) (hv : RdK w0 (s.map (·.1)) (some ⟨vb, 0, none⟩) (vc u)) (hvM : ∀ i, u i < 115792089237316195423570985008687907853269984665640564039457584007913129639936) (hl : stk.length ≤ 64) (hK : F.Ok) (hC : RdK w0 (s.map (·.1)) F.cA (byts F.code)) (hp : V.p + 3 ≤ F.code.length) (hz : ¬ u 0 = 0) : Ret Try.prog 64 [.pointer (some ⟨F.rb, 0, none⟩), .slice (some ⟨vb, 0, none⟩) 1 3] w0 (s.map (·.1)) (fun x s' => x = .int .i64 0 ∧ RunS F { V with next := targetN F.code V.p } stk s') := by
  refine fn_start Try.func64 rfl Try.ntmps64 rfl [(0, .pointer (some ⟨F.rb, 0, none⟩)), (1, .slice (some ⟨vb, 0, none⟩) 1 3)] ⟨rfl, rfl, trivial⟩ ?_
  intro Q a hP hF hR hN
  have hS := St.enter ho
  obtain ⟨A, c, sg, hs, hO⟩ := hRun; have hS := hS.flat (bs' := [[(F.rb, Cel (rcells F (.slice A stk.length c) V) 81)], sg]) (by simp [hs])
  refine wp_seq_k fun K1 hK1 => ?_
  refine wp_region_lit ?_
  refine sv' hF (wn rfl) rfl rfl (R.assign (hF.ev rfl)) fun a hF => ?_
  refine s0 ?_
  refine then_n (hK1 _ _ ?_)
  refine wp_seq_k fun K2 hK2 => ?_
  refine wp_seq_k fun K3 hK3 => ?_
  refine wp_region_lit ?_
  refine sv' hF (wn rfl) rfl rfl (R.move (hF.ev rfl)) fun a hF => ?_
  refine sv' hF (wn rfl) rfl rfl (R.indexO Try.underlying32 sz31 (hF.ev rfl) (by simp) (hF.ev rfl) (by omega) (by omega)) fun a hF => ?_
  refine sv' hF (wn rfl) rfl rfl (R.loadAO (cs := wc (u 0)) agg31 (hF.ev rfl) (hv.old hS) sz31 rfl (Nat.succ_pos _) (v0_at rfl)) fun a hF => ?_
  refine so (wn rfl) (O.call rfl rfl hF ent87 (hF.evs rfl) hS (isZero_calls (u 0) _ (hvM 0)) fun v s8 a w hR hF hS => ?_)
  obtain ⟨rfl, rfl⟩ := hR
  rw [show decide (u 0 = 0) = false from decide_eq_false hz] at hF
  refine sv' hF (wn rfl) rfl rfl ((by first | exact R.notD (hF.ev rfl) | exact R.not (hF.ev rfl))) fun a hF => ?_
  refine s0 ?_
  refine then_n (hK3 _ _ ?_)
  refine cT hF rfl ?_
  refine wp_drawG hS (hS.sel [1] rfl rfl) [(0, 0), (1, 0), (2, 0), (3, 0), (4, 1), (5, 0), (6, 0), (7, 0), (8, 1), (9, 2), (10, 0), (11, 0), (12, 3)] mix (by kernel_rfl) (hP.then) fun w hS hD => ?_
  refine dq hF rfl (wn rfl) rfl rfl (fun w => R.move (hF.ev rfl)) fun a hF => ?_
  refine dq hF rfl (wn rfl) rfl rfl (fun w => R.move (hF.ev rfl)) fun a hF => ?_
  refine dq hF rfl (wn rfl) rfl rfl (fun w => R.nilCheck (hF.ev rfl)) fun a hF => ?_
  refine dq hF rfl (wn rfl) rfl rfl (fun w => R.fieldAddr (k := 0) Try.underlying81 rfl nz23 (hF.ev rfl) rfl) fun a hF => ?_
  refine dr hF rfl (wn rfl) rfl rfl hD (fun w hD => R.load one23 (hF.ev rfl) hD .h (rfl)) fun a hF => ?_
  refine dq hF rfl (wn rfl) rfl rfl (fun w => R.move (hF.ev rfl)) fun a hF => ?_
  refine dq hF rfl (wn rfl) rfl rfl (fun w => R.nilCheck (hF.ev rfl)) fun a hF => ?_
  refine dq hF rfl (wn rfl) rfl rfl (fun w => R.fieldAddr (k := 52) Try.underlying81 rfl nz3 (hF.ev rfl) rfl) fun a hF => ?_
  refine dr hF rfl (wn rfl) rfl rfl hD (fun w hD => R.load one3 (hF.ev rfl) hD .h (rfl)) fun a hF => ?_
  refine dl rfl (wn rfl) (O.call rfl rfl hF ent21 (hF.evs rfl) hS (target_calls F.cA F.code.length F.cc F.code V.p _ (hC.old hS) rfl hK.cap hK.cap2 hK.byt hp) fun v s19 a w hR hF hS => ⟨fun hD => hS.sel [2] rfl rfl, ?_⟩)
  obtain ⟨rfl, rfl⟩ := hR
  have hD := hS.sel [2] rfl rfl
  refine dq hF rfl (wn rfl) rfl rfl (fun w => R.nilCheck (hF.ev rfl)) fun a hF => ?_
  refine dq hF rfl (wn rfl) rfl rfl (fun w => R.fieldAddr (k := 53) Try.underlying81 rfl nz3 (hF.ev rfl) rfl) fun a hF => ?_
  refine dw rfl (wn rfl) (O.store sz3 (hF.ev rfl) (hF.ev rfl) rfl rfl hS (.t (.t .h)) (show List.set _ _ _ = rcells F (.slice A stk.length c) { V with next := targetN F.code V.p } from rfl) (by first | decide | omega | (show _ < 59; decide) | (show _ < 3; decide) | simp) fun w hS => ?_)
  refine d0 ?_
  refine then_n (hK2 _ _ ?_)
  refine wp_seq_k fun K4 hK4 => ?_
  refine wp_region_lit ?_
  refine sv' hF (wn rfl) rfl rfl (R.assign (hF.ev rfl)) fun a hF => ?_
  refine s0 ?_
  refine then_n (hK4 _ _ ?_)
  refine wp_ret (hR _ _ _ _ _ hF (run_results Try.results64 (.t hF rfl (.nil))) ?_)
  obtain ⟨s', h1, h2⟩ := RunS.close (F := F) (V := { V with next := targetN F.code V.p }) (stk := stk) (hS.sel [2, 3] rfl rfl) (by simp) (hO)
  exact ⟨_, s', rfl, ⟨rfl, h1⟩, h2⟩
theorem when_stay (F : Fx) (V : Vr) (stk : List Nat) (s : Seg) (vb : Nat) (u : Nat → Nat) (w0 : World) (hRun : RunS F V stk s) (ho : Own w0 s) (hv : RdK w0 (s.map (·.1)) (some ⟨vb, 0, none⟩) (vc u)) (hvM : ∀ i, u i < 115792089237316195423570985008687907853269984665640564039457584007913129639936) (hl : stk.length ≤ 64) (hK : F.Ok) (hC : RdK w0 (s.map (·.1)) F.cA (byts F.code)) (hp : V.p + 3 ≤ F.code.length) (hz : u 0 = 0) : Ret Try.prog 64 [.pointer (some ⟨F.rb, 0, none⟩), .slice (some ⟨vb, 0, none⟩) 1 3] w0 (s.map (·.1)) (fun x s' => x = .int .i64 0 ∧ RunS F V stk s') := by
  refine fn_start Try.func64 rfl Try.ntmps64 rfl [(0, .pointer (some ⟨F.rb, 0, none⟩)), (1, .slice (some ⟨vb, 0, none⟩) 1 3)] ⟨rfl, rfl, trivial⟩ ?_
  intro Q a hP hF hR hN
  have hS := St.enter ho
  obtain ⟨A, c, sg, hs, hO⟩ := hRun; have hS := hS.flat (bs' := [[(F.rb, Cel (rcells F (.slice A stk.length c) V) 81)], sg]) (by simp [hs])
  refine wp_seq_k fun K1 hK1 => ?_
  refine wp_region_lit ?_
  refine sv' hF (wn rfl) rfl rfl (R.assign (hF.ev rfl)) fun a hF => ?_
  refine s0 ?_
  refine then_n (hK1 _ _ ?_)
  refine wp_seq_k fun K2 hK2 => ?_
  refine wp_seq_k fun K3 hK3 => ?_
  refine wp_region_lit ?_
  refine sv' hF (wn rfl) rfl rfl (R.move (hF.ev rfl)) fun a hF => ?_
  refine sv' hF (wn rfl) rfl rfl (R.indexO Try.underlying32 sz31 (hF.ev rfl) (by simp) (hF.ev rfl) (by omega) (by omega)) fun a hF => ?_
  refine sv' hF (wn rfl) rfl rfl (R.loadAO (cs := wc (u 0)) agg31 (hF.ev rfl) (hv.old hS) sz31 rfl (Nat.succ_pos _) (v0_at rfl)) fun a hF => ?_
  refine so (wn rfl) (O.call rfl rfl hF ent87 (hF.evs rfl) hS (isZero_calls (u 0) _ (hvM 0)) fun v s8 a w hR hF hS => ?_)
  obtain ⟨rfl, rfl⟩ := hR
  rw [show decide (u 0 = 0) = true from decide_eq_true hz] at hF
  refine sv' hF (wn rfl) rfl rfl ((by first | exact R.notD (hF.ev rfl) | exact R.not (hF.ev rfl))) fun a hF => ?_
  refine s0 ?_
  refine then_n (hK3 _ _ ?_)
  refine cF hF rfl ?_
  refine wp_skip ?_
  refine then_n (hK2 _ _ ?_)
  refine wp_seq_k fun K4 hK4 => ?_
  refine wp_region_lit ?_
  refine sv' hF (wn rfl) rfl rfl (R.assign (hF.ev rfl)) fun a hF => ?_
  refine s0 ?_
  refine then_n (hK4 _ _ ?_)
  refine wp_ret (hR _ _ _ _ _ hF (run_results Try.results64 (.t hF rfl (.nil))) ?_)
  obtain ⟨s', h1, h2⟩ := RunS.close (F := F) (V := V) (stk := stk) (hS.sel [1, 2] rfl rfl) (by simp) (hO)
  exact ⟨_, s', rfl, ⟨rfl, h1⟩, h2⟩
end Go.Proofs.Ytlapmbkfmbkdoaa
namespace Go.Proofs.Ytlapmbkfmbkdoaa
open Go Go.Fw Go.RowKit
attribute [local irreducible] Go.Oper.wp Go.Code.wp Go.wpList Go.Fw.WL Go.Calls
theorem own_open3 {s : Seg} {A : Option Addr} {n c : Nat} {cells : List Value} {E : TypeId} {sz : Nat} (h : OwnS s A n c cells E sz) (hn : 0 < n) : ∃ g rest, A = some ⟨g, 0, none⟩ ∧ s = [(g, Cel (cells ++ rest) E)] ∧ n ≤ c ∧ (cells ++ rest).length = c * sz ∧ c ≤ maxLen := by
  obtain ⟨_, h2, h3⟩ := h
  rcases h3 with ⟨rfl, rfl, rfl⟩ | ⟨g, rest, rfl, rfl, h4, h5⟩
  · omega
  · exact ⟨g, rest, rfl, rfl, h2, h4, h5⟩
theorem wcs_atR {l : List Nat} {rest : List Value} {k off : Nat} (hk : k < l.length) (ho : off = k * 4) : ∀ j v, (wc (l.getD k 0))[j]? = some v → (l.flatMap wc ++ rest)[off + j]? = some v := by
  intro j v hj
  have h := wcs_at hk ho j v hj
  rw [List.getElem?_append_left]
  · exact h
  · exact (List.getElem?_eq_some_iff.1 h).1
theorem wcs_splR {l : List Nat} {rest : List Value} {k v off : Nat} (hk : k < l.length) (ho : off = k * 4) : spl (l.flatMap wc ++ rest) off (wc v) = (l.set k v).flatMap wc ++ rest := by
  rw [← wcs_set l k v off hk ho, spl, spl]
  have h1 : off + (wc v).length ≤ (l.flatMap wc).length := by rw [wcs_length]; simp only [List.length_cons, List.length_nil]; omega
  rw [List.take_append_of_le_length (by omega), List.drop_append_of_le_length h1, List.append_assoc, List.append_assoc, List.append_assoc]
set_option maxHeartbeats 2000000 in
theorem dup_op (F : Fx) (V : Vr) (stk : List Nat) (s : Seg) (vx : Value) (w0 : World) (hRun : RunS F V stk s) (ho : Own w0 s) (hK : F.Ok) (hC : RdK w0 (s.map (·.1)) F.cA (byts F.code)) (hl : stk.length ≤ 64) (hp : V.p + 1 < F.code.length) (hb : cAt F.code (V.p + 1) < stk.length) : Ret Try.prog 53 [.pointer (some ⟨F.rb, 0, none⟩), vx] w0 (s.map (·.1)) (fun v s' => v = .int .i64 0 ∧ RunS F V (stk ++ [stk.getD (stk.length - 1 - cAt F.code (V.p + 1)) 0]) s') := by
  refine fn_start Try.func53 rfl Try.ntmps53 rfl [(0, .pointer (some ⟨F.rb, 0, none⟩)), (1, vx)] ⟨rfl, rfl, trivial⟩ ?_
  intro Q a hP hF hR hN
  have hS := St.enter ho
  obtain ⟨A, c, sg, hs, hO⟩ := hRun; have hS := hS.flat (bs' := [[(F.rb, Cel (rcells F (.slice A stk.length c) V) 81)], sg]) (by simp [hs]); have hb1 := cAt_lt hK.byt (V.p + 1)
  refine wp_seq_k fun K1 hK1 => ?_
  refine wp_region_lit ?_
  refine sv' hF (wn rfl) rfl rfl (R.assign (hF.ev rfl)) fun a hF => ?_
  refine s0 ?_
  refine then_n (hK1 _ _ ?_)
  refine wp_seq_k fun K2 hK2 => ?_
  refine wp_drawN hS (hS.sel [] rfl rfl) [(0, 0), (1, 0), (2, 0), (3, 0), (5, 0), (6, 0), (7, 0), (11, 0), (4, 2), (8, 2), (9, 0), (10, 0), (12, 2), (13, 0), (14, 0), (15, 2), (16, 2), (17, 0)] (.node [(0, 0), (1, 0), (2, 0), (3, 0), (5, 0), (6, 0), (7, 0), (11, 0)] (.node [(4, 2)] (.leaf [(8, 2), (9, 0), (10, 0), (12, 2), (13, 0), (14, 0), (15, 2), (16, 2), (17, 0)]) (.leaf [(12, 2), (8, 2), (9, 0), (10, 0), (13, 0), (14, 0), (15, 2), (16, 2), (17, 0)])) (.node [] (.node [(8, 2), (9, 0), (10, 0)] (.leaf [(4, 2), (12, 2), (13, 0), (14, 0), (15, 2), (16, 2), (17, 0)]) (.leaf [(12, 2), (13, 0), (4, 2), (14, 0), (15, 2), (16, 2), (17, 0)])) (.node [(12, 2)] (.leaf [(4, 2), (8, 2), (9, 0), (10, 0), (13, 0), (14, 0), (15, 2), (16, 2), (17, 0)]) (.leaf [(8, 2), (9, 0), (10, 0), (13, 0), (4, 2), (14, 0), (15, 2), (16, 2), (17, 0)])))) mix (by kernel_rfl) (hP.then) fun w hS hD => ?_
  refine dq hF rfl (wn rfl) rfl rfl (fun w => R.move (hF.ev rfl)) fun a hF => ?_
  refine dq hF rfl (wn rfl) rfl rfl (fun w => R.move (hF.ev rfl)) fun a hF => ?_
  refine dq hF rfl (wn rfl) rfl rfl (fun w => R.nilCheck (hF.ev rfl)) fun a hF => ?_
  refine dq hF rfl (wn rfl) rfl rfl (fun w => R.fieldAddr (k := 50) Try.underlying81 rfl nz32 (hF.ev rfl) rfl) fun a hF => ?_
  refine dq hF rfl (wn rfl) rfl rfl (fun w => R.move (hF.ev rfl)) fun a hF => ?_
  refine dq hF rfl (wn rfl) rfl rfl (fun w => R.nilCheck (hF.ev rfl)) fun a hF => ?_
  refine dq hF rfl (wn rfl) rfl rfl (fun w => R.fieldAddr (k := 50) Try.underlying81 rfl nz32 (hF.ev rfl) rfl) fun a hF => ?_
  refine dq hF rfl (wn rfl) rfl rfl (fun w => R.move (hF.ev rfl)) fun a hF => ?_
  refine d0 ?_
  refine ⟨?_, nd0 ⟨?_, ?_⟩⟩
  ·
    refine dl rfl (wn rfl) (O.val hF rfl rfl (R.load one32 (hF.ev rfl) hS .h (rfl)) fun a hF => ⟨id, ?_⟩)
    refine d0 ?_
    refine ⟨?_, ?_⟩
    ·
      refine dl rfl (wn rfl) (O.val hF rfl rfl (R.load one32 (hF.ev rfl) hS .h (rfl)) fun a hF => ⟨id, ?_⟩)
      refine dq hF rfl (wn rfl) rfl rfl (fun w => R.len Try.underlying32 (hF.ev rfl)) fun a hF => ?_
      refine dq hF rfl (wn rfl) rfl rfl (fun w => R.subI (hF.ev rfl) (hF.ev rfl) (by omega)) fun a hF => ?_
      refine dl rfl (wn rfl) (O.call rfl rfl hF ent77 (hF.evs rfl) hS (operand_calls F V _ _ (Rd.own0 hS .h) (hC.old hS) hK.byt hK.len hp) fun v s17 a w hR hF hS => ⟨fun hD => hS.sel [] rfl rfl, ?_⟩)
      obtain ⟨rfl, rfl⟩ := hR
      have hD := hS.sel [] rfl rfl
      refine dq hF rfl (wn rfl) rfl rfl (fun w => R.subI (hF.ev rfl) (hF.ev rfl) (by omega)) fun a hF => ?_
      refine dq hF rfl (wn rfl) rfl rfl (fun w => R.indexO Try.underlying32 sz31 (hF.ev rfl) (Rd.ne (hO.rd hS (.t (.t .h))) (by rw [wcs_length]; omega)) (hF.ev rfl) (by omega) (by omega)) fun a hF => ?_
      refine dl rfl (wn rfl) (O.val hF rfl rfl (R.loadAO (cs := wc (stk.getD (stk.length - 1 - cAt F.code (V.p + 1)) 0)) agg31 (hF.ev rfl) (hO.rd hS (.t (.t .h))) sz31 rfl (Nat.succ_pos _) (wcs_at (k := stk.length - 1 - cAt F.code (V.p + 1)) (by omega) (by omega))) fun a hF => ⟨id, ?_⟩)
      have hS := (hS.sel [1, 2] rfl rfl).flat (bs' := [(F.rb, Cel (rcells F (.slice A stk.length c) V) 81) :: sg]) (by simp [selS])
      refine dl rfl (wn rfl) (O.callK rfl rfl hF ent79 (hF.evs rfl) hS (on_calls F V stk _ (stk.getD (stk.length - 1 - cAt F.code (V.p + 1)) 0) _ ⟨A, c, sg, rfl, hO⟩ (hS.own1 .h) (hl)) (fun _ => .h) fun v s21 a w hR hF hS => ⟨fun hD => hS.sel [] rfl rfl, ?_⟩)
      obtain ⟨rfl, hRun2⟩ := hR
      have hD := hS.sel [] rfl rfl
      refine dq hF rfl (wn rfl) rfl rfl (fun w => R.assign (hF.ev rfl)) fun a hF => ?_
      refine d0 ?_
      refine then_n (hK2 _ _ ?_)
      refine wp_ret (hR _ _ _ _ _ hF (run_results Try.results53 (.t hF rfl (.nil))) ?_)
      exact ⟨_, s21, rfl, ⟨rfl, hRun2⟩, hS.one .h⟩
    ·
      refine dl rfl (wn rfl) (O.call rfl rfl hF ent77 (hF.evs rfl) hS (operand_calls F V _ _ (Rd.own0 hS .h) (hC.old hS) hK.byt hK.len hp) fun v s17 a w hR hF hS => ⟨fun hD => hS.sel [] rfl rfl, ?_⟩)
      obtain ⟨rfl, rfl⟩ := hR
      have hD := hS.sel [] rfl rfl
      refine dl rfl (wn rfl) (O.val hF rfl rfl (R.load one32 (hF.ev rfl) hS (.t .h) (rfl)) fun a hF => ⟨id, ?_⟩)
      refine dq hF rfl (wn rfl) rfl rfl (fun w => R.len Try.underlying32 (hF.ev rfl)) fun a hF => ?_
      refine dq hF rfl (wn rfl) rfl rfl (fun w => R.subI (hF.ev rfl) (hF.ev rfl) (by omega)) fun a hF => ?_
      refine dq hF rfl (wn rfl) rfl rfl (fun w => R.subI (hF.ev rfl) (hF.ev rfl) (by omega)) fun a hF => ?_
      refine dq hF rfl (wn rfl) rfl rfl (fun w => R.indexO Try.underlying32 sz31 (hF.ev rfl) (Rd.ne (hO.rd hS (.t (.t .h))) (by rw [wcs_length]; omega)) (hF.ev rfl) (by omega) (by omega)) fun a hF => ?_
      refine dl rfl (wn rfl) (O.val hF rfl rfl (R.loadAO (cs := wc (stk.getD (stk.length - 1 - cAt F.code (V.p + 1)) 0)) agg31 (hF.ev rfl) (hO.rd hS (.t (.t .h))) sz31 rfl (Nat.succ_pos _) (wcs_at (k := stk.length - 1 - cAt F.code (V.p + 1)) (by omega) (by omega))) fun a hF => ⟨id, ?_⟩)
      have hS := (hS.sel [1, 2] rfl rfl).flat (bs' := [(F.rb, Cel (rcells F (.slice A stk.length c) V) 81) :: sg]) (by simp [selS])
      refine dl rfl (wn rfl) (O.callK rfl rfl hF ent79 (hF.evs rfl) hS (on_calls F V stk _ (stk.getD (stk.length - 1 - cAt F.code (V.p + 1)) 0) _ ⟨A, c, sg, rfl, hO⟩ (hS.own1 .h) (hl)) (fun _ => .h) fun v s21 a w hR hF hS => ⟨fun hD => hS.sel [] rfl rfl, ?_⟩)
      obtain ⟨rfl, hRun2⟩ := hR
      have hD := hS.sel [] rfl rfl
      refine dq hF rfl (wn rfl) rfl rfl (fun w => R.assign (hF.ev rfl)) fun a hF => ?_
      refine d0 ?_
      refine then_n (hK2 _ _ ?_)
      refine wp_ret (hR _ _ _ _ _ hF (run_results Try.results53 (.t hF rfl (.nil))) ?_)
      exact ⟨_, s21, rfl, ⟨rfl, hRun2⟩, hS.one .h⟩
  ·
    refine dl rfl (wn rfl) (O.val hF rfl rfl (R.load one32 (hF.ev rfl) hS .h (rfl)) fun a hF => ⟨id, ?_⟩)
    refine dq hF rfl (wn rfl) rfl rfl (fun w => R.len Try.underlying32 (hF.ev rfl)) fun a hF => ?_
    refine dq hF rfl (wn rfl) rfl rfl (fun w => R.subI (hF.ev rfl) (hF.ev rfl) (by omega)) fun a hF => ?_
    refine d0 ?_
    refine ⟨?_, ?_⟩
    ·
      refine dl rfl (wn rfl) (O.val hF rfl rfl (R.load one32 (hF.ev rfl) hS .h (rfl)) fun a hF => ⟨id, ?_⟩)
      refine dl rfl (wn rfl) (O.call rfl rfl hF ent77 (hF.evs rfl) hS (operand_calls F V _ _ (Rd.own0 hS .h) (hC.old hS) hK.byt hK.len hp) fun v s17 a w hR hF hS => ⟨fun hD => hS.sel [] rfl rfl, ?_⟩)
      obtain ⟨rfl, rfl⟩ := hR
      have hD := hS.sel [] rfl rfl
      refine dq hF rfl (wn rfl) rfl rfl (fun w => R.subI (hF.ev rfl) (hF.ev rfl) (by omega)) fun a hF => ?_
      refine dq hF rfl (wn rfl) rfl rfl (fun w => R.indexO Try.underlying32 sz31 (hF.ev rfl) (Rd.ne (hO.rd hS (.t (.t .h))) (by rw [wcs_length]; omega)) (hF.ev rfl) (by omega) (by omega)) fun a hF => ?_
      refine dl rfl (wn rfl) (O.val hF rfl rfl (R.loadAO (cs := wc (stk.getD (stk.length - 1 - cAt F.code (V.p + 1)) 0)) agg31 (hF.ev rfl) (hO.rd hS (.t (.t .h))) sz31 rfl (Nat.succ_pos _) (wcs_at (k := stk.length - 1 - cAt F.code (V.p + 1)) (by omega) (by omega))) fun a hF => ⟨id, ?_⟩)
      have hS := (hS.sel [1, 2] rfl rfl).flat (bs' := [(F.rb, Cel (rcells F (.slice A stk.length c) V) 81) :: sg]) (by simp [selS])
      refine dl rfl (wn rfl) (O.callK rfl rfl hF ent79 (hF.evs rfl) hS (on_calls F V stk _ (stk.getD (stk.length - 1 - cAt F.code (V.p + 1)) 0) _ ⟨A, c, sg, rfl, hO⟩ (hS.own1 .h) (hl)) (fun _ => .h) fun v s21 a w hR hF hS => ⟨fun hD => hS.sel [] rfl rfl, ?_⟩)
      obtain ⟨rfl, hRun2⟩ := hR
      have hD := hS.sel [] rfl rfl
      refine dq hF rfl (wn rfl) rfl rfl (fun w => R.assign (hF.ev rfl)) fun a hF => ?_
      refine d0 ?_
      refine then_n (hK2 _ _ ?_)
      refine wp_ret (hR _ _ _ _ _ hF (run_results Try.results53 (.t hF rfl (.nil))) ?_)
      exact ⟨_, s21, rfl, ⟨rfl, hRun2⟩, hS.one .h⟩
    ·
      refine dl rfl (wn rfl) (O.call rfl rfl hF ent77 (hF.evs rfl) hS (operand_calls F V _ _ (Rd.own0 hS .h) (hC.old hS) hK.byt hK.len hp) fun v s17 a w hR hF hS => ⟨fun hD => hS.sel [] rfl rfl, ?_⟩)
      obtain ⟨rfl, rfl⟩ := hR
      have hD := hS.sel [] rfl rfl
      refine dq hF rfl (wn rfl) rfl rfl (fun w => R.subI (hF.ev rfl) (hF.ev rfl) (by omega)) fun a hF => ?_
      refine dl rfl (wn rfl) (O.val hF rfl rfl (R.load one32 (hF.ev rfl) hS (.t .h) (rfl)) fun a hF => ⟨id, ?_⟩)
      refine dq hF rfl (wn rfl) rfl rfl (fun w => R.indexO Try.underlying32 sz31 (hF.ev rfl) (Rd.ne (hO.rd hS (.t (.t .h))) (by rw [wcs_length]; omega)) (hF.ev rfl) (by omega) (by omega)) fun a hF => ?_
      refine dl rfl (wn rfl) (O.val hF rfl rfl (R.loadAO (cs := wc (stk.getD (stk.length - 1 - cAt F.code (V.p + 1)) 0)) agg31 (hF.ev rfl) (hO.rd hS (.t (.t .h))) sz31 rfl (Nat.succ_pos _) (wcs_at (k := stk.length - 1 - cAt F.code (V.p + 1)) (by omega) (by omega))) fun a hF => ⟨id, ?_⟩)
      have hS := (hS.sel [1, 2] rfl rfl).flat (bs' := [(F.rb, Cel (rcells F (.slice A stk.length c) V) 81) :: sg]) (by simp [selS])
      refine dl rfl (wn rfl) (O.callK rfl rfl hF ent79 (hF.evs rfl) hS (on_calls F V stk _ (stk.getD (stk.length - 1 - cAt F.code (V.p + 1)) 0) _ ⟨A, c, sg, rfl, hO⟩ (hS.own1 .h) (hl)) (fun _ => .h) fun v s21 a w hR hF hS => ⟨fun hD => hS.sel [] rfl rfl, ?_⟩)
      obtain ⟨rfl, hRun2⟩ := hR
      have hD := hS.sel [] rfl rfl
      refine dq hF rfl (wn rfl) rfl rfl (fun w => R.assign (hF.ev rfl)) fun a hF => ?_
      refine d0 ?_
      refine then_n (hK2 _ _ ?_)
      refine wp_ret (hR _ _ _ _ _ hF (run_results Try.results53 (.t hF rfl (.nil))) ?_)
      exact ⟨_, s21, rfl, ⟨rfl, hRun2⟩, hS.one .h⟩
  ·
    refine dl rfl (wn rfl) (O.call rfl rfl hF ent77 (hF.evs rfl) hS (operand_calls F V _ _ (Rd.own0 hS .h) (hC.old hS) hK.byt hK.len hp) fun v s17 a w hR hF hS => ⟨fun hD => hS.sel [] rfl rfl, ?_⟩)
    obtain ⟨rfl, rfl⟩ := hR
    have hD := hS.sel [] rfl rfl
    refine d0 ?_
    refine ⟨?_, ?_⟩
    ·
      refine dl rfl (wn rfl) (O.val hF rfl rfl (R.load one32 (hF.ev rfl) hS (.t .h) (rfl)) fun a hF => ⟨id, ?_⟩)
      refine dl rfl (wn rfl) (O.val hF rfl rfl (R.load one32 (hF.ev rfl) hS (.t .h) (rfl)) fun a hF => ⟨id, ?_⟩)
      refine dq hF rfl (wn rfl) rfl rfl (fun w => R.len Try.underlying32 (hF.ev rfl)) fun a hF => ?_
      refine dq hF rfl (wn rfl) rfl rfl (fun w => R.subI (hF.ev rfl) (hF.ev rfl) (by omega)) fun a hF => ?_
      refine dq hF rfl (wn rfl) rfl rfl (fun w => R.subI (hF.ev rfl) (hF.ev rfl) (by omega)) fun a hF => ?_
      refine dq hF rfl (wn rfl) rfl rfl (fun w => R.indexO Try.underlying32 sz31 (hF.ev rfl) (Rd.ne (hO.rd hS (.t (.t .h))) (by rw [wcs_length]; omega)) (hF.ev rfl) (by omega) (by omega)) fun a hF => ?_
      refine dl rfl (wn rfl) (O.val hF rfl rfl (R.loadAO (cs := wc (stk.getD (stk.length - 1 - cAt F.code (V.p + 1)) 0)) agg31 (hF.ev rfl) (hO.rd hS (.t (.t .h))) sz31 rfl (Nat.succ_pos _) (wcs_at (k := stk.length - 1 - cAt F.code (V.p + 1)) (by omega) (by omega))) fun a hF => ⟨id, ?_⟩)
      have hS := (hS.sel [1, 2] rfl rfl).flat (bs' := [(F.rb, Cel (rcells F (.slice A stk.length c) V) 81) :: sg]) (by simp [selS])
      refine dl rfl (wn rfl) (O.callK rfl rfl hF ent79 (hF.evs rfl) hS (on_calls F V stk _ (stk.getD (stk.length - 1 - cAt F.code (V.p + 1)) 0) _ ⟨A, c, sg, rfl, hO⟩ (hS.own1 .h) (hl)) (fun _ => .h) fun v s21 a w hR hF hS => ⟨fun hD => hS.sel [] rfl rfl, ?_⟩)
      obtain ⟨rfl, hRun2⟩ := hR
      have hD := hS.sel [] rfl rfl
      refine dq hF rfl (wn rfl) rfl rfl (fun w => R.assign (hF.ev rfl)) fun a hF => ?_
      refine d0 ?_
      refine then_n (hK2 _ _ ?_)
      refine wp_ret (hR _ _ _ _ _ hF (run_results Try.results53 (.t hF rfl (.nil))) ?_)
      exact ⟨_, s21, rfl, ⟨rfl, hRun2⟩, hS.one .h⟩
    ·
      refine dl rfl (wn rfl) (O.val hF rfl rfl (R.load one32 (hF.ev rfl) hS (.t .h) (rfl)) fun a hF => ⟨id, ?_⟩)
      refine dq hF rfl (wn rfl) rfl rfl (fun w => R.len Try.underlying32 (hF.ev rfl)) fun a hF => ?_
      refine dq hF rfl (wn rfl) rfl rfl (fun w => R.subI (hF.ev rfl) (hF.ev rfl) (by omega)) fun a hF => ?_
      refine dq hF rfl (wn rfl) rfl rfl (fun w => R.subI (hF.ev rfl) (hF.ev rfl) (by omega)) fun a hF => ?_
      refine dl rfl (wn rfl) (O.val hF rfl rfl (R.load one32 (hF.ev rfl) hS (.t .h) (rfl)) fun a hF => ⟨id, ?_⟩)
      refine dq hF rfl (wn rfl) rfl rfl (fun w => R.indexO Try.underlying32 sz31 (hF.ev rfl) (Rd.ne (hO.rd hS (.t (.t .h))) (by rw [wcs_length]; omega)) (hF.ev rfl) (by omega) (by omega)) fun a hF => ?_
      refine dl rfl (wn rfl) (O.val hF rfl rfl (R.loadAO (cs := wc (stk.getD (stk.length - 1 - cAt F.code (V.p + 1)) 0)) agg31 (hF.ev rfl) (hO.rd hS (.t (.t .h))) sz31 rfl (Nat.succ_pos _) (wcs_at (k := stk.length - 1 - cAt F.code (V.p + 1)) (by omega) (by omega))) fun a hF => ⟨id, ?_⟩)
      have hS := (hS.sel [1, 2] rfl rfl).flat (bs' := [(F.rb, Cel (rcells F (.slice A stk.length c) V) 81) :: sg]) (by simp [selS])
      refine dl rfl (wn rfl) (O.callK rfl rfl hF ent79 (hF.evs rfl) hS (on_calls F V stk _ (stk.getD (stk.length - 1 - cAt F.code (V.p + 1)) 0) _ ⟨A, c, sg, rfl, hO⟩ (hS.own1 .h) (hl)) (fun _ => .h) fun v s21 a w hR hF hS => ⟨fun hD => hS.sel [] rfl rfl, ?_⟩)
      obtain ⟨rfl, hRun2⟩ := hR
      have hD := hS.sel [] rfl rfl
      refine dq hF rfl (wn rfl) rfl rfl (fun w => R.assign (hF.ev rfl)) fun a hF => ?_
      refine d0 ?_
      refine then_n (hK2 _ _ ?_)
      refine wp_ret (hR _ _ _ _ _ hF (run_results Try.results53 (.t hF rfl (.nil))) ?_)
      exact ⟨_, s21, rfl, ⟨rfl, hRun2⟩, hS.one .h⟩
theorem swap_op (F : Fx) (V : Vr) (stk : List Nat) (s : Seg) (vx : Value) (w0 : World) (hRun : RunS F V stk s) (ho : Own w0 s) (hK : F.Ok) (hC : RdK w0 (s.map (·.1)) F.cA (byts F.code)) (hl : stk.length ≤ 64) (hp : V.p + 1 < F.code.length) (hb : cAt F.code (V.p + 1) < stk.length) : Ret Try.prog 54 [.pointer (some ⟨F.rb, 0, none⟩), vx] w0 (s.map (·.1)) (fun v s' => v = .int .i64 0 ∧ RunS F V (swapN stk (cAt F.code (V.p + 1))) s') := by
  refine fn_start Try.func54 rfl Try.ntmps54 rfl [(0, .pointer (some ⟨F.rb, 0, none⟩)), (1, vx)] ⟨rfl, rfl, trivial⟩ ?_
  intro Q a hP hF hR hN
  have hS := St.enter ho
  obtain ⟨A, c, sg, hs, hO⟩ := hRun; obtain ⟨g, rest, rfl, rfl, hnc, hcl, hcm⟩ := own_open3 hO (by omega); have hS := hS.flat (bs' := [[(F.rb, Cel (rcells F (.slice (some ⟨g, 0, none⟩) stk.length c) V) 81)], [(g, Cel (stk.flatMap wc ++ rest) 31)]]) (by simp [hs]); have hb1 := cAt_lt hK.byt (V.p + 1)
  refine wp_seq_k fun K1 hK1 => ?_
  refine wp_region_lit ?_
  refine sv' hF (wn rfl) rfl rfl (R.assign (hF.ev rfl)) fun a hF => ?_
  refine s0 ?_
  refine then_n (hK1 _ _ ?_)
  refine wp_seq_k fun K2 hK2 => ?_
  refine wp_region_lit ?_
  refine sv' hF (wn rfl) rfl rfl (R.move (hF.ev rfl)) fun a hF => ?_
  refine sv' hF (wn rfl) rfl rfl (R.nilCheck (hF.ev rfl)) fun a hF => ?_
  refine sv' hF (wn rfl) rfl rfl (R.fieldAddr (k := 50) Try.underlying81 rfl nz32 (hF.ev rfl) rfl) fun a hF => ?_
  refine sv' hF (wn rfl) rfl rfl (R.load one32 (hF.ev rfl) hS .h (rfl)) fun a hF => ?_
  refine sv' hF (wn rfl) rfl rfl (R.len Try.underlying32 (hF.ev rfl)) fun a hF => ?_
  refine sv' hF (wn rfl) rfl rfl (R.subI (hF.ev rfl) (hF.ev rfl) (by omega)) fun a hF => ?_
  refine sv' hF (wn rfl) rfl rfl (R.assign (hF.ev rfl)) fun a hF => ?_
  refine s0 ?_
  refine then_n (hK2 _ _ ?_)
  refine wp_seq_k fun K3 hK3 => ?_
  refine wp_region_lit ?_
  refine sv' hF (wn rfl) rfl rfl (R.move (hF.ev rfl)) fun a hF => ?_
  refine sv' hF (wn rfl) rfl rfl (R.move (hF.ev rfl)) fun a hF => ?_
  refine so (wn rfl) (O.call rfl rfl hF ent77 (hF.evs rfl) hS (operand_calls F V _ _ (Rd.own0 hS .h) (hC.old hS) hK.byt hK.len hp) fun v s15 a w hR hF hS => ?_)
  obtain ⟨rfl, rfl⟩ := hR
  refine sv' hF (wn rfl) rfl rfl (R.subI (hF.ev rfl) (hF.ev rfl) (by omega)) fun a hF => ?_
  refine sv' hF (wn rfl) rfl rfl (R.assign (hF.ev rfl)) fun a hF => ?_
  refine s0 ?_
  refine then_n (hK3 _ _ ?_)
  refine wp_seq_k fun K4 hK4 => ?_
  refine wp_drawS hS [(0, 0), (1, 0), (2, 0), (3, 1), (4, 0), (5, 0), (6, 0), (7, 0), (8, 1), (9, 0), (10, 0), (11, 0), (12, 0), (13, 1), (14, 0), (15, 0), (16, 1), (17, 0), (18, 0), (19, 0), (20, 1), (21, 0), (22, 0), (23, 1), (24, 0), (25, 3), (26, 0), (27, 3)] mix (by kernel_rfl) (hP.then) fun w hS => ?_
  have hD := hS
  refine dq hF rfl (wn rfl) rfl rfl (fun w => R.move (hF.ev rfl)) fun a hF => ?_
  refine dq hF rfl (wn rfl) rfl rfl (fun w => R.nilCheck (hF.ev rfl)) fun a hF => ?_
  refine dq hF rfl (wn rfl) rfl rfl (fun w => R.fieldAddr (k := 50) Try.underlying81 rfl nz32 (hF.ev rfl) rfl) fun a hF => ?_
  refine dr hF rfl (wn rfl) rfl rfl hD (fun w hD => R.load one32 (hF.ev rfl) hD (.t .h) (rfl)) fun a hF => ?_
  refine dq hF rfl (wn rfl) rfl rfl (fun w => R.move (hF.ev rfl)) fun a hF => ?_
  refine dq hF rfl (wn rfl) rfl rfl (fun w => R.move (hF.ev rfl)) fun a hF => ?_
  refine dq hF rfl (wn rfl) rfl rfl (fun w => R.nilCheck (hF.ev rfl)) fun a hF => ?_
  refine dq hF rfl (wn rfl) rfl rfl (fun w => R.fieldAddr (k := 50) Try.underlying81 rfl nz32 (hF.ev rfl) rfl) fun a hF => ?_
  refine dr hF rfl (wn rfl) rfl rfl hD (fun w hD => R.load one32 (hF.ev rfl) hD (.t .h) (rfl)) fun a hF => ?_
  refine dq hF rfl (wn rfl) rfl rfl (fun w => R.move (hF.ev rfl)) fun a hF => ?_
  refine dq hF rfl (wn rfl) rfl rfl (fun w => R.move (hF.ev rfl)) fun a hF => ?_
  refine dq hF rfl (wn rfl) rfl rfl (fun w => R.nilCheck (hF.ev rfl)) fun a hF => ?_
  refine dq hF rfl (wn rfl) rfl rfl (fun w => R.fieldAddr (k := 50) Try.underlying81 rfl nz32 (hF.ev rfl) rfl) fun a hF => ?_
  refine dr hF rfl (wn rfl) rfl rfl hD (fun w hD => R.load one32 (hF.ev rfl) hD (.t .h) (rfl)) fun a hF => ?_
  refine dq hF rfl (wn rfl) rfl rfl (fun w => R.move (hF.ev rfl)) fun a hF => ?_
  refine dq hF rfl (wn rfl) rfl rfl (fun w => R.indexS Try.underlying32 sz31 (hF.ev rfl) (hF.ev rfl) (by omega) (by omega)) fun a hF => ?_
  refine dr hF rfl (wn rfl) rfl rfl hD (fun w hD => R.loadA (cs := wc (stk.getD (stk.length - 1 - cAt F.code (V.p + 1)) 0)) agg31 (hF.ev rfl) hD (.t (.t .h)) sz31 rfl (wcs_atR (k := stk.length - 1 - cAt F.code (V.p + 1)) (by omega) (by omega))) fun a hF => ?_
  refine dq hF rfl (wn rfl) rfl rfl (fun w => R.move (hF.ev rfl)) fun a hF => ?_
  refine dq hF rfl (wn rfl) rfl rfl (fun w => R.nilCheck (hF.ev rfl)) fun a hF => ?_
  refine dq hF rfl (wn rfl) rfl rfl (fun w => R.fieldAddr (k := 50) Try.underlying81 rfl nz32 (hF.ev rfl) rfl) fun a hF => ?_
  refine dr hF rfl (wn rfl) rfl rfl hD (fun w hD => R.load one32 (hF.ev rfl) hD (.t .h) (rfl)) fun a hF => ?_
  refine dq hF rfl (wn rfl) rfl rfl (fun w => R.move (hF.ev rfl)) fun a hF => ?_
  refine dq hF rfl (wn rfl) rfl rfl (fun w => R.indexS Try.underlying32 sz31 (hF.ev rfl) (hF.ev rfl) (by omega) (by omega)) fun a hF => ?_
  refine dr hF rfl (wn rfl) rfl rfl hD (fun w hD => R.loadA (cs := wc (stk.getD (stk.length - 1) 0)) agg31 (hF.ev rfl) hD (.t (.t .h)) sz31 rfl (wcs_atR (k := stk.length - 1) (by omega) (by omega))) fun a hF => ?_
  refine dq hF rfl (wn rfl) rfl rfl (fun w => R.indexS Try.underlying32 sz31 (hF.ev rfl) (hF.ev rfl) (by omega) (by omega)) fun a hF => ?_
  refine dw rfl (wn rfl) (O.storeA sz31 (hF.ev rfl) (hF.ev rfl) rfl rfl (by simp [Value.oneCell']) hS (.t (.t .h)) (wcs_splR (k := stk.length - 1) (by omega) (by omega)) (by rw [hcl]; simp only [List.length_cons, List.length_nil]; omega) fun w hS => ?_)
  refine dq hF rfl (wn rfl) rfl rfl (fun w => R.indexS Try.underlying32 sz31 (hF.ev rfl) (hF.ev rfl) (by omega) (by omega)) fun a hF => ?_
  refine dw rfl (wn rfl) (O.storeA sz31 (hF.ev rfl) (hF.ev rfl) rfl rfl (by simp [Value.oneCell']) hS (.t (.t .h)) (wcs_splR (k := stk.length - 1 - cAt F.code (V.p + 1)) (by rw [List.length_set]; omega) (by omega)) (by rw [List.length_append, wcs_length, List.length_set, ← wcs_length, ← List.length_append, hcl]; simp only [List.length_cons, List.length_nil]; omega) fun w hS => ?_)
  refine d0 ?_
  refine then_n (hK4 _ _ ?_)
  refine wp_seq_k fun K5 hK5 => ?_
  refine wp_region_lit ?_
  refine sv' hF (wn rfl) rfl rfl (R.assign (hF.ev rfl)) fun a hF => ?_
  refine s0 ?_
  refine then_n (hK5 _ _ ?_)
  refine wp_ret (hR _ _ _ _ _ hF (run_results Try.results54 (.t hF rfl (.nil))) ?_)
  obtain ⟨s', h1, h2⟩ := RunS.close (F := F) (V := V) (stk := swapN stk (cAt F.code (V.p + 1))) (hS.sel [1, 2] rfl rfl) (by simp [swapN]) (OwnS.mk (by rw [wcs_length]; simp [swapN]) hnc (by (have h9 := hcl; rw [List.length_append, wcs_length] at h9 ⊢; simp only [List.length_set, swapN]; exact h9)) hcm)
  exact ⟨_, s', rfl, ⟨rfl, h1⟩, h2⟩
theorem one_byts (l : List Nat) : ∀ v ∈ byts l, v.oneCell' = true := by
  intro v hv
  rw [byts] at hv
  obtain ⟨_, _, rfl⟩ := List.mem_map.1 hv
  rfl
theorem spl_push {l : List Nat} {k : Nat} (h : l.length = k) (hk : k ≤ 32) : spl (byts (List.replicate 32 0)) ((32 - k) * 1) ((byts l).take (min k (32 - (32 - k)) * 1)) = byts (List.replicate (32 - k) 0 ++ l) := by
  have e : min k (32 - (32 - k)) = k := by omega
  rw [e, Nat.mul_one, Nat.mul_one, List.take_of_length_le (by rw [length_byts]; omega)]
  subst h
  exact spl_end hk
theorem push_op (F : Fx) (V : Vr) (stk : List Nat) (s : Seg) (vx : Value) (k : Nat) (w0 : World) (hRun : RunS F V stk s) (ho : Own w0 s) (hK : F.Ok) (hC : RdK w0 (s.map (·.1)) F.cA (byts F.code)) (hl : stk.length ≤ 64) (hk : 1 ≤ k ∧ k ≤ 32) (hp : V.p + 2 + k ≤ F.code.length) (hq : V.next = V.p + 2 + k) : Ret Try.prog 51 [.pointer (some ⟨F.rb, 0, none⟩), vx] w0 (s.map (·.1)) (fun v s' => v = .int .i64 0 ∧ RunS F V (stk ++ [numB ((F.code.drop (V.p + 2)).take k)]) s') := by
  refine fn_start Try.func51 rfl Try.ntmps51 rfl [(0, .pointer (some ⟨F.rb, 0, none⟩)), (1, vx)] ⟨rfl, rfl, trivial⟩ ?_
  intro Q a hP hF hR hN
  have hS := St.enter ho
  obtain ⟨A, c, sg, hs, hO⟩ := hRun; have hS := hS.flat (bs' := [[(F.rb, Cel (rcells F (.slice A stk.length c) V) 81)], sg]) (by simp [hs]); have hlk : ((F.code.drop (V.p + 2)).take k).length = k := by (rw [List.length_take, List.length_drop]; omega)
  have hBk : Byt ((F.code.drop (V.p + 2)).take k) := fun d hd => hK.byt d (List.drop_subset _ _ (List.take_subset _ _ hd))
  have hl10 := hK.len; have hcap := hK.cap
  refine wp_seq_k fun K1 hK1 => ?_
  refine wp_region_lit ?_
  refine sv' hF (wn rfl) rfl rfl (R.assign (hF.ev rfl)) fun a hF => ?_
  refine s0 ?_
  refine then_n (hK1 _ _ ?_)
  refine wp_seq_k fun K2 hK2 => ?_
  refine wp_region_lit ?_
  refine so (wn rfl) (O.alloc rfl rfl hF ze101b rfl hS fun b5 a w hF hS => ?_)
  refine s0 ?_
  refine then_n (hK2 _ _ ?_)
  refine wp_seq_k fun K3 hK3 => ?_
  refine wp_drawS hS [(0, 0), (1, 0), (2, 0), (3, 1), (4, 0), (5, 0), (6, 0), (7, 1), (8, 0), (9, 0), (10, 0), (11, 0), (12, 1), (13, 0), (14, 0)] mix (by kernel_rfl) (hP.then) fun w hS => ?_
  have hD := hS
  refine dq hF rfl (wn rfl) rfl rfl (fun w => R.move (hF.ev rfl)) fun a hF => ?_
  refine dq hF rfl (wn rfl) rfl rfl (fun w => R.nilCheck (hF.ev rfl)) fun a hF => ?_
  refine dq hF rfl (wn rfl) rfl rfl (fun w => R.fieldAddr (k := 0) Try.underlying81 rfl nz23 (hF.ev rfl) rfl) fun a hF => ?_
  refine dr hF rfl (wn rfl) rfl rfl hD (fun w hD => R.load one23 (hF.ev rfl) hD (.t .h) (rfl)) fun a hF => ?_
  refine dq hF rfl (wn rfl) rfl rfl (fun w => R.move (hF.ev rfl)) fun a hF => ?_
  refine dq hF rfl (wn rfl) rfl rfl (fun w => R.nilCheck (hF.ev rfl)) fun a hF => ?_
  refine dq hF rfl (wn rfl) rfl rfl (fun w => R.fieldAddr (k := 52) Try.underlying81 rfl nz3 (hF.ev rfl) rfl) fun a hF => ?_
  refine dr hF rfl (wn rfl) rfl rfl hD (fun w hD => R.load one3 (hF.ev rfl) hD (.t .h) (rfl)) fun a hF => ?_
  refine dq hF rfl (wn rfl) rfl rfl (fun w => R.addI (hF.ev rfl) (hF.ev rfl) (by omega)) fun a hF => ?_
  refine dq hF rfl (wn rfl) rfl rfl (fun w => R.move (hF.ev rfl)) fun a hF => ?_
  refine dq hF rfl (wn rfl) rfl rfl (fun w => R.nilCheck (hF.ev rfl)) fun a hF => ?_
  refine dq hF rfl (wn rfl) rfl rfl (fun w => R.fieldAddr (k := 53) Try.underlying81 rfl nz3 (hF.ev rfl) rfl) fun a hF => ?_
  refine dr hF rfl (wn rfl) rfl rfl hD (fun w hD => R.load one3 (hF.ev rfl) hD (.t .h) (rfl)) fun a hF => ?_
  refine dq hF rfl (wn rfl) rfl rfl (fun w => R.as (u := .slice (if F.cc = V.p + 2 then F.cA else F.cA.map (·.add ((V.p + 2) * 1))) k (F.cc - (V.p + 2))) (R.sliceMid (p := V.p + 2) (q := V.next) Try.underlying23 (hF.ev rfl) ((hF.ev rfl).trans (congrArg (Value.int .i64) (by omega))) (hF.ev rfl) (by omega) (by omega) sz5) (congrArg (fun z => Value.slice _ z _) (by omega))) fun a hF => ?_
  refine dq hF rfl (wn rfl) rfl rfl (fun w => R.assign (hF.ev rfl)) fun a hF => ?_
  refine d0 ?_
  refine then_n (hK3 _ _ ?_)
  refine wp_seq_k fun K4 hK4 => ?_
  refine wp_region_lit ?_
  refine sv' hF (wn rfl) rfl rfl (R.move (hF.ev rfl)) fun a hF => ?_
  refine sv' hF (wn rfl) rfl rfl (R.len Try.underlying23 (hF.ev rfl)) fun a hF => ?_
  refine sv' hF (wn rfl) rfl rfl (R.subI (hF.ev rfl) (hF.ev rfl) (by omega)) fun a hF => ?_
  refine sv' hF (wn rfl) rfl rfl (R.sliceArrLo (p := 32 - k) Try.underlying101 sz5 (hF.ev rfl) ((hF.ev rfl).trans (congrArg (Value.int .i64) (by omega))) (by omega)) fun a hF => ?_
  refine sv' hF (wn rfl) rfl rfl (R.move (hF.ev rfl)) fun a hF => ?_
  have hrd : Rd w (if F.cc = V.p + 2 then F.cA else F.cA.map (·.add ((V.p + 2) * 1))) (byts ((F.code.drop (V.p + 2)).take k)) := by (rw [← byts_takeK]; exact (rd_dropB (hC.old hS) hK.cap (V.p + 2)).sub k)
  refine so (wn rfl) (O.copyAt (cs := byts ((F.code.drop (V.p + 2)).take k)) rfl rfl hF Try.underlying23 sz5 (hF.ev rfl) (hF.ev rfl) hS hrd (by rw [length_byts, hlk, Nat.mul_one]) (by decide) (one_byts _) .h (spl_push hlk (by omega)) (by rw [length_byts]; simp; omega) fun a w hF hS => ?_)
  refine s0 ?_
  refine then_n (hK4 _ _ ?_)
  refine wp_seq_k fun K5 hK5 => ?_
  refine wp_region_lit ?_
  refine sv' hF (wn rfl) rfl rfl (R.sliceAll Try.underlying101 sz5 (hF.ev rfl)) fun a hF => ?_
  refine so (wn rfl) (O.call rfl rfl hF ent78 (hF.evs rfl) hS (read32_calls ((F.code.drop (V.p + 2)).take k) (32 - k) _ (Rd.own0 hS .h) (by rw [hlk]; omega) hBk) fun v s31 a w hR hF hS => ?_)
  obtain ⟨rfl, rfl⟩ := hR
  refine sv' hF (wn rfl) rfl rfl (R.move (hF.ev rfl)) fun a hF => ?_
  refine sv' hF (wn rfl) rfl rfl (R.extract (hF.ev rfl) rfl) fun a hF => ?_
  refine sv' hF (wn rfl) rfl rfl (R.extract (hF.ev rfl) rfl) fun a hF => ?_
  refine so (wn rfl) (O.alloc rfl rfl hF ze31 rfl hS fun b7 a w hF hS => ?_)
  refine so (wn rfl) (O.storeW sz31 (hF.ev rfl) (hF.ev rfl) (rfl) rfl (by simp [Value.oneCell']) hS .h (rfl) fun w hS => ?_)
  refine sv' hF (wn rfl) rfl rfl (R.assign (hF.ev rfl)) fun a hF => ?_
  refine s0 ?_
  refine then_n (hK5 _ _ ?_)
  refine wp_seq_k fun K6 hK6 => ?_
  refine wp_seq_k fun K7 hK7 => ?_
  refine wp_region_lit ?_
  refine sv' hF (wn rfl) rfl rfl (R.move (hF.ev rfl)) fun a hF => ?_
  refine sv' hF (wn rfl) rfl rfl (R.as (u := .bool false) (R.neq (p := 0) (q := 0) (hF.ev rfl) (hF.ev rfl)) (rfl)) fun a hF => ?_
  refine s0 ?_
  refine then_n (hK7 _ _ ?_)
  refine cF hF rfl ?_
  refine wp_skip ?_
  refine then_n (hK6 _ _ ?_)
  refine wp_seq_k fun K8 hK8 => ?_
  refine wp_region_lit ?_
  refine sv' hF (wn rfl) rfl rfl (R.move (hF.ev rfl)) fun a hF => ?_
  refine sv' hF (wn rfl) rfl rfl (R.loadW agg31 (hF.ev rfl) hS .h sz31 (rfl)) fun a hF => ?_
  have hS := (hS.sel [3, 4] rfl rfl).flat (bs' := [(F.rb, Cel (rcells F (.slice A stk.length c) V) 81) :: sg]) (by simp [selS])
  refine so (wn rfl) (O.callK rfl rfl hF ent79 (hF.evs rfl) hS (on_calls F V stk _ (numB ((F.code.drop (V.p + 2)).take k)) _ ⟨A, c, sg, rfl, hO⟩ (hS.own1 .h) (hl)) (fun _ => .h) fun v s39 a w hR hF hS => ?_)
  obtain ⟨rfl, hRun2⟩ := hR
  refine sv' hF (wn rfl) rfl rfl (R.assign (hF.ev rfl)) fun a hF => ?_
  refine s0 ?_
  refine then_n (hK8 _ _ ?_)
  refine wp_ret (hR _ _ _ _ _ hF (run_results Try.results51 (.t hF rfl (.nil))) ?_)
  exact ⟨_, s39, rfl, ⟨rfl, hRun2⟩, hS.one .h⟩
end Go.Proofs.Ytlapmbkfmbkdoaa
end
section
namespace Go.Proofs.Ytlapmbkfmbkdoaa
open Go Go.Fw Go.RowKit
attribute [local irreducible] Go.Oper.wp Go.Code.wp Go.wpList Go.Fw.WL Go.Calls
def _root_.Go.Fw.Fx.rep (F : Fx) (k : Nat) : Nat × Int := F.reps.getD k (0, 0)
theorem HostS.close {w0 w : World} {ks : List Nat} {F : Fx} {asks : List Fw.Ask} {sg : Seg} {A : Option Addr} {c n : Nat} (hS : St w0 ks [[(F.hb, Cel (hcells F (.slice A n c)) 55)], sg] w) (hn : n = asks.length) (hO : OwnS sg A n c (asks.flatMap askc) 72 30) : ∃ s', HostS F asks s' ∧ St w0 ks [s'] w := by
  subst hn
  exact ⟨_, ⟨A, c, sg, rfl, hO⟩, hS.flat (by simp)⟩
theorem own_ask {s : Seg} {A : Option Addr} {c : Nat} {q : Fw.Ask} {b : List Fw.Ask} (h : OwnS s A (b.length + 1) c (b.flatMap askc ++ askc q) 72 30) : OwnS s A (b.length + 1) c ((b ++ [q]).flatMap askc) 72 30 := by
  rw [List.flatMap_append, List.flatMap_singleton]; exact h
theorem reps_length (l : List (Nat × Int)) : (l.flatMap repc).length = l.length * 5 := by
  induction l with
  | nil => rfl
  | cons x l ih =>
    rw [List.flatMap_cons, List.length_append, ih, List.length_cons, show (repc x).length = 5 from rfl, Nat.add_mul]
    omega
theorem reps_at {l : List (Nat × Int)} {k off : Nat} (hk : k < l.length) (ho : off = k * 5) : ∀ j v, (repc (l.getD k (0, 0)))[j]? = some v → (l.flatMap repc)[off + j]? = some v := by
  subst ho
  induction l generalizing k with
  | nil => simp at hk
  | cons x l ih =>
    intro j v hj
    have h5 : (repc x).length = 5 := rfl
    cases k with
    | zero =>
      rw [List.flatMap_cons, Nat.zero_mul, Nat.zero_add, List.getElem?_append_left]
      · exact hj
      · rcases Nat.lt_or_ge j (repc x).length with h | h
        · exact h
        · rw [show ((x :: l).getD 0 (0, 0)) = x from rfl, List.getElem?_eq_none h] at hj; simp at hj
    | succ k =>
      rw [List.flatMap_cons, List.getElem?_append_right (by rw [h5]; omega), h5, show (k + 1) * 5 + j - 5 = k * 5 + j by omega]
      exact ih (by simpa using hk) j v (by simpa using hj)
theorem one_repc (r : Nat × Int) : ∀ v ∈ repc r, v.oneCell' = true := by simp [repc, Value.oneCell']
theorem rep_lt {F : Fx} {k : Nat} (h : k < F.reps.length) : F.rep k = F.reps.getD k (0, 0) := rfl
theorem rep_ge {F : Fx} {k : Nat} (h : F.reps.length ≤ k) : F.rep k = (0, 0) := by
  rw [Fx.rep, List.getD_eq_getElem?_getD, List.getElem?_eq_none h]; rfl
def NextOK (F : Fx) : Prop := ∀ (asks : List Fw.Ask) (q : Fw.Ask) (s : Seg) (w0 : World), HostS F asks s → Own w0 s → RdK w0 (s.map (·.1)) F.qA (F.reps.flatMap repc) → RdK w0 (s.map (·.1)) F.iA (byts F.inner) → asks.length ≤ 20000 →
  Ret Try.prog 120 [.pointer (some ⟨F.hb, 0, none⟩), .agg (askc q).toArray] w0 (s.map (·.1)) (fun v s' => v = .tuple #[wv (F.rep asks.length).1, .int .i64 (F.rep asks.length).2] ∧ HostS F (asks ++ [q]) s')
set_option maxHeartbeats 2000000 in
theorem next_0 (F : Fx) (asks : List Fw.Ask) (q : Fw.Ask) (s : Seg) (w0 : World) (hH : HostS F asks s) (ho : Own w0 s) (hQ : RdK w0 (s.map (·.1)) F.qA (F.reps.flatMap repc)) (hl : asks.length ≤ 20000) (hi0 : F.inner.length = 0) : Ret Try.prog 120 [.pointer (some ⟨F.hb, 0, none⟩), .agg (askc q).toArray] w0 (s.map (·.1)) (fun v s' => v = .tuple #[wv (F.rep asks.length).1, .int .i64 (F.rep asks.length).2] ∧ HostS F (asks ++ [q]) s') := by
  refine fn_start Try.func120 rfl Try.ntmps120 rfl [(0, .pointer (some ⟨F.hb, 0, none⟩)), (1, .agg (askc q).toArray)] ⟨rfl, rfl, trivial⟩ ?_
  intro Q a hP hF hR hN
  have hS := St.enter ho
  obtain ⟨A, c, hg, hs, hO⟩ := hH; have hS := hS.flat (bs' := [[(F.hb, Cel (hcells F (.slice A asks.length c)) 55)], hg]) (by simp [hs])
  refine wp_seq_k fun K1 hK1 => ?_
  refine wp_region_lit ?_
  refine so (wn rfl) (O.box rfl rfl hF (hF.ev rfl) rfl hS fun b3 a w hF hS => ?_)
  refine so (wn rfl) (O.alloc rfl rfl hF ze31 rfl hS fun b4 a w hF hS => ?_)
  refine sv' hF (wn rfl) rfl rfl (R.assign (hF.ev rfl)) fun a hF => ?_
  refine s0 ?_
  refine then_n (hK1 _ _ ?_)
  refine wp_seq_k fun K2 hK2 => ?_
  refine wp_drawG hS (hS.sel [1, 2] rfl rfl) [(0, 0), (1, 0), (2, 0), (3, 0), (4, 1), (5, 1), (6, 2), (7, 2), (8, 0), (9, 0), (10, 3)] mix (by kernel_rfl) (hP.then) fun w hS hD => ?_
  refine dq hF rfl (wn rfl) rfl rfl (fun w => R.move (hF.ev rfl)) fun a hF => ?_
  refine dq hF rfl (wn rfl) rfl rfl (fun w => R.move (hF.ev rfl)) fun a hF => ?_
  refine dq hF rfl (wn rfl) rfl rfl (fun w => R.nilCheck (hF.ev rfl)) fun a hF => ?_
  refine dq hF rfl (wn rfl) rfl rfl (fun w => R.fieldAddr (k := 1) Try.underlying55 rfl nz40 (hF.ev rfl) rfl) fun a hF => ?_
  refine dr hF rfl (wn rfl) rfl rfl hD (fun w hD => R.load one40 (hF.ev rfl) hD (.t .h) (rfl)) fun a hF => ?_
  refine dr hF rfl (wn rfl) rfl rfl hD (fun w hD => R.loadW agg72 (hF.ev rfl) hD .h sz72 (rfl)) fun a hF => ?_
  refine dl rfl (wn rfl) (O.buildSlice (l := [_, _, _, _, _, _, _, _, _, _, _, _, _, _, _, _, _, _, _, _, _, _, _, _, _, _, _, _, _, _]) rfl rfl hF Try.underlying40 inf72 rfl rfl (hF.evp rfl) (by decide) rfl hS fun b14 a w hF hS => ⟨fun hD => hS.sel [2, 3] rfl rfl, ?_⟩)
  have hD := hS.sel [2, 3] rfl rfl
  refine dl rfl (wn rfl) (O.append rfl rfl hF Try.underlying40 inf72 rfl rfl (by decide) (hF.ev rfl) (hF.ev rfl) hS hO (fun _ => (.t (.t (.t (.t .h))))) (Rd.own0 hS .h) (rfl) (by simp [Value.oneCell']) (by unfold maxLen; omega) (by omega) fun A15 c15 s15 a w hO15 hF hS => ⟨fun hD => hS.sel [2, 3] rfl rfl, ?_⟩)
  have hD := hS.sel [2, 3] rfl rfl
  refine dq hF rfl (wn rfl) rfl rfl (fun w => R.nilCheck (hF.ev rfl)) fun a hF => ?_
  refine dq hF rfl (wn rfl) rfl rfl (fun w => R.fieldAddr (k := 1) Try.underlying55 rfl nz40 (hF.ev rfl) rfl) fun a hF => ?_
  refine dw rfl (wn rfl) (O.store sz40 (hF.ev rfl) (hF.ev rfl) rfl rfl hS (.t (.t (.t .h))) (show List.set _ _ _ = hcells F (.slice A15 (asks.length + 1) c15) from rfl) (by first | decide | omega | (show _ < 59; decide) | (show _ < 3; decide) | simp) fun w hS => ?_)
  refine d0 ?_
  refine then_n (hK2 _ _ ?_)
  refine wp_seq_k fun K3 hK3 => ?_
  refine wp_seq_k fun K4 hK4 => ?_
  refine wp_region_lit ?_
  refine sv' hF (wn rfl) rfl rfl (R.move (hF.ev rfl)) fun a hF => ?_
  refine sv' hF (wn rfl) rfl rfl (R.nilCheck (hF.ev rfl)) fun a hF => ?_
  refine sv' hF (wn rfl) rfl rfl (R.fieldAddr (k := 2) Try.underlying55 rfl nz23 (hF.ev rfl) rfl) fun a hF => ?_
  refine sv' hF (wn rfl) rfl rfl (R.load one23 (hF.ev rfl) hS (.t (.t (.t .h))) (rfl)) fun a hF => ?_
  refine sv' hF (wn rfl) rfl rfl (R.len Try.underlying23 (hF.ev rfl)) fun a hF => ?_
  refine sv' hF (wn rfl) rfl rfl (R.gtr (hF.ev rfl) (hF.ev rfl)) fun a hF => ?_
  refine s0 ?_
  refine then_n (hK4 _ _ ?_)
  refine cD hF rfl (fun c1 => ?_) (fun c1 => ?_)
  ·
    exact absurd c1 (by omega)
  ·
    refine wp_skip ?_
    refine then_n (hK3 _ _ ?_)
    refine wp_seq_k fun K5 hK5 => ?_
    refine wp_seq_k fun K6 hK6 => ?_
    refine wp_drawS hS [(0, 0), (1, 0), (2, 0), (3, 1), (4, 0), (5, 0), (6, 0), (7, 0), (8, 1), (9, 0), (10, 0)] mix (by kernel_rfl) (hP.then.then) fun w hS => ?_
    have hD := hS
    refine dq hF rfl (wn rfl) rfl rfl (fun w => R.move (hF.ev rfl)) fun a hF => ?_
    refine dq hF rfl (wn rfl) rfl rfl (fun w => R.nilCheck (hF.ev rfl)) fun a hF => ?_
    refine dq hF rfl (wn rfl) rfl rfl (fun w => R.fieldAddr (k := 1) Try.underlying55 rfl nz40 (hF.ev rfl) rfl) fun a hF => ?_
    refine dr hF rfl (wn rfl) rfl rfl hD (fun w hD => R.load one40 (hF.ev rfl) hD (.t (.t (.t .h))) (rfl)) fun a hF => ?_
    refine dq hF rfl (wn rfl) rfl rfl (fun w => R.len Try.underlying40 (hF.ev rfl)) fun a hF => ?_
    refine dq hF rfl (wn rfl) rfl rfl (fun w => R.move (hF.ev rfl)) fun a hF => ?_
    refine dq hF rfl (wn rfl) rfl rfl (fun w => R.nilCheck (hF.ev rfl)) fun a hF => ?_
    refine dq hF rfl (wn rfl) rfl rfl (fun w => R.fieldAddr (k := 0) Try.underlying55 rfl nz35 (hF.ev rfl) rfl) fun a hF => ?_
    refine dr hF rfl (wn rfl) rfl rfl hD (fun w hD => R.load one35 (hF.ev rfl) hD (.t (.t (.t .h))) (rfl)) fun a hF => ?_
    refine dq hF rfl (wn rfl) rfl rfl (fun w => R.len Try.underlying35 (hF.ev rfl)) fun a hF => ?_
    refine dq hF rfl (wn rfl) rfl rfl (fun w => R.leq (hF.ev rfl) (hF.ev rfl)) fun a hF => ?_
    refine d0 ?_
    refine then_n (hK6 _ _ ?_)
    refine cD hF rfl (fun c2 => ?_) (fun c2 => ?_)
    ·
      refine wp_seq_k fun K7 hK7 => ?_
      refine wp_drawS hS [(0, 0), (1, 0), (2, 0), (3, 1), (4, 0), (5, 0), (6, 0), (7, 1), (8, 0), (9, 0), (10, 0), (11, 1), (12, 2), (13, 3)] mix (by kernel_rfl) (hP.then.then) fun w hS => ?_
      have hD := hS
      refine dq hF rfl (wn rfl) rfl rfl (fun w => R.move (hF.ev rfl)) fun a hF => ?_
      refine dq hF rfl (wn rfl) rfl rfl (fun w => R.nilCheck (hF.ev rfl)) fun a hF => ?_
      refine dq hF rfl (wn rfl) rfl rfl (fun w => R.fieldAddr (k := 0) Try.underlying55 rfl nz35 (hF.ev rfl) rfl) fun a hF => ?_
      refine dr hF rfl (wn rfl) rfl rfl hD (fun w hD => R.load one35 (hF.ev rfl) hD (.t (.t (.t .h))) (rfl)) fun a hF => ?_
      refine dq hF rfl (wn rfl) rfl rfl (fun w => R.move (hF.ev rfl)) fun a hF => ?_
      refine dq hF rfl (wn rfl) rfl rfl (fun w => R.nilCheck (hF.ev rfl)) fun a hF => ?_
      refine dq hF rfl (wn rfl) rfl rfl (fun w => R.fieldAddr (k := 1) Try.underlying55 rfl nz40 (hF.ev rfl) rfl) fun a hF => ?_
      refine dr hF rfl (wn rfl) rfl rfl hD (fun w hD => R.load one40 (hF.ev rfl) hD (.t (.t (.t .h))) (rfl)) fun a hF => ?_
      refine dq hF rfl (wn rfl) rfl rfl (fun w => R.len Try.underlying40 (hF.ev rfl)) fun a hF => ?_
      refine dq hF rfl (wn rfl) rfl rfl (fun w => R.subI (hF.ev rfl) (hF.ev rfl) (by omega)) fun a hF => ?_
      refine dq hF rfl (wn rfl) rfl rfl (fun w => R.indexO Try.underlying35 sz48 (hF.ev rfl) (Rd.ne (hQ.old hS) (by rw [reps_length]; omega)) (hF.ev rfl) (by omega) (by omega)) fun a hF => ?_
      refine dr hF rfl (wn rfl) rfl rfl hD (fun w hD => R.loadAO (cs := repc (F.reps.getD asks.length (0, 0))) agg48 (hF.ev rfl) (hQ.old hD) sz48 rfl (Nat.succ_pos _) (reps_at (k := asks.length) (by omega) (by omega))) fun a hF => ?_
      refine dl rfl (wn rfl) (O.alloc rfl rfl hF ze48 rfl hS fun b7 a w hF hS => ⟨fun hD => hS.tail, ?_⟩)
      have hD := hS.tail
      refine dw rfl (wn rfl) (O.storeW sz48 (hF.ev rfl) (hF.ev rfl) (rfl) rfl (one_repc _) hS .h (rfl) fun w hS => ?_)
      refine d0 ?_
      refine then_n (hK7 _ _ ?_)
      refine wp_seq_k fun K8 hK8 => ?_
      refine wp_drawG hS (hS.sel [0] rfl rfl) [(0, 0), (1, 1), (2, 0), (3, 1), (4, 2), (5, 0)] mix (by kernel_rfl) (hP.then.then) fun w hS hD => ?_
      refine dq hF rfl (wn rfl) rfl rfl (fun w => R.fieldAddr (k := 0) Try.underlying48 rfl nz31 (hF.ev rfl) rfl) fun a hF => ?_
      refine dr hF rfl (wn rfl) rfl rfl hD (fun w hD => R.loadA (cs := [_, _, _, _]) agg31 (hF.ev rfl) hD .h sz31 rfl (getAt rfl)) fun a hF => ?_
      refine dq hF rfl (wn rfl) rfl rfl (fun w => R.fieldAddr (k := 4) Try.underlying48 rfl nz24 (hF.ev rfl) rfl) fun a hF => ?_
      refine dr hF rfl (wn rfl) rfl rfl hD (fun w hD => R.load one24 (hF.ev rfl) hD .h (rfl)) fun a hF => ?_
      refine dl rfl (wn rfl) (O.storeW sz31 (hF.ev rfl) (hF.ev rfl) (rfl) rfl (by simp [Value.oneCell']) hS (.t (.t .h)) (rfl) fun w hS => ⟨fun hD => hS.sel [0] rfl rfl, ?_⟩)
      have hD := hS.sel [0] rfl rfl
      refine dq hF rfl (wn rfl) rfl rfl (fun w => R.assign (hF.ev rfl)) fun a hF => ?_
      refine d0 ?_
      refine then_n (hK8 _ _ ?_)
      refine wp_ret (then_r (hR _ _ _ _ _ hF (run_results Try.results120 (.cw hF rfl agg31 hS (.t (.t .h)) sz31 (rfl) (.t hF rfl (.nil)))) ?_))
      obtain ⟨s', h1, h2⟩ := HostS.close (F := F) (asks := asks ++ [q]) (hS.sel [4, 5] rfl rfl) (by simp) (own_ask hO15)
      exact ⟨_, s', rfl, ⟨by rw [rep_lt (k := asks.length) (by omega)]; rfl, h1⟩, h2⟩
    ·
      refine wp_skip ?_
      refine then_n (hK5 _ _ ?_)
      refine wp_seq_k fun K9 hK9 => ?_
      refine wp_region_lit ?_
      refine sv' hF (wn rfl) rfl rfl (R.buildArr (l := [_, _, _, _]) Try.underlying31 ze31 sz29 (hF.evp rfl) rfl) fun a hF => ?_
      refine so (wn rfl) (O.storeW sz31 (hF.ev rfl) (hF.ev rfl) (rfl) rfl (by simp [Value.oneCell']) hS (.t .h) (rfl) fun w hS => ?_)
      refine sv' hF (wn rfl) rfl rfl (R.assign (hF.ev rfl)) fun a hF => ?_
      refine s0 ?_
      refine then_n (hK9 _ _ ?_)
      refine wp_ret (hR _ _ _ _ _ hF (run_results Try.results120 (.cw hF rfl agg31 hS (.t .h) sz31 (rfl) (.t hF rfl (.nil)))) ?_)
      obtain ⟨s', h1, h2⟩ := HostS.close (F := F) (asks := asks ++ [q]) (hS.sel [3, 4] rfl rfl) (by simp) (own_ask hO15)
      exact ⟨_, s', rfl, ⟨by rw [rep_ge (k := asks.length) (by omega)]; rfl, h1⟩, h2⟩
end Go.Proofs.Ytlapmbkfmbkdoaa
namespace Go.Proofs.Ytlapmbkfmbkdoaa
open Go Go.Fw Go.RowKit
attribute [local irreducible] Go.Oper.wp Go.Code.wp Go.wpList Go.Fw.WL Go.Calls
theorem meth_load (hb : Nat) : ∀ w, (method (Try.prog.types.size + Made.depth) 53 (.pointer (some ⟨hb, 0, none⟩)) "Load").run Try.prog w = .ok (117, .pointer (some ⟨hb, 0, none⟩)) w := fun w => by kernel_rfl
theorem meth_save (hb : Nat) : ∀ w, (method (Try.prog.types.size + Made.depth) 53 (.pointer (some ⟨hb, 0, none⟩)) "Save").run Try.prog w = .ok (118, .pointer (some ⟨hb, 0, none⟩)) w := fun w => by kernel_rfl
theorem meth_have (hb : Nat) : ∀ w, (method (Try.prog.types.size + Made.depth) 53 (.pointer (some ⟨hb, 0, none⟩)) "Have").run Try.prog w = .ok (116, .pointer (some ⟨hb, 0, none⟩)) w := fun w => by kernel_rfl
theorem meth_send (hb : Nat) : ∀ w, (method (Try.prog.types.size + Made.depth) 53 (.pointer (some ⟨hb, 0, none⟩)) "Send").run Try.prog w = .ok (119, .pointer (some ⟨hb, 0, none⟩)) w := fun w => by kernel_rfl
theorem R.nilCheckI {P : Program} {w : World} {ρ : Operand → Value} {dst : Option Tmp} {ty : TypeId} {pos : String} {af : Array Edge} {g : Option (Nat × Bool)} {x : Operand} {t : TypeId} {u : Value} (hx : ρ x = .iface t u) : (execOp ρ ⟨dst, .nilCheck x, ty, pos, af, g⟩).run P w = .ok (.value (.iface t u)) w := by
  simp only [execOp, hx, Sem.run_pure]
def DidH (F : Fx) (V : Vr) (stk : List Nat) (asks : List Fw.Ask) (v : Value) (s' : Seg) : Prop := v = .int .i64 0 ∧ ∃ s1 s2, s' = s1 ++ s2 ∧ RunS F V stk s1 ∧ HostS F asks s2
def ErrH (F : Fx) (asks : List Fw.Ask) (e : Int) (v : Value) (s' : Seg) : Prop := v = .int .i64 e ∧ ∃ s1 s2, s' = s1 ++ s2 ∧ HostS F asks s2
theorem load_calls (F : Fx) (asks : List Fw.Ask) (s : Seg) (n : Nat) (w0 : World) (hNX : NextOK F) (hH : HostS F asks s) (ho : Own w0 s) (hQ : RdK w0 (s.map (·.1)) F.qA (F.reps.flatMap repc)) (hI : RdK w0 (s.map (·.1)) F.iA (byts F.inner)) (hl : asks.length ≤ 20000) : Ret Try.prog 117 [.pointer (some ⟨F.hb, 0, none⟩), wv n] w0 (s.map (·.1)) (fun v s' => v = .tuple #[wv (F.rep asks.length).1, .int .i64 (F.rep asks.length).2] ∧ HostS F (asks ++ [⟨1, n, 0, 0, 0⟩]) s') := by
  refine fn_start Try.func117 rfl Try.ntmps117 rfl [(0, .pointer (some ⟨F.hb, 0, none⟩)), (1, wv n)] ⟨rfl, rfl, trivial⟩ ?_
  intro Q a hP hF hR hN
  have hS := St.enter ho
  refine wp_seq_k fun K1 hK1 => ?_
  refine wp_region_lit ?_
  refine so (wn rfl) (O.box rfl rfl hF (hF.ev rfl) rfl hS fun b3 a w hF hS => ?_)
  refine so (wn rfl) (O.alloc rfl rfl hF ze31 rfl hS fun b4 a w hF hS => ?_)
  refine sv' hF (wn rfl) rfl rfl (R.assign (hF.ev rfl)) fun a hF => ?_
  refine s0 ?_
  refine then_n (hK1 _ _ ?_)
  refine wp_seq_k fun K2 hK2 => ?_
  refine wp_region_lit ?_
  refine sv' hF (wn rfl) rfl rfl (R.move (hF.ev rfl)) fun a hF => ?_
  refine sv' hF (wn rfl) rfl rfl (R.loadW agg31 (hF.ev rfl) hS (.t .h) sz31 (rfl)) fun a hF => ?_
  refine sv' hF (wn rfl) rfl rfl (R.buildStr (l := askc ⟨1, n, 0, 0, 0⟩) Try.underlying72 ze72 pl72 (hF.evp rfl) (by kernel_rfl)) fun a hF => ?_
  refine so (wn rfl) (O.callK rfl rfl hF ent120 (hF.evs rfl) hS (hNX asks ⟨1, n, 0, 0, 0⟩ _ _ hH (hS.own1 (.t (.t .h))) (hQ.down hS (.t (.t .h))) (hI.down hS (.t (.t .h))) hl) (fun _ => (.t (.t .h))) fun v s9 a w hR hF hS => ?_)
  obtain ⟨rfl, hH2⟩ := hR
  refine sv' hF (wn rfl) rfl rfl (R.extract (hF.ev rfl) rfl) fun a hF => ?_
  refine sv' hF (wn rfl) rfl rfl (R.extract (hF.ev rfl) rfl) fun a hF => ?_
  refine so (wn rfl) (O.storeW sz31 (hF.ev rfl) (hF.ev rfl) (rfl) rfl (by simp [Value.oneCell']) hS .h (rfl) fun w hS => ?_)
  refine sv' hF (wn rfl) rfl rfl (R.assign (hF.ev rfl)) fun a hF => ?_
  refine s0 ?_
  refine then_n (hK2 _ _ ?_)
  refine wp_ret (hR _ _ _ _ _ hF (run_results Try.results117 (.cw hF rfl agg31 hS .h sz31 (rfl) (.t hF rfl (.nil)))) ?_)
  exact ⟨_, s9, rfl, ⟨rfl, hH2⟩, hS.one (.t (.t .h))⟩
theorem save_calls (F : Fx) (asks : List Fw.Ask) (s : Seg) (n m : Nat) (w0 : World) (hNX : NextOK F) (hH : HostS F asks s) (ho : Own w0 s) (hQ : RdK w0 (s.map (·.1)) F.qA (F.reps.flatMap repc)) (hI : RdK w0 (s.map (·.1)) F.iA (byts F.inner)) (hl : asks.length ≤ 20000) : Ret Try.prog 118 [.pointer (some ⟨F.hb, 0, none⟩), wv n, wv m] w0 (s.map (·.1)) (fun v s' => v = .int .i64 (F.rep asks.length).2 ∧ HostS F (asks ++ [⟨2, n, m, 0, 0⟩]) s') := by
  refine fn_start Try.func118 rfl Try.ntmps118 rfl [(0, .pointer (some ⟨F.hb, 0, none⟩)), (1, wv n), (2, wv m)] ⟨rfl, rfl, rfl, trivial⟩ ?_
  intro Q a hP hF hR hN
  have hS := St.enter ho
  refine wp_seq_k fun K1 hK1 => ?_
  refine wp_region_lit ?_
  refine so (wn rfl) (O.box rfl rfl hF (hF.ev rfl) rfl hS fun b4 a w hF hS => ?_)
  refine so (wn rfl) (O.box rfl rfl hF (hF.ev rfl) rfl hS fun b5 a w hF hS => ?_)
  refine sv' hF (wn rfl) rfl rfl (R.assign (hF.ev rfl)) fun a hF => ?_
  refine s0 ?_
  refine then_n (hK1 _ _ ?_)
  refine wp_seq_k fun K2 hK2 => ?_
  refine wp_region_lit ?_
  refine sv' hF (wn rfl) rfl rfl (R.move (hF.ev rfl)) fun a hF => ?_
  refine sv' hF (wn rfl) rfl rfl (R.loadW agg31 (hF.ev rfl) hS (.t .h) sz31 (rfl)) fun a hF => ?_
  refine sv' hF (wn rfl) rfl rfl (R.loadW agg31 (hF.ev rfl) hS .h sz31 (rfl)) fun a hF => ?_
  refine sv' hF (wn rfl) rfl rfl (R.buildStr (l := askc ⟨2, n, m, 0, 0⟩) Try.underlying72 ze72 pl72 (hF.evp rfl) (by kernel_rfl)) fun a hF => ?_
  refine so (wn rfl) (O.callK rfl rfl hF ent120 (hF.evs rfl) hS (hNX asks ⟨2, n, m, 0, 0⟩ _ _ hH (hS.own1 (.t (.t .h))) (hQ.down hS (.t (.t .h))) (hI.down hS (.t (.t .h))) hl) (fun _ => (.t (.t .h))) fun v s14 a w hR hF hS => ?_)
  obtain ⟨rfl, hH2⟩ := hR
  refine sv' hF (wn rfl) rfl rfl (R.move (hF.ev rfl)) fun a hF => ?_
  refine sv' hF (wn rfl) rfl rfl (R.extract (hF.ev rfl) rfl) fun a hF => ?_
  refine sv' hF (wn rfl) rfl rfl (R.extract (hF.ev rfl) rfl) fun a hF => ?_
  refine so (wn rfl) (O.alloc rfl rfl hF ze31 rfl hS fun b7 a w hF hS => ?_)
  refine so (wn rfl) (O.storeW sz31 (hF.ev rfl) (hF.ev rfl) (rfl) rfl (by simp [Value.oneCell']) hS .h (rfl) fun w hS => ?_)
  refine sv' hF (wn rfl) rfl rfl (R.assign (hF.ev rfl)) fun a hF => ?_
  refine s0 ?_
  refine then_n (hK2 _ _ ?_)
  refine wp_seq_k fun K3 hK3 => ?_
  refine wp_region_lit ?_
  refine sv' hF (wn rfl) rfl rfl (R.move (hF.ev rfl)) fun a hF => ?_
  refine sv' hF (wn rfl) rfl rfl (R.assign (hF.ev rfl)) fun a hF => ?_
  refine s0 ?_
  refine then_n (hK3 _ _ ?_)
  refine wp_ret (hR _ _ _ _ _ hF (run_results Try.results118 (.t hF rfl (.nil))) ?_)
  exact ⟨_, s14, rfl, ⟨rfl, hH2⟩, hS.one (.t (.t (.t .h)))⟩
theorem have_calls (F : Fx) (asks : List Fw.Ask) (s : Seg) (t z : Nat) (w0 : World) (hNX : NextOK F) (hH : HostS F asks s) (ho : Own w0 s) (hQ : RdK w0 (s.map (·.1)) F.qA (F.reps.flatMap repc)) (hI : RdK w0 (s.map (·.1)) F.iA (byts F.inner)) (hl : asks.length ≤ 20000) : Ret Try.prog 116 [.pointer (some ⟨F.hb, 0, none⟩), .int .i64 ((t : Nat) : Int), .agg (adc (adF z)).toArray] w0 (s.map (·.1)) (fun v s' => v = .tuple #[wv (F.rep asks.length).1, .int .i64 (F.rep asks.length).2] ∧ HostS F (asks ++ [⟨3, 0, 0, t, z⟩]) s') := by
  refine fn_start Try.func116 rfl Try.ntmps116 rfl [(0, .pointer (some ⟨F.hb, 0, none⟩)), (1, .int .i64 ((t : Nat) : Int)), (2, .agg (adc (adF z)).toArray)] ⟨rfl, rfl, rfl, trivial⟩ ?_
  intro Q a hP hF hR hN
  have hS := St.enter ho
  refine wp_seq_k fun K1 hK1 => ?_
  refine wp_region_lit ?_
  refine so (wn rfl) (O.box rfl rfl hF (hF.ev rfl) rfl hS fun b5 a w hF hS => ?_)
  refine so (wn rfl) (O.alloc rfl rfl hF ze31 rfl hS fun b6 a w hF hS => ?_)
  refine sv' hF (wn rfl) rfl rfl (R.assign (hF.ev rfl)) fun a hF => ?_
  refine s0 ?_
  refine then_n (hK1 _ _ ?_)
  refine wp_seq_k fun K2 hK2 => ?_
  refine wp_region_lit ?_
  refine sv' hF (wn rfl) rfl rfl (R.move (hF.ev rfl)) fun a hF => ?_
  refine sv' hF (wn rfl) rfl rfl (R.move (hF.ev rfl)) fun a hF => ?_
  refine sv' hF (wn rfl) rfl rfl (R.loadW agg28 (hF.ev rfl) hS (.t .h) sz28 (rfl)) fun a hF => ?_
  refine sv' hF (wn rfl) rfl rfl (R.buildStr (l := askc ⟨3, 0, 0, t, z⟩) Try.underlying72 ze72 pl72 (hF.evp rfl) (by kernel_rfl)) fun a hF => ?_
  refine so (wn rfl) (O.callK rfl rfl hF ent120 (hF.evs rfl) hS (hNX asks ⟨3, 0, 0, t, z⟩ _ _ hH (hS.own1 (.t (.t .h))) (hQ.down hS (.t (.t .h))) (hI.down hS (.t (.t .h))) hl) (fun _ => (.t (.t .h))) fun v s12 a w hR hF hS => ?_)
  obtain ⟨rfl, hH2⟩ := hR
  refine sv' hF (wn rfl) rfl rfl (R.extract (hF.ev rfl) rfl) fun a hF => ?_
  refine sv' hF (wn rfl) rfl rfl (R.extract (hF.ev rfl) rfl) fun a hF => ?_
  refine so (wn rfl) (O.storeW sz31 (hF.ev rfl) (hF.ev rfl) (rfl) rfl (by simp [Value.oneCell']) hS .h (rfl) fun w hS => ?_)
  refine sv' hF (wn rfl) rfl rfl (R.assign (hF.ev rfl)) fun a hF => ?_
  refine s0 ?_
  refine then_n (hK2 _ _ ?_)
  refine wp_ret (hR _ _ _ _ _ hF (run_results Try.results116 (.cw hF rfl agg31 hS .h sz31 (rfl) (.t hF rfl (.nil)))) ?_)
  exact ⟨_, s12, rfl, ⟨rfl, hH2⟩, hS.one (.t (.t .h))⟩
theorem send_calls (F : Fx) (asks : List Fw.Ask) (s : Seg) (t z n : Nat) (w0 : World) (hNX : NextOK F) (hH : HostS F asks s) (ho : Own w0 s) (hQ : RdK w0 (s.map (·.1)) F.qA (F.reps.flatMap repc)) (hI : RdK w0 (s.map (·.1)) F.iA (byts F.inner)) (hl : asks.length ≤ 20000) : Ret Try.prog 119 [.pointer (some ⟨F.hb, 0, none⟩), .int .i64 ((t : Nat) : Int), .agg (adc (adF z)).toArray, wv n] w0 (s.map (·.1)) (fun v s' => v = .int .i64 (F.rep asks.length).2 ∧ HostS F (asks ++ [⟨4, n, 0, t, z⟩]) s') := by
  refine fn_start Try.func119 rfl Try.ntmps119 rfl [(0, .pointer (some ⟨F.hb, 0, none⟩)), (1, .int .i64 ((t : Nat) : Int)), (2, .agg (adc (adF z)).toArray), (3, wv n)] ⟨rfl, rfl, rfl, rfl, trivial⟩ ?_
  intro Q a hP hF hR hN
  have hS := St.enter ho
  refine wp_seq_k fun K1 hK1 => ?_
  refine wp_region_lit ?_
  refine so (wn rfl) (O.box rfl rfl hF (hF.ev rfl) rfl hS fun b6 a w hF hS => ?_)
  refine so (wn rfl) (O.box rfl rfl hF (hF.ev rfl) rfl hS fun b7 a w hF hS => ?_)
  refine sv' hF (wn rfl) rfl rfl (R.assign (hF.ev rfl)) fun a hF => ?_
  refine s0 ?_
  refine then_n (hK1 _ _ ?_)
  refine wp_seq_k fun K2 hK2 => ?_
  refine wp_region_lit ?_
  refine sv' hF (wn rfl) rfl rfl (R.move (hF.ev rfl)) fun a hF => ?_
  refine sv' hF (wn rfl) rfl rfl (R.move (hF.ev rfl)) fun a hF => ?_
  refine sv' hF (wn rfl) rfl rfl (R.loadW agg28 (hF.ev rfl) hS (.t .h) sz28 (rfl)) fun a hF => ?_
  refine sv' hF (wn rfl) rfl rfl (R.loadW agg31 (hF.ev rfl) hS .h sz31 (rfl)) fun a hF => ?_
  refine sv' hF (wn rfl) rfl rfl (R.buildStr (l := askc ⟨4, n, 0, t, z⟩) Try.underlying72 ze72 pl72 (hF.evp rfl) (by kernel_rfl)) fun a hF => ?_
  refine so (wn rfl) (O.callK rfl rfl hF ent120 (hF.evs rfl) hS (hNX asks ⟨4, n, 0, t, z⟩ _ _ hH (hS.own1 (.t (.t .h))) (hQ.down hS (.t (.t .h))) (hI.down hS (.t (.t .h))) hl) (fun _ => (.t (.t .h))) fun v s17 a w hR hF hS => ?_)
  obtain ⟨rfl, hH2⟩ := hR
  refine sv' hF (wn rfl) rfl rfl (R.move (hF.ev rfl)) fun a hF => ?_
  refine sv' hF (wn rfl) rfl rfl (R.extract (hF.ev rfl) rfl) fun a hF => ?_
  refine sv' hF (wn rfl) rfl rfl (R.extract (hF.ev rfl) rfl) fun a hF => ?_
  refine so (wn rfl) (O.alloc rfl rfl hF ze31 rfl hS fun b9 a w hF hS => ?_)
  refine so (wn rfl) (O.storeW sz31 (hF.ev rfl) (hF.ev rfl) (rfl) rfl (by simp [Value.oneCell']) hS .h (rfl) fun w hS => ?_)
  refine sv' hF (wn rfl) rfl rfl (R.assign (hF.ev rfl)) fun a hF => ?_
  refine s0 ?_
  refine then_n (hK2 _ _ ?_)
  refine wp_seq_k fun K3 hK3 => ?_
  refine wp_region_lit ?_
  refine sv' hF (wn rfl) rfl rfl (R.move (hF.ev rfl)) fun a hF => ?_
  refine sv' hF (wn rfl) rfl rfl (R.assign (hF.ev rfl)) fun a hF => ?_
  refine s0 ?_
  refine then_n (hK3 _ _ ?_)
  refine wp_ret (hR _ _ _ _ _ hF (run_results Try.results119 (.t hF rfl (.nil))) ?_)
  exact ⟨_, s17, rfl, ⟨rfl, hH2⟩, hS.one (.t (.t (.t .h)))⟩
end Go.Proofs.Ytlapmbkfmbkdoaa
namespace Go.Proofs.Ytlapmbkfmbkdoaa
open Go Go.Fw Go.RowKit
attribute [local irreducible] Go.Oper.wp Go.Code.wp Go.wpList Go.Fw.WL Go.Calls
set_option maxHeartbeats 2000000 in
theorem load_ok (F : Fx) (V : Vr) (stk : List Nat) (asks : List Fw.Ask) (s1 s2 : Seg) (vb : Nat) (u : Nat → Nat) (w0 : World) (hNX : NextOK F) (hRun : RunS F V stk s1) (hH : HostS F asks s2) (ho : Own w0 (s1 ++ s2)) (hv : RdK w0 ((s1 ++ s2).map (·.1)) (some ⟨vb, 0, none⟩) (vc u)) (hvM : ∀ i, u i < 115792089237316195423570985008687907853269984665640564039457584007913129639936) (hQ : RdK w0 ((s1 ++ s2).map (·.1)) F.qA (F.reps.flatMap repc)) (hI : RdK w0 ((s1 ++ s2).map (·.1)) F.iA (byts F.inner)) (hl : stk.length ≤ 64) (hla : asks.length ≤ 20000) (he : (F.rep asks.length).2 = 0) : Ret Try.prog 73 [.pointer (some ⟨F.rb, 0, none⟩), .slice (some ⟨vb, 0, none⟩) 1 3] w0 ((s1 ++ s2).map (·.1)) (fun v s' => DidH F V (stk ++ [(F.rep asks.length).1]) (asks ++ [⟨1, u 0, 0, 0, 0⟩]) v s') := by
  refine fn_start Try.func73 rfl Try.ntmps73 rfl [(0, .pointer (some ⟨F.rb, 0, none⟩)), (1, .slice (some ⟨vb, 0, none⟩) 1 3)] ⟨rfl, rfl, trivial⟩ ?_
  intro Q a hP hF hR hN
  have hS := St.enter ho
  obtain ⟨A, c, sg, hs, hO⟩ := hRun; have hS := hS.flat (bs' := [[(F.rb, Cel (rcells F (.slice A stk.length c) V) 81)], sg, s2]) (by simp [hs])
  refine wp_seq_k fun K1 hK1 => ?_
  refine wp_region_lit ?_
  refine sv' hF (wn rfl) rfl rfl (R.assign (hF.ev rfl)) fun a hF => ?_
  refine s0 ?_
  refine then_n (hK1 _ _ ?_)
  refine wp_seq_k fun K2 hK2 => ?_
  refine wp_draw2G hS (hS.sel [0] rfl rfl) [(0, 0), (1, 0), (2, 0), (3, 1), (4, 0), (5, 0), (6, 1), (7, 0), (8, 0)] [[(9, 2), (10, 0), (11, 0), (12, 0), (13, 2), (14, 2), (15, 0)], [(13, 2), (9, 2), (10, 0), (11, 0), (12, 0), (14, 2), (15, 0)]] mix (by kernel_rfl) (hP.then) fun w hS hD => ?_
  refine dq hF rfl (wn rfl) rfl rfl (fun w => R.move (hF.ev rfl)) fun a hF => ?_
  refine dq hF rfl (wn rfl) rfl rfl (fun w => R.nilCheck (hF.ev rfl)) fun a hF => ?_
  refine dq hF rfl (wn rfl) rfl rfl (fun w => R.fieldAddr (k := 49) Try.underlying81 rfl nz78 (hF.ev rfl) rfl) fun a hF => ?_
  refine dr hF rfl (wn rfl) rfl rfl hD (fun w hD => R.load one78 (hF.ev rfl) hD .h (rfl)) fun a hF => ?_
  refine dq hF rfl (wn rfl) rfl rfl (fun w => R.move (hF.ev rfl)) fun a hF => ?_
  refine dq hF rfl (wn rfl) rfl rfl (fun w => R.indexO Try.underlying32 sz31 (hF.ev rfl) (by simp) (hF.ev rfl) (by omega) (by omega)) fun a hF => ?_
  refine dr hF rfl (wn rfl) rfl rfl hD (fun w hD => R.loadAO (cs := wc (u 0)) agg31 (hF.ev rfl) (hv.old hD) sz31 rfl (Nat.succ_pos _) (v0_at rfl)) fun a hF => ?_
  refine dq hF rfl (wn rfl) rfl rfl (fun w => R.nilCheckI (hF.ev rfl)) fun a hF => ?_
  refine dq hF rfl (wn rfl) rfl rfl (fun w => R.move (hF.ev rfl)) fun a hF => ?_
  refine d0 ?_
  refine alts2 ?_ ?_
  ·
    refine dl rfl (wn rfl) (O.callM rfl rfl hF (hF.ev rfl) (meth_load F.hb) ent117 (hF.evs rfl) hS (load_calls F asks _ (u 0) _ hNX hH (hS.own1 (.t (.t .h))) (hQ.down hS (.t (.t .h))) (hI.down hS (.t (.t .h))) hla) (fun _ => (.t (.t .h))) fun v s17 a w hR hF hS => ⟨fun hD => hS.sel [0] rfl rfl, ?_⟩)
    have hD := hS.sel [0] rfl rfl
    obtain ⟨rfl, hH2⟩ := hR
    refine dq hF rfl (wn rfl) rfl rfl (fun w => R.move (hF.ev rfl)) fun a hF => ?_
    refine dq hF rfl (wn rfl) rfl rfl (fun w => R.extract (hF.ev rfl) rfl) fun a hF => ?_
    refine dq hF rfl (wn rfl) rfl rfl (fun w => R.extract (hF.ev rfl) rfl) fun a hF => ?_
    refine dl rfl (wn rfl) (O.alloc rfl rfl hF ze31 rfl hS fun b5 a w hF hS => ⟨fun hD => hS.sel [1] rfl rfl, ?_⟩)
    have hD := hS.sel [1] rfl rfl
    refine dl rfl (wn rfl) (O.storeW sz31 (hF.ev rfl) (hF.ev rfl) (rfl) rfl (by simp [Value.oneCell']) hS .h (rfl) fun w hS => ⟨fun hD => hS.sel [1] rfl rfl, ?_⟩)
    have hD := hS.sel [1] rfl rfl
    refine dq hF rfl (wn rfl) rfl rfl (fun w => R.assign (hF.ev rfl)) fun a hF => ?_
    refine d0 ?_
    refine then_n (hK2 _ _ ?_)
    refine wp_seq_k fun K3 hK3 => ?_
    refine wp_seq_k fun K4 hK4 => ?_
    refine wp_region_lit ?_
    refine sv' hF (wn rfl) rfl rfl (R.move (hF.ev rfl)) fun a hF => ?_
    refine sv' hF (wn rfl) rfl rfl (R.as (u := .bool false) (R.neq (p := (F.rep asks.length).2) (q := 0) (hF.ev rfl) (hF.ev rfl)) (congrArg Value.bool (decide_eq_false (fun h => h he)))) fun a hF => ?_
    refine s0 ?_
    refine then_n (hK4 _ _ ?_)
    refine cF hF rfl ?_
    refine wp_skip ?_
    refine then_n (hK3 _ _ ?_)
    refine wp_seq_k fun K5 hK5 => ?_
    refine wp_region_lit ?_
    refine sv' hF (wn rfl) rfl rfl (R.move (hF.ev rfl)) fun a hF => ?_
    refine sv' hF (wn rfl) rfl rfl (R.loadW agg31 (hF.ev rfl) hS .h sz31 (rfl)) fun a hF => ?_
    have hS := (hS.sel [1, 2, 3] rfl rfl).flat (bs' := [(F.rb, Cel (rcells F (.slice A stk.length c) V) 81) :: sg, s17]) (by simp [selS])
    refine so (wn rfl) (O.callK rfl rfl hF ent79 (hF.evs rfl) hS (on_calls F V stk _ ((F.rep asks.length).1) _ ⟨A, c, sg, rfl, hO⟩ (hS.own1 .h) (hl)) (fun _ => .h) fun v s25 a w hR hF hS => ?_)
    obtain ⟨rfl, hRun2⟩ := hR
    refine sv' hF (wn rfl) rfl rfl (R.assign (hF.ev rfl)) fun a hF => ?_
    refine s0 ?_
    refine then_n (hK5 _ _ ?_)
    refine wp_ret (hR _ _ _ _ _ hF (run_results Try.results73 (.t hF rfl (.nil))) ?_)
    exact ⟨_, s25 ++ s17, rfl, ⟨rfl, s25, s17, rfl, hRun2, hH2⟩, (hS.sel [0, 1] rfl rfl).flat (by simp [selS])⟩
  ·
    refine dl rfl (wn rfl) (O.alloc rfl rfl hF ze31 rfl hS fun b5 a w hF hS => ⟨fun hD => hS.sel [1] rfl rfl, ?_⟩)
    have hD := hS.sel [1] rfl rfl
    refine dl rfl (wn rfl) (O.callM rfl rfl hF (hF.ev rfl) (meth_load F.hb) ent117 (hF.evs rfl) hS (load_calls F asks _ (u 0) _ hNX hH (hS.own1 (.t (.t (.t .h)))) (hQ.down hS (.t (.t (.t .h)))) (hI.down hS (.t (.t (.t .h)))) hla) (fun _ => (.t (.t (.t .h)))) fun v s17 a w hR hF hS => ⟨fun hD => hS.sel [1] rfl rfl, ?_⟩)
    have hD := hS.sel [1] rfl rfl
    obtain ⟨rfl, hH2⟩ := hR
    refine dq hF rfl (wn rfl) rfl rfl (fun w => R.move (hF.ev rfl)) fun a hF => ?_
    refine dq hF rfl (wn rfl) rfl rfl (fun w => R.extract (hF.ev rfl) rfl) fun a hF => ?_
    refine dq hF rfl (wn rfl) rfl rfl (fun w => R.extract (hF.ev rfl) rfl) fun a hF => ?_
    refine dl rfl (wn rfl) (O.storeW sz31 (hF.ev rfl) (hF.ev rfl) (rfl) rfl (by simp [Value.oneCell']) hS .h (rfl) fun w hS => ⟨fun hD => hS.sel [1] rfl rfl, ?_⟩)
    have hD := hS.sel [1] rfl rfl
    refine dq hF rfl (wn rfl) rfl rfl (fun w => R.assign (hF.ev rfl)) fun a hF => ?_
    refine d0 ?_
    refine then_n (hK2 _ _ ?_)
    refine wp_seq_k fun K6 hK6 => ?_
    refine wp_seq_k fun K7 hK7 => ?_
    refine wp_region_lit ?_
    refine sv' hF (wn rfl) rfl rfl (R.move (hF.ev rfl)) fun a hF => ?_
    refine sv' hF (wn rfl) rfl rfl (R.as (u := .bool false) (R.neq (p := (F.rep asks.length).2) (q := 0) (hF.ev rfl) (hF.ev rfl)) (congrArg Value.bool (decide_eq_false (fun h => h he)))) fun a hF => ?_
    refine s0 ?_
    refine then_n (hK7 _ _ ?_)
    refine cF hF rfl ?_
    refine wp_skip ?_
    refine then_n (hK6 _ _ ?_)
    refine wp_seq_k fun K8 hK8 => ?_
    refine wp_region_lit ?_
    refine sv' hF (wn rfl) rfl rfl (R.move (hF.ev rfl)) fun a hF => ?_
    refine sv' hF (wn rfl) rfl rfl (R.loadW agg31 (hF.ev rfl) hS .h sz31 (rfl)) fun a hF => ?_
    have hS := (hS.sel [1, 2, 3] rfl rfl).flat (bs' := [(F.rb, Cel (rcells F (.slice A stk.length c) V) 81) :: sg, s17]) (by simp [selS])
    refine so (wn rfl) (O.callK rfl rfl hF ent79 (hF.evs rfl) hS (on_calls F V stk _ ((F.rep asks.length).1) _ ⟨A, c, sg, rfl, hO⟩ (hS.own1 .h) (hl)) (fun _ => .h) fun v s25 a w hR hF hS => ?_)
    obtain ⟨rfl, hRun2⟩ := hR
    refine sv' hF (wn rfl) rfl rfl (R.assign (hF.ev rfl)) fun a hF => ?_
    refine s0 ?_
    refine then_n (hK8 _ _ ?_)
    refine wp_ret (hR _ _ _ _ _ hF (run_results Try.results73 (.t hF rfl (.nil))) ?_)
    exact ⟨_, s25 ++ s17, rfl, ⟨rfl, s25, s17, rfl, hRun2, hH2⟩, (hS.sel [0, 1] rfl rfl).flat (by simp [selS])⟩
set_option maxHeartbeats 2000000 in
theorem load_err (F : Fx) (V : Vr) (stk : List Nat) (asks : List Fw.Ask) (s1 s2 : Seg) (vb : Nat) (u : Nat → Nat) (w0 : World) (hNX : NextOK F) (hRun : RunS F V stk s1) (hH : HostS F asks s2) (ho : Own w0 (s1 ++ s2)) (hv : RdK w0 ((s1 ++ s2).map (·.1)) (some ⟨vb, 0, none⟩) (vc u)) (hvM : ∀ i, u i < 115792089237316195423570985008687907853269984665640564039457584007913129639936) (hQ : RdK w0 ((s1 ++ s2).map (·.1)) F.qA (F.reps.flatMap repc)) (hI : RdK w0 ((s1 ++ s2).map (·.1)) F.iA (byts F.inner)) (hl : stk.length ≤ 64) (hla : asks.length ≤ 20000) (he : ¬ (F.rep asks.length).2 = 0) : Ret Try.prog 73 [.pointer (some ⟨F.rb, 0, none⟩), .slice (some ⟨vb, 0, none⟩) 1 3] w0 ((s1 ++ s2).map (·.1)) (fun v s' => ErrH F (asks ++ [⟨1, u 0, 0, 0, 0⟩]) (F.rep asks.length).2 v s') := by
  refine fn_start Try.func73 rfl Try.ntmps73 rfl [(0, .pointer (some ⟨F.rb, 0, none⟩)), (1, .slice (some ⟨vb, 0, none⟩) 1 3)] ⟨rfl, rfl, trivial⟩ ?_
  intro Q a hP hF hR hN
  have hS := St.enter ho
  obtain ⟨A, c, sg, hs, hO⟩ := hRun; have hS := hS.flat (bs' := [[(F.rb, Cel (rcells F (.slice A stk.length c) V) 81)], sg, s2]) (by simp [hs])
  refine wp_seq_k fun K1 hK1 => ?_
  refine wp_region_lit ?_
  refine sv' hF (wn rfl) rfl rfl (R.assign (hF.ev rfl)) fun a hF => ?_
  refine s0 ?_
  refine then_n (hK1 _ _ ?_)
  refine wp_seq_k fun K2 hK2 => ?_
  refine wp_draw2G hS (hS.sel [0] rfl rfl) [(0, 0), (1, 0), (2, 0), (3, 1), (4, 0), (5, 0), (6, 1), (7, 0), (8, 0)] [[(9, 2), (10, 0), (11, 0), (12, 0), (13, 2), (14, 2), (15, 0)], [(13, 2), (9, 2), (10, 0), (11, 0), (12, 0), (14, 2), (15, 0)]] mix (by kernel_rfl) (hP.then) fun w hS hD => ?_
  refine dq hF rfl (wn rfl) rfl rfl (fun w => R.move (hF.ev rfl)) fun a hF => ?_
  refine dq hF rfl (wn rfl) rfl rfl (fun w => R.nilCheck (hF.ev rfl)) fun a hF => ?_
  refine dq hF rfl (wn rfl) rfl rfl (fun w => R.fieldAddr (k := 49) Try.underlying81 rfl nz78 (hF.ev rfl) rfl) fun a hF => ?_
  refine dr hF rfl (wn rfl) rfl rfl hD (fun w hD => R.load one78 (hF.ev rfl) hD .h (rfl)) fun a hF => ?_
  refine dq hF rfl (wn rfl) rfl rfl (fun w => R.move (hF.ev rfl)) fun a hF => ?_
  refine dq hF rfl (wn rfl) rfl rfl (fun w => R.indexO Try.underlying32 sz31 (hF.ev rfl) (by simp) (hF.ev rfl) (by omega) (by omega)) fun a hF => ?_
  refine dr hF rfl (wn rfl) rfl rfl hD (fun w hD => R.loadAO (cs := wc (u 0)) agg31 (hF.ev rfl) (hv.old hD) sz31 rfl (Nat.succ_pos _) (v0_at rfl)) fun a hF => ?_
  refine dq hF rfl (wn rfl) rfl rfl (fun w => R.nilCheckI (hF.ev rfl)) fun a hF => ?_
  refine dq hF rfl (wn rfl) rfl rfl (fun w => R.move (hF.ev rfl)) fun a hF => ?_
  refine d0 ?_
  refine alts2 ?_ ?_
  ·
    refine dl rfl (wn rfl) (O.callM rfl rfl hF (hF.ev rfl) (meth_load F.hb) ent117 (hF.evs rfl) hS (load_calls F asks _ (u 0) _ hNX hH (hS.own1 (.t (.t .h))) (hQ.down hS (.t (.t .h))) (hI.down hS (.t (.t .h))) hla) (fun _ => (.t (.t .h))) fun v s17 a w hR hF hS => ⟨fun hD => hS.sel [0] rfl rfl, ?_⟩)
    have hD := hS.sel [0] rfl rfl
    obtain ⟨rfl, hH2⟩ := hR
    refine dq hF rfl (wn rfl) rfl rfl (fun w => R.move (hF.ev rfl)) fun a hF => ?_
    refine dq hF rfl (wn rfl) rfl rfl (fun w => R.extract (hF.ev rfl) rfl) fun a hF => ?_
    refine dq hF rfl (wn rfl) rfl rfl (fun w => R.extract (hF.ev rfl) rfl) fun a hF => ?_
    refine dl rfl (wn rfl) (O.alloc rfl rfl hF ze31 rfl hS fun b5 a w hF hS => ⟨fun hD => hS.sel [1] rfl rfl, ?_⟩)
    have hD := hS.sel [1] rfl rfl
    refine dl rfl (wn rfl) (O.storeW sz31 (hF.ev rfl) (hF.ev rfl) (rfl) rfl (by simp [Value.oneCell']) hS .h (rfl) fun w hS => ⟨fun hD => hS.sel [1] rfl rfl, ?_⟩)
    have hD := hS.sel [1] rfl rfl
    refine dq hF rfl (wn rfl) rfl rfl (fun w => R.assign (hF.ev rfl)) fun a hF => ?_
    refine d0 ?_
    refine then_n (hK2 _ _ ?_)
    refine wp_seq_k fun K3 hK3 => ?_
    refine wp_seq_k fun K4 hK4 => ?_
    refine wp_region_lit ?_
    refine sv' hF (wn rfl) rfl rfl (R.move (hF.ev rfl)) fun a hF => ?_
    refine sv' hF (wn rfl) rfl rfl (R.as (u := .bool true) (R.neq (p := (F.rep asks.length).2) (q := 0) (hF.ev rfl) (hF.ev rfl)) (congrArg Value.bool (decide_eq_true he))) fun a hF => ?_
    refine s0 ?_
    refine then_n (hK4 _ _ ?_)
    refine cT hF rfl ?_
    refine wp_seq_k fun K5 hK5 => ?_
    refine wp_region_lit ?_
    refine sv' hF (wn rfl) rfl rfl (R.move (hF.ev rfl)) fun a hF => ?_
    refine sv' hF (wn rfl) rfl rfl (R.assign (hF.ev rfl)) fun a hF => ?_
    refine s0 ?_
    refine then_n (hK5 _ _ ?_)
    refine wp_ret (then_r (hR _ _ _ _ _ hF (run_results Try.results73 (.t hF rfl (.nil))) ?_))
    exact ⟨_, s17, rfl, ⟨rfl, [], s17, rfl, hH2⟩, hS.one (.t (.t (.t .h)))⟩
  ·
    refine dl rfl (wn rfl) (O.alloc rfl rfl hF ze31 rfl hS fun b5 a w hF hS => ⟨fun hD => hS.sel [1] rfl rfl, ?_⟩)
    have hD := hS.sel [1] rfl rfl
    refine dl rfl (wn rfl) (O.callM rfl rfl hF (hF.ev rfl) (meth_load F.hb) ent117 (hF.evs rfl) hS (load_calls F asks _ (u 0) _ hNX hH (hS.own1 (.t (.t (.t .h)))) (hQ.down hS (.t (.t (.t .h)))) (hI.down hS (.t (.t (.t .h)))) hla) (fun _ => (.t (.t (.t .h)))) fun v s17 a w hR hF hS => ⟨fun hD => hS.sel [1] rfl rfl, ?_⟩)
    have hD := hS.sel [1] rfl rfl
    obtain ⟨rfl, hH2⟩ := hR
    refine dq hF rfl (wn rfl) rfl rfl (fun w => R.move (hF.ev rfl)) fun a hF => ?_
    refine dq hF rfl (wn rfl) rfl rfl (fun w => R.extract (hF.ev rfl) rfl) fun a hF => ?_
    refine dq hF rfl (wn rfl) rfl rfl (fun w => R.extract (hF.ev rfl) rfl) fun a hF => ?_
    refine dl rfl (wn rfl) (O.storeW sz31 (hF.ev rfl) (hF.ev rfl) (rfl) rfl (by simp [Value.oneCell']) hS .h (rfl) fun w hS => ⟨fun hD => hS.sel [1] rfl rfl, ?_⟩)
    have hD := hS.sel [1] rfl rfl
    refine dq hF rfl (wn rfl) rfl rfl (fun w => R.assign (hF.ev rfl)) fun a hF => ?_
    refine d0 ?_
    refine then_n (hK2 _ _ ?_)
    refine wp_seq_k fun K6 hK6 => ?_
    refine wp_seq_k fun K7 hK7 => ?_
    refine wp_region_lit ?_
    refine sv' hF (wn rfl) rfl rfl (R.move (hF.ev rfl)) fun a hF => ?_
    refine sv' hF (wn rfl) rfl rfl (R.as (u := .bool true) (R.neq (p := (F.rep asks.length).2) (q := 0) (hF.ev rfl) (hF.ev rfl)) (congrArg Value.bool (decide_eq_true he))) fun a hF => ?_
    refine s0 ?_
    refine then_n (hK7 _ _ ?_)
    refine cT hF rfl ?_
    refine wp_seq_k fun K8 hK8 => ?_
    refine wp_region_lit ?_
    refine sv' hF (wn rfl) rfl rfl (R.move (hF.ev rfl)) fun a hF => ?_
    refine sv' hF (wn rfl) rfl rfl (R.assign (hF.ev rfl)) fun a hF => ?_
    refine s0 ?_
    refine then_n (hK8 _ _ ?_)
    refine wp_ret (then_r (hR _ _ _ _ _ hF (run_results Try.results73 (.t hF rfl (.nil))) ?_))
    exact ⟨_, s17, rfl, ⟨rfl, [], s17, rfl, hH2⟩, hS.one (.t (.t (.t .h)))⟩
set_option maxHeartbeats 2000000 in
theorem save_ok (F : Fx) (V : Vr) (stk : List Nat) (asks : List Fw.Ask) (s1 s2 : Seg) (vb : Nat) (u : Nat → Nat) (w0 : World) (hNX : NextOK F) (hRun : RunS F V stk s1) (hH : HostS F asks s2) (ho : Own w0 (s1 ++ s2)) (hv : RdK w0 ((s1 ++ s2).map (·.1)) (some ⟨vb, 0, none⟩) (vc u)) (hvM : ∀ i, u i < 115792089237316195423570985008687907853269984665640564039457584007913129639936) (hQ : RdK w0 ((s1 ++ s2).map (·.1)) F.qA (F.reps.flatMap repc)) (hI : RdK w0 ((s1 ++ s2).map (·.1)) F.iA (byts F.inner)) (hl : stk.length ≤ 64) (hla : asks.length ≤ 20000) (he : (F.rep asks.length).2 = 0) : Ret Try.prog 74 [.pointer (some ⟨F.rb, 0, none⟩), .slice (some ⟨vb, 0, none⟩) 2 3] w0 ((s1 ++ s2).map (·.1)) (fun v s' => DidH F V stk (asks ++ [⟨2, u 0, u 1, 0, 0⟩]) v s') := by
  refine fn_start Try.func74 rfl Try.ntmps74 rfl [(0, .pointer (some ⟨F.rb, 0, none⟩)), (1, .slice (some ⟨vb, 0, none⟩) 2 3)] ⟨rfl, rfl, trivial⟩ ?_
  intro Q a hP hF hR hN
  have hS := St.enter ho
  obtain ⟨A, c, sg, hs, hO⟩ := hRun; have hS := hS.flat (bs' := [[(F.rb, Cel (rcells F (.slice A stk.length c) V) 81)], sg, s2]) (by simp [hs])
  refine wp_seq_k fun K1 hK1 => ?_
  refine wp_region_lit ?_
  refine sv' hF (wn rfl) rfl rfl (R.assign (hF.ev rfl)) fun a hF => ?_
  refine s0 ?_
  refine then_n (hK1 _ _ ?_)
  refine wp_seq_k fun K2 hK2 => ?_
  refine wp_drawG hS (hS.sel [0] rfl rfl) [(0, 0), (1, 0), (2, 0), (3, 1), (4, 0), (5, 0), (6, 1), (7, 0), (8, 0), (9, 1), (10, 0), (11, 0), (12, 2), (13, 0)] mix (by kernel_rfl) (hP.then) fun w hS hD => ?_
  refine dq hF rfl (wn rfl) rfl rfl (fun w => R.move (hF.ev rfl)) fun a hF => ?_
  refine dq hF rfl (wn rfl) rfl rfl (fun w => R.nilCheck (hF.ev rfl)) fun a hF => ?_
  refine dq hF rfl (wn rfl) rfl rfl (fun w => R.fieldAddr (k := 49) Try.underlying81 rfl nz78 (hF.ev rfl) rfl) fun a hF => ?_
  refine dr hF rfl (wn rfl) rfl rfl hD (fun w hD => R.load one78 (hF.ev rfl) hD .h (rfl)) fun a hF => ?_
  refine dq hF rfl (wn rfl) rfl rfl (fun w => R.move (hF.ev rfl)) fun a hF => ?_
  refine dq hF rfl (wn rfl) rfl rfl (fun w => R.indexO Try.underlying32 sz31 (hF.ev rfl) (by simp) (hF.ev rfl) (by omega) (by omega)) fun a hF => ?_
  refine dr hF rfl (wn rfl) rfl rfl hD (fun w hD => R.loadAO (cs := wc (u 0)) agg31 (hF.ev rfl) (hv.old hD) sz31 rfl (Nat.succ_pos _) (v0_at rfl)) fun a hF => ?_
  refine dq hF rfl (wn rfl) rfl rfl (fun w => R.move (hF.ev rfl)) fun a hF => ?_
  refine dq hF rfl (wn rfl) rfl rfl (fun w => R.indexO Try.underlying32 sz31 (hF.ev rfl) (by simp) (hF.ev rfl) (by omega) (by omega)) fun a hF => ?_
  refine dr hF rfl (wn rfl) rfl rfl hD (fun w hD => R.loadAO (cs := wc (u 1)) agg31 (hF.ev rfl) (hv.old hD) sz31 rfl (Nat.succ_pos _) (v1_at rfl)) fun a hF => ?_
  refine dq hF rfl (wn rfl) rfl rfl (fun w => R.nilCheckI (hF.ev rfl)) fun a hF => ?_
  refine dq hF rfl (wn rfl) rfl rfl (fun w => R.move (hF.ev rfl)) fun a hF => ?_
  refine dl rfl (wn rfl) (O.callM rfl rfl hF (hF.ev rfl) (meth_save F.hb) ent118 (hF.evs rfl) hS (save_calls F asks _ (u 0) (u 1) _ hNX hH (hS.own1 (.t (.t .h))) (hQ.down hS (.t (.t .h))) (hI.down hS (.t (.t .h))) hla) (fun _ => (.t (.t .h))) fun v s17 a w hR hF hS => ⟨fun hD => hS.sel [0] rfl rfl, ?_⟩)
  have hD := hS.sel [0] rfl rfl
  obtain ⟨rfl, hH2⟩ := hR
  refine dq hF rfl (wn rfl) rfl rfl (fun w => R.assign (hF.ev rfl)) fun a hF => ?_
  refine d0 ?_
  refine then_n (hK2 _ _ ?_)
  refine wp_ret (hR _ _ _ _ _ hF (run_results Try.results74 (.t hF rfl (.nil))) ?_)
  rw [he]
  exact ⟨_, ((F.rb, Cel (rcells F (.slice A stk.length c) V) 81) :: sg) ++ s17, rfl, ⟨rfl, _, s17, rfl, ⟨A, c, sg, rfl, hO⟩, hH2⟩, (hS.sel [0, 1, 2] rfl rfl).flat (by simp [selS])⟩
set_option maxHeartbeats 2000000 in
theorem save_err (F : Fx) (V : Vr) (stk : List Nat) (asks : List Fw.Ask) (s1 s2 : Seg) (vb : Nat) (u : Nat → Nat) (w0 : World) (hNX : NextOK F) (hRun : RunS F V stk s1) (hH : HostS F asks s2) (ho : Own w0 (s1 ++ s2)) (hv : RdK w0 ((s1 ++ s2).map (·.1)) (some ⟨vb, 0, none⟩) (vc u)) (hvM : ∀ i, u i < 115792089237316195423570985008687907853269984665640564039457584007913129639936) (hQ : RdK w0 ((s1 ++ s2).map (·.1)) F.qA (F.reps.flatMap repc)) (hI : RdK w0 ((s1 ++ s2).map (·.1)) F.iA (byts F.inner)) (hl : stk.length ≤ 64) (hla : asks.length ≤ 20000) (he : ¬ (F.rep asks.length).2 = 0) : Ret Try.prog 74 [.pointer (some ⟨F.rb, 0, none⟩), .slice (some ⟨vb, 0, none⟩) 2 3] w0 ((s1 ++ s2).map (·.1)) (fun v s' => ErrH F (asks ++ [⟨2, u 0, u 1, 0, 0⟩]) (F.rep asks.length).2 v s') := by
  refine fn_start Try.func74 rfl Try.ntmps74 rfl [(0, .pointer (some ⟨F.rb, 0, none⟩)), (1, .slice (some ⟨vb, 0, none⟩) 2 3)] ⟨rfl, rfl, trivial⟩ ?_
  intro Q a hP hF hR hN
  have hS := St.enter ho
  obtain ⟨A, c, sg, hs, hO⟩ := hRun; have hS := hS.flat (bs' := [[(F.rb, Cel (rcells F (.slice A stk.length c) V) 81)], sg, s2]) (by simp [hs])
  refine wp_seq_k fun K1 hK1 => ?_
  refine wp_region_lit ?_
  refine sv' hF (wn rfl) rfl rfl (R.assign (hF.ev rfl)) fun a hF => ?_
  refine s0 ?_
  refine then_n (hK1 _ _ ?_)
  refine wp_seq_k fun K2 hK2 => ?_
  refine wp_drawG hS (hS.sel [0] rfl rfl) [(0, 0), (1, 0), (2, 0), (3, 1), (4, 0), (5, 0), (6, 1), (7, 0), (8, 0), (9, 1), (10, 0), (11, 0), (12, 2), (13, 0)] mix (by kernel_rfl) (hP.then) fun w hS hD => ?_
  refine dq hF rfl (wn rfl) rfl rfl (fun w => R.move (hF.ev rfl)) fun a hF => ?_
  refine dq hF rfl (wn rfl) rfl rfl (fun w => R.nilCheck (hF.ev rfl)) fun a hF => ?_
  refine dq hF rfl (wn rfl) rfl rfl (fun w => R.fieldAddr (k := 49) Try.underlying81 rfl nz78 (hF.ev rfl) rfl) fun a hF => ?_
  refine dr hF rfl (wn rfl) rfl rfl hD (fun w hD => R.load one78 (hF.ev rfl) hD .h (rfl)) fun a hF => ?_
  refine dq hF rfl (wn rfl) rfl rfl (fun w => R.move (hF.ev rfl)) fun a hF => ?_
  refine dq hF rfl (wn rfl) rfl rfl (fun w => R.indexO Try.underlying32 sz31 (hF.ev rfl) (by simp) (hF.ev rfl) (by omega) (by omega)) fun a hF => ?_
  refine dr hF rfl (wn rfl) rfl rfl hD (fun w hD => R.loadAO (cs := wc (u 0)) agg31 (hF.ev rfl) (hv.old hD) sz31 rfl (Nat.succ_pos _) (v0_at rfl)) fun a hF => ?_
  refine dq hF rfl (wn rfl) rfl rfl (fun w => R.move (hF.ev rfl)) fun a hF => ?_
  refine dq hF rfl (wn rfl) rfl rfl (fun w => R.indexO Try.underlying32 sz31 (hF.ev rfl) (by simp) (hF.ev rfl) (by omega) (by omega)) fun a hF => ?_
  refine dr hF rfl (wn rfl) rfl rfl hD (fun w hD => R.loadAO (cs := wc (u 1)) agg31 (hF.ev rfl) (hv.old hD) sz31 rfl (Nat.succ_pos _) (v1_at rfl)) fun a hF => ?_
  refine dq hF rfl (wn rfl) rfl rfl (fun w => R.nilCheckI (hF.ev rfl)) fun a hF => ?_
  refine dq hF rfl (wn rfl) rfl rfl (fun w => R.move (hF.ev rfl)) fun a hF => ?_
  refine dl rfl (wn rfl) (O.callM rfl rfl hF (hF.ev rfl) (meth_save F.hb) ent118 (hF.evs rfl) hS (save_calls F asks _ (u 0) (u 1) _ hNX hH (hS.own1 (.t (.t .h))) (hQ.down hS (.t (.t .h))) (hI.down hS (.t (.t .h))) hla) (fun _ => (.t (.t .h))) fun v s17 a w hR hF hS => ⟨fun hD => hS.sel [0] rfl rfl, ?_⟩)
  have hD := hS.sel [0] rfl rfl
  obtain ⟨rfl, hH2⟩ := hR
  refine dq hF rfl (wn rfl) rfl rfl (fun w => R.assign (hF.ev rfl)) fun a hF => ?_
  refine d0 ?_
  refine then_n (hK2 _ _ ?_)
  refine wp_ret (hR _ _ _ _ _ hF (run_results Try.results74 (.t hF rfl (.nil))) ?_)
  exact ⟨_, s17, rfl, ⟨rfl, [], s17, rfl, hH2⟩, hS.one (.t (.t .h))⟩
set_option maxHeartbeats 2000000 in
theorem have_tok (F : Fx) (V : Vr) (stk : List Nat) (asks : List Fw.Ask) (s1 s2 : Seg) (vb : Nat) (u : Nat → Nat) (w0 : World) (hNX : NextOK F) (hRun : RunS F V stk s1) (hH : HostS F asks s2) (ho : Own w0 (s1 ++ s2)) (hv : RdK w0 ((s1 ++ s2).map (·.1)) (some ⟨vb, 0, none⟩) (vc u)) (hvM : ∀ i, u i < 115792089237316195423570985008687907853269984665640564039457584007913129639936) (hQ : RdK w0 ((s1 ++ s2).map (·.1)) F.qA (F.reps.flatMap repc)) (hI : RdK w0 ((s1 ++ s2).map (·.1)) F.iA (byts F.inner)) (hl : stk.length ≤ 64) (hla : asks.length ≤ 20000) (ht : ¬ u 0 < 64) : Ret Try.prog 75 [.pointer (some ⟨F.rb, 0, none⟩), .slice (some ⟨vb, 0, none⟩) 2 3] w0 ((s1 ++ s2).map (·.1)) (fun v s' => v = .int .i64 104 ∧ s' = s1 ++ s2) := by
  refine fn_start Try.func75 rfl Try.ntmps75 rfl [(0, .pointer (some ⟨F.rb, 0, none⟩)), (1, .slice (some ⟨vb, 0, none⟩) 2 3)] ⟨rfl, rfl, trivial⟩ ?_
  intro Q a hP hF hR hN
  have hS := St.enter ho
  obtain ⟨A, c, sg, hs, hO⟩ := hRun; have hS := hS.flat (bs' := [[(F.rb, Cel (rcells F (.slice A stk.length c) V) 81)], sg, s2]) (by simp [hs])
  refine wp_seq_k fun K1 hK1 => ?_
  refine wp_region_lit ?_
  refine sv' hF (wn rfl) rfl rfl (R.assign (hF.ev rfl)) fun a hF => ?_
  refine s0 ?_
  refine then_n (hK1 _ _ ?_)
  refine wp_seq_k fun K2 hK2 => ?_
  refine wp_region_lit ?_
  refine sv' hF (wn rfl) rfl rfl (R.move (hF.ev rfl)) fun a hF => ?_
  refine sv' hF (wn rfl) rfl rfl (R.indexO Try.underlying32 sz31 (hF.ev rfl) (by simp) (hF.ev rfl) (by omega) (by omega)) fun a hF => ?_
  refine sv' hF (wn rfl) rfl rfl (R.loadAO (cs := wc (u 0)) agg31 (hF.ev rfl) (hv.old hS) sz31 rfl (Nat.succ_pos _) (v0_at rfl)) fun a hF => ?_
  refine so (wn rfl) (O.call rfl rfl hF ent90 (hF.evs rfl) hS (tokenOf_calls (u 0) _ (hvM 0)) fun v s13 a w hR hF hS => ?_)
  obtain ⟨rfl, rfl⟩ := hR
  rw [if_neg ht] at hF
  refine sv' hF (wn rfl) rfl rfl (R.move (hF.ev rfl)) fun a hF => ?_
  refine sv' hF (wn rfl) rfl rfl (R.extract (hF.ev rfl) rfl) fun a hF => ?_
  refine sv' hF (wn rfl) rfl rfl (R.extract (hF.ev rfl) rfl) fun a hF => ?_
  refine sv' hF (wn rfl) rfl rfl (R.assign (hF.ev rfl)) fun a hF => ?_
  refine sv' hF (wn rfl) rfl rfl (R.assign (hF.ev rfl)) fun a hF => ?_
  refine s0 ?_
  refine then_n (hK2 _ _ ?_)
  refine wp_seq_k fun K3 hK3 => ?_
  refine wp_seq_k fun K4 hK4 => ?_
  refine wp_region_lit ?_
  refine sv' hF (wn rfl) rfl rfl (R.move (hF.ev rfl)) fun a hF => ?_
  refine sv' hF (wn rfl) rfl rfl ((by first | exact R.notD (hF.ev rfl) | exact R.not (hF.ev rfl))) fun a hF => ?_
  refine s0 ?_
  refine then_n (hK4 _ _ ?_)
  refine cT hF rfl ?_
  refine wp_seq_k fun K5 hK5 => ?_
  refine wp_region_lit ?_
  refine sv' hF (wn rfl) rfl rfl (R.assign (hF.ev rfl)) fun a hF => ?_
  refine s0 ?_
  refine then_n (hK5 _ _ ?_)
  refine wp_ret (then_r (hR _ _ _ _ _ hF (run_results Try.results75 (.t hF rfl (.nil))) ?_))
  exact ⟨_, s1 ++ s2, rfl, ⟨rfl, rfl⟩, (hS.sel [1, 2, 3] rfl rfl).flat (by simp [hs, selS])⟩
set_option maxHeartbeats 2000000 in
theorem send_tok (F : Fx) (V : Vr) (stk : List Nat) (asks : List Fw.Ask) (s1 s2 : Seg) (vb : Nat) (u : Nat → Nat) (w0 : World) (hNX : NextOK F) (hRun : RunS F V stk s1) (hH : HostS F asks s2) (ho : Own w0 (s1 ++ s2)) (hv : RdK w0 ((s1 ++ s2).map (·.1)) (some ⟨vb, 0, none⟩) (vc u)) (hvM : ∀ i, u i < 115792089237316195423570985008687907853269984665640564039457584007913129639936) (hQ : RdK w0 ((s1 ++ s2).map (·.1)) F.qA (F.reps.flatMap repc)) (hI : RdK w0 ((s1 ++ s2).map (·.1)) F.iA (byts F.inner)) (hl : stk.length ≤ 64) (hla : asks.length ≤ 20000) (ht : ¬ u 0 < 64) : Ret Try.prog 76 [.pointer (some ⟨F.rb, 0, none⟩), .slice (some ⟨vb, 0, none⟩) 3 3] w0 ((s1 ++ s2).map (·.1)) (fun v s' => v = .int .i64 104 ∧ s' = s1 ++ s2) := by
  refine fn_start Try.func76 rfl Try.ntmps76 rfl [(0, .pointer (some ⟨F.rb, 0, none⟩)), (1, .slice (some ⟨vb, 0, none⟩) 3 3)] ⟨rfl, rfl, trivial⟩ ?_
  intro Q a hP hF hR hN
  have hS := St.enter ho
  obtain ⟨A, c, sg, hs, hO⟩ := hRun; have hS := hS.flat (bs' := [[(F.rb, Cel (rcells F (.slice A stk.length c) V) 81)], sg, s2]) (by simp [hs])
  refine wp_seq_k fun K1 hK1 => ?_
  refine wp_region_lit ?_
  refine sv' hF (wn rfl) rfl rfl (R.assign (hF.ev rfl)) fun a hF => ?_
  refine s0 ?_
  refine then_n (hK1 _ _ ?_)
  refine wp_seq_k fun K2 hK2 => ?_
  refine wp_region_lit ?_
  refine sv' hF (wn rfl) rfl rfl (R.move (hF.ev rfl)) fun a hF => ?_
  refine sv' hF (wn rfl) rfl rfl (R.indexO Try.underlying32 sz31 (hF.ev rfl) (by simp) (hF.ev rfl) (by omega) (by omega)) fun a hF => ?_
  refine sv' hF (wn rfl) rfl rfl (R.loadAO (cs := wc (u 0)) agg31 (hF.ev rfl) (hv.old hS) sz31 rfl (Nat.succ_pos _) (v0_at rfl)) fun a hF => ?_
  refine so (wn rfl) (O.call rfl rfl hF ent90 (hF.evs rfl) hS (tokenOf_calls (u 0) _ (hvM 0)) fun v s11 a w hR hF hS => ?_)
  obtain ⟨rfl, rfl⟩ := hR
  rw [if_neg ht] at hF
  refine sv' hF (wn rfl) rfl rfl (R.move (hF.ev rfl)) fun a hF => ?_
  refine sv' hF (wn rfl) rfl rfl (R.extract (hF.ev rfl) rfl) fun a hF => ?_
  refine sv' hF (wn rfl) rfl rfl (R.extract (hF.ev rfl) rfl) fun a hF => ?_
  refine sv' hF (wn rfl) rfl rfl (R.assign (hF.ev rfl)) fun a hF => ?_
  refine sv' hF (wn rfl) rfl rfl (R.assign (hF.ev rfl)) fun a hF => ?_
  refine s0 ?_
  refine then_n (hK2 _ _ ?_)
  refine wp_seq_k fun K3 hK3 => ?_
  refine wp_seq_k fun K4 hK4 => ?_
  refine wp_region_lit ?_
  refine sv' hF (wn rfl) rfl rfl (R.move (hF.ev rfl)) fun a hF => ?_
  refine sv' hF (wn rfl) rfl rfl ((by first | exact R.notD (hF.ev rfl) | exact R.not (hF.ev rfl))) fun a hF => ?_
  refine s0 ?_
  refine then_n (hK4 _ _ ?_)
  refine cT hF rfl ?_
  refine wp_seq_k fun K5 hK5 => ?_
  refine wp_region_lit ?_
  refine sv' hF (wn rfl) rfl rfl (R.assign (hF.ev rfl)) fun a hF => ?_
  refine s0 ?_
  refine then_n (hK5 _ _ ?_)
  refine wp_ret (then_r (hR _ _ _ _ _ hF (run_results Try.results76 (.t hF rfl (.nil))) ?_))
  exact ⟨_, s1 ++ s2, rfl, ⟨rfl, rfl⟩, (hS.sel [1, 2, 3] rfl rfl).flat (by simp [hs, selS])⟩
set_option maxHeartbeats 2000000 in
theorem have_ok (F : Fx) (V : Vr) (stk : List Nat) (asks : List Fw.Ask) (s1 s2 : Seg) (vb : Nat) (u : Nat → Nat) (w0 : World) (hNX : NextOK F) (hRun : RunS F V stk s1) (hH : HostS F asks s2) (ho : Own w0 (s1 ++ s2)) (hv : RdK w0 ((s1 ++ s2).map (·.1)) (some ⟨vb, 0, none⟩) (vc u)) (hvM : ∀ i, u i < 115792089237316195423570985008687907853269984665640564039457584007913129639936) (hQ : RdK w0 ((s1 ++ s2).map (·.1)) F.qA (F.reps.flatMap repc)) (hI : RdK w0 ((s1 ++ s2).map (·.1)) F.iA (byts F.inner)) (hl : stk.length ≤ 64) (hla : asks.length ≤ 20000) (ht : u 0 < 64) (he : (F.rep asks.length).2 = 0) : Ret Try.prog 75 [.pointer (some ⟨F.rb, 0, none⟩), .slice (some ⟨vb, 0, none⟩) 2 3] w0 ((s1 ++ s2).map (·.1)) (fun v s' => DidH F V (stk ++ [(F.rep asks.length).1]) (asks ++ [⟨3, 0, 0, u 0, u 1⟩]) v s') := by
  refine fn_start Try.func75 rfl Try.ntmps75 rfl [(0, .pointer (some ⟨F.rb, 0, none⟩)), (1, .slice (some ⟨vb, 0, none⟩) 2 3)] ⟨rfl, rfl, trivial⟩ ?_
  intro Q a hP hF hR hN
  have hS := St.enter ho
  obtain ⟨A, c, sg, hs, hO⟩ := hRun; have hS := hS.flat (bs' := [[(F.rb, Cel (rcells F (.slice A stk.length c) V) 81)], sg, s2]) (by simp [hs])
  refine wp_seq_k fun K1 hK1 => ?_
  refine wp_region_lit ?_
  refine sv' hF (wn rfl) rfl rfl (R.assign (hF.ev rfl)) fun a hF => ?_
  refine s0 ?_
  refine then_n (hK1 _ _ ?_)
  refine wp_seq_k fun K2 hK2 => ?_
  refine wp_region_lit ?_
  refine sv' hF (wn rfl) rfl rfl (R.move (hF.ev rfl)) fun a hF => ?_
  refine sv' hF (wn rfl) rfl rfl (R.indexO Try.underlying32 sz31 (hF.ev rfl) (by simp) (hF.ev rfl) (by omega) (by omega)) fun a hF => ?_
  refine sv' hF (wn rfl) rfl rfl (R.loadAO (cs := wc (u 0)) agg31 (hF.ev rfl) (hv.old hS) sz31 rfl (Nat.succ_pos _) (v0_at rfl)) fun a hF => ?_
  refine so (wn rfl) (O.call rfl rfl hF ent90 (hF.evs rfl) hS (tokenOf_calls (u 0) _ (hvM 0)) fun v s13 a w hR hF hS => ?_)
  obtain ⟨rfl, rfl⟩ := hR
  rw [if_pos ht] at hF
  refine sv' hF (wn rfl) rfl rfl (R.move (hF.ev rfl)) fun a hF => ?_
  refine sv' hF (wn rfl) rfl rfl (R.extract (hF.ev rfl) rfl) fun a hF => ?_
  refine sv' hF (wn rfl) rfl rfl (R.extract (hF.ev rfl) rfl) fun a hF => ?_
  refine sv' hF (wn rfl) rfl rfl (R.assign (hF.ev rfl)) fun a hF => ?_
  refine sv' hF (wn rfl) rfl rfl (R.assign (hF.ev rfl)) fun a hF => ?_
  refine s0 ?_
  refine then_n (hK2 _ _ ?_)
  refine wp_seq_k fun K3 hK3 => ?_
  refine wp_seq_k fun K4 hK4 => ?_
  refine wp_region_lit ?_
  refine sv' hF (wn rfl) rfl rfl (R.move (hF.ev rfl)) fun a hF => ?_
  refine sv' hF (wn rfl) rfl rfl ((by first | exact R.notD (hF.ev rfl) | exact R.not (hF.ev rfl))) fun a hF => ?_
  refine s0 ?_
  refine then_n (hK4 _ _ ?_)
  refine cF hF rfl ?_
  refine wp_skip ?_
  refine then_n (hK3 _ _ ?_)
  refine wp_seq_k fun K5 hK5 => ?_
  refine wp_drawN hS (hS.sel [1] rfl rfl) [(0, 0), (1, 0), (2, 0), (3, 1), (4, 0), (5, 0), (6, 0), (7, 1), (9, 0), (10, 0), (8, 2), (11, 2), (12, 0), (13, 0), (14, 0), (15, 2), (16, 2), (17, 0)] (.node [(0, 0), (1, 0), (2, 0), (3, 1), (4, 0), (5, 0), (6, 0), (7, 1), (9, 0), (10, 0)] (.node [(8, 2)] (.leaf [(11, 2), (12, 0), (13, 0), (14, 0), (15, 2), (16, 2), (17, 0)]) (.leaf [(15, 2), (11, 2), (12, 0), (13, 0), (14, 0), (16, 2), (17, 0)])) (.leaf [(15, 2), (8, 2), (11, 2), (12, 0), (13, 0), (14, 0), (16, 2), (17, 0)])) mix (by kernel_rfl) (hP.then) fun w hS hD => ?_
  refine dq hF rfl (wn rfl) rfl rfl (fun w => R.move (hF.ev rfl)) fun a hF => ?_
  refine dq hF rfl (wn rfl) rfl rfl (fun w => R.nilCheck (hF.ev rfl)) fun a hF => ?_
  refine dq hF rfl (wn rfl) rfl rfl (fun w => R.fieldAddr (k := 49) Try.underlying81 rfl nz78 (hF.ev rfl) rfl) fun a hF => ?_
  refine dr hF rfl (wn rfl) rfl rfl hD (fun w hD => R.load one78 (hF.ev rfl) hD .h (rfl)) fun a hF => ?_
  refine dq hF rfl (wn rfl) rfl rfl (fun w => R.move (hF.ev rfl)) fun a hF => ?_
  refine dq hF rfl (wn rfl) rfl rfl (fun w => R.move (hF.ev rfl)) fun a hF => ?_
  refine dq hF rfl (wn rfl) rfl rfl (fun w => R.indexO Try.underlying32 sz31 (hF.ev rfl) (by simp) (hF.ev rfl) (by omega) (by omega)) fun a hF => ?_
  refine dr hF rfl (wn rfl) rfl rfl hD (fun w hD => R.loadAO (cs := wc (u 1)) agg31 (hF.ev rfl) (hv.old hD) sz31 rfl (Nat.succ_pos _) (v1_at rfl)) fun a hF => ?_
  refine dq hF rfl (wn rfl) rfl rfl (fun w => R.nilCheckI (hF.ev rfl)) fun a hF => ?_
  refine dq hF rfl (wn rfl) rfl rfl (fun w => R.move (hF.ev rfl)) fun a hF => ?_
  refine d0 ?_
  refine ⟨?_, ?_⟩
  ·
    refine dl rfl (wn rfl) (O.call rfl rfl hF ent91 (hF.evs rfl) hS (address_calls (u 1) _) fun v s27 a w hR hF hS => ⟨fun hD => hS.sel [2] rfl rfl, ?_⟩)
    obtain ⟨rfl, rfl⟩ := hR
    have hD := hS.sel [2] rfl rfl
    refine d0 ?_
    refine ⟨?_, ?_⟩
    ·
      refine dl rfl (wn rfl) (O.callM rfl rfl hF (hF.ev rfl) (meth_have F.hb) ent116 (hF.evs rfl) hS (have_calls F asks _ (u 0) (u 1) _ hNX hH (hS.own1 (.t (.t (.t (.t .h))))) (hQ.down hS (.t (.t (.t (.t .h))))) (hI.down hS (.t (.t (.t (.t .h))))) hla) (fun _ => (.t (.t (.t (.t .h))))) fun v s30 a w hR hF hS => ⟨fun hD => hS.sel [2] rfl rfl, ?_⟩)
      have hD := hS.sel [2] rfl rfl
      obtain ⟨rfl, hH2⟩ := hR
      refine dq hF rfl (wn rfl) rfl rfl (fun w => R.move (hF.ev rfl)) fun a hF => ?_
      refine dq hF rfl (wn rfl) rfl rfl (fun w => R.extract (hF.ev rfl) rfl) fun a hF => ?_
      refine dq hF rfl (wn rfl) rfl rfl (fun w => R.extract (hF.ev rfl) rfl) fun a hF => ?_
      refine dl rfl (wn rfl) (O.alloc rfl rfl hF ze31 rfl hS fun b7 a w hF hS => ⟨fun hD => hS.sel [3] rfl rfl, ?_⟩)
      have hD := hS.sel [3] rfl rfl
      refine dl rfl (wn rfl) (O.storeW sz31 (hF.ev rfl) (hF.ev rfl) (rfl) rfl (by simp [Value.oneCell']) hS .h (rfl) fun w hS => ⟨fun hD => hS.sel [3] rfl rfl, ?_⟩)
      have hD := hS.sel [3] rfl rfl
      refine dq hF rfl (wn rfl) rfl rfl (fun w => R.assign (hF.ev rfl)) fun a hF => ?_
      refine d0 ?_
      refine then_n (hK5 _ _ ?_)
      refine wp_seq_k fun K6 hK6 => ?_
      refine wp_seq_k fun K7 hK7 => ?_
      refine wp_region_lit ?_
      refine sv' hF (wn rfl) rfl rfl (R.move (hF.ev rfl)) fun a hF => ?_
      refine sv' hF (wn rfl) rfl rfl (R.as (u := .bool false) (R.neq (p := (F.rep asks.length).2) (q := 0) (hF.ev rfl) (hF.ev rfl)) (congrArg Value.bool (decide_eq_false (fun h => h he)))) fun a hF => ?_
      refine s0 ?_
      refine then_n (hK7 _ _ ?_)
      refine cF hF rfl ?_
      refine wp_skip ?_
      refine then_n (hK6 _ _ ?_)
      refine wp_seq_k fun K8 hK8 => ?_
      refine wp_region_lit ?_
      refine sv' hF (wn rfl) rfl rfl (R.move (hF.ev rfl)) fun a hF => ?_
      refine sv' hF (wn rfl) rfl rfl (R.loadW agg31 (hF.ev rfl) hS .h sz31 (rfl)) fun a hF => ?_
      have hS := (hS.sel [3, 4, 5] rfl rfl).flat (bs' := [(F.rb, Cel (rcells F (.slice A stk.length c) V) 81) :: sg, s30]) (by simp [selS])
      refine so (wn rfl) (O.callK rfl rfl hF ent79 (hF.evs rfl) hS (on_calls F V stk _ ((F.rep asks.length).1) _ ⟨A, c, sg, rfl, hO⟩ (hS.own1 .h) (hl)) (fun _ => .h) fun v s38 a w hR hF hS => ?_)
      obtain ⟨rfl, hRun2⟩ := hR
      refine sv' hF (wn rfl) rfl rfl (R.assign (hF.ev rfl)) fun a hF => ?_
      refine s0 ?_
      refine then_n (hK8 _ _ ?_)
      refine wp_ret (hR _ _ _ _ _ hF (run_results Try.results75 (.t hF rfl (.nil))) ?_)
      exact ⟨_, s38 ++ s30, rfl, ⟨rfl, s38, s30, rfl, hRun2, hH2⟩, (hS.sel [0, 1] rfl rfl).flat (by simp [selS])⟩
    ·
      refine dl rfl (wn rfl) (O.alloc rfl rfl hF ze31 rfl hS fun b7 a w hF hS => ⟨fun hD => hS.sel [3] rfl rfl, ?_⟩)
      have hD := hS.sel [3] rfl rfl
      refine dl rfl (wn rfl) (O.callM rfl rfl hF (hF.ev rfl) (meth_have F.hb) ent116 (hF.evs rfl) hS (have_calls F asks _ (u 0) (u 1) _ hNX hH (hS.own1 (.t (.t (.t (.t (.t .h)))))) (hQ.down hS (.t (.t (.t (.t (.t .h)))))) (hI.down hS (.t (.t (.t (.t (.t .h)))))) hla) (fun _ => (.t (.t (.t (.t (.t .h)))))) fun v s30 a w hR hF hS => ⟨fun hD => hS.sel [3] rfl rfl, ?_⟩)
      have hD := hS.sel [3] rfl rfl
      obtain ⟨rfl, hH2⟩ := hR
      refine dq hF rfl (wn rfl) rfl rfl (fun w => R.move (hF.ev rfl)) fun a hF => ?_
      refine dq hF rfl (wn rfl) rfl rfl (fun w => R.extract (hF.ev rfl) rfl) fun a hF => ?_
      refine dq hF rfl (wn rfl) rfl rfl (fun w => R.extract (hF.ev rfl) rfl) fun a hF => ?_
      refine dl rfl (wn rfl) (O.storeW sz31 (hF.ev rfl) (hF.ev rfl) (rfl) rfl (by simp [Value.oneCell']) hS .h (rfl) fun w hS => ⟨fun hD => hS.sel [3] rfl rfl, ?_⟩)
      have hD := hS.sel [3] rfl rfl
      refine dq hF rfl (wn rfl) rfl rfl (fun w => R.assign (hF.ev rfl)) fun a hF => ?_
      refine d0 ?_
      refine then_n (hK5 _ _ ?_)
      refine wp_seq_k fun K9 hK9 => ?_
      refine wp_seq_k fun K10 hK10 => ?_
      refine wp_region_lit ?_
      refine sv' hF (wn rfl) rfl rfl (R.move (hF.ev rfl)) fun a hF => ?_
      refine sv' hF (wn rfl) rfl rfl (R.as (u := .bool false) (R.neq (p := (F.rep asks.length).2) (q := 0) (hF.ev rfl) (hF.ev rfl)) (congrArg Value.bool (decide_eq_false (fun h => h he)))) fun a hF => ?_
      refine s0 ?_
      refine then_n (hK10 _ _ ?_)
      refine cF hF rfl ?_
      refine wp_skip ?_
      refine then_n (hK9 _ _ ?_)
      refine wp_seq_k fun K11 hK11 => ?_
      refine wp_region_lit ?_
      refine sv' hF (wn rfl) rfl rfl (R.move (hF.ev rfl)) fun a hF => ?_
      refine sv' hF (wn rfl) rfl rfl (R.loadW agg31 (hF.ev rfl) hS .h sz31 (rfl)) fun a hF => ?_
      have hS := (hS.sel [3, 4, 5] rfl rfl).flat (bs' := [(F.rb, Cel (rcells F (.slice A stk.length c) V) 81) :: sg, s30]) (by simp [selS])
      refine so (wn rfl) (O.callK rfl rfl hF ent79 (hF.evs rfl) hS (on_calls F V stk _ ((F.rep asks.length).1) _ ⟨A, c, sg, rfl, hO⟩ (hS.own1 .h) (hl)) (fun _ => .h) fun v s38 a w hR hF hS => ?_)
      obtain ⟨rfl, hRun2⟩ := hR
      refine sv' hF (wn rfl) rfl rfl (R.assign (hF.ev rfl)) fun a hF => ?_
      refine s0 ?_
      refine then_n (hK11 _ _ ?_)
      refine wp_ret (hR _ _ _ _ _ hF (run_results Try.results75 (.t hF rfl (.nil))) ?_)
      exact ⟨_, s38 ++ s30, rfl, ⟨rfl, s38, s30, rfl, hRun2, hH2⟩, (hS.sel [0, 1] rfl rfl).flat (by simp [selS])⟩
  ·
    refine dl rfl (wn rfl) (O.alloc rfl rfl hF ze31 rfl hS fun b7 a w hF hS => ⟨fun hD => hS.sel [2] rfl rfl, ?_⟩)
    have hD := hS.sel [2] rfl rfl
    refine dl rfl (wn rfl) (O.call rfl rfl hF ent91 (hF.evs rfl) hS (address_calls (u 1) _) fun v s27 a w hR hF hS => ⟨fun hD => hS.sel [3] rfl rfl, ?_⟩)
    obtain ⟨rfl, rfl⟩ := hR
    have hD := hS.sel [3] rfl rfl
    refine dl rfl (wn rfl) (O.callM rfl rfl hF (hF.ev rfl) (meth_have F.hb) ent116 (hF.evs rfl) hS (have_calls F asks _ (u 0) (u 1) _ hNX hH (hS.own1 (.t (.t (.t (.t (.t .h)))))) (hQ.down hS (.t (.t (.t (.t (.t .h)))))) (hI.down hS (.t (.t (.t (.t (.t .h)))))) hla) (fun _ => (.t (.t (.t (.t (.t .h)))))) fun v s30 a w hR hF hS => ⟨fun hD => hS.sel [3] rfl rfl, ?_⟩)
    have hD := hS.sel [3] rfl rfl
    obtain ⟨rfl, hH2⟩ := hR
    refine dq hF rfl (wn rfl) rfl rfl (fun w => R.move (hF.ev rfl)) fun a hF => ?_
    refine dq hF rfl (wn rfl) rfl rfl (fun w => R.extract (hF.ev rfl) rfl) fun a hF => ?_
    refine dq hF rfl (wn rfl) rfl rfl (fun w => R.extract (hF.ev rfl) rfl) fun a hF => ?_
    refine dl rfl (wn rfl) (O.storeW sz31 (hF.ev rfl) (hF.ev rfl) (rfl) rfl (by simp [Value.oneCell']) hS (.t .h) (rfl) fun w hS => ⟨fun hD => hS.sel [3] rfl rfl, ?_⟩)
    have hD := hS.sel [3] rfl rfl
    refine dq hF rfl (wn rfl) rfl rfl (fun w => R.assign (hF.ev rfl)) fun a hF => ?_
    refine d0 ?_
    refine then_n (hK5 _ _ ?_)
    refine wp_seq_k fun K12 hK12 => ?_
    refine wp_seq_k fun K13 hK13 => ?_
    refine wp_region_lit ?_
    refine sv' hF (wn rfl) rfl rfl (R.move (hF.ev rfl)) fun a hF => ?_
    refine sv' hF (wn rfl) rfl rfl (R.as (u := .bool false) (R.neq (p := (F.rep asks.length).2) (q := 0) (hF.ev rfl) (hF.ev rfl)) (congrArg Value.bool (decide_eq_false (fun h => h he)))) fun a hF => ?_
    refine s0 ?_
    refine then_n (hK13 _ _ ?_)
    refine cF hF rfl ?_
    refine wp_skip ?_
    refine then_n (hK12 _ _ ?_)
    refine wp_seq_k fun K14 hK14 => ?_
    refine wp_region_lit ?_
    refine sv' hF (wn rfl) rfl rfl (R.move (hF.ev rfl)) fun a hF => ?_
    refine sv' hF (wn rfl) rfl rfl (R.loadW agg31 (hF.ev rfl) hS (.t .h) sz31 (rfl)) fun a hF => ?_
    have hS := (hS.sel [3, 4, 5] rfl rfl).flat (bs' := [(F.rb, Cel (rcells F (.slice A stk.length c) V) 81) :: sg, s30]) (by simp [selS])
    refine so (wn rfl) (O.callK rfl rfl hF ent79 (hF.evs rfl) hS (on_calls F V stk _ ((F.rep asks.length).1) _ ⟨A, c, sg, rfl, hO⟩ (hS.own1 .h) (hl)) (fun _ => .h) fun v s38 a w hR hF hS => ?_)
    obtain ⟨rfl, hRun2⟩ := hR
    refine sv' hF (wn rfl) rfl rfl (R.assign (hF.ev rfl)) fun a hF => ?_
    refine s0 ?_
    refine then_n (hK14 _ _ ?_)
    refine wp_ret (hR _ _ _ _ _ hF (run_results Try.results75 (.t hF rfl (.nil))) ?_)
    exact ⟨_, s38 ++ s30, rfl, ⟨rfl, s38, s30, rfl, hRun2, hH2⟩, (hS.sel [0, 1] rfl rfl).flat (by simp [selS])⟩
set_option maxHeartbeats 2000000 in
theorem send_ok (F : Fx) (V : Vr) (stk : List Nat) (asks : List Fw.Ask) (s1 s2 : Seg) (vb : Nat) (u : Nat → Nat) (w0 : World) (hNX : NextOK F) (hRun : RunS F V stk s1) (hH : HostS F asks s2) (ho : Own w0 (s1 ++ s2)) (hv : RdK w0 ((s1 ++ s2).map (·.1)) (some ⟨vb, 0, none⟩) (vc u)) (hvM : ∀ i, u i < 115792089237316195423570985008687907853269984665640564039457584007913129639936) (hQ : RdK w0 ((s1 ++ s2).map (·.1)) F.qA (F.reps.flatMap repc)) (hI : RdK w0 ((s1 ++ s2).map (·.1)) F.iA (byts F.inner)) (hl : stk.length ≤ 64) (hla : asks.length ≤ 20000) (ht : u 0 < 64) (he : (F.rep asks.length).2 = 0) : Ret Try.prog 76 [.pointer (some ⟨F.rb, 0, none⟩), .slice (some ⟨vb, 0, none⟩) 3 3] w0 ((s1 ++ s2).map (·.1)) (fun v s' => DidH F V stk (asks ++ [⟨4, u 2, 0, u 0, u 1⟩]) v s') := by
  refine fn_start Try.func76 rfl Try.ntmps76 rfl [(0, .pointer (some ⟨F.rb, 0, none⟩)), (1, .slice (some ⟨vb, 0, none⟩) 3 3)] ⟨rfl, rfl, trivial⟩ ?_
  intro Q a hP hF hR hN
  have hS := St.enter ho
  obtain ⟨A, c, sg, hs, hO⟩ := hRun; have hS := hS.flat (bs' := [[(F.rb, Cel (rcells F (.slice A stk.length c) V) 81)], sg, s2]) (by simp [hs])
  refine wp_seq_k fun K1 hK1 => ?_
  refine wp_region_lit ?_
  refine sv' hF (wn rfl) rfl rfl (R.assign (hF.ev rfl)) fun a hF => ?_
  refine s0 ?_
  refine then_n (hK1 _ _ ?_)
  refine wp_seq_k fun K2 hK2 => ?_
  refine wp_region_lit ?_
  refine sv' hF (wn rfl) rfl rfl (R.move (hF.ev rfl)) fun a hF => ?_
  refine sv' hF (wn rfl) rfl rfl (R.indexO Try.underlying32 sz31 (hF.ev rfl) (by simp) (hF.ev rfl) (by omega) (by omega)) fun a hF => ?_
  refine sv' hF (wn rfl) rfl rfl (R.loadAO (cs := wc (u 0)) agg31 (hF.ev rfl) (hv.old hS) sz31 rfl (Nat.succ_pos _) (v0_at rfl)) fun a hF => ?_
  refine so (wn rfl) (O.call rfl rfl hF ent90 (hF.evs rfl) hS (tokenOf_calls (u 0) _ (hvM 0)) fun v s11 a w hR hF hS => ?_)
  obtain ⟨rfl, rfl⟩ := hR
  rw [if_pos ht] at hF
  refine sv' hF (wn rfl) rfl rfl (R.move (hF.ev rfl)) fun a hF => ?_
  refine sv' hF (wn rfl) rfl rfl (R.extract (hF.ev rfl) rfl) fun a hF => ?_
  refine sv' hF (wn rfl) rfl rfl (R.extract (hF.ev rfl) rfl) fun a hF => ?_
  refine sv' hF (wn rfl) rfl rfl (R.assign (hF.ev rfl)) fun a hF => ?_
  refine sv' hF (wn rfl) rfl rfl (R.assign (hF.ev rfl)) fun a hF => ?_
  refine s0 ?_
  refine then_n (hK2 _ _ ?_)
  refine wp_seq_k fun K3 hK3 => ?_
  refine wp_seq_k fun K4 hK4 => ?_
  refine wp_region_lit ?_
  refine sv' hF (wn rfl) rfl rfl (R.move (hF.ev rfl)) fun a hF => ?_
  refine sv' hF (wn rfl) rfl rfl ((by first | exact R.notD (hF.ev rfl) | exact R.not (hF.ev rfl))) fun a hF => ?_
  refine s0 ?_
  refine then_n (hK4 _ _ ?_)
  refine cF hF rfl ?_
  refine wp_skip ?_
  refine then_n (hK3 _ _ ?_)
  refine wp_seq_k fun K5 hK5 => ?_
  refine wp_drawG hS (hS.sel [1] rfl rfl) [(0, 0), (1, 0), (2, 0), (3, 1), (4, 0), (5, 0), (6, 0), (7, 1), (9, 0), (10, 0), (11, 1), (12, 0), (13, 0), (8, 2), (14, 2), (15, 0)] mix (by kernel_rfl) (hP.then) fun w hS hD => ?_
  refine dq hF rfl (wn rfl) rfl rfl (fun w => R.move (hF.ev rfl)) fun a hF => ?_
  refine dq hF rfl (wn rfl) rfl rfl (fun w => R.nilCheck (hF.ev rfl)) fun a hF => ?_
  refine dq hF rfl (wn rfl) rfl rfl (fun w => R.fieldAddr (k := 49) Try.underlying81 rfl nz78 (hF.ev rfl) rfl) fun a hF => ?_
  refine dr hF rfl (wn rfl) rfl rfl hD (fun w hD => R.load one78 (hF.ev rfl) hD .h (rfl)) fun a hF => ?_
  refine dq hF rfl (wn rfl) rfl rfl (fun w => R.move (hF.ev rfl)) fun a hF => ?_
  refine dq hF rfl (wn rfl) rfl rfl (fun w => R.move (hF.ev rfl)) fun a hF => ?_
  refine dq hF rfl (wn rfl) rfl rfl (fun w => R.indexO Try.underlying32 sz31 (hF.ev rfl) (by simp) (hF.ev rfl) (by omega) (by omega)) fun a hF => ?_
  refine dr hF rfl (wn rfl) rfl rfl hD (fun w hD => R.loadAO (cs := wc (u 1)) agg31 (hF.ev rfl) (hv.old hD) sz31 rfl (Nat.succ_pos _) (v1_at rfl)) fun a hF => ?_
  refine dq hF rfl (wn rfl) rfl rfl (fun w => R.move (hF.ev rfl)) fun a hF => ?_
  refine dq hF rfl (wn rfl) rfl rfl (fun w => R.indexO Try.underlying32 sz31 (hF.ev rfl) (by simp) (hF.ev rfl) (by omega) (by omega)) fun a hF => ?_
  refine dr hF rfl (wn rfl) rfl rfl hD (fun w hD => R.loadAO (cs := wc (u 2)) agg31 (hF.ev rfl) (hv.old hD) sz31 rfl (Nat.succ_pos _) (v2_at rfl)) fun a hF => ?_
  refine dq hF rfl (wn rfl) rfl rfl (fun w => R.nilCheckI (hF.ev rfl)) fun a hF => ?_
  refine dq hF rfl (wn rfl) rfl rfl (fun w => R.move (hF.ev rfl)) fun a hF => ?_
  refine dl rfl (wn rfl) (O.call rfl rfl hF ent91 (hF.evs rfl) hS (address_calls (u 1) _) fun v s24 a w hR hF hS => ⟨fun hD => hS.sel [2] rfl rfl, ?_⟩)
  obtain ⟨rfl, rfl⟩ := hR
  have hD := hS.sel [2] rfl rfl
  refine dl rfl (wn rfl) (O.callM rfl rfl hF (hF.ev rfl) (meth_send F.hb) ent119 (hF.evs rfl) hS (send_calls F asks _ (u 0) (u 1) (u 2) _ hNX hH (hS.own1 (.t (.t (.t (.t .h))))) (hQ.down hS (.t (.t (.t (.t .h))))) (hI.down hS (.t (.t (.t (.t .h))))) hla) (fun _ => (.t (.t (.t (.t .h))))) fun v s30 a w hR hF hS => ⟨fun hD => hS.sel [2] rfl rfl, ?_⟩)
  have hD := hS.sel [2] rfl rfl
  obtain ⟨rfl, hH2⟩ := hR
  refine dq hF rfl (wn rfl) rfl rfl (fun w => R.assign (hF.ev rfl)) fun a hF => ?_
  refine d0 ?_
  refine then_n (hK5 _ _ ?_)
  refine wp_ret (hR _ _ _ _ _ hF (run_results Try.results76 (.t hF rfl (.nil))) ?_)
  rw [he]
  exact ⟨_, ((F.rb, Cel (rcells F (.slice A stk.length c) V) 81) :: sg) ++ s30, rfl, ⟨rfl, _, s30, rfl, ⟨A, c, sg, rfl, hO⟩, hH2⟩, (hS.sel [2, 3, 4] rfl rfl).flat (by simp [selS])⟩
set_option maxHeartbeats 2000000 in
theorem have_err (F : Fx) (V : Vr) (stk : List Nat) (asks : List Fw.Ask) (s1 s2 : Seg) (vb : Nat) (u : Nat → Nat) (w0 : World) (hNX : NextOK F) (hRun : RunS F V stk s1) (hH : HostS F asks s2) (ho : Own w0 (s1 ++ s2)) (hv : RdK w0 ((s1 ++ s2).map (·.1)) (some ⟨vb, 0, none⟩) (vc u)) (hvM : ∀ i, u i < 115792089237316195423570985008687907853269984665640564039457584007913129639936) (hQ : RdK w0 ((s1 ++ s2).map (·.1)) F.qA (F.reps.flatMap repc)) (hI : RdK w0 ((s1 ++ s2).map (·.1)) F.iA (byts F.inner)) (hl : stk.length ≤ 64) (hla : asks.length ≤ 20000) (ht : u 0 < 64) (he : ¬ (F.rep asks.length).2 = 0) : Ret Try.prog 75 [.pointer (some ⟨F.rb, 0, none⟩), .slice (some ⟨vb, 0, none⟩) 2 3] w0 ((s1 ++ s2).map (·.1)) (fun v s' => ErrH F (asks ++ [⟨3, 0, 0, u 0, u 1⟩]) (F.rep asks.length).2 v s') := by
  refine fn_start Try.func75 rfl Try.ntmps75 rfl [(0, .pointer (some ⟨F.rb, 0, none⟩)), (1, .slice (some ⟨vb, 0, none⟩) 2 3)] ⟨rfl, rfl, trivial⟩ ?_
  intro Q a hP hF hR hN
  have hS := St.enter ho
  obtain ⟨A, c, sg, hs, hO⟩ := hRun; have hS := hS.flat (bs' := [[(F.rb, Cel (rcells F (.slice A stk.length c) V) 81)], sg, s2]) (by simp [hs])
  refine wp_seq_k fun K1 hK1 => ?_
  refine wp_region_lit ?_
  refine sv' hF (wn rfl) rfl rfl (R.assign (hF.ev rfl)) fun a hF => ?_
  refine s0 ?_
  refine then_n (hK1 _ _ ?_)
  refine wp_seq_k fun K2 hK2 => ?_
  refine wp_region_lit ?_
  refine sv' hF (wn rfl) rfl rfl (R.move (hF.ev rfl)) fun a hF => ?_
  refine sv' hF (wn rfl) rfl rfl (R.indexO Try.underlying32 sz31 (hF.ev rfl) (by simp) (hF.ev rfl) (by omega) (by omega)) fun a hF => ?_
  refine sv' hF (wn rfl) rfl rfl (R.loadAO (cs := wc (u 0)) agg31 (hF.ev rfl) (hv.old hS) sz31 rfl (Nat.succ_pos _) (v0_at rfl)) fun a hF => ?_
  refine so (wn rfl) (O.call rfl rfl hF ent90 (hF.evs rfl) hS (tokenOf_calls (u 0) _ (hvM 0)) fun v s13 a w hR hF hS => ?_)
  obtain ⟨rfl, rfl⟩ := hR
  rw [if_pos ht] at hF
  refine sv' hF (wn rfl) rfl rfl (R.move (hF.ev rfl)) fun a hF => ?_
  refine sv' hF (wn rfl) rfl rfl (R.extract (hF.ev rfl) rfl) fun a hF => ?_
  refine sv' hF (wn rfl) rfl rfl (R.extract (hF.ev rfl) rfl) fun a hF => ?_
  refine sv' hF (wn rfl) rfl rfl (R.assign (hF.ev rfl)) fun a hF => ?_
  refine sv' hF (wn rfl) rfl rfl (R.assign (hF.ev rfl)) fun a hF => ?_
  refine s0 ?_
  refine then_n (hK2 _ _ ?_)
  refine wp_seq_k fun K3 hK3 => ?_
  refine wp_seq_k fun K4 hK4 => ?_
  refine wp_region_lit ?_
  refine sv' hF (wn rfl) rfl rfl (R.move (hF.ev rfl)) fun a hF => ?_
  refine sv' hF (wn rfl) rfl rfl ((by first | exact R.notD (hF.ev rfl) | exact R.not (hF.ev rfl))) fun a hF => ?_
  refine s0 ?_
  refine then_n (hK4 _ _ ?_)
  refine cF hF rfl ?_
  refine wp_skip ?_
  refine then_n (hK3 _ _ ?_)
  refine wp_seq_k fun K5 hK5 => ?_
  refine wp_drawN hS (hS.sel [1] rfl rfl) [(0, 0), (1, 0), (2, 0), (3, 1), (4, 0), (5, 0), (6, 0), (7, 1), (9, 0), (10, 0), (8, 2), (11, 2), (12, 0), (13, 0), (14, 0), (15, 2), (16, 2), (17, 0)] (.node [(0, 0), (1, 0), (2, 0), (3, 1), (4, 0), (5, 0), (6, 0), (7, 1), (9, 0), (10, 0)] (.node [(8, 2)] (.leaf [(11, 2), (12, 0), (13, 0), (14, 0), (15, 2), (16, 2), (17, 0)]) (.leaf [(15, 2), (11, 2), (12, 0), (13, 0), (14, 0), (16, 2), (17, 0)])) (.leaf [(15, 2), (8, 2), (11, 2), (12, 0), (13, 0), (14, 0), (16, 2), (17, 0)])) mix (by kernel_rfl) (hP.then) fun w hS hD => ?_
  refine dq hF rfl (wn rfl) rfl rfl (fun w => R.move (hF.ev rfl)) fun a hF => ?_
  refine dq hF rfl (wn rfl) rfl rfl (fun w => R.nilCheck (hF.ev rfl)) fun a hF => ?_
  refine dq hF rfl (wn rfl) rfl rfl (fun w => R.fieldAddr (k := 49) Try.underlying81 rfl nz78 (hF.ev rfl) rfl) fun a hF => ?_
  refine dr hF rfl (wn rfl) rfl rfl hD (fun w hD => R.load one78 (hF.ev rfl) hD .h (rfl)) fun a hF => ?_
  refine dq hF rfl (wn rfl) rfl rfl (fun w => R.move (hF.ev rfl)) fun a hF => ?_
  refine dq hF rfl (wn rfl) rfl rfl (fun w => R.move (hF.ev rfl)) fun a hF => ?_
  refine dq hF rfl (wn rfl) rfl rfl (fun w => R.indexO Try.underlying32 sz31 (hF.ev rfl) (by simp) (hF.ev rfl) (by omega) (by omega)) fun a hF => ?_
  refine dr hF rfl (wn rfl) rfl rfl hD (fun w hD => R.loadAO (cs := wc (u 1)) agg31 (hF.ev rfl) (hv.old hD) sz31 rfl (Nat.succ_pos _) (v1_at rfl)) fun a hF => ?_
  refine dq hF rfl (wn rfl) rfl rfl (fun w => R.nilCheckI (hF.ev rfl)) fun a hF => ?_
  refine dq hF rfl (wn rfl) rfl rfl (fun w => R.move (hF.ev rfl)) fun a hF => ?_
  refine d0 ?_
  refine ⟨?_, ?_⟩
  ·
    refine dl rfl (wn rfl) (O.call rfl rfl hF ent91 (hF.evs rfl) hS (address_calls (u 1) _) fun v s27 a w hR hF hS => ⟨fun hD => hS.sel [2] rfl rfl, ?_⟩)
    obtain ⟨rfl, rfl⟩ := hR
    have hD := hS.sel [2] rfl rfl
    refine d0 ?_
    refine ⟨?_, ?_⟩
    ·
      refine dl rfl (wn rfl) (O.callM rfl rfl hF (hF.ev rfl) (meth_have F.hb) ent116 (hF.evs rfl) hS (have_calls F asks _ (u 0) (u 1) _ hNX hH (hS.own1 (.t (.t (.t (.t .h))))) (hQ.down hS (.t (.t (.t (.t .h))))) (hI.down hS (.t (.t (.t (.t .h))))) hla) (fun _ => (.t (.t (.t (.t .h))))) fun v s30 a w hR hF hS => ⟨fun hD => hS.sel [2] rfl rfl, ?_⟩)
      have hD := hS.sel [2] rfl rfl
      obtain ⟨rfl, hH2⟩ := hR
      refine dq hF rfl (wn rfl) rfl rfl (fun w => R.move (hF.ev rfl)) fun a hF => ?_
      refine dq hF rfl (wn rfl) rfl rfl (fun w => R.extract (hF.ev rfl) rfl) fun a hF => ?_
      refine dq hF rfl (wn rfl) rfl rfl (fun w => R.extract (hF.ev rfl) rfl) fun a hF => ?_
      refine dl rfl (wn rfl) (O.alloc rfl rfl hF ze31 rfl hS fun b7 a w hF hS => ⟨fun hD => hS.sel [3] rfl rfl, ?_⟩)
      have hD := hS.sel [3] rfl rfl
      refine dl rfl (wn rfl) (O.storeW sz31 (hF.ev rfl) (hF.ev rfl) (rfl) rfl (by simp [Value.oneCell']) hS .h (rfl) fun w hS => ⟨fun hD => hS.sel [3] rfl rfl, ?_⟩)
      have hD := hS.sel [3] rfl rfl
      refine dq hF rfl (wn rfl) rfl rfl (fun w => R.assign (hF.ev rfl)) fun a hF => ?_
      refine d0 ?_
      refine then_n (hK5 _ _ ?_)
      refine wp_seq_k fun K6 hK6 => ?_
      refine wp_seq_k fun K7 hK7 => ?_
      refine wp_region_lit ?_
      refine sv' hF (wn rfl) rfl rfl (R.move (hF.ev rfl)) fun a hF => ?_
      refine sv' hF (wn rfl) rfl rfl (R.as (u := .bool true) (R.neq (p := (F.rep asks.length).2) (q := 0) (hF.ev rfl) (hF.ev rfl)) (congrArg Value.bool (decide_eq_true he))) fun a hF => ?_
      refine s0 ?_
      refine then_n (hK7 _ _ ?_)
      refine cT hF rfl ?_
      refine wp_seq_k fun K8 hK8 => ?_
      refine wp_region_lit ?_
      refine sv' hF (wn rfl) rfl rfl (R.move (hF.ev rfl)) fun a hF => ?_
      refine sv' hF (wn rfl) rfl rfl (R.assign (hF.ev rfl)) fun a hF => ?_
      refine s0 ?_
      refine then_n (hK8 _ _ ?_)
      refine wp_ret (then_r (hR _ _ _ _ _ hF (run_results Try.results75 (.t hF rfl (.nil))) ?_))
      exact ⟨_, s30, rfl, ⟨rfl, [], s30, rfl, hH2⟩, hS.one (.t (.t (.t (.t (.t .h)))))⟩
    ·
      refine dl rfl (wn rfl) (O.alloc rfl rfl hF ze31 rfl hS fun b7 a w hF hS => ⟨fun hD => hS.sel [3] rfl rfl, ?_⟩)
      have hD := hS.sel [3] rfl rfl
      refine dl rfl (wn rfl) (O.callM rfl rfl hF (hF.ev rfl) (meth_have F.hb) ent116 (hF.evs rfl) hS (have_calls F asks _ (u 0) (u 1) _ hNX hH (hS.own1 (.t (.t (.t (.t (.t .h)))))) (hQ.down hS (.t (.t (.t (.t (.t .h)))))) (hI.down hS (.t (.t (.t (.t (.t .h)))))) hla) (fun _ => (.t (.t (.t (.t (.t .h)))))) fun v s30 a w hR hF hS => ⟨fun hD => hS.sel [3] rfl rfl, ?_⟩)
      have hD := hS.sel [3] rfl rfl
      obtain ⟨rfl, hH2⟩ := hR
      refine dq hF rfl (wn rfl) rfl rfl (fun w => R.move (hF.ev rfl)) fun a hF => ?_
      refine dq hF rfl (wn rfl) rfl rfl (fun w => R.extract (hF.ev rfl) rfl) fun a hF => ?_
      refine dq hF rfl (wn rfl) rfl rfl (fun w => R.extract (hF.ev rfl) rfl) fun a hF => ?_
      refine dl rfl (wn rfl) (O.storeW sz31 (hF.ev rfl) (hF.ev rfl) (rfl) rfl (by simp [Value.oneCell']) hS .h (rfl) fun w hS => ⟨fun hD => hS.sel [3] rfl rfl, ?_⟩)
      have hD := hS.sel [3] rfl rfl
      refine dq hF rfl (wn rfl) rfl rfl (fun w => R.assign (hF.ev rfl)) fun a hF => ?_
      refine d0 ?_
      refine then_n (hK5 _ _ ?_)
      refine wp_seq_k fun K9 hK9 => ?_
      refine wp_seq_k fun K10 hK10 => ?_
      refine wp_region_lit ?_
      refine sv' hF (wn rfl) rfl rfl (R.move (hF.ev rfl)) fun a hF => ?_
      refine sv' hF (wn rfl) rfl rfl (R.as (u := .bool true) (R.neq (p := (F.rep asks.length).2) (q := 0) (hF.ev rfl) (hF.ev rfl)) (congrArg Value.bool (decide_eq_true he))) fun a hF => ?_
      refine s0 ?_
      refine then_n (hK10 _ _ ?_)
      refine cT hF rfl ?_
      refine wp_seq_k fun K11 hK11 => ?_
      refine wp_region_lit ?_
      refine sv' hF (wn rfl) rfl rfl (R.move (hF.ev rfl)) fun a hF => ?_
      refine sv' hF (wn rfl) rfl rfl (R.assign (hF.ev rfl)) fun a hF => ?_
      refine s0 ?_
      refine then_n (hK11 _ _ ?_)
      refine wp_ret (then_r (hR _ _ _ _ _ hF (run_results Try.results75 (.t hF rfl (.nil))) ?_))
      exact ⟨_, s30, rfl, ⟨rfl, [], s30, rfl, hH2⟩, hS.one (.t (.t (.t (.t (.t .h)))))⟩
  ·
    refine dl rfl (wn rfl) (O.alloc rfl rfl hF ze31 rfl hS fun b7 a w hF hS => ⟨fun hD => hS.sel [2] rfl rfl, ?_⟩)
    have hD := hS.sel [2] rfl rfl
    refine dl rfl (wn rfl) (O.call rfl rfl hF ent91 (hF.evs rfl) hS (address_calls (u 1) _) fun v s27 a w hR hF hS => ⟨fun hD => hS.sel [3] rfl rfl, ?_⟩)
    obtain ⟨rfl, rfl⟩ := hR
    have hD := hS.sel [3] rfl rfl
    refine dl rfl (wn rfl) (O.callM rfl rfl hF (hF.ev rfl) (meth_have F.hb) ent116 (hF.evs rfl) hS (have_calls F asks _ (u 0) (u 1) _ hNX hH (hS.own1 (.t (.t (.t (.t (.t .h)))))) (hQ.down hS (.t (.t (.t (.t (.t .h)))))) (hI.down hS (.t (.t (.t (.t (.t .h)))))) hla) (fun _ => (.t (.t (.t (.t (.t .h)))))) fun v s30 a w hR hF hS => ⟨fun hD => hS.sel [3] rfl rfl, ?_⟩)
    have hD := hS.sel [3] rfl rfl
    obtain ⟨rfl, hH2⟩ := hR
    refine dq hF rfl (wn rfl) rfl rfl (fun w => R.move (hF.ev rfl)) fun a hF => ?_
    refine dq hF rfl (wn rfl) rfl rfl (fun w => R.extract (hF.ev rfl) rfl) fun a hF => ?_
    refine dq hF rfl (wn rfl) rfl rfl (fun w => R.extract (hF.ev rfl) rfl) fun a hF => ?_
    refine dl rfl (wn rfl) (O.storeW sz31 (hF.ev rfl) (hF.ev rfl) (rfl) rfl (by simp [Value.oneCell']) hS (.t .h) (rfl) fun w hS => ⟨fun hD => hS.sel [3] rfl rfl, ?_⟩)
    have hD := hS.sel [3] rfl rfl
    refine dq hF rfl (wn rfl) rfl rfl (fun w => R.assign (hF.ev rfl)) fun a hF => ?_
    refine d0 ?_
    refine then_n (hK5 _ _ ?_)
    refine wp_seq_k fun K12 hK12 => ?_
    refine wp_seq_k fun K13 hK13 => ?_
    refine wp_region_lit ?_
    refine sv' hF (wn rfl) rfl rfl (R.move (hF.ev rfl)) fun a hF => ?_
    refine sv' hF (wn rfl) rfl rfl (R.as (u := .bool true) (R.neq (p := (F.rep asks.length).2) (q := 0) (hF.ev rfl) (hF.ev rfl)) (congrArg Value.bool (decide_eq_true he))) fun a hF => ?_
    refine s0 ?_
    refine then_n (hK13 _ _ ?_)
    refine cT hF rfl ?_
    refine wp_seq_k fun K14 hK14 => ?_
    refine wp_region_lit ?_
    refine sv' hF (wn rfl) rfl rfl (R.move (hF.ev rfl)) fun a hF => ?_
    refine sv' hF (wn rfl) rfl rfl (R.assign (hF.ev rfl)) fun a hF => ?_
    refine s0 ?_
    refine then_n (hK14 _ _ ?_)
    refine wp_ret (then_r (hR _ _ _ _ _ hF (run_results Try.results75 (.t hF rfl (.nil))) ?_))
    exact ⟨_, s30, rfl, ⟨rfl, [], s30, rfl, hH2⟩, hS.one (.t (.t (.t (.t (.t .h)))))⟩
set_option maxHeartbeats 2000000 in
theorem send_err (F : Fx) (V : Vr) (stk : List Nat) (asks : List Fw.Ask) (s1 s2 : Seg) (vb : Nat) (u : Nat → Nat) (w0 : World) (hNX : NextOK F) (hRun : RunS F V stk s1) (hH : HostS F asks s2) (ho : Own w0 (s1 ++ s2)) (hv : RdK w0 ((s1 ++ s2).map (·.1)) (some ⟨vb, 0, none⟩) (vc u)) (hvM : ∀ i, u i < 115792089237316195423570985008687907853269984665640564039457584007913129639936) (hQ : RdK w0 ((s1 ++ s2).map (·.1)) F.qA (F.reps.flatMap repc)) (hI : RdK w0 ((s1 ++ s2).map (·.1)) F.iA (byts F.inner)) (hl : stk.length ≤ 64) (hla : asks.length ≤ 20000) (ht : u 0 < 64) (he : ¬ (F.rep asks.length).2 = 0) : Ret Try.prog 76 [.pointer (some ⟨F.rb, 0, none⟩), .slice (some ⟨vb, 0, none⟩) 3 3] w0 ((s1 ++ s2).map (·.1)) (fun v s' => ErrH F (asks ++ [⟨4, u 2, 0, u 0, u 1⟩]) (F.rep asks.length).2 v s') := by
  refine fn_start Try.func76 rfl Try.ntmps76 rfl [(0, .pointer (some ⟨F.rb, 0, none⟩)), (1, .slice (some ⟨vb, 0, none⟩) 3 3)] ⟨rfl, rfl, trivial⟩ ?_
  intro Q a hP hF hR hN
  have hS := St.enter ho
  obtain ⟨A, c, sg, hs, hO⟩ := hRun; have hS := hS.flat (bs' := [[(F.rb, Cel (rcells F (.slice A stk.length c) V) 81)], sg, s2]) (by simp [hs])
  refine wp_seq_k fun K1 hK1 => ?_
  refine wp_region_lit ?_
  refine sv' hF (wn rfl) rfl rfl (R.assign (hF.ev rfl)) fun a hF => ?_
  refine s0 ?_
  refine then_n (hK1 _ _ ?_)
  refine wp_seq_k fun K2 hK2 => ?_
  refine wp_region_lit ?_
  refine sv' hF (wn rfl) rfl rfl (R.move (hF.ev rfl)) fun a hF => ?_
  refine sv' hF (wn rfl) rfl rfl (R.indexO Try.underlying32 sz31 (hF.ev rfl) (by simp) (hF.ev rfl) (by omega) (by omega)) fun a hF => ?_
  refine sv' hF (wn rfl) rfl rfl (R.loadAO (cs := wc (u 0)) agg31 (hF.ev rfl) (hv.old hS) sz31 rfl (Nat.succ_pos _) (v0_at rfl)) fun a hF => ?_
  refine so (wn rfl) (O.call rfl rfl hF ent90 (hF.evs rfl) hS (tokenOf_calls (u 0) _ (hvM 0)) fun v s11 a w hR hF hS => ?_)
  obtain ⟨rfl, rfl⟩ := hR
  rw [if_pos ht] at hF
  refine sv' hF (wn rfl) rfl rfl (R.move (hF.ev rfl)) fun a hF => ?_
  refine sv' hF (wn rfl) rfl rfl (R.extract (hF.ev rfl) rfl) fun a hF => ?_
  refine sv' hF (wn rfl) rfl rfl (R.extract (hF.ev rfl) rfl) fun a hF => ?_
  refine sv' hF (wn rfl) rfl rfl (R.assign (hF.ev rfl)) fun a hF => ?_
  refine sv' hF (wn rfl) rfl rfl (R.assign (hF.ev rfl)) fun a hF => ?_
  refine s0 ?_
  refine then_n (hK2 _ _ ?_)
  refine wp_seq_k fun K3 hK3 => ?_
  refine wp_seq_k fun K4 hK4 => ?_
  refine wp_region_lit ?_
  refine sv' hF (wn rfl) rfl rfl (R.move (hF.ev rfl)) fun a hF => ?_
  refine sv' hF (wn rfl) rfl rfl ((by first | exact R.notD (hF.ev rfl) | exact R.not (hF.ev rfl))) fun a hF => ?_
  refine s0 ?_
  refine then_n (hK4 _ _ ?_)
  refine cF hF rfl ?_
  refine wp_skip ?_
  refine then_n (hK3 _ _ ?_)
  refine wp_seq_k fun K5 hK5 => ?_
  refine wp_drawG hS (hS.sel [1] rfl rfl) [(0, 0), (1, 0), (2, 0), (3, 1), (4, 0), (5, 0), (6, 0), (7, 1), (9, 0), (10, 0), (11, 1), (12, 0), (13, 0), (8, 2), (14, 2), (15, 0)] mix (by kernel_rfl) (hP.then) fun w hS hD => ?_
  refine dq hF rfl (wn rfl) rfl rfl (fun w => R.move (hF.ev rfl)) fun a hF => ?_
  refine dq hF rfl (wn rfl) rfl rfl (fun w => R.nilCheck (hF.ev rfl)) fun a hF => ?_
  refine dq hF rfl (wn rfl) rfl rfl (fun w => R.fieldAddr (k := 49) Try.underlying81 rfl nz78 (hF.ev rfl) rfl) fun a hF => ?_
  refine dr hF rfl (wn rfl) rfl rfl hD (fun w hD => R.load one78 (hF.ev rfl) hD .h (rfl)) fun a hF => ?_
  refine dq hF rfl (wn rfl) rfl rfl (fun w => R.move (hF.ev rfl)) fun a hF => ?_
  refine dq hF rfl (wn rfl) rfl rfl (fun w => R.move (hF.ev rfl)) fun a hF => ?_
  refine dq hF rfl (wn rfl) rfl rfl (fun w => R.indexO Try.underlying32 sz31 (hF.ev rfl) (by simp) (hF.ev rfl) (by omega) (by omega)) fun a hF => ?_
  refine dr hF rfl (wn rfl) rfl rfl hD (fun w hD => R.loadAO (cs := wc (u 1)) agg31 (hF.ev rfl) (hv.old hD) sz31 rfl (Nat.succ_pos _) (v1_at rfl)) fun a hF => ?_
  refine dq hF rfl (wn rfl) rfl rfl (fun w => R.move (hF.ev rfl)) fun a hF => ?_
  refine dq hF rfl (wn rfl) rfl rfl (fun w => R.indexO Try.underlying32 sz31 (hF.ev rfl) (by simp) (hF.ev rfl) (by omega) (by omega)) fun a hF => ?_
  refine dr hF rfl (wn rfl) rfl rfl hD (fun w hD => R.loadAO (cs := wc (u 2)) agg31 (hF.ev rfl) (hv.old hD) sz31 rfl (Nat.succ_pos _) (v2_at rfl)) fun a hF => ?_
  refine dq hF rfl (wn rfl) rfl rfl (fun w => R.nilCheckI (hF.ev rfl)) fun a hF => ?_
  refine dq hF rfl (wn rfl) rfl rfl (fun w => R.move (hF.ev rfl)) fun a hF => ?_
  refine dl rfl (wn rfl) (O.call rfl rfl hF ent91 (hF.evs rfl) hS (address_calls (u 1) _) fun v s24 a w hR hF hS => ⟨fun hD => hS.sel [2] rfl rfl, ?_⟩)
  obtain ⟨rfl, rfl⟩ := hR
  have hD := hS.sel [2] rfl rfl
  refine dl rfl (wn rfl) (O.callM rfl rfl hF (hF.ev rfl) (meth_send F.hb) ent119 (hF.evs rfl) hS (send_calls F asks _ (u 0) (u 1) (u 2) _ hNX hH (hS.own1 (.t (.t (.t (.t .h))))) (hQ.down hS (.t (.t (.t (.t .h))))) (hI.down hS (.t (.t (.t (.t .h))))) hla) (fun _ => (.t (.t (.t (.t .h))))) fun v s30 a w hR hF hS => ⟨fun hD => hS.sel [2] rfl rfl, ?_⟩)
  have hD := hS.sel [2] rfl rfl
  obtain ⟨rfl, hH2⟩ := hR
  refine dq hF rfl (wn rfl) rfl rfl (fun w => R.assign (hF.ev rfl)) fun a hF => ?_
  refine d0 ?_
  refine then_n (hK5 _ _ ?_)
  refine wp_ret (hR _ _ _ _ _ hF (run_results Try.results76 (.t hF rfl (.nil))) ?_)
  exact ⟨_, s30, rfl, ⟨rfl, [], s30, rfl, hH2⟩, hS.one (.t (.t (.t (.t .h))))⟩
end Go.Proofs.Ytlapmbkfmbkdoaa
end
section
namespace Go.Proofs.Ytlapmbkfmbkdoaa
open Go Go.Fw Go.RowKit
theorem RdK.left {w : World} {s1 s2 : Seg} {A : Option Addr} {cs : List Value} (h : RdK w ((s1 ++ s2).map (·.1)) A cs) : RdK w (s1.map (·.1)) A cs :=
  ⟨h.1, fun a ha hne hm => h.2 a ha hne (by rw [List.map_append]; exact List.mem_append_left _ hm)⟩
theorem Own.left {w : World} {s1 s2 : Seg} (h : Own w (s1 ++ s2)) : Own w s1 :=
  ⟨fun p hp => h.1 p (List.mem_append_left _ hp), by have := h.2; rw [List.map_append] at this; exact (List.nodup_append.1 this).1⟩
def Did (F : Fx) (V : Vr) (o : Out) (x : Value) (s' : Seg) : Prop := match o with
  | .more stk left p asks => x = .int .i64 0 ∧ left = V.left ∧ ∃ s1 s2, s' = s1 ++ s2 ∧ RunS F { V with next := p } stk s1 ∧ HostS F asks s2
  | .fin val left asks => x = .int .i64 0 ∧ left = V.left ∧ ∃ stk s1 s2, s' = s1 ++ s2 ∧ RunS F { V with ended := true, value := val } stk s1 ∧ HostS F asks s2
  | .err e asks => x = .int .i64 e ∧ e ≠ 0 ∧ ∃ s1 s2, s' = s1 ++ s2 ∧ HostS F asks s2
section
variable {F : Fx} {V : Vr} {stk stk' : List Nat} {asks : List Fw.Ask} {s1 s2 : Seg} {vb k : Nat} {u : Nat → Nat} {w0 : World} {vs : List Value} {val : Nat}
theorem did_more {V' : Vr} (ho : Own w0 (s1 ++ s2)) (hH : HostS F asks s2) (h : Ret Try.prog k vs w0 (s1.map (·.1)) (fun v s' => v = .int .i64 0 ∧ RunS F V' stk' s')) {p : Nat} (hV : { V with next := p } = V') :
    Ret Try.prog k vs w0 ((s1 ++ s2).map (·.1)) (Did F V (.more stk' V.left p asks)) := by
  subst hV
  exact (Ret.frame ho h).mono fun v s ⟨s1', ⟨h1, h2⟩, h3⟩ => ⟨h1, rfl, s1', s2, h3, h2, hH⟩
theorem did_err {e : Int} (he : e ≠ 0) (ho : Own w0 (s1 ++ s2)) (hH : HostS F asks s2) (h : Ret Try.prog k vs w0 (s1.map (·.1)) (fun v s' => v = .int .i64 e ∧ s' = s1)) :
    Ret Try.prog k vs w0 ((s1 ++ s2).map (·.1)) (Did F V (.err e asks)) :=
  (Ret.frame ho h).mono fun v s ⟨s1', ⟨h1, h2⟩, h3⟩ => ⟨h1, he, s1', s2, h3, hH⟩
theorem did_stay (ho : Own w0 (s1 ++ s2)) (hRun : RunS F V stk s1) (hH : HostS F asks s2) (h : Ret Try.prog k vs w0 (s1.map (·.1)) (fun v s' => v = .int .i64 0 ∧ s' = s1)) :
    Ret Try.prog k vs w0 ((s1 ++ s2).map (·.1)) (Did F V (.more stk V.left V.next asks)) :=
  (Ret.frame ho h).mono fun v s ⟨s1', ⟨h1, h2⟩, h3⟩ => ⟨h1, rfl, s1', s2, h3, by subst h2; exact hRun, hH⟩
theorem did_H {p : Nat} (hV : V.next = p) (h : Ret Try.prog k vs w0 ((s1 ++ s2).map (·.1)) (DidH F V stk' asks)) : Ret Try.prog k vs w0 ((s1 ++ s2).map (·.1)) (Did F V (.more stk' V.left p asks)) :=
  h.mono fun v s ⟨h1, a, b, h2, h3, h4⟩ => ⟨h1, rfl, a, b, h2, by subst hV; exact h3, h4⟩
theorem did_E {e : Int} (he : e ≠ 0) (h : Ret Try.prog k vs w0 ((s1 ++ s2).map (·.1)) (ErrH F asks e)) : Ret Try.prog k vs w0 ((s1 ++ s2).map (·.1)) (Did F V (.err e asks)) :=
  h.mono fun v s ⟨h1, a, b, h2, h3⟩ => ⟨h1, he, a, b, h2, h3⟩
end
theorem op_does (c : Nat) (F : Fx) (V : Vr) (stk : List Nat) (asks : List Fw.Ask) (s1 s2 : Seg) (vb : Nat) (u : Nat → Nat) (w0 : World)
    (hNX : NextOK F) (hK : F.Ok) (hc : cAt F.code V.p = c) (h28 : c < 28) (hp : V.p < F.code.length) (hs : sizeN F.code V.p ≠ 0) (hn : V.next = V.p + sizeN F.code V.p) (hq : V.left ≤ 10000)
    (hb : c = 4 ∨ c = 5 → cAt F.code (V.p + 1) < stk.length)
    (hRun : RunS F V stk s1) (hH : HostS F asks s2) (ho : Own w0 (s1 ++ s2)) (hv : RdK w0 ((s1 ++ s2).map (·.1)) (some ⟨vb, 0, none⟩) (vc u)) (hvM : ∀ i, u i < 115792089237316195423570985008687907853269984665640564039457584007913129639936)
    (hD : F.Rds w0 ((s1 ++ s2).map (·.1))) (hl : stk.length ≤ 64) (hla : asks.length ≤ 20000) :
    Ret Try.prog (49 + c) [.pointer (some ⟨F.rb, 0, none⟩), .slice (some ⟨vb, 0, none⟩) (takesN c) 3] w0 ((s1 ++ s2).map (·.1)) (Did F V (doN F.cl F.code F.rep c (cAt F.code (V.p + 1)) V.p V.left stk u asks)) := by
  have ho1 := Own.left ho
  have hC := RdK.left hD.code
  have hA := RdK.left hD.args
  have hv1 := RdK.left hv
  have hsz := (sizeN_le F.code V.p).resolve_left hs
  have e1 : V.p + sizeN F.code V.p = V.next := hn.symm
  have hV : { V with next := V.p + sizeN F.code V.p } = V := by rw [e1]
  have op2 : cAt F.code V.p = 4 ∨ cAt F.code V.p = 5 ∨ cAt F.code V.p = 16 → V.p + 1 < F.code.length := fun h => by
    have : sizeN F.code V.p = 2 := by
      revert hs; unfold sizeN
      repeat' split
      all_goals omega
    omega
  have op3 : cAt F.code V.p = 14 ∨ cAt F.code V.p = 15 → V.p + 3 ≤ F.code.length := fun h => jump_size hp hs (isJump_of h)
  have hcases : c = 0 ∨ c = 1 ∨ c = 2 ∨ c = 3 ∨ c = 4 ∨ c = 5 ∨ c = 6 ∨ c = 7 ∨ c = 8 ∨ c = 9 ∨ c = 10 ∨ c = 11 ∨ c = 12 ∨ c = 13 ∨ c = 14 ∨ c = 15 ∨ c = 16 ∨ c = 17 ∨ c = 18 ∨ c = 19 ∨ c = 20 ∨ c = 21 ∨ c = 22 ∨ c = 23 ∨ c = 24 ∨ c = 25 ∨ c = 26 ∨ c = 27 := by omega
  rcases hcases with rfl | rfl | rfl | rfl | rfl | rfl | rfl | rfl | rfl | rfl | rfl | rfl | rfl | rfl | rfl | rfl | rfl | rfl | rfl | rfl | rfl | rfl | rfl | rfl | rfl | rfl | rfl | rfl
  · exact did_err (by decide) ho hH (stop_op s1 _ F.rb w0 ho1)
  · exact (Ret.frame ho (done_op F V stk s1 vb u w0 hRun ho1 hv1 hvM hl)).mono fun v s ⟨s1', ⟨h1, h2⟩, h3⟩ => ⟨h1, rfl, stk, s1', s2, h3, h2, hH⟩
  · have h2 : sizeN F.code V.p = 2 + cAt F.code (V.p + 1) ∧ 1 ≤ cAt F.code (V.p + 1) ∧ cAt F.code (V.p + 1) ≤ 32 := by
      revert hs; unfold sizeN
      repeat' split
      all_goals omega
    have := push_op F V stk s1 (.slice (some ⟨vb, 0, none⟩) 0 3) (sizeN F.code V.p - 2) w0 hRun ho1 hK hC hl (by omega) (by omega) (by omega)
    exact did_more ho hH this hV
  · rw [show doN F.cl F.code F.rep 3 (cAt F.code (V.p + 1)) V.p V.left stk u asks = .more stk V.left (V.p + sizeN F.code V.p) asks from rfl, e1]
    exact did_stay ho hRun hH (pop_op s1 _ F.rb w0 ho1)
  · exact did_more ho hH (dup_op F V stk s1 (.slice (some ⟨vb, 0, none⟩) 0 3) w0 hRun ho1 hK hC hl (op2 (by omega)) (hb (by omega))) hV
  · exact did_more ho hH (swap_op F V stk s1 (.slice (some ⟨vb, 0, none⟩) 0 3) w0 hRun ho1 hK hC hl (op2 (by omega)) (hb (by omega))) hV
  · rw [show doN F.cl F.code F.rep 6 (cAt F.code (V.p + 1)) V.p V.left stk u asks = (match arithN 6 (u 0) (u 1) with | none => .err 104 asks | some r => .more (stk ++ [r]) V.left (V.p + sizeN F.code V.p) asks) from rfl]
    by_cases h : u 0 + u 1 < 115792089237316195423570985008687907853269984665640564039457584007913129639936
    · rw [show arithN 6 (u 0) (u 1) = some (u 0 + u 1) from if_pos h]
      exact did_more ho hH (add_good F V stk s1 vb u w0 hRun ho1 hv1 hvM hl h) hV
    · rw [show arithN 6 (u 0) (u 1) = none from if_neg h]
      exact did_err (by decide) ho hH (add_bad F V stk s1 vb u w0 hRun ho1 hv1 hvM hl h)
  · rw [show doN F.cl F.code F.rep 7 (cAt F.code (V.p + 1)) V.p V.left stk u asks = (match arithN 7 (u 0) (u 1) with | none => .err 104 asks | some r => .more (stk ++ [r]) V.left (V.p + sizeN F.code V.p) asks) from rfl]
    by_cases h : u 1 ≤ u 0
    · rw [show arithN 7 (u 0) (u 1) = some (u 0 - u 1) from by (have h' : ¬ u 0 < u 1 := by omega); simp [arithN, h']]
      exact did_more ho hH (sub_good F V stk s1 vb u w0 hRun ho1 hv1 hvM hl h) hV
    · rw [show arithN 7 (u 0) (u 1) = none from by (have h' : u 0 < u 1 := by omega); simp [arithN, h']]
      exact did_err (by decide) ho hH (sub_bad F V stk s1 vb u w0 hRun ho1 hv1 hvM hl h)
  · rw [show doN F.cl F.code F.rep 8 (cAt F.code (V.p + 1)) V.p V.left stk u asks = (match arithN 8 (u 0) (u 1) with | none => .err 104 asks | some r => .more (stk ++ [r]) V.left (V.p + sizeN F.code V.p) asks) from rfl]
    by_cases h : u 0 * u 1 < 115792089237316195423570985008687907853269984665640564039457584007913129639936
    · rw [show arithN 8 (u 0) (u 1) = some (u 0 * u 1) from if_pos h]
      exact did_more ho hH (mul_good F V stk s1 vb u w0 hRun ho1 hv1 hvM hl h) hV
    · rw [show arithN 8 (u 0) (u 1) = none from if_neg h]
      exact did_err (by decide) ho hH (mul_bad F V stk s1 vb u w0 hRun ho1 hv1 hvM hl h)
  · rw [show doN F.cl F.code F.rep 9 (cAt F.code (V.p + 1)) V.p V.left stk u asks = (match arithN 9 (u 0) (u 1) with | none => .err 104 asks | some r => .more (stk ++ [r]) V.left (V.p + sizeN F.code V.p) asks) from rfl]
    by_cases h : u 1 = 0
    · rw [show arithN 9 (u 0) (u 1) = none from if_pos h]
      exact did_err (by decide) ho hH (div_bad F V stk s1 vb u w0 hRun ho1 hv1 hvM hl h)
    · rw [show arithN 9 (u 0) (u 1) = some (u 0 / u 1) from if_neg h]
      exact did_more ho hH (div_good F V stk s1 vb u w0 hRun ho1 hv1 hvM hl h) hV
  · rw [show doN F.cl F.code F.rep 10 (cAt F.code (V.p + 1)) V.p V.left stk u asks = (match arithN 10 (u 0) (u 1) with | none => .err 104 asks | some r => .more (stk ++ [r]) V.left (V.p + sizeN F.code V.p) asks) from rfl]
    by_cases h : u 1 = 0
    · rw [show arithN 10 (u 0) (u 1) = none from if_pos h]
      exact did_err (by decide) ho hH (mod_bad F V stk s1 vb u w0 hRun ho1 hv1 hvM hl h)
    · rw [show arithN 10 (u 0) (u 1) = some (u 0 % u 1) from if_neg h]
      exact did_more ho hH (mod_good F V stk s1 vb u w0 hRun ho1 hv1 hvM hl h) hV
  · exact did_more ho hH (less_op F V stk s1 vb u w0 hRun ho1 hv1 hvM hl) hV
  · exact did_more ho hH (same_op F V stk s1 vb u w0 hRun ho1 hv1 hvM hl) hV
  · exact did_more ho hH (not_op F V stk s1 vb u w0 hRun ho1 hv1 hvM hl) hV
  · exact did_more ho hH (jump_op F V stk s1 (.slice (some ⟨vb, 0, none⟩) 0 3) w0 hRun ho1 hK hC hl (op3 (by omega))) rfl
  · rw [show doN F.cl F.code F.rep 15 (cAt F.code (V.p + 1)) V.p V.left stk u asks = .more stk V.left (if u 0 ≠ 0 then targetN F.code V.p else V.p + sizeN F.code V.p) asks from rfl]
    by_cases h : u 0 = 0
    · rw [if_neg (by simp [h])]
      exact did_more ho hH (when_stay F V stk s1 vb u w0 hRun ho1 hv1 hvM hl hK hC (op3 (by omega)) h) hV
    · rw [if_pos h]
      exact did_more ho hH (when_go F V stk s1 vb u w0 hRun ho1 hv1 hvM hl hK hC (op3 (by omega)) h) rfl
  · exact did_more ho hH (arg_op F V stk s1 (.slice (some ⟨vb, 0, none⟩) 0 3) w0 hRun ho1 hK hA hl hC (op2 (by omega))) hV
  · exact did_more ho hH (args_op F V stk s1 (.slice (some ⟨vb, 0, none⟩) 0 3) w0 hRun ho1 hK hA hl) hV
  · exact did_more ho hH (caller_op F V stk s1 (.slice (some ⟨vb, 0, none⟩) 0 3) w0 hRun ho1 hK hA hl) hV
  · exact did_more ho hH (self_op F V stk s1 (.slice (some ⟨vb, 0, none⟩) 0 3) w0 hRun ho1 hK hA hl) hV
  · exact did_more ho hH (token_op F V stk s1 (.slice (some ⟨vb, 0, none⟩) 0 3) w0 hRun ho1 hK hA hl) hV
  · exact did_more ho hH (amount_op F V stk s1 (.slice (some ⟨vb, 0, none⟩) 0 3) w0 hRun ho1 hK hA hl) hV
  · exact did_more ho hH (time_op F V stk s1 (.slice (some ⟨vb, 0, none⟩) 0 3) w0 hRun ho1 hK hA hl) hV
  · exact did_more ho hH (gas_op F V stk s1 (.slice (some ⟨vb, 0, none⟩) 0 3) w0 hRun ho1 hK hA hl (by omega)) hV
  · rw [show doN F.cl F.code F.rep 24 (cAt F.code (V.p + 1)) V.p V.left stk u asks = (if (F.rep asks.length).2 ≠ 0 then .err (F.rep asks.length).2 (asks ++ [⟨1, u 0, 0, 0, 0⟩]) else .more (stk ++ [(F.rep asks.length).1]) V.left (V.p + sizeN F.code V.p) (asks ++ [⟨1, u 0, 0, 0, 0⟩])) from rfl]
    by_cases h : (F.rep asks.length).2 = 0
    · rw [if_neg (by simp [h])]
      exact did_H hn (load_ok F V stk asks s1 s2 vb u w0 hNX hRun hH ho hv hvM hD.reps hD.inner hl hla h)
    · rw [if_pos h]
      exact did_E h (load_err F V stk asks s1 s2 vb u w0 hNX hRun hH ho hv hvM hD.reps hD.inner hl hla h)
  · rw [show doN F.cl F.code F.rep 25 (cAt F.code (V.p + 1)) V.p V.left stk u asks = (if (F.rep asks.length).2 ≠ 0 then .err (F.rep asks.length).2 (asks ++ [⟨2, u 0, u 1, 0, 0⟩]) else .more stk V.left (V.p + sizeN F.code V.p) (asks ++ [⟨2, u 0, u 1, 0, 0⟩])) from rfl]
    by_cases h : (F.rep asks.length).2 = 0
    · rw [if_neg (by simp [h])]
      exact did_H hn (save_ok F V stk asks s1 s2 vb u w0 hNX hRun hH ho hv hvM hD.reps hD.inner hl hla h)
    · rw [if_pos h]
      exact did_E h (save_err F V stk asks s1 s2 vb u w0 hNX hRun hH ho hv hvM hD.reps hD.inner hl hla h)
  · by_cases ht : u 0 < 64
    · rw [show doN F.cl F.code F.rep 26 (cAt F.code (V.p + 1)) V.p V.left stk u asks = (if (F.rep asks.length).2 ≠ 0 then .err (F.rep asks.length).2 (asks ++ [⟨3, 0, 0, u 0, u 1⟩]) else .more (stk ++ [(F.rep asks.length).1]) V.left (V.p + sizeN F.code V.p) (asks ++ [⟨3, 0, 0, u 0, u 1⟩])) from by
        have h64 : ¬ 64 ≤ u 0 := by omega
        simp [doN, askN, h64]]
      by_cases h : (F.rep asks.length).2 = 0
      · rw [if_neg (by simp [h])]
        exact did_H hn (have_ok F V stk asks s1 s2 vb u w0 hNX hRun hH ho hv hvM hD.reps hD.inner hl hla ht h)
      · rw [if_pos h]
        exact did_E h (have_err F V stk asks s1 s2 vb u w0 hNX hRun hH ho hv hvM hD.reps hD.inner hl hla ht h)
    · rw [show doN F.cl F.code F.rep 26 (cAt F.code (V.p + 1)) V.p V.left stk u asks = .err 104 asks from by
        have h64 : 64 ≤ u 0 := by omega
        simp [doN, askN, h64]]
      exact (have_tok F V stk asks s1 s2 vb u w0 hNX hRun hH ho hv hvM hD.reps hD.inner hl hla ht).mono fun v s ⟨h1, h2⟩ => ⟨h1, by decide, s1, s2, h2, hH⟩
  · by_cases ht : u 0 < 64
    · rw [show doN F.cl F.code F.rep 27 (cAt F.code (V.p + 1)) V.p V.left stk u asks = (if (F.rep asks.length).2 ≠ 0 then .err (F.rep asks.length).2 (asks ++ [⟨4, u 2, 0, u 0, u 1⟩]) else .more stk V.left (V.p + sizeN F.code V.p) (asks ++ [⟨4, u 2, 0, u 0, u 1⟩])) from by
        have h64 : ¬ 64 ≤ u 0 := by omega
        simp [doN, askN, h64]]
      by_cases h : (F.rep asks.length).2 = 0
      · rw [if_neg (by simp [h])]
        exact did_H hn (send_ok F V stk asks s1 s2 vb u w0 hNX hRun hH ho hv hvM hD.reps hD.inner hl hla ht h)
      · rw [if_pos h]
        exact did_E h (send_err F V stk asks s1 s2 vb u w0 hNX hRun hH ho hv hvM hD.reps hD.inner hl hla ht h)
    · rw [show doN F.cl F.code F.rep 27 (cAt F.code (V.p + 1)) V.p V.left stk u asks = .err 104 asks from by
        have h64 : 64 ≤ u 0 := by omega
        simp [doN, askN, h64]]
      exact (send_tok F V stk asks s1 s2 vb u w0 hNX hRun hH ho hv hvM hD.reps hD.inner hl hla ht).mono fun v s ⟨h1, h2⟩ => ⟨h1, by decide, s1, s2, h2, hH⟩
end Go.Proofs.Ytlapmbkfmbkdoaa
end
